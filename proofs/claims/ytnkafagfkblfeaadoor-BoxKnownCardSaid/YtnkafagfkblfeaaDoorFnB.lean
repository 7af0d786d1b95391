import Derived.Test.YtnkafagfkblfeaaDoorLev
import Derived.Test.YtnkafagfkblfeaaDoorFn
set_option linter.unusedVariables false
set_option linter.unusedSimpArgs false
set_option linter.unusedSectionVars false

namespace Go.Proofs.YtnkafagfkblfeaaDoor
open Go Sz
set_option linter.unusedSimpArgs false

/-! What is split and joined. No program here. -/

/-- Cut at each of a byte. -/
def cutB (c : UInt8) : List UInt8 → List (List UInt8)
  | [] => [[]]
  | b :: l => if b = c then [] :: cutB c l else match cutB c l with
    | p :: r => (b :: p) :: r
    | [] => []

theorem index_one_eq (c : UInt8) (l : List UInt8) : Lib.index (c :: l) [c] = 0 := by
  rw [Lib.index]; simp [List.isPrefixOf]
theorem index_one_ne {b c : UInt8} (l : List UInt8) (h : b ≠ c) : Lib.index (b :: l) [c] = if Lib.index l [c] == -1 then -1 else Lib.index l [c] + 1 := by
  have hp : ([c] : List UInt8).isPrefixOf (b :: l) = false := by simp [List.isPrefixOf, Ne.symm h]
  rw [Lib.index, hp]
  simp
theorem split_cut (c : UInt8) : ∀ s : List UInt8, Lib.split s [c] = cutB c s
  | [] => by
    unfold Lib.split
    rw [Lib.count_one]
    rfl
  | b :: l => by
    have ih := split_cut c l
    unfold Lib.split at ih ⊢
    rw [Lib.count_one] at ih ⊢
    unfold cutB
    by_cases h : b = c
    · subst h
      rw [if_pos rfl, ← ih, List.count_cons_self]
      show (if Lib.index (b :: l) [b] == -1 then _ else _) = _
      rw [index_one_eq]
      simp
    · rw [if_neg h, List.count_cons_of_ne (by simpa using h), ← ih]
      cases hk : List.count c l with
      | zero => rfl
      | succ k =>
        have hi : Lib.index l [c] ≠ -1 := fun e => by
          have := Lib.count_miss (s := l) (sub := [c]) e
          rw [Lib.count_one] at this
          omega
        have hge := Lib.index_ge l [c]
        have h2 := index_one_ne l h
        rw [if_neg (by simpa using hi)] at h2
        obtain ⟨j, hj⟩ : ∃ j : Nat, Lib.index l [c] = j := ⟨(Lib.index l [c]).toNat, by omega⟩
        have h3 : Lib.index (b :: l) [c] = ((j + 1 : Nat) : Int) := by rw [h2, hj]; omega
        have e1 : ((Lib.index (b :: l) [c] == -1) = false) := by rw [h3]; simp; omega
        have e2 : ((Lib.index l [c] == -1) = false) := by simpa using hi
        have q1 : Lib.splitK [c] 0 (k + 1) (b :: l) = (b :: l).take (j + 1) :: Lib.splitK [c] 0 k ((b :: l).drop (j + 1 + 1)) := by
          rw [Lib.splitK, e1, h3]
          rfl
        have q2 : Lib.splitK [c] 0 (k + 1) l = l.take j :: Lib.splitK [c] 0 k (l.drop (j + 1)) := by
          rw [Lib.splitK, e2, hj]
          rfl
        rw [q1, q2]
        rfl

theorem cutB_none {c : UInt8} : ∀ {p : List UInt8}, c ∉ p → cutB c p = [p]
  | [], _ => rfl
  | b :: l, h => by
    simp only [List.mem_cons, not_or] at h
    unfold cutB
    rw [if_neg (Ne.symm h.1), cutB_none h.2]
theorem cutB_ne (c : UInt8) : ∀ s, cutB c s ≠ []
  | [] => by simp [cutB]
  | b :: l => by
    have := cutB_ne c l
    unfold cutB
    split
    · simp
    · split
      · simp
      · contradiction
theorem cutB_app {c : UInt8} : ∀ {p : List UInt8} (r : List UInt8), c ∉ p → cutB c (p ++ c :: r) = p :: cutB c r
  | [], r, _ => by simp [cutB]
  | b :: l, r, h => by
    simp only [List.mem_cons, not_or] at h
    rw [List.cons_append]
    conv => lhs; unfold cutB
    rw [if_neg (Ne.symm h.1), cutB_app r h.2]
theorem join_two (c : UInt8) (p q : List UInt8) (r : List (List UInt8)) : Lib.join (p :: q :: r) [c] = p ++ c :: Lib.join (q :: r) [c] := by
  simp [Lib.join, List.intercalate]
theorem cutB_join {c : UInt8} : ∀ {P : List (List UInt8)}, P ≠ [] → (∀ p ∈ P, c ∉ p) → cutB c (Lib.join P [c]) = P
  | [], h, _ => absurd rfl h
  | [p], _, h => by rw [Lib.join_one, cutB_none (h p (by simp))]
  | p :: q :: r, _, h => by
    rw [join_two, cutB_app _ (h p (by simp)), cutB_join (by simp) fun x hx => h x (List.mem_cons_of_mem _ hx)]

theorem trimP (t : List UInt8) (c : UInt8) : Lib.trimPrefix (c :: t) [c] = t := by
  simp [Lib.trimPrefix, Lib.hasPrefix, List.isPrefixOf]
theorem trimS' (t : List UInt8) (c : UInt8) : Lib.trimSuffix (t ++ [c]) [c] = t := by
  have : ([c] : List UInt8).isSuffixOf (t ++ [c]) = true := by
    rw [List.isSuffixOf_iff_suffix]
    exact ⟨t, rfl⟩
  simp [Lib.trimSuffix, Lib.hasSuffix, this]
theorem pieces_of (J : List UInt8) : pieces (123 :: (J ++ [125])) = cutB 44 J := by
  unfold pieces
  rw [trimP, trimS', split_cut]

/-! Segments between marks. -/

def isMark (c : UInt8) : Bool := c == 123 || c == 44 || c == 125
def noMark (p : List UInt8) : Prop := ∀ c ∈ p, isMark c = false

theorem seg_eq : ∀ {x p : List UInt8} {d d' : UInt8} {b b' : List UInt8}, noMark x → noMark p → isMark d = true → isMark d' = true → x ++ d :: b = p ++ d' :: b' → x = p
  | [], [], _, _, _, _, _, _, _, _, _ => rfl
  | [], c :: p, d, d', b, b', _, hp, hd, _, e => by
    simp only [List.nil_append, List.cons_append, List.cons.injEq] at e
    have := hp c (by simp)
    rw [← e.1, hd] at this
    cases this
  | c :: x, [], d, d', b, b', hx, _, _, hd, e => by
    simp only [List.nil_append, List.cons_append, List.cons.injEq] at e
    have := hx c (by simp)
    rw [e.1, hd] at this
    cases this
  | c :: x, c' :: p, d, d', b, b', hx, hp, hd, hd', e => by
    simp only [List.cons_append, List.cons.injEq] at e
    obtain ⟨rfl, e⟩ := e
    rw [seg_eq (fun y hy => hx y (by simp [hy])) (fun y hy => hp y (by simp [hy])) hd hd' e]
theorem seg_in : ∀ {p a : List UInt8} {d : UInt8} {y z : List UInt8}, noMark p → isMark d = true → a ++ d :: y = p ++ z → ∃ a', a = p ++ a' ∧ a' ++ d :: y = z
  | [], a, d, y, z, _, _, e => ⟨a, rfl, e⟩
  | c :: p, [], d, y, z, hp, hd, e => by
    simp only [List.nil_append, List.cons_append, List.cons.injEq] at e
    have := hp c (by simp)
    rw [← e.1, hd] at this
    cases this
  | c :: p, c' :: a, d, y, z, hp, hd, e => by
    simp only [List.cons_append, List.cons.injEq] at e
    obtain ⟨rfl, e⟩ := e
    obtain ⟨a', rfl, h⟩ := seg_in (fun y hy => hp y (by simp [hy])) hd e
    exact ⟨a', rfl, h⟩

theorem seg_mem : ∀ {P : List (List UInt8)} {d0 : UInt8} {a x b : List UInt8} {d1 d2 : UInt8}, (∀ p ∈ P, noMark p) → noMark x → x ≠ [] → isMark d1 = true → isMark d2 = true →
    d0 :: (Lib.join P [44] ++ [125]) = a ++ d1 :: (x ++ d2 :: b) → x ∈ P
  | [], d0, a, x, b, d1, d2, _, _, hne, _, _, e => by
    have := congrArg List.length e
    simp [Lib.join_nil] at this
    cases x with
    | nil => exact absurd rfl hne
    | cons _ _ => simp at this; omega
  | [p], d0, a, x, b, d1, d2, hP, hx, hne, h1, h2, e => by
    rw [Lib.join_one] at e
    cases a with
    | nil =>
      simp only [List.nil_append, List.cons.injEq] at e
      rw [seg_eq hx (hP p (by simp)) h2 (d' := 125) (b' := []) rfl e.2.symm]
      simp
    | cons a0 a' =>
      simp only [List.cons_append, List.cons.injEq] at e
      obtain ⟨a'', rfl, h⟩ := seg_in (hP p (by simp)) h1 e.2.symm
      have := congrArg List.length h
      simp only [List.length_append, List.length_cons, List.length_nil] at this
      omega
  | p :: q :: r, d0, a, x, b, d1, d2, hP, hx, hne, h1, h2, e => by
    rw [join_two] at e
    cases a with
    | nil =>
      simp only [List.nil_append, List.cons.injEq, List.append_assoc, List.cons_append] at e
      rw [seg_eq hx (hP p (by simp)) h2 (d' := 44) rfl e.2.symm]
      simp
    | cons a0 a' =>
      simp only [List.cons_append, List.cons.injEq, List.append_assoc] at e
      obtain ⟨a'', rfl, h⟩ := seg_in (hP p (by simp)) h1 e.2.symm
      exact List.mem_cons_of_mem _ (seg_mem (fun y hy => hP y (List.mem_cons_of_mem _ hy)) hx hne h1 h2 h.symm)

theorem mem_seg : ∀ {P : List (List UInt8)} {d0 : UInt8} {x : List UInt8}, d0 = 123 ∨ d0 = 44 → x ∈ P → ∃ a b d1 d2, (d1 = 123 ∨ d1 = 44) ∧ (d2 = 44 ∨ d2 = 125) ∧ d0 :: (Lib.join P [44] ++ [125]) = a ++ d1 :: (x ++ d2 :: b)
  | [], d0, x, _, h => by simp at h
  | [p], d0, x, hd, h => by
    simp at h
    subst h
    exact ⟨[], [], d0, 125, hd, .inr rfl, by rw [Lib.join_one]; rfl⟩
  | p :: q :: r, d0, x, hd, h => by
    rw [join_two]
    rcases List.mem_cons.1 h with rfl | h
    · exact ⟨[], Lib.join (q :: r) [44] ++ [125], d0, 44, hd, .inl rfl, by simp⟩
    · obtain ⟨a, b, d1, d2, h1, h2, e⟩ := mem_seg (d0 := 44) (.inr rfl) h
      exact ⟨d0 :: (p ++ a), b, d1, d2, h1, h2, by simp [List.append_assoc, ← e]⟩

end Go.Proofs.YtnkafagfkblfeaaDoor

namespace Go.Proofs.YtnkafagfkblfeaaDoor
open Go Sz
set_option linter.unusedSimpArgs false

/-! A label's text, read. No program here. -/

theorem idx_get : ∀ {n : List (List UInt8)} {s : List UInt8} {i : Nat}, n.Nodup → n[i]? = some s → idx s n = some i
  | [], s, i, _, h => by simp at h
  | x :: r, s, 0, _, h => by
    simp at h
    subst h
    simp [idx]
  | x :: r, s, i + 1, hn, h => by
    simp at h
    have hs : s ∈ r := List.mem_of_getElem? h
    have hne : s ≠ x := fun e => (List.nodup_cons.1 hn).1 (e ▸ hs)
    have := idx_get (List.nodup_cons.1 hn).2 h
    simp [idx, hne, this]
theorem idx_at : ∀ {n : List (List UInt8)} {s : List UInt8} {i : Nat}, idx s n = some i → n[i]? = some s
  | [], s, i, h => by simp [idx] at h
  | x :: r, s, i, h => by
    unfold idx at h
    split at h
    · rename_i e
      cases h
      simp only [beq_iff_eq] at e
      simp [e]
    · obtain ⟨j, hj, rfl⟩ := Option.map_eq_some_iff.1 h
      simpa using idx_at hj
theorem idx_none_iff {s : List UInt8} : ∀ {l : List (List UInt8)}, (idx s l).isSome = true ↔ s ∈ l
  | [] => by simp [idx]
  | x :: r => by
    have ih := idx_none_iff (s := s) (l := r)
    unfold idx
    by_cases e : s = x
    · simp [e]
    · have : (s == x) = false := by simpa using e
      rw [this]
      simp [e, ih]

theorem goodP_nodup : ∀ {post pre : List (List UInt8)}, goodP pre post = true → post.Nodup ∧ ∀ s ∈ post, s ∉ pre
  | [], _, _ => by simp
  | t :: r, pre, hg => by
    simp only [goodP, Bool.and_eq_true] at hg
    obtain ⟨⟨_, h1⟩, h2⟩ := hg
    obtain ⟨i1, i2⟩ := goodP_nodup h2
    have h3 : t ∉ pre := fun h => by
      rw [idx_none_iff.2 h] at h1
      cases h1
    refine ⟨List.nodup_cons.2 ⟨fun h => ?_, i1⟩, fun s hs => ?_⟩
    · exact i2 t h (by simp)
    · rcases List.mem_cons.1 hs with rfl | hs
      · exact h3
      · exact fun h => i2 s hs (by simp [h])
theorem goodP_of : ∀ {post pre : List (List UInt8)}, (∀ s ∈ post, nameK s = true) → post.Nodup → (∀ s ∈ post, s ∉ pre) → goodP pre post = true
  | [], _, _, _, _ => rfl
  | t :: r, pre, h1, h2, h3 => by
    obtain ⟨d1, d2⟩ := List.nodup_cons.1 h2
    simp only [goodP, Bool.and_eq_true]
    refine ⟨⟨h1 t (by simp), ?_⟩, goodP_of (fun s hs => h1 s (by simp [hs])) d2 fun s hs => ?_⟩
    · cases hi : (idx t pre).isSome with
      | false => rfl
      | true => exact absurd (idx_none_iff.1 hi) (h3 t (by simp))
    · have := h3 s (by simp [hs])
      simp only [List.mem_append, List.mem_singleton, not_or]
      exact ⟨this, fun e => d1 (e ▸ hs)⟩
theorem goodN_nodup {n : List (List UInt8)} (h : goodN n = true) : n.Nodup := by
  unfold goodN at h
  simp only [Bool.and_eq_true] at h
  exact (goodP_nodup h.2).1
theorem goodN_names {n : List (List UInt8)} (h : goodN n = true) : ∀ s ∈ n, nameK s = true := by
  unfold goodN at h
  simp only [Bool.and_eq_true] at h
  exact goodP_name n [] h.2

theorem pickL_iff (x : BitVec 64) (s : List UInt8) : ∀ (l : List (List UInt8)) (i : Nat), s ∈ pickL x i l ↔ ∃ j, l[j]? = some s ∧ x.getLsbD (i + j) = true
  | [], i => by simp [pickL]
  | t :: r, i => by
    have ih := pickL_iff x s r (i + 1)
    unfold pickL
    have key : (∃ j, (t :: r)[j]? = some s ∧ x.getLsbD (i + j) = true) ↔ (t = s ∧ x.getLsbD i = true) ∨ ∃ j, r[j]? = some s ∧ x.getLsbD (i + 1 + j) = true := by
      constructor
      · rintro ⟨j, h1, h2⟩
        cases j with
        | zero => simp at h1; exact .inl ⟨h1, h2⟩
        | succ j => simp at h1; exact .inr ⟨j, h1, by rw [show i + 1 + j = i + (j + 1) by omega]; exact h2⟩
      · rintro (⟨h1, h2⟩ | ⟨j, h1, h2⟩)
        · exact ⟨0, by simp [h1], h2⟩
        · exact ⟨j + 1, by simpa using h1, by rw [show i + (j + 1) = i + 1 + j by omega]; exact h2⟩
    rw [key]
    split
    · rename_i hx
      rw [List.mem_cons, ih]
      constructor
      · rintro (h | h)
        · exact .inl ⟨h.symm, hx⟩
        · exact .inr h
      · rintro (⟨h, _⟩ | h)
        · exact .inl h.symm
        · exact .inr h
    · rename_i hx
      rw [ih]
      constructor
      · exact .inr
      · rintro (⟨_, h⟩ | h)
        · exact absurd h hx
        · exact h

theorem one_bit (k i : Nat) (hi : i < 64) : (1#64 <<< k).getLsbD i = decide (i = k) := by
  rw [BitVec.getLsbD_shiftLeft, BitVec.getLsbD_one]
  by_cases h : i = k
  · subst h; simp [hi]
  · by_cases h2 : i < k
    · simp [h, h2]
    · have : ¬ (i - k = 0) := by omega
      simp [h, this]

theorem parseL_bit (n : List (List UInt8)) : ∀ (ps : List (List UInt8)) (x : BitVec 64) (i : Nat), i < 64 → (parseL n x ps).getLsbD i = (x.getLsbD i || ps.any fun p => idx p n == some i)
  | [], x, i, _ => by simp [parseL]
  | p :: r, x, i, hi => by
    unfold parseL
    rw [parseL_bit n r _ i hi, List.any_cons]
    cases hp : idx p n with
    | none => simp
    | some k =>
      dsimp only
      rw [BitVec.getLsbD_or, one_bit k i hi]
      have : (some k == some i) = decide (i = k) := by
        rw [Bool.eq_iff_iff, beq_iff_eq, decide_eq_true_eq, Option.some.injEq]
        exact eq_comm
      rw [this, Bool.or_assoc]

theorem top_bit (n : List (List UInt8)) (hg : goodN n = true) (i : Nat) : (topK n).getLsbD i = decide (i < n.length) := by
  obtain ⟨g1, g2⟩ := goodN_len hg
  unfold topK
  rw [if_pos hg, BitVec.getLsbD_ushiftRight, BitVec.getLsbD_allOnes]
  rw [decide_eq_decide]
  omega
theorem fits_bit {n : List (List UInt8)} {x : BitVec 64} (h : fitsK n x = true) (i : Nat) (hx : x.getLsbD i = true) : i < n.length := by
  unfold fitsK at h
  simp only [Bool.and_eq_true] at h
  have := (leqK_iff _ _).1 h.2 i hx
  rw [top_bit n h.1] at this
  simpa using this
theorem fits_of {n : List (List UInt8)} {x : BitVec 64} (hg : goodN n = true) (h : ∀ i, x.getLsbD i = true → i < n.length) : fitsK n x = true := by
  unfold fitsK
  rw [hg, Bool.true_and, leqK_iff]
  intro i hi
  rw [top_bit n hg]
  simpa using h i hi

theorem dw_all {p : UInt8 → Bool} : ∀ {l : List UInt8}, (∀ c ∈ l.dropWhile p, p c = true) → ∀ c ∈ l, p c = true
  | [], _, c, h => by simp at h
  | a :: r, h, c, hc => by
    by_cases ha : p a = true
    · rw [List.dropWhile_cons_of_pos ha] at h
      rcases List.mem_cons.1 hc with rfl | hc
      · exact ha
      · exact dw_all h c hc
    · rw [List.dropWhile_cons_of_neg ha] at h
      exact absurd (h a (by simp)) ha
theorem dw_nil {p : UInt8 → Bool} : ∀ {l : List UInt8}, l.dropWhile p = [] ↔ ∀ c ∈ l, p c = true
  | [] => by simp
  | a :: r => by
    by_cases ha : p a = true
    · rw [List.dropWhile_cons_of_pos ha, dw_nil]
      simp [ha]
    · rw [List.dropWhile_cons_of_neg ha]
      simp [ha]
theorem trimC_nil (s : List UInt8) : trimC s = [] ↔ ∀ c ∈ s, cutset.contains c = true := by
  unfold trimC
  rw [dw_nil]
  constructor
  · intro h c hc
    exact dw_all (p := cutset.contains) (l := s.reverse) (fun c hc => h c (List.mem_reverse.2 hc)) c (List.mem_reverse.2 hc)
  · intro h c hc
    have : s.reverse.dropWhile (cutset.contains ·) = [] := dw_nil.2 fun c hc => h c (by simpa using hc)
    rw [this] at hc
    simp at hc

def smallC (c : UInt8) : Bool := decide (97 ≤ c.toNat) && decide (c.toNat ≤ 122)
def digitC (c : UInt8) : Bool := decide (48 ≤ c.toNat) && decide (c.toNat ≤ 57)
def restC (c : UInt8) : Bool := smallC c || digitC c || decide (c.toNat = 95)
theorem cut_all : ((List.range 256).all fun i => cutset.contains (UInt8.ofNat i) == restC (UInt8.ofNat i)) = true := by kernel_rfl
theorem cut_eq (c : UInt8) : cutset.contains c = restC c := by
  have := List.all_eq_true.1 cut_all c.toNat (List.mem_range.2 c.toNat_lt)
  simpa using this

def refName : List UInt8 → Bool
  | [] => false
  | c :: r => decide (r.length < 16) && smallC c && r.all restC
theorem nameK_eq (s : List UInt8) : nameK s = refName s := by
  cases s with
  | nil => rfl
  | cons c r =>
    unfold nameK refName
    rw [Bool.eq_iff_iff]
    simp only [Bool.and_eq_true, decide_eq_true_eq, beq_iff_eq, trimC_nil, List.all_eq_true]
    constructor
    · rintro ⟨⟨⟨h1, h2⟩, h3⟩, h4⟩
      refine ⟨⟨h1, by simp [smallC, h2, h3]⟩, fun x hx => ?_⟩
      rw [← cut_eq]
      exact h4 x (by simp [hx])
    · rintro ⟨⟨h1, h2⟩, h3⟩
      have h2' := h2
      simp only [smallC, Bool.and_eq_true, decide_eq_true_eq] at h2
      refine ⟨⟨⟨h1, h2.1⟩, h2.2⟩, fun x hx => ?_⟩
      rw [cut_eq]
      rcases List.mem_cons.1 hx with rfl | hx
      · simp [restC, h2']
      · exact h3 x hx
theorem cut_mark : (cutset.all fun c => !isMark c) = true := by kernel_rfl
theorem name_noMark {s : List UInt8} (h : nameK s = true) : noMark s := by
  cases s with
  | nil => intro c hc; simp at hc
  | cons a r =>
    intro c hc
    unfold nameK at h
    simp only [Bool.and_eq_true, beq_iff_eq, trimC_nil] at h
    have h2 := h.2 c hc
    have := List.all_eq_true.1 cut_mark c (by simpa using h2)
    simpa using this
theorem name_ne {s : List UInt8} (h : nameK s = true) : s ≠ [] := fun e => by subst e; cases h

/-- A label's text, with its brackets. -/
def braces (n : List (List UInt8)) (x : BitVec 64) : List UInt8 := 123 :: (Lib.join (pickL x 0 n) [44] ++ [125])

theorem parseX_braces {n : List (List UInt8)} {x : BitVec 64} (hf : fitsK n x = true) : parseX n (braces n x) = x := by
  have hg : goodN n = true := by
    unfold fitsK at hf
    simp only [Bool.and_eq_true] at hf
    exact hf.1
  have hlen := (goodN_len hg).2
  unfold parseX braces
  rw [pieces_of]
  apply BitVec.eq_of_getLsbD_eq
  intro i hi
  rw [parseL_bit n _ _ i hi]
  simp only [BitVec.getLsbD_zero, Bool.false_or]
  have hP : ∀ p ∈ pickL x 0 n, (44 : UInt8) ∉ p := fun p hp h44 => by
    have := name_noMark (goodN_names hg p (pickL_mem x n 0 p hp)) 44 h44
    cases this
  rw [Bool.eq_iff_iff, List.any_eq_true]
  by_cases hne : pickL x 0 n = []
  · rw [hne, Lib.join_nil]
    constructor
    · rintro ⟨p, hp, h⟩
      simp [cutB] at hp
      subst hp
      simp only [beq_iff_eq] at h
      have := idx_at h
      exact absurd rfl (name_ne (goodN_names hg _ (List.mem_of_getElem? this)))
    · intro h
      have hin := fits_bit hf i h
      have : n[i] ∈ pickL x 0 n := (pickL_iff x _ n 0).2 ⟨i, by simp [hin], by simpa using h⟩
      rw [hne] at this
      simp at this
  · rw [cutB_join hne hP]
    constructor
    · rintro ⟨p, hp, h⟩
      simp only [beq_iff_eq] at h
      obtain ⟨j, h1, h2⟩ := (pickL_iff x p n 0).1 hp
      have := idx_get (goodN_nodup hg) h1
      rw [h] at this
      cases this
      simpa using h2
    · intro h
      have hin := fits_bit hf i h
      refine ⟨n[i], (pickL_iff x _ n 0).2 ⟨i, by simp [hin], by simpa using h⟩, ?_⟩
      rw [idx_get (goodN_nodup hg) (i := i) (by simp [hin])]
      simp

/-! As the reference reads it. -/

/-- Is x between two marks somewhere? -/
def segAt (x s : List UInt8) (k : Nat) : Bool :=
  decide (1 ≤ k) && decide (k + x.length < s.length) && ((s.drop k).take x.length == x) && (s.getD (k - 1) 0 == 123 || s.getD (k - 1) 0 == 44) && (s.getD (k + x.length) 0 == 44 || s.getD (k + x.length) 0 == 125)
def segIn (x s : List UInt8) : Bool := (List.range s.length).any (segAt x s)
theorem segIn_iff (x s : List UInt8) : segIn x s = true ↔ ∃ a b d1 d2, (d1 = 123 ∨ d1 = 44) ∧ (d2 = 44 ∨ d2 = 125) ∧ s = a ++ d1 :: (x ++ d2 :: b) := by
  unfold segIn
  rw [List.any_eq_true]
  constructor
  · rintro ⟨k, hk, h⟩
    unfold segAt at h
    simp only [Bool.and_eq_true, decide_eq_true_eq, beq_iff_eq, Bool.or_eq_true] at h
    obtain ⟨⟨⟨⟨h1, h2⟩, h3⟩, h4⟩, h5⟩ := h
    have g1 : k - 1 < s.length := by omega
    have e1 : s = s.take (k - 1) ++ s.drop (k - 1) := (List.take_append_drop _ _).symm
    have e2 : s.drop (k - 1) = s.getD (k - 1) 0 :: s.drop k := by
      rw [List.drop_eq_getElem_cons g1, show k - 1 + 1 = k by omega]
      simp [g1]
    have e3 : s.drop k = (s.drop k).take x.length ++ (s.drop k).drop x.length := (List.take_append_drop _ _).symm
    have e4 : (s.drop k).drop x.length = s.getD (k + x.length) 0 :: s.drop (k + x.length + 1) := by
      rw [List.drop_drop, List.drop_eq_getElem_cons h2]
      simp [h2]
    refine ⟨s.take (k - 1), s.drop (k + x.length + 1), s.getD (k - 1) 0, s.getD (k + x.length) 0, h4, h5, ?_⟩
    rw [← e4]
    conv => lhs; rw [e1, e2, e3, h3]
  · rintro ⟨a, b, d1, d2, h1, h2, rfl⟩
    refine ⟨a.length + 1, List.mem_range.2 (by simp; omega), ?_⟩
    unfold segAt
    simp only [Bool.and_eq_true, decide_eq_true_eq, beq_iff_eq, Bool.or_eq_true]
    refine ⟨⟨⟨⟨by omega, by simp; omega⟩, ?_⟩, ?_⟩, ?_⟩
    · rw [show (a ++ d1 :: (x ++ d2 :: b)).drop (a.length + 1) = x ++ d2 :: b by
          rw [← List.drop_drop, List.drop_left]
          rfl]
      simp
    · simpa using h1
    · have : (a ++ d1 :: (x ++ d2 :: b)).getD (a.length + 1 + x.length) 0 = d2 := by
        rw [List.getD_eq_getElem?_getD, List.getElem?_append_right (by omega), show a.length + 1 + x.length - a.length = x.length + 1 by omega, List.getElem?_cons_succ, List.getElem?_append_right (by omega)]
        simp
      rw [this]
      exact h2

def refX (n : List (List UInt8)) (s : List UInt8) : Nat → List (List UInt8) → BitVec 64 → BitVec 64
  | _, [], x => x
  | i, p :: r, x => refX n s (i + 1) r (if segIn p s then x ||| (1#64 <<< i) else x)
theorem refX_bit (n : List (List UInt8)) (s : List UInt8) : ∀ (r : List (List UInt8)) (k : Nat) (x : BitVec 64) (i : Nat), i < 64 → (refX n s k r x).getLsbD i = (x.getLsbD i || (decide (k ≤ i) && (match r[i - k]? with | some p => segIn p s | none => false)))
  | [], k, x, i, _ => by simp [refX]
  | p :: r, k, x, i, hi => by
    unfold refX
    rw [refX_bit n s r (k + 1) _ i hi]
    by_cases h1 : i = k
    · subst h1
      have : ¬ (i + 1 ≤ i) := by omega
      simp only [Nat.le_refl, decide_true, Bool.true_and, Nat.sub_self, List.getElem?_cons_zero, this, decide_false, Bool.false_and, Bool.or_false]
      split
      · rename_i hs
        rw [BitVec.getLsbD_or, one_bit i i hi, hs]
        simp
      · rename_i hs
        simp only [Bool.not_eq_true] at hs
        rw [hs]
        simp
    · have e : (if segIn p s then x ||| (1#64 <<< k) else x).getLsbD i = x.getLsbD i := by
        split
        · rw [BitVec.getLsbD_or, one_bit k i hi]
          simp [h1]
        · rfl
      rw [e]
      by_cases h2 : k ≤ i
      · have h3 : k + 1 ≤ i := by omega
        have e2 : i - k = (i - (k + 1)) + 1 := by omega
        simp only [h2, h3, decide_true, Bool.true_and]
        rw [e2, List.getElem?_cons_succ]
      · have h3 : ¬ (k + 1 ≤ i) := by omega
        simp [h2, h3]

theorem refX_braces {n : List (List UInt8)} {x : BitVec 64} (hf : fitsK n x = true) : refX n (braces n x) 0 n 0#64 = x := by
  have hg : goodN n = true := by
    unfold fitsK at hf
    simp only [Bool.and_eq_true] at hf
    exact hf.1
  apply BitVec.eq_of_getLsbD_eq
  intro i hi
  rw [refX_bit n _ n 0 0#64 i hi]
  simp only [BitVec.getLsbD_zero, Bool.false_or, Nat.zero_le, decide_true, Bool.true_and, Nat.sub_zero]
  have hP : ∀ p ∈ pickL x 0 n, noMark p := fun p hp => name_noMark (goodN_names hg p (pickL_mem x n 0 p hp))
  cases hn : n[i]? with
  | none =>
    cases hx : x.getLsbD i with
    | false => rfl
    | true =>
      have := fits_bit hf i hx
      rw [List.getElem?_eq_none_iff] at hn
      omega
  | some p =>
    have hk := goodN_names hg p (List.mem_of_getElem? hn)
    dsimp only
    rw [Bool.eq_iff_iff, segIn_iff]
    have hin : p ∈ pickL x 0 n ↔ x.getLsbD i = true := by
      rw [pickL_iff]
      constructor
      · rintro ⟨j, h1, h2⟩
        have e1 := idx_get (goodN_nodup hg) h1
        have e2 := idx_get (goodN_nodup hg) hn
        rw [e1] at e2
        cases e2
        simpa using h2
      · intro h
        exact ⟨i, hn, by simpa using h⟩
    rw [← hin]
    constructor
    · rintro ⟨a, b, d1, d2, h1, h2, e⟩
      refine seg_mem hP (name_noMark hk) (name_ne hk) (d1 := d1) (d2 := d2) ?_ ?_ e
      · rcases h1 with rfl | rfl <;> rfl
      · rcases h2 with rfl | rfl <;> rfl
    · intro h
      exact mem_seg (.inl rfl) h

theorem textK_eq (n : List (List UInt8)) (x : BitVec 64) : textK n x = if fitsK n x then braces n x else [] := by
  unfold textK braces
  split <;> simp

/-- What the reference reads. -/
def refParse (n : List (List UInt8)) (s : List UInt8) : BitVec 64 × Bool :=
  if goodN n && (textK n (refX n s 0 n 0#64) == s) && decide (s ≠ []) then (refX n s 0 n 0#64, true) else (0#64, false)
theorem parse_ne {n : List (List UInt8)} (hg : goodN n = true) : textK n (parseX n []) ≠ [] := by
  have : parseX n [] = 0#64 := by
    apply BitVec.eq_of_getLsbD_eq
    intro i hi
    unfold parseX
    rw [parseL_bit n _ _ i hi]
    have hp : pieces [] = [[]] := rfl
    rw [hp]
    simp only [BitVec.getLsbD_zero, Bool.false_or, List.any_cons, List.any_nil, Bool.or_false]
    cases h : idx [] n with
    | none => rfl
    | some k =>
      have := idx_at h
      exact absurd rfl (name_ne (goodN_names hg _ (List.mem_of_getElem? this)))
  rw [this, textK_eq, if_pos (fits_of hg fun i hi => by simp at hi)]
  simp [braces]
theorem parse_same (n : List (List UInt8)) (s : List UInt8) : parseK n s = refParse n s := by
  unfold parseK refParse
  cases hg : goodN n with
  | false => rfl
  | true =>
    simp only [Bool.true_and]
    by_cases h1 : textK n (parseX n s) = s
    · have hne : s ≠ [] := fun e => by
        subst e
        exact parse_ne hg h1
      have hf : fitsK n (parseX n s) = true := by
        cases hf : fitsK n (parseX n s) with
        | true => rfl
        | false =>
          rw [textK_eq, hf] at h1
          exact absurd h1.symm hne
      have hs : s = braces n (parseX n s) := by
        rw [textK_eq, if_pos hf] at h1
        exact h1.symm
      have hx : refX n s 0 n 0#64 = parseX n s := by
        have := refX_braces hf
        rw [← hs] at this
        exact this
      rw [hx]
      simp [h1, hne]
    · have h2 : ¬ (textK n (refX n s 0 n 0#64) = s ∧ s ≠ []) := fun ⟨h2, hne⟩ => by
        have hf : fitsK n (refX n s 0 n 0#64) = true := by
          cases hf : fitsK n (refX n s 0 n 0#64) with
          | true => rfl
          | false =>
            rw [textK_eq, hf] at h2
            exact absurd h2.symm hne
        have hs : s = braces n (refX n s 0 n 0#64) := by
          rw [textK_eq, if_pos hf] at h2
          exact h2.symm
        have hx : parseX n s = refX n s 0 n 0#64 := by
          have := parseX_braces hf
          rw [← hs] at this
          exact this
        rw [hx] at h1
        exact h1 h2
      have e1 : (textK n (parseX n s) == s) = false := by simpa using h1
      have e2 : (textK n (refX n s 0 n 0#64) == s && decide (s ≠ [])) = false := by
        rw [Bool.eq_false_iff]
        intro h
        simp only [Bool.and_eq_true, beq_iff_eq, decide_eq_true_eq] at h
        exact h2 h
      rw [e1, e2]
      rfl

end Go.Proofs.YtnkafagfkblfeaaDoor

namespace Go.Proofs.YtnkafagfkblfeaaDoor
open Go Sz
set_option linter.unusedSimpArgs false
attribute [local simp] evCode_skip evCode_reg evCode_dreg evCode_seq evCode_cond evCode_block evCode_exit evCode_ret evSteps_nil evSteps_op evSteps_opg evSteps_call evSteps_callg evSteps_callv evSteps_callvg evTr_nil evTr_cons evStep_op evStep_opg evStep_call evStep_callg evStep_callv evStep_callvg ldId chkTr
  evOp_mov evOp_pick evOp_box evOp_bld evOp_bsl evOp_ld evOp_st evOp_nck evOp_bin evOp_beq evOp_ceq evOp_peq evOp_not evOp_neg evOp_xor evOp_cvi evOp_cvss evOp_cvis evOp_cvsb evOp_mki evOp_mkf evOp_mkm evOp_mks evOp_sls evOp_slv evOp_fad evOp_fld1 evOp_fldn evOp_iad evOp_ixs evOp_ext evOp_lens evOp_lenv evOp_mx evOp_mn evOp_app evOp_bs0 evOp_snil evOp_clr
  FM_ev ev_const FM_put put_none FM_unwanted lk_hit lk_miss lk_nil FM_clear FM_clearB trues pick gc_FM gc_FM0 incK snds renM allM evB_fm enumA cells_agg cells_bool cells_int cells_str cells_nilp cells_ptr cells_ip cells_nils cells_sl cells_vec cells_nilm cells_map cells_nilfn cells_fn cells_nili cells_iface ldA row_mk get_mk set_mk mark_mk alloc_mk' trunc_mk binA resAll_nil resAll_cons FM_resT FM_resC oneOf finish_mk frz_undef frz_bool frz_int frz_str frz_nilp frz_ptr frz_ip frz_nils frz_sl frz_nilm frz_map frz_nilfn frz_fn frz_nili frz_iface frz_old frz_agg frz_tuple frzL_nil frzL_cons kill_nil kill_cons chunk_zero chunk_succ AV.refs AV.refsL evCall_spec lookF_nil lookF_cons callS_nil callS_one clones cloneS_f cloneS_nils cloneS_sl0 fillA putAt_nil putAt_cons evCode_loop bgn_mk aft_mk keeps objsAt ren renId AV.top lowObj h0 succ_le_f elemsA_nils elemsA_vec elemsA_str evOp_die evOp_lkp evOp_cvbs lookA scal_bool scal_int scal_str scal_nils scal_sl scal_tuple scal_agg scal1_bool scal1_int scal1_str scal1_nils scal1_sl scal1_agg

/-! The reference's functions. -/

def smallS : KSpec := ⟨58, fun | [.int .u8 n] => some (.bool (decide (97 ≤ n) && decide (n ≤ 122))) | _ => none⟩
theorem smallS_f : smallS.f = 58 := (rfl)
theorem smallS_at (c : UInt8) : smallS.S [.int .u8 (c.toNat : Int)] = some (.bool (smallC c)) := by
  unfold smallS smallC
  dsimp only
  rw [show decide ((97 : Int) ≤ (c.toNat : Int)) = decide (97 ≤ c.toNat) by rw [decide_eq_decide]; omega, show decide ((c.toNat : Int) ≤ 122) = decide (c.toNat ≤ 122) by rw [decide_eq_decide]; omega]
theorem smallS_ok : KSpecOK Tryd.prog smallS := fun args v hv => by
  unfold smallS at hv ⊢
  dsimp only at hv ⊢
  split at hv
  · rename_i n
    cases hv
    refine prim_of (n := 3) (h' := h0) (envOf_ok (ss := []) (by simp)) ?_ rfl rfl
    by_cases h1 : 97 ≤ n
    · simp [run58, c58, h1]
    · simp [run58, c58, h1]
  · cases hv

def digitS : KSpec := ⟨59, fun | [.int .u8 n] => some (.bool (decide (48 ≤ n) && decide (n ≤ 57))) | _ => none⟩
theorem digitS_f : digitS.f = 59 := (rfl)
theorem digitS_at (c : UInt8) : digitS.S [.int .u8 (c.toNat : Int)] = some (.bool (digitC c)) := by
  unfold digitS digitC
  dsimp only
  rw [show decide ((48 : Int) ≤ (c.toNat : Int)) = decide (48 ≤ c.toNat) by rw [decide_eq_decide]; omega, show decide ((c.toNat : Int) ≤ 57) = decide (c.toNat ≤ 57) by rw [decide_eq_decide]; omega]
theorem digitS_ok : KSpecOK Tryd.prog digitS := fun args v hv => by
  unfold digitS at hv ⊢
  dsimp only at hv ⊢
  split at hv
  · rename_i n
    cases hv
    refine prim_of (n := 3) (h' := h0) (envOf_ok (ss := []) (by simp)) ?_ rfl rfl
    by_cases h1 : 48 ≤ n
    · simp [run59, c59, h1]
    · simp [run59, c59, h1]
  · cases hv

theorem half_lab (x : BitVec 64) : IntKind.u64.wrap ((labN x).tdiv 2) = labN (x >>> 1) := by
  have h := x.isLt
  rw [IntKind.wrap_u64]
  unfold labN
  rw [BitVec.toNat_ushiftRight, Nat.shiftRight_eq_div_pow, Int.tdiv_eq_ediv_of_nonneg (by omega)]
  omega
theorem odd_lab (x : BitVec 64) : decide ((labN x).tmod 2 = 1) = x.getLsbD 0 := by
  unfold labN
  rw [BitVec.getLsbD, Nat.testBit_zero]
  rw [decide_eq_decide, Int.tmod_eq_emod_of_nonneg (by omega)]
  omega

theorem c62_loop (C : Nat → List AV → Heap → Option (AV × Heap)) (n : Nat) : ∀ (i m : Nat) (x : BitVec 64), i < m → i ≤ 100 →
    aft 0 0 (loopH (evCode C n c62_b0) c62_m0 0 m (c62_f0 (labA x) (.int .i64 i)) ⟨0, [], 0, 0⟩) = some (.exit 0, FM 14 [(0, labA (x >>> i))], ⟨0, [], 0, 0⟩)
  | 0, m + 1, x, _, _ => by
    simp [loopH_succ, c62_b0]
  | i + 1, m + 1, x, h, hi => by
    have ih := c62_loop C n i m (x >>> 1) (by omega) (by omega)
    have h1 : IntKind.i64.wrap (i : Int) = (i : Int) := by rw [wrap_i64 (by omega) (by omega)]
    have h2 : (0 : Int) < (i : Int) + 1 := by omega
    have h3 := half_lab x
    rw [show x >>> 1 >>> i = x >>> (i + 1) by rw [Nat.add_comm, BitVec.shiftRight_add]] at ih
    rw [loopH_succ]
    simp [c62_b0, c62_m0, h1, h2, h3]
    exact ih

def hasS : KSpec := ⟨62, fun | [y, .int .i64 n] => (match decLab y with | some x => if 0 ≤ n ∧ n ≤ 100 then some (.bool (x.getLsbD n.toNat)) else none | none => none) | _ => none⟩
theorem hasS_f : hasS.f = 62 := (rfl)
theorem hasS_at (x : BitVec 64) (i : Nat) (h : i ≤ 100) : hasS.S [.int .u64 (labN x), .int .i64 (i : Int)] = some (.bool (x.getLsbD i)) := by
  unfold hasS
  dsimp only
  rw [decLab_at]
  exact if_pos (by omega)
theorem hasS_ok : KSpecOK Tryd.prog hasS := fun args v hv => by
  unfold hasS at hv ⊢
  dsimp only at hv ⊢
  split at hv
  · rename_i y n
    split at hv
    · rename_i x hx
      split at hv
      · rename_i hn
        cases hv
        rw [decLab_inv hx]
        obtain ⟨i, rfl⟩ : ∃ i : Nat, n = (i : Int) := ⟨n.toNat, by omega⟩
        refine prim_of (n := 103) (h' := h0) (envOf_ok (ss := []) (by simp)) ?_ rfl rfl
        have h := c62_loop (evCall (envOf []) 102) 102 i 102 x (by omega) (by omega)
        have h2 := odd_lab (x >>> i)
        rw [BitVec.getLsbD_ushiftRight, Nat.add_zero] at h2
        simp only [c62_m0] at h
        simp [run62, c62, c62_m0, h, h2]
      · cases hv
    · cases hv
  · cases hv

/-! Names. -/

def allR : List UInt8 → Bool
  | [] => true
  | c :: r => restC c && allR r
theorem allR_eq : ∀ s : List UInt8, allR s = s.all restC
  | [] => rfl
  | c :: r => by rw [allR, List.all_cons, allR_eq r]
theorem u8_ne95 (c : UInt8) : decide ((c.toNat : Int) = 95) = decide (c.toNat = 95) := by rw [decide_eq_decide]; omega

theorem c31_loop0 (n : Nat) (l : List (List UInt8)) (s : List UInt8) (k : Nat) (hk : l[k]? = some s) (hs : s.length ≤ 100) : ∀ post pre m, s = pre ++ post → post.length < m →
    aft 0 0 (loopH (evCode (evCall (envOf [smallS, digitS]) (n + 1)) (n + 1) c31_b0) c31_m0 0 m (c31_f0 (.sl (l.map .str)) (.int .i64 k) (.int .i64 pre.length)) ⟨0, [], 0, 0⟩) =
      if allR post then some (.exit 2, FM 85 [(0, .sl (l.map .str)), (3, .int .i64 k)], ⟨0, [], 0, 0⟩) else some (.ret, FM 85 [(2, .bool false)], ⟨0, [], 0, 0⟩)
  | [], pre, m + 1, e, _ => by
    simp at e
    subst e
    have h5 : AV.refsL (l.map .str) = 0 := strs_refs l
    simp [loopH_succ, c31_b0, h5, hk, allR]
  | c :: post, pre, m + 1, e, hm => by
    have ih := c31_loop0 n l s k hk hs post (pre ++ [c]) m (by simp [e]) (by rw [List.length_cons] at hm; omega)
    have h1 : s[pre.length]? = some c := by rw [e]; simp
    have h3 : IntKind.i64.wrap ((pre.length : Int) + 1) = (pre.length : Int) + 1 := by
      rw [wrap_succ (by rw [e] at hs; simp at hs; omega)]; simp
    have h5 : AV.refsL (l.map .str) = 0 := strs_refs l
    have h6 : (pre.length : Int) < (s.length : Int) := by rw [e, List.length_append, List.length_cons]; omega
    have s1 := smallS_at c
    have d1 := digitS_at c
    have r1 : restC c = (smallC c || digitC c || decide (c.toNat = 95)) := rfl
    have q1 := u8_ne95 c
    simp only [List.length_append, List.length_cons, List.length_nil, Nat.zero_add, Int.natCast_add, Int.natCast_one] at ih
    rw [loopH_succ]
    cases hsm : smallC c with
    | true =>
      rw [hsm] at s1 r1
      simp [c31_b0, c31_m0, hk, h1, h3, h5, h6, s1, r1, allR, smallS_f, digitS_f]
      exact ih
    | false =>
      cases hd : digitC c with
      | true =>
        rw [hsm] at s1 r1
        rw [hd] at d1 r1
        simp [c31_b0, c31_m0, hk, h1, h3, h5, h6, s1, d1, r1, allR, smallS_f, digitS_f]
        exact ih
      | false =>
        rw [hsm] at s1 r1
        rw [hd] at d1 r1
        by_cases h95 : c.toNat = 95
        · have q1 : ((c.toNat : Int) = 95) = True := eq_true (by omega)
          rw [decide_eq_true h95] at r1
          simp [c31_b0, c31_m0, hk, h1, h3, h5, h6, s1, d1, r1, q1, allR, smallS_f, digitS_f]
          exact ih
        · have q1 : ((c.toNat : Int) = 95) = False := eq_false (by omega)
          rw [decide_eq_false h95] at r1
          simp [c31_b0, c31_m0, hk, h1, h3, h5, h6, s1, d1, r1, q1, allR, smallS_f, digitS_f]

theorem c31_loop1 (C : Nat → List AV → Heap → Option (AV × Heap)) (n : Nat) (l : List (List UInt8)) (hl : l.length ≤ 70) (s : List UInt8) (k : Nat) (hk : l[k]? = some s) : ∀ post pre m, l.take k = pre ++ post → post.length < m →
    aft 0 0 (loopH (evCode C n c31_b1) c31_m1 0 m (c31_f1 (.sl (l.map .str)) (.int .i64 k) (.int .i64 pre.length)) ⟨0, [], 0, 0⟩) =
      if (idx s post).isSome then some (.ret, FM 85 [(2, .bool false)], ⟨0, [], 0, 0⟩) else some (.exit 4, FM 85 [(0, .sl (l.map .str)), (3, .int .i64 k)], ⟨0, [], 0, 0⟩)
  | [], pre, m + 1, e, _ => by
    have hkl := (List.getElem?_eq_some_iff.1 hk).1
    have hp : pre.length = k := by
      have := congrArg List.length e
      simp at this
      omega
    have h5 : AV.refsL (l.map .str) = 0 := strs_refs l
    simp [loopH_succ, c31_b1, h5, hp, idx]
  | o :: post, pre, m + 1, e, hm => by
    have hkl := (List.getElem?_eq_some_iff.1 hk).1
    have ih := c31_loop1 C n l hl s k hk post (pre ++ [o]) m (by simp [e]) (by rw [List.length_cons] at hm; omega)
    have hlen : pre.length < k := by
      have := congrArg List.length e
      simp at this
      omega
    have h1 : l[pre.length]? = some o := by
      have : (l.take k)[pre.length]? = some o := by rw [e]; simp
      rw [List.getElem?_take_of_lt hlen] at this
      exact this
    have h3 : IntKind.i64.wrap ((pre.length : Int) + 1) = (pre.length : Int) + 1 := by
      rw [wrap_succ (by omega)]; simp
    have h5 : AV.refsL (l.map .str) = 0 := strs_refs l
    have h6 : (pre.length : Int) < (k : Int) := by omega
    simp only [List.length_append, List.length_cons, List.length_nil, Nat.zero_add, Int.natCast_add, Int.natCast_one] at ih
    rw [loopH_succ]
    cases ho : o == s with
    | true =>
      have : (s == o) = true := by simp at ho ⊢; exact ho.symm
      simp [c31_b1, c31_m1, hk, h1, h3, h5, h6, ho, idx, this]
    | false =>
      have : (s == o) = false := by simp at ho ⊢; exact fun h => ho h.symm
      simp [c31_b1, c31_m1, hk, h1, h3, h5, h6, ho, idx, this]
      exact ih

set_option maxRecDepth 100000 in
set_option maxHeartbeats 4000000 in
theorem c31_loop2 (n : Nat) (l : List (List UInt8)) (hl : l.length ≤ 70) : ∀ post pre m, l = pre ++ post → post.length < m →
    aft 0 0 (loopH (evCode (evCall (envOf [smallS, digitS]) (n + 102)) (n + 102) c31_b2) c31_m2 0 m (c31_f2 (.sl (l.map .str)) (.int .i64 pre.length)) ⟨0, [], 0, 0⟩) =
      if goodP pre post then some (.exit 0, FM 85 [(0, .sl (l.map .str))], ⟨0, [], 0, 0⟩) else some (.ret, FM 85 [(2, .bool false)], ⟨0, [], 0, 0⟩)
  | [], pre, m + 1, e, _ => by
    simp at e
    subst e
    have h5 : AV.refsL (l.map .str) = 0 := strs_refs l
    simp [loopH_succ, c31_b2, h5, goodP]
  | o :: post, pre, m + 1, e, hm => by
    have ih := c31_loop2 n l hl post (pre ++ [o]) m (by simp [e]) (by rw [List.length_cons] at hm; omega)
    have h1 : l[pre.length]? = some o := by rw [e]; simp
    have h3 : IntKind.i64.wrap ((pre.length : Int) + 1) = (pre.length : Int) + 1 := by
      rw [wrap_succ (by rw [e] at hl; simp at hl; omega)]; simp
    have h5 : AV.refsL (l.map .str) = 0 := strs_refs l
    have h6 : (pre.length : Int) < (l.length : Int) := by rw [e, List.length_append, List.length_cons]; omega
    have h7 : l.take pre.length = pre := by rw [e]; simp
    have hpl : pre.length ≤ 70 := by omega
    have g : goodP pre (o :: post) = (refName o && !(idx o pre).isSome && goodP (pre ++ [o]) post) := by
      rw [← nameK_eq]; rfl
    simp only [List.length_append, List.length_cons, List.length_nil, Nat.zero_add, Int.natCast_add, Int.natCast_one] at ih
    rw [loopH_succ, g]
    cases o with
    | nil => simp [c31_b2, c31_m2, h1, h3, h5, h6, refName]
    | cons c r =>
      by_cases h16 : (16 : Int) < (r.length : Int) + 1
      · have : ¬ (r.length < 16) := by omega
        have h16' : ¬ ((r.length : Int) + 1 < 1) := by omega
        simp [c31_b2, c31_m2, h1, h3, h5, h6, refName, h16, h16', this]
      · have h16a : r.length < 16 := by omega
        have h16' : ¬ ((r.length : Int) + 1 < 1) := by omega
        have s1 := smallS_at c
        cases hsm : smallC c with
        | false =>
          rw [hsm] at s1
          simp [c31_b2, c31_m2, h1, h3, h5, h6, refName, h16, h16', h16a, hsm, s1, smallS_f, digitS_f]
        | true =>
          rw [hsm] at s1
          have l0 := c31_loop0 (n + 101) l (c :: r) pre.length h1 (by simp; omega) r [c] (n + 102) rfl (by omega)
          have l1 := c31_loop1 (evCall (envOf [smallS, digitS]) (n + 102)) (n + 102) l hl (c :: r) pre.length h1 pre [] (n + 102) (by simp [h7]) (by omega)
          simp only [List.length_cons, List.length_nil, Nat.zero_add, show ((1 : Nat) : Int) = 1 from rfl, show ((0 : Nat) : Int) = 0 from rfl, c31_m0, c31_m1] at l0 l1
          have hra := allR_eq r
          cases hr : r.all restC with
          | false =>
            rw [hra, hr] at l0
            simp at l0
            simp [c31_b2, c31_m0, c31_m1, c31_m2, h1, h3, h5, h6, refName, h16, h16', h16a, hsm, s1, hr, l0, smallS_f, digitS_f]
          | true =>
            rw [hra, hr] at l0
            cases hi : (idx (c :: r) pre).isSome with
            | true =>
              rw [hi] at l1
              simp at l0 l1
              simp [c31_b2, c31_m0, c31_m1, c31_m2, h1, h3, h5, h6, refName, h16, h16', h16a, hsm, s1, hr, l0, l1, hi, smallS_f, digitS_f]
            | false =>
              rw [hi] at l1
              simp at l0 l1
              simp [c31_b2, c31_m0, c31_m1, c31_m2, h1, h3, h5, h6, refName, h16, h16', h16a, hsm, s1, hr, l0, l1, hi, smallS_f, digitS_f]
              exact ih

def goodRS : KSpec := ⟨31, fun | [x] => (match decStrs x with | some l => if l.length ≤ 70 then some (.bool (goodN l)) else none | none => none) | _ => none⟩
theorem goodRS_f : goodRS.f = 31 := (rfl)
theorem goodRS_at (x : AV) (l : List (List UInt8)) (hx : decStrs x = some l) (hl : l.length ≤ 70) : goodRS.S [x] = some (.bool (goodN l)) := by
  simp only [goodRS, hx, if_pos hl]
theorem goodRS_ok : KSpecOK Tryd.prog goodRS := fun args v hv => by
  unfold goodRS at hv ⊢
  dsimp only at hv ⊢
  split at hv
  · rename_i x
    split at hv
    · rename_i l hx
      split at hv
      · rename_i hl
        cases hv
        rcases decStrs_inv hx with rfl | ⟨rfl, rfl⟩
        · refine prim_of (n := 203) (h' := h0) (envOf_ok (ss := [smallS, digitS]) (by simp [smallS_ok, digitS_ok])) ?_ rfl (by simp [AV.refsL, AV.refs, strs_refs])
          have h5 : AV.refsL (l.map .str) = 0 := strs_refs l
          have h := c31_loop2 100 l hl l [] 202 rfl (by omega)
          simp only [List.length_nil, c31_m2, show ((0 : Nat) : Int) = 0 from rfl] at h
          unfold goodN
          cases hg : goodP [] l with
          | false =>
            rw [hg] at h
            simp at h
            simp [run31, c31, c31_m2, h5, h, smallS_f, digitS_f]
          | true =>
            rw [hg] at h
            simp at h
            by_cases h1 : 1 ≤ l.length
            · have h1' : (1 : Int) ≤ (l.length : Int) := by omega
              by_cases h2 : l.length ≤ 64
              · have h2' : (l.length : Int) ≤ 64 := by omega
                simp [run31, c31, c31_m2, h5, h, h1, h1', h2, h2', smallS_f, digitS_f]
              · have h2' : ¬ ((l.length : Int) ≤ 64) := by omega
                simp [run31, c31, c31_m2, h5, h, h1, h1', h2, h2', smallS_f, digitS_f]
            · have h1' : ¬ ((1 : Int) ≤ (l.length : Int)) := by omega
              simp [run31, c31, c31_m2, h5, h, h1, h1', smallS_f, digitS_f]
        · refine prim_of (n := 5) (h' := h0) (envOf_ok (ss := [smallS, digitS]) (by simp [smallS_ok, digitS_ok])) ?_ rfl rfl
          simp [run31, c31, c31_m2, c31_b2, loopH_succ, goodN, smallS_f, digitS_f]
      · cases hv
    · cases hv
  · cases hv

end Go.Proofs.YtnkafagfkblfeaaDoor
