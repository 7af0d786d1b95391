import Derived.Test.YtleeinkdkllcdaaGreatDoorFn
set_option linter.unusedVariables false
set_option linter.unusedSimpArgs false
set_option linter.unusedSectionVars false

namespace Go.Proofs.YtleeinkdkllcdaaGreatDoor
open Go Sz
set_option linter.unusedSimpArgs false

/-! Letters of names: plain functions and laws. No program here. -/

def atom1 (c : UInt8) : Tm := .nl 2 0 [c]
def nilT : Tm := .nl 2 0 [91, 93]
def charsT (s : List UInt8) : Tm := listT (s.map atom1) nilT

/-- What a list's item tells, but for its letter. -/
def stepE (x : Tm) : Int := if x.kind = 0 then 6 else if x.kind = 1 then 5 else if x.args.length ≠ 0 then 5 else if x.name.length ≠ 1 then 5 else 0
def joinL : List Tm → List UInt8 → List UInt8 × Int
  | [], s => (s, 0)
  | x :: r, s => if stepE x = 0 then joinL r (s ++ x.name) else ([], stepE x)
def tailE (t : Tm) : Int := if t.kind = 0 then 6 else if t.kind = 1 then 5 else if t.name ≠ [91, 93] then 5 else if t.args.length ≠ 0 then 5 else 0
def joinedT (l : Tm) : List UInt8 × Int :=
  if goodT l then
    (if (joinL (itemsT l).1 []).2 = 0 then (if tailE (itemsT l).2 = 0 then ((joinL (itemsT l).1 []).1, 0) else ([], tailE (itemsT l).2)) else ([], (joinL (itemsT l).1 []).2))
  else ([], 1)

theorem joinL_chars : ∀ s acc, joinL (s.map atom1) acc = (acc ++ s, 0)
  | [], acc => by simp [joinL]
  | c :: r, acc => by
    have e : stepE (atom1 c) = 0 := by simp [stepE, atom1, Tm.kind, Tm.args, Tm.name]
    have e2 : (atom1 c).name = [c] := rfl
    show (if stepE (atom1 c) = 0 then joinL (r.map atom1) (acc ++ (atom1 c).name) else ([], stepE (atom1 c))) = _
    rw [if_pos e, e2, joinL_chars r]
    simp
theorem items_chars (s : List UInt8) : itemsT (charsT s) = (s.map atom1, nilT) := items_list _ _ rfl
theorem joinL_err : ∀ us s, (joinL us s).2 ≠ 0 → (joinL us s).1 = []
  | [], s, h => absurd rfl h
  | x :: r, s, h => by
    unfold joinL at h ⊢
    split
    · rename_i e; rw [if_pos e] at h; exact joinL_err r _ h
    · rfl
theorem joinL_len : ∀ us s, (joinL us s).1.length ≤ s.length + us.length
  | [], s => by simp [joinL]
  | x :: r, s => by
    unfold joinL
    split
    · rename_i e
      have := joinL_len r (s ++ x.name)
      have hx : x.name.length = 1 := by
        unfold stepE at e
        split at e
        · cases e
        · split at e
          · cases e
          · split at e
            · cases e
            · split at e
              · cases e
              · rename_i h; omega
      simp [hx] at this ⊢
      omega
    · simp
theorem joined_chars (s : List UInt8) (h : goodT (charsT s) = true) : joinedT (charsT s) = (s, 0) := by
  unfold joinedT
  rw [if_pos h, items_chars, joinL_chars]
  simp [tailE, nilT, Tm.kind, Tm.args, Tm.name]

theorem sizeL_chars : ∀ s : List UInt8, Tm.sizeL (s.map atom1) = s.length
  | [] => rfl
  | c :: r => by simp [Tm.sizeL, sizeL_chars r, atom1, Tm.size]; omega
theorem bulkL_chars : ∀ s : List UInt8, Tm.bulkL (s.map atom1) = 2 * s.length
  | [] => rfl
  | c :: r => by simp [Tm.bulkL, bulkL_chars r, atom1, Tm.bulk]; omega
theorem size_chars (s : List UInt8) : (charsT s).size = 2 * s.length + 1 := by
  unfold charsT
  rw [size_list, sizeL_chars]
  simp [nilT, Tm.size]
  omega
theorem bulk_chars (s : List UInt8) : (charsT s).bulk = 4 * s.length + 3 := by
  unfold charsT
  rw [bulk_list, bulkL_chars]
  simp [nilT, Tm.bulk]
  omega
theorem depth_chars (s : List UInt8) : (charsT s).depth = s.length + 1 := by
  unfold charsT
  rw [depth_list _ _ (by intro u hu; obtain ⟨c, _, rfl⟩ := List.mem_map.1 hu; rfl) (by simp [nilT, Tm.depth])]
  simp [nilT, Tm.depth]
theorem nil_ok : nilT.allT oneK = true := by decide
theorem atom1_ok (c : UInt8) : (atom1 c).allT oneK = okC c := by
  simp [atom1, Tm.allT, oneK, Tm.kind, Tm.num, Tm.name, Tm.args, goodNm, allOk]
theorem allL_chars : ∀ s : List UInt8, Tm.allL oneK (s.map atom1) = allOk s
  | [] => rfl
  | c :: r => by
    show ((atom1 c).allT oneK && Tm.allL oneK (r.map atom1)) = _
    rw [atom1_ok, allL_chars r]
    rfl
theorem good_chars (s : List UInt8) : goodT (charsT s) = (decide (s.length ≤ 63) && allOk s) := by
  have h1 : (charsT s).allT oneK = allOk s := by
    unfold charsT
    rw [allT_list, allL_chars, nil_ok, Bool.and_true]
  unfold goodT
  rw [h1, size_chars, depth_chars]
  by_cases h : s.length ≤ 63
  · simp [h, show 2 * s.length + 1 ≤ 2000 by omega]
  · simp [h, show ¬ (s.length + 1 ≤ 64) by omega]
theorem good_atom (s : List UInt8) : goodT (.nl 2 0 s) = goodNm s := by
  simp [goodT, Tm.size, Tm.depth, Tm.allT, oneK, Tm.kind, Tm.num, Tm.name, Tm.args]
theorem allOk_app : ∀ a b, allOk (a ++ b) = (allOk a && allOk b)
  | [], b => by simp [allOk]
  | x :: r, b => by simp [allOk, allOk_app r b, Bool.and_assoc]

/-! Numbers. -/

def isDig (c : UInt8) : Bool := decide (48 ≤ c.toNat) && decide (c.toNat ≤ 57)
def allDig : List UInt8 → Bool
  | [] => true
  | c :: r => isDig c && allDig r
@[irreducible] def digS (acc : Nat) (c : UInt8) : Nat := acc * 10 + (c.toNat - 48)
theorem digS_eq (acc : Nat) (c : UInt8) : digS acc c = acc * 10 + (c.toNat - 48) := by unfold digS; rfl
def valD : Nat → List UInt8 → Nat
  | acc, [] => acc
  | acc, c :: r => valD (digS acc c) r
theorem valD_nil (acc : Nat) : valD acc [] = acc := by rw [valD]
theorem valD_cons (acc : Nat) (c : UInt8) (r : List UInt8) : valD acc (c :: r) = valD (acc * 10 + (c.toNat - 48)) r := by rw [valD, digS_eq]
attribute [irreducible] valD
theorem isDig_eq (c : UInt8) : digits.contains c = isDig c := by
  have h : ∀ n : Fin 256, digits.contains (UInt8.ofNat n.1) = isDig (UInt8.ofNat n.1) := by decide +kernel
  have := h ⟨c.toNat, c.toNat_lt⟩
  simpa using this
theorem allDig_app : ∀ a b, allDig (a ++ b) = (allDig a && allDig b)
  | [], b => by simp [allDig]
  | x :: r, b => by simp [allDig, allDig_app r b, Bool.and_assoc]
theorem allDig_mem : ∀ {l : List UInt8}, allDig l = true ↔ ∀ c ∈ l, isDig c = true
  | [] => by simp [allDig]
  | x :: r => by simp [allDig, allDig_mem (l := r)]
theorem dropWhile_nil {p : UInt8 → Bool} : ∀ {l : List UInt8}, l.dropWhile p = [] ↔ ∀ c ∈ l, p c = true
  | [] => by simp
  | x :: r => by
    rw [List.dropWhile_cons]
    split
    · rename_i h; rw [dropWhile_nil]; simp [h]
    · rename_i h; simp [h]
theorem trimD_nil (s : List UInt8) : (trimD s = []) ↔ allDig s = true := by
  unfold trimD
  have e : (fun c => digits.contains c) = isDig := funext isDig_eq
  simp only [e]
  rw [allDig_mem, dropWhile_nil]
  constructor
  · intro h c hc
    have hs : s.reverse = s.reverse.takeWhile isDig ++ s.reverse.dropWhile isDig := (List.takeWhile_append_dropWhile).symm
    have hc' : c ∈ s.reverse := by simpa using hc
    rw [hs, List.mem_append] at hc'
    rcases hc' with h1 | h1
    · have key : ∀ (l : List UInt8), c ∈ l.takeWhile isDig → isDig c = true := by
        intro l
        induction l with
        | nil => simp
        | cons x r ih =>
          rw [List.takeWhile_cons]
          split
          · rename_i hx
            intro hm
            rcases List.mem_cons.1 hm with rfl | hm
            · exact hx
            · exact ih hm
          · simp
      exact key _ h1
    · exact h c (by simpa using h1)
  · intro h c hc
    have : c ∈ s := by
      have h1 : c ∈ s.reverse.dropWhile isDig := by simpa using hc
      have := (List.dropWhile_sublist isDig (l := s.reverse)).subset h1
      simpa using this
    exact h c this

theorem valD_le : ∀ (l : List UInt8) (acc k : Nat), acc < 10 ^ k → allDig l = true → valD acc l < 10 ^ (k + l.length)
  | [], acc, k, h, _ => by rw [valD_nil, List.length_nil, Nat.add_zero]; exact h
  | c :: r, acc, k, h, hd => by
    simp only [allDig, isDig, Bool.and_eq_true, decide_eq_true_eq] at hd
    have := valD_le r (acc * 10 + (c.toNat - 48)) (k + 1) (by rw [Nat.pow_succ]; omega) hd.2
    rw [valD_cons]; simp only [List.length_cons]
    rw [show k + (r.length + 1) = k + 1 + r.length by omega]
    exact this
theorem valD_ge : ∀ (l : List UInt8) (acc : Nat), acc ≤ valD acc l
  | [], acc => by rw [valD_nil]; exact Nat.le_refl acc
  | c :: r, acc => by have := valD_ge r (acc * 10 + (c.toNat - 48)); rw [valD_cons]; omega
theorem parseU_val (M : Nat) (hM : M ≤ 18446744073709551615) : ∀ (l : List UInt8) (acc : Nat), allDig l = true → valD acc l ≤ M → Lib.parseUintM M acc l = .ok (valD acc l)
  | [], acc, _, _ => by rw [valD_nil, Lib.parseUintM]
  | c :: r, acc, h, hv => by
    simp only [allDig, isDig, Bool.and_eq_true, decide_eq_true_eq] at h
    have h2 := valD_ge r (acc * 10 + (c.toNat - 48))
    rw [valD_cons] at hv ⊢
    unfold Lib.parseUintM
    rw [if_pos h.1, if_neg (by omega), if_neg (by omega), parseU_val M hM r _ h.2 hv]

/-- What whole.Parse tells. -/
def parseT (s : List UInt8) : Int × Int :=
  let d := Lib.trimPrefix s [45]
  if d = [] then (0, 2) else if allDig d = false then (0, 2) else match Lib.parseIntB 64 s with | .ok v => (v, 0) | _ => (0, 3)
def numT (s : List UInt8) : Option Int :=
  let d := Lib.trimPrefix s [45]
  if d ≠ [] ∧ allDig d = true then some (if s.head? = some 45 then -(valD 0 d : Int) else (valD 0 d : Int)) else none

theorem trim_minus (r : List UInt8) : Lib.trimPrefix (45 :: r) [45] = r := by
  simp [Lib.trimPrefix, Lib.hasPrefix]
theorem trim_other (c : UInt8) (r : List UInt8) (h : c ≠ 45) : Lib.trimPrefix (c :: r) [45] = c :: r := by
  have : Lib.hasPrefix (c :: r) [45] = false := by simp [Lib.hasPrefix, List.isPrefixOf, Ne.symm h]
  simp [Lib.trimPrefix, this]
theorem trim_nil : Lib.trimPrefix [] [45] = [] := by decide
theorem dig45 : isDig 45 = false := by decide
theorem nat45 {c : UInt8} (h : c ≠ 45) : c.toNat ≠ 45 := fun h2 => h (UInt8.toNat_inj.1 h2)

theorem parse_neg (r : List UInt8) (hr : r ≠ []) (hd : allDig r = true) (hv : valD 0 r ≤ 9223372036854775808) : Lib.parseIntB 64 (45 :: r) = .ok (-(valD 0 r : Int)) := by
  have e := parseU_val 18446744073709551615 (Nat.le_refl _) r 0 hd (by omega)
  unfold Lib.parseIntB Lib.parseUintB
  simp only [show (45 : UInt8).toNat = 45 from rfl, or_true, if_true, hr, if_false]
  rw [show (2 ^ 64 - 1 : Nat) = 18446744073709551615 by decide, e]
  simp only [not_true, false_and, if_false, true_and]
  rw [if_neg (by omega)]
theorem parse_pos (s : List UInt8) (hr : s ≠ []) (hd : allDig s = true) (hv : valD 0 s ≤ 9223372036854775807) : Lib.parseIntB 64 s = .ok (valD 0 s : Int) := by
  cases s with
  | nil => exact absurd rfl hr
  | cons c r =>
    have e := parseU_val 18446744073709551615 (Nat.le_refl _) (c :: r) 0 hd (by omega)
    have hc : 48 ≤ c.toNat ∧ c.toNat ≤ 57 := by
      simp only [allDig, isDig, Bool.and_eq_true, decide_eq_true_eq] at hd; exact hd.1
    unfold Lib.parseIntB Lib.parseUintB
    simp only [show (c.toNat = 43) = False from eq_false (by omega), show (c.toNat = 45) = False from eq_false (by omega), or_false, if_false, hr]
    rw [show (2 ^ 64 - 1 : Nat) = 18446744073709551615 by decide, e]
    simp only [not_false_iff, true_and, false_and, if_false]
    rw [if_neg (by omega)]

theorem parse_small (s : List UInt8) (h : s.length ≤ 18) : parseT s = match numT s with | some v => (v, 0) | none => (0, 2) := by
  cases s with
  | nil => simp [parseT, numT, trim_nil]
  | cons c r =>
    by_cases hc : c = 45
    · subst hc
      unfold parseT numT
      rw [trim_minus]
      dsimp only
      by_cases hr : r = []
      · simp [hr]
      · cases hd : allDig r with
        | false => simp [hr]
        | true =>
          have hv := valD_le r 0 0 (by decide) hd
          have : 10 ^ (0 + r.length) ≤ 10 ^ 18 := Nat.pow_le_pow_right (by decide) (by simp at h; omega)
          rw [parse_neg r hr hd (by omega)]
          simp [hr]
    · unfold parseT numT
      rw [trim_other c r hc]
      dsimp only
      cases hd : allDig (c :: r) with
      | false => simp
      | true =>
        have hv := valD_le (c :: r) 0 0 (by decide) hd
        have : 10 ^ (0 + (c :: r).length) ≤ 10 ^ 18 := Nat.pow_le_pow_right (by decide) (by omega)
        rw [parse_pos (c :: r) (by simp) hd (by omega)]
        simp [hc]

theorem dec_dig : ∀ (n u : Nat), u ≤ n → allDig (Lib.decDigits u) = true ∧ Lib.decDigits u ≠ [] ∧ valD 0 (Lib.decDigits u) = u := by
  have hap : ∀ (a b : List UInt8) (k : Nat), valD k (a ++ b) = valD (valD k a) b := by
    intro a
    induction a with
    | nil => intro b k; rw [valD_nil]; rfl
    | cons x r ih => intro b k; rw [List.cons_append, valD_cons, valD_cons]; exact ih b _
  have hdg : ∀ d, d < 10 → isDig (UInt8.ofNat (48 + d)) = true ∧ (UInt8.ofNat (48 + d)).toNat = 48 + d := by
    intro d hd
    have e : (UInt8.ofNat (48 + d)).toNat = 48 + d := by rw [UInt8.toNat_ofNat']; omega
    refine ⟨?_, e⟩
    simp only [isDig, e, Bool.and_eq_true, decide_eq_true_eq]
    omega
  intro n
  induction n with
  | zero =>
    intro u hu
    have : u = 0 := by omega
    subst this
    rw [Lib.decDigits]
    simp [allDig, valD_cons, valD_nil]
    decide
  | succ n ih =>
    intro u hu
    rw [Lib.decDigits]
    by_cases h : u < 10
    · rw [dif_pos h]
      have := hdg u h
      refine ⟨by simp only [allDig, Bool.and_true]; exact this.1, by simp, ?_⟩
      rw [valD_cons, valD_nil, this.2]
      omega
    · rw [dif_neg h]
      obtain ⟨h1, h2, h3⟩ := ih (u / 10) (by omega)
      have := hdg (u % 10) (by omega)
      refine ⟨by rw [allDig_app, h1]; simp only [allDig, Bool.and_true, Bool.true_and]; exact this.1, by simp, ?_⟩
      rw [hap, h3]
      rw [valD_cons, valD_nil, this.2]
      omega
theorem parse_itoa (n : Int) (h1 : -9223372036854775808 ≤ n) (h2 : n < 9223372036854775808) : parseT (Lib.itoa n) = (n, 0) := by
  unfold Lib.itoa
  by_cases hn : n < 0
  · rw [if_pos hn]
    obtain ⟨d1, d2, d3⟩ := dec_dig n.natAbs n.natAbs (Nat.le_refl _)
    unfold parseT
    rw [trim_minus]
    dsimp only
    rw [if_neg d2, d1, parse_neg _ d2 d1 (by omega), d3]
    simp
    omega
  · rw [if_neg hn]
    obtain ⟨d1, d2, d3⟩ := dec_dig n.toNat n.toNat (Nat.le_refl _)
    unfold parseT
    cases hs : Lib.decDigits n.toNat with
    | nil => exact absurd hs d2
    | cons c r =>
      rw [hs] at d1 d2 d3
      have hc : c ≠ 45 := fun e => by subst e; simp [allDig, dig45] at d1
      rw [trim_other c r hc]
      dsimp only
      rw [if_neg d2, d1, parse_pos _ d2 d1 (by omega), d3]
      simp
      omega
theorem itoa_ok (n : Int) (h1 : -9223372036854775808 ≤ n) (h2 : n < 9223372036854775808) : allOk (Lib.itoa n) = true ∧ (Lib.itoa n).length ≤ 20 := by
  have dl : ∀ (k u : Nat), u < 10 ^ (k + 1) → (Lib.decDigits u).length ≤ k + 1 := by
    intro k
    induction k with
    | zero => intro u hu; rw [Lib.decDigits, dif_pos (by simpa using hu)]; simp
    | succ k ih =>
      intro u hu
      rw [Lib.decDigits]
      by_cases h : u < 10
      · rw [dif_pos h]; simp
      · rw [dif_neg h]
        have := ih (u / 10) (by rw [Nat.pow_succ] at hu; omega)
        simp
        omega
  have ok : ∀ l : List UInt8, allDig l = true → allOk l = true := by
    intro l
    induction l with
    | nil => intro _; rfl
    | cons c r ih =>
      intro h
      simp only [allDig, isDig, Bool.and_eq_true, decide_eq_true_eq] at h
      simp only [allOk, Bool.and_eq_true]
      refine ⟨?_, ih h.2⟩
      have h1 : ¬ (c.toNat < 32) := by omega
      have h2 : ¬ (126 < c.toNat) := by omega
      simp [okC, h1, h2]
  unfold Lib.itoa
  by_cases hn : n < 0
  · rw [if_pos hn]
    obtain ⟨d1, _, _⟩ := dec_dig n.natAbs n.natAbs (Nat.le_refl _)
    have := dl 18 n.natAbs (by omega)
    refine ⟨?_, by simp; omega⟩
    simp only [allOk, ok _ d1, Bool.and_true]
    decide
  · rw [if_neg hn]
    obtain ⟨d1, _, _⟩ := dec_dig n.toNat n.toNat (Nat.le_refl _)
    have := dl 18 n.toNat (by omega)
    exact ⟨ok _ d1, by omega⟩

end Go.Proofs.YtleeinkdkllcdaaGreatDoor
