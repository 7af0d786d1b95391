import Derived.Test.YtleeinkdkllcdaaGreatDoorFn
import Derived.Test.YtleeinkdkllcdaaGreatDoorAt
set_option linter.unusedVariables false
set_option linter.unusedSimpArgs false
set_option linter.unusedSectionVars false
set_option maxHeartbeats 16000000
set_option maxRecDepth 100000

namespace Go.Proofs.YtleeinkdkllcdaaGreatDoor
open Go Sz
def atom1 (c : UInt8) : Tm := .nl 2 0 [c]
def nilT : Tm := .nl 2 0 [91, 93]
def charsT (s : List UInt8) : Tm := listT (s.map atom1) nilT
def stepE (x : Tm) : Int := if x.kind = 0 then 6 else if x.kind = 1 then 5 else if x.args.length ≠ 0 then 5 else if x.name.length ≠ 1 then 5 else 0
def joinL : List Tm → List UInt8 → List UInt8 × Int
 | [], s => (s, 0)
 | x :: r, s => if stepE x = 0 then joinL r (s ++ x.name) else ([], stepE x)
def tailE (t : Tm) : Int := if t.kind = 0 then 6 else if t.kind = 1 then 5 else if t.name ≠ [91, 93] then 5 else if t.args.length ≠ 0 then 5 else 0
def joinedT (l : Tm) : List UInt8 × Int :=
 if goodT l then
  (if (joinL (itemsT l).1 []).2 = 0 then (if tailE (itemsT l).2 = 0 then ((joinL (itemsT l).1 []).1, 0) else ([], tailE (itemsT l).2)) else ([], (joinL (itemsT l).1 []).2))
 else ([], 1)
theorem joinL_len : ∀ us s, (joinL us s).1.length ≤ s.length + us.length
 | [], s => by simp [joinL]
 | x :: r, s => by
   unfold joinL
   split
   ·rename_i e
    have := joinL_len r (s ++ x.name)
    have hx : x.name.length = 1 := by
     unfold stepE at e
     split at e
     ·cases e
     ·split at e
      ·cases e
      ·split at e
       ·cases e
       ·split at e
        ·cases e
        ·rename_i h; omega
    simp [hx] at this ⊢
    omega
   ·simp
theorem sizeL_chars : ∀ s : List UInt8, Tm.sizeL (s.map atom1) = s.length
 | [] => rfl
 | c :: r => by simp [Tm.sizeL, sizeL_chars r, atom1, Tm.size]; omega
theorem bulkL_chars : ∀ s : List UInt8, Tm.bulkL (s.map atom1) = 2 * s.length
 | [] => rfl
 | c :: r => by simp [Tm.bulkL, bulkL_chars r, atom1, Tm.bulk]; omega
theorem size_chars (s : List UInt8) : (charsT s).size = 2 * s.length + 1 := by
 unfold charsT
 rw [size_list, sizeL_chars]
 simp [nilT, Tm.size]
 omega
theorem bulk_chars (s : List UInt8) : (charsT s).bulk = 4 * s.length + 3 := by
 unfold charsT
 rw [bulk_list, bulkL_chars]
 simp [nilT, Tm.bulk]
 omega
theorem depth_chars (s : List UInt8) : (charsT s).depth = s.length + 1 := by
 unfold charsT
 rw [depth_list _ _ (by intro u hu; obtain ⟨c, _, rfl⟩ := List.mem_map.1 hu; rfl) (by simp [nilT, Tm.depth])]
 simp [nilT, Tm.depth]
theorem nil_ok : nilT.allT oneK = true := by decide
theorem atom1_ok (c : UInt8) : (atom1 c).allT oneK = okC c := by
 simp [atom1, Tm.allT, oneK, Tm.kind, Tm.num, Tm.name, Tm.args, goodNm, allOk]
theorem allL_chars : ∀ s : List UInt8, Tm.allL oneK (s.map atom1) = allOk s
 | [] => rfl
 | c :: r => by
   show ((atom1 c).allT oneK && Tm.allL oneK (r.map atom1)) = _
   rw [atom1_ok, allL_chars r]
   rfl
theorem good_chars (s : List UInt8) : goodT (charsT s) = (decide (s.length ≤ 63) && allOk s) := by
 have h1 : (charsT s).allT oneK = allOk s := by
  unfold charsT
  rw [allT_list, allL_chars, nil_ok, Bool.and_true]
 unfold goodT
 rw [h1, size_chars, depth_chars]
 by_cases h : s.length ≤ 63
 ·simp [h, show 2 * s.length + 1 ≤ 2000 by omega]
 ·simp [h, show ¬ (s.length + 1 ≤ 64) by omega]
def isDig (c : UInt8) : Bool := decide (48 ≤ c.toNat) && decide (c.toNat ≤ 57)
def allDig : List UInt8 → Bool
 | [] => true
 | c :: r => isDig c && allDig r
@[irreducible] def digS (acc : Nat) (c : UInt8) : Nat := acc * 10 + (c.toNat - 48)
theorem digS_eq (acc : Nat) (c : UInt8) : digS acc c = acc * 10 + (c.toNat - 48) := by unfold digS; rfl
def valD : Nat → List UInt8 → Nat
 | acc, [] => acc
 | acc, c :: r => valD (digS acc c) r
theorem valD_nil (acc : Nat) : valD acc [] = acc := by rw [valD]
theorem valD_cons (acc : Nat) (c : UInt8) (r : List UInt8) : valD acc (c :: r) = valD (acc * 10 + (c.toNat - 48)) r := by rw [valD, digS_eq]
attribute [irreducible] valD
theorem isDig_eq (c : UInt8) : digits.contains c = isDig c := by
 have h : ∀ n : Fin 256, digits.contains (UInt8.ofNat n.1) = isDig (UInt8.ofNat n.1) := by decide +kernel
 have := h ⟨c.toNat, c.toNat_lt⟩
 simpa using this
theorem allDig_app : ∀ a b, allDig (a ++ b) = (allDig a && allDig b)
 | [], b => by simp [allDig]
 | x :: r, b => by simp [allDig, allDig_app r b, Bool.and_assoc]
theorem allDig_mem : ∀ {l : List UInt8}, allDig l = true ↔ ∀ c ∈ l, isDig c = true
 | [] => by simp [allDig]
 | x :: r => by simp [allDig, allDig_mem (l := r)]
theorem dropWhile_nil {p : UInt8 → Bool} : ∀ {l : List UInt8}, l.dropWhile p = [] ↔ ∀ c ∈ l, p c = true
 | [] => by simp
 | x :: r => by
   rw [List.dropWhile_cons]
   split
   ·rename_i h; rw [dropWhile_nil]; simp [h]
   ·rename_i h; simp [h]
theorem trimD_nil (s : List UInt8) : (trimD s = []) ↔ allDig s = true := by
 unfold trimD
 have e : (fun c => digits.contains c) = isDig := funext isDig_eq
 simp only [e]
 rw [allDig_mem, dropWhile_nil]
 constructor
 ·intro h c hc
  have hs : s.reverse = s.reverse.takeWhile isDig ++ s.reverse.dropWhile isDig := (List.takeWhile_append_dropWhile).symm
  have hc' : c ∈ s.reverse := by simpa using hc
  rw [hs, List.mem_append] at hc'
  rcases hc' with h1 | h1
  ·have key : ∀ (l : List UInt8), c ∈ l.takeWhile isDig → isDig c = true := by
    intro l
    induction l with
    | nil => simp
    | cons x r ih =>
      rw [List.takeWhile_cons]
      split
      ·rename_i hx
       intro hm
       rcases List.mem_cons.1 hm with rfl | hm
       ·exact hx
       ·exact ih hm
      ·simp
   exact key _ h1
  ·exact h c (by simpa using h1)
 ·intro h c hc
  have : c ∈ s := by
   have h1 : c ∈ s.reverse.dropWhile isDig := by simpa using hc
   have := (List.dropWhile_sublist isDig (l := s.reverse)).subset h1
   simpa using this
  exact h c this
theorem valD_ge : ∀ (l : List UInt8) (acc : Nat), acc ≤ valD acc l
 | [], acc => by rw [valD_nil]; exact Nat.le_refl acc
 | c :: r, acc => by have := valD_ge r (acc * 10 + (c.toNat - 48)); rw [valD_cons]; omega
theorem parseU_val (M : Nat) (hM : M ≤ 18446744073709551615) : ∀ (l : List UInt8) (acc : Nat), allDig l = true → valD acc l ≤ M → Lib.parseUintM M acc l = .ok (valD acc l)
 | [], acc, _, _ => by rw [valD_nil, Lib.parseUintM]
 | c :: r, acc, h, hv => by
   simp only [allDig, isDig, Bool.and_eq_true, decide_eq_true_eq] at h
   have h2 := valD_ge r (acc * 10 + (c.toNat - 48))
   rw [valD_cons] at hv ⊢
   unfold Lib.parseUintM
   rw [if_pos h.1, if_neg (by omega), if_neg (by omega), parseU_val M hM r _ h.2 hv]
def parseT (s : List UInt8) : Int × Int :=
 let d := Lib.trimPrefix s [45]
 if d = [] then (0, 2) else if allDig d = false then (0, 2) else match Lib.parseIntB 64 s with | .ok v => (v, 0) | _ => (0, 3)
theorem trim_minus (r : List UInt8) : Lib.trimPrefix (45 :: r) [45] = r := by
 simp [Lib.trimPrefix, Lib.hasPrefix]
theorem trim_other (c : UInt8) (r : List UInt8) (h : c ≠ 45) : Lib.trimPrefix (c :: r) [45] = c :: r := by
 have : Lib.hasPrefix (c :: r) [45] = false := by simp [Lib.hasPrefix, List.isPrefixOf, Ne.symm h]
 simp [Lib.trimPrefix, this]
theorem trim_nil : Lib.trimPrefix [] [45] = [] := by decide
theorem nat45 {c : UInt8} (h : c ≠ 45) : c.toNat ≠ 45 := fun h2 => h (UInt8.toNat_inj.1 h2)
theorem parse_neg (r : List UInt8) (hr : r ≠ []) (hd : allDig r = true) (hv : valD 0 r ≤ 9223372036854775808) : Lib.parseIntB 64 (45 :: r) = .ok (-(valD 0 r : Int)) := by
 have e := parseU_val 18446744073709551615 (Nat.le_refl _) r 0 hd (by omega)
 unfold Lib.parseIntB Lib.parseUintB
 simp only [show (45 : UInt8).toNat = 45 from rfl, or_true, if_true, hr, if_false]
 rw [show (2 ^ 64 - 1 : Nat) = 18446744073709551615 by decide, e]
 simp only [not_true, false_and, if_false, true_and]
 rw [if_neg (by omega)]
theorem parse_pos (s : List UInt8) (hr : s ≠ []) (hd : allDig s = true) (hv : valD 0 s ≤ 9223372036854775807) : Lib.parseIntB 64 s = .ok (valD 0 s : Int) := by
 cases s with
 | nil => exact absurd rfl hr
 | cons c r =>
   have e := parseU_val 18446744073709551615 (Nat.le_refl _) (c :: r) 0 hd (by omega)
   have hc : 48 ≤ c.toNat ∧ c.toNat ≤ 57 := by
    simp only [allDig, isDig, Bool.and_eq_true, decide_eq_true_eq] at hd; exact hd.1
   unfold Lib.parseIntB Lib.parseUintB
   simp only [show (c.toNat = 43) = False from eq_false (by omega), show (c.toNat = 45) = False from eq_false (by omega), or_false, if_false, hr]
   rw [show (2 ^ 64 - 1 : Nat) = 18446744073709551615 by decide, e]
   simp only [not_false_iff, true_and, false_and, if_false]
   rw [if_neg (by omega)]
theorem dec_dig : ∀ (n u : Nat), u ≤ n → allDig (Lib.decDigits u) = true ∧ Lib.decDigits u ≠ [] ∧ valD 0 (Lib.decDigits u) = u := by
 have hap : ∀ (a b : List UInt8) (k : Nat), valD k (a ++ b) = valD (valD k a) b := by
  intro a
  induction a with
  | nil => intro b k; rw [valD_nil]; rfl
  | cons x r ih => intro b k; rw [List.cons_append, valD_cons, valD_cons]; exact ih b _
 have hdg : ∀ d, d < 10 → isDig (UInt8.ofNat (48 + d)) = true ∧ (UInt8.ofNat (48 + d)).toNat = 48 + d := by
  intro d hd
  have e : (UInt8.ofNat (48 + d)).toNat = 48 + d := by rw [UInt8.toNat_ofNat']; omega
  refine ⟨?_, e⟩
  simp only [isDig, e, Bool.and_eq_true, decide_eq_true_eq]
  omega
 intro n
 induction n with
 | zero =>
   intro u hu
   have : u = 0 := by omega
   subst this
   rw [Lib.decDigits]
   simp [allDig, valD_cons, valD_nil]
   decide
 | succ n ih =>
   intro u hu
   rw [Lib.decDigits]
   by_cases h : u < 10
   ·rw [dif_pos h]
    have := hdg u h
    refine ⟨by simp only [allDig, Bool.and_true]; exact this.1, by simp, ?_⟩
    rw [valD_cons, valD_nil, this.2]
    omega
   ·rw [dif_neg h]
    obtain ⟨h1, h2, h3⟩ := ih (u / 10) (by omega)
    have := hdg (u % 10) (by omega)
    refine ⟨by rw [allDig_app, h1]; simp only [allDig, Bool.and_true, Bool.true_and]; exact this.1, by simp, ?_⟩
    rw [hap, h3]
    rw [valD_cons, valD_nil, this.2]
    omega
theorem itoa_ok (n : Int) (h1 : -9223372036854775808 ≤ n) (h2 : n < 9223372036854775808) : allOk (Lib.itoa n) = true ∧ (Lib.itoa n).length ≤ 20 := by
 have dl : ∀ (k u : Nat), u < 10 ^ (k + 1) → (Lib.decDigits u).length ≤ k + 1 := by
  intro k
  induction k with
  | zero => intro u hu; rw [Lib.decDigits, dif_pos (by simpa using hu)]; simp
  | succ k ih =>
    intro u hu
    rw [Lib.decDigits]
    by_cases h : u < 10
    ·rw [dif_pos h]; simp
    ·rw [dif_neg h]
     have := ih (u / 10) (by rw [Nat.pow_succ] at hu; omega)
     simp
     omega
 have ok : ∀ l : List UInt8, allDig l = true → allOk l = true := by
  intro l
  induction l with
  | nil => intro _; rfl
  | cons c r ih =>
    intro h
    simp only [allDig, isDig, Bool.and_eq_true, decide_eq_true_eq] at h
    simp only [allOk, Bool.and_eq_true]
    refine ⟨?_, ih h.2⟩
    have h1 : ¬ (c.toNat < 32) := by omega
    have h2 : ¬ (126 < c.toNat) := by omega
    simp [okC, h1, h2]
 unfold Lib.itoa
 by_cases hn : n < 0
 ·rw [if_pos hn]
  obtain ⟨d1, _, _⟩ := dec_dig n.natAbs n.natAbs (Nat.le_refl _)
  have := dl 18 n.natAbs (by omega)
  refine ⟨?_, by simp; omega⟩
  simp only [allOk, ok _ d1, Bool.and_true]
  decide
 ·rw [if_neg hn]
  obtain ⟨d1, _, _⟩ := dec_dig n.toNat n.toNat (Nat.le_refl _)
  have := dl 18 n.toNat (by omega)
  exact ⟨ok _ d1, by omega⟩
theorem c47_loop (C : Nat → List AV → Heap → Option (AV × Heap)) (n : Nat) (us : List Tm) (hl : us.length < 1000000000) (T A : AObj) : ∀ (post pre : List Tm) (s : List UInt8) (m : Nat), us = pre ++ post → s.length ≤ pre.length → post.length < m →
 ∃ md, aft 2 0 (loopH (evCode C n c47_b0) c47_m0 2 m (c47_f0 (.ptr 1 0) (.str s) (.sl (us.map Tm.enc)) (.int .i64 us.length) (.int .i64 pre.length)) ⟨2, [T, A], 2, 0⟩) =
   some (if (joinL post s).2 = 0 then .exit 0 else .ret, if (joinL post s).2 = 0 then FM 68 [(5, .ptr 1 0), (6, .str (joinL post s).1)] else FM 68 [(2, .str []), (3, .int .i64 (joinL post s).2)], ⟨2, [T, A], 0, md⟩)
 | [], pre, s, m + 1, e, hs, _ => by
   simp at e
   subst e
   have h5 : AV.refsL (us.map Tm.enc) = 0 := encs_refs _
   exact ⟨0, by simp [joinL, loopH_succ, c47_b0, h5]⟩
 | x :: post, pre, s, m + 1, e, hs, hm => by
   have h1 : us[pre.length]? = some x := by rw [e]; simp
   have h3 : IntKind.i64.wrap ((pre.length : Int) + 1) = (pre.length : Int) + 1 := by
    rw [wrap_succ (by rw [e] at hl; simp at hl; omega)]; simp
   have h5 : AV.refsL (us.map Tm.enc) = 0 := encs_refs _
   have h6 : ((pre.length : Int) < (us.length : Int)) = True := eq_true (by rw [e, List.length_append, List.length_cons]; omega)
   have hxe := Tm.enc_eq x
   rw [loopH_succ]
   by_cases k0 : x.kind = 0
   ·have hj : joinL (x :: post) s = ([], 6) := by simp [joinL, stepE, k0]
    rw [hj]
    have hc : x.cells = [.int .i64 0, .int .i64 x.num, .str x.name, x.argV] := by simp [Tm.cells, k0]
    have hr := argV_refs x
    exact ⟨0, by simp [c47_b0, c47_m0, h1, h3, h5, h6, hxe, hc, hr]⟩
   by_cases k1 : x.kind = 1
   ·have hj : joinL (x :: post) s = ([], 5) := by simp [joinL, stepE, k1]
    rw [hj]
    have hc : x.cells = [.int .i64 1, .int .i64 x.num, .str x.name, x.argV] := by simp [Tm.cells, k1]
    have hr := argV_refs x
    exact ⟨0, by simp [c47_b0, c47_m0, h1, h3, h5, h6, hxe, hc, hr]⟩
   by_cases ka : x.args.length = 0
   ·by_cases kn : x.name.length = 1
    ·have hj : joinL (x :: post) s = joinL post (s ++ x.name) := by simp [joinL, stepE, k0, k1, ka, kn]
     rw [hj]
     obtain ⟨md, ih⟩ := c47_loop C n us hl T A post (pre ++ [x]) (s ++ x.name) m (by simp [e]) (by simp; omega) (by rw [List.length_cons] at hm; omega)
     refine ⟨md, ?_⟩
     simp only [List.length_append, List.length_cons, List.length_nil, Nat.zero_add, Int.natCast_add, Int.natCast_one] at ih
     have hn : ((x.name.length : Int) = 1) = True := eq_true (by omega)
     have hb : s.length + x.name.length < 9223372036854775808 := by rw [e] at hl; simp at hl; omega
     cases x with
     | nl kk nn ss =>
       have hc : (Tm.nl kk nn ss).cells = [.int .i64 kk, .int .i64 nn, .str ss, .nils] := rfl
       simp only [Tm.kind, Tm.name] at k0 k1 hn ih hb
       simp [c47_b0, c47_m0, h1, h3, h5, h6, hxe, hc, k0, k1, hn, hb]
       exact ih
     | mk kk nn ss us =>
       have hc : (Tm.mk kk nn ss us).cells = [.int .i64 kk, .int .i64 nn, .str ss, .sl (us.map Tm.enc)] := rfl
       simp only [Tm.kind, Tm.name, Tm.args] at k0 k1 hn ka ih hb
       have hus : us = [] := by simpa using ka
       subst hus
       simp only [List.map_nil] at hc
       simp [c47_b0, c47_m0, h1, h3, h5, h6, hxe, hc, k0, k1, hn, hb]
       exact ih
    ·have hj : joinL (x :: post) s = ([], 5) := by simp [joinL, stepE, k0, k1, ka, kn]
     rw [hj]
     have hn : ((x.name.length : Int) = 1) = False := eq_false (by omega)
     cases x with
     | nl kk nn ss =>
       have hc : (Tm.nl kk nn ss).cells = [.int .i64 kk, .int .i64 nn, .str ss, .nils] := rfl
       simp only [Tm.kind, Tm.name] at k0 k1 hn
       exact ⟨0, by simp [c47_b0, c47_m0, h1, h3, h5, h6, hxe, hc, k0, k1, hn]⟩
     | mk kk nn ss us =>
       have hc : (Tm.mk kk nn ss us).cells = [.int .i64 kk, .int .i64 nn, .str ss, .sl (us.map Tm.enc)] := rfl
       simp only [Tm.kind, Tm.name, Tm.args] at k0 k1 hn ka
       have hus : us = [] := by simpa using ka
       subst hus
       simp only [List.map_nil] at hc
       exact ⟨0, by simp [c47_b0, c47_m0, h1, h3, h5, h6, hxe, hc, k0, k1, hn]⟩
   ·have hj : joinL (x :: post) s = ([], 5) := by simp [joinL, stepE, k0, k1, ka]
    rw [hj]
    cases x with
    | nl kk nn ss => simp [Tm.args] at ka
    | mk kk nn ss us =>
      have hc : (Tm.mk kk nn ss us).cells = [.int .i64 kk, .int .i64 nn, .str ss, .sl (us.map Tm.enc)] := rfl
      simp only [Tm.kind, Tm.name, Tm.args] at k0 k1 ka
      have hr : AV.refsL (us.map Tm.enc) = 0 := encs_refs _
      have hla : ((0 : Int) < (us.length : Int)) = True := eq_true (by omega)
      have hlb : (0 < us.length) = True := eq_true (by omega)
      exact ⟨0, by simp [c47_b0, c47_m0, h1, h3, h5, h6, hxe, hc, k0, k1, hr, hla, hlb]⟩
def joinedS : KSpec := ⟨47, fun | [v] => (match decTm v with | some t => if t.bulk < 1000000000 then some (.tuple [.str (joinedT t).1, .int .i64 (joinedT t).2]) else none | none => none) | _ => none⟩
theorem joinedS_f : joinedS.f = 47 := (rfl)
theorem joinedS_at (t : Tm) (h : t.bulk < 1000000000) : joinedS.S [t.enc] = some (.tuple [.str (joinedT t).1, .int .i64 (joinedT t).2]) := by
 simp only [joinedS, decTm_enc, if_pos h]
theorem joinedS_ok : KSpecOK Tryz.prog joinedS := fun args v hv => by
 unfold joinedS at hv ⊢
 dsimp only at hv ⊢
 split at hv
 ·rename_i x
  split at hv
  ·rename_i t ht
   split at hv
   ·rename_i hl
    cases hv
    rw [decTm_eq ht]
    refine prim_of (n := t.size + 5) (h' := h0) (envOf_ok (ss := [goodTS, itemsS]) (by simp [goodTS_ok, itemsS_ok])) ?_ (by simp [AV.refs, AV.refsL]) (by simp [AV.refsL, Tm.enc_refs])
    have hsb := size_bulk t
    have c1 := goodTS_at t (by omega)
    have c2 := itemsS_at t (by omega)
    have hil := items_len t.size t (Nat.le_refl _)
    have hxe := Tm.enc_eq t
    have hcl := Tm.cells_is t
    have hxr := argV_refs t
    unfold itemsG at c2
    unfold joinedT
    cases hg : goodT t with
    | false =>
      rw [hg] at c1
      rw [hxe, hcl] at c1 ⊢
      simp [run47, c47, c1, hxr, frz_argV, goodTS_f, itemsS_f]
    | true =>
      rw [hg] at c1 c2
      simp only [if_true] at c2 ⊢
      generalize itemsT t = p at c2 hil
      obtain ⟨us, tl⟩ := p
      dsimp only at c2 hil ⊢
      have htl := Tm.enc_eq tl
      have htr := argV_refs tl
      rw [hxe, hcl] at c1 c2 ⊢
      rw [htl] at c2
      obtain ⟨TC, hTC⟩ : ∃ TC, TC = tl.cells := ⟨_, rfl⟩
      have F1 : True := trivial
      have F2 : True := trivial
      have F3 : True := trivial
      have F4 : True := trivial
      have F5 : True := trivial
      by_cases k0 : tl.kind = 0
      ·have htc : tl.cells = [.int .i64 0, .int .i64 tl.num, .str tl.name, tl.argV] := by simp [Tm.cells, k0]
       have hte : tailE tl = 6 := by simp [tailE, k0]
       rw [htc] at c2
       cases us with
       | nil =>
         have he : (joinL [] []) = ([], 0) := rfl
         simp only [slT] at c2
         simp [run47, c47, c47_m0, c47_b0, loopH_succ, c1, c2, hxr, htr, frz_argV, goodTS_f, itemsS_f, he, hte, F1, F2, F3, F4, F5]
       | cons y r =>
         obtain ⟨md, eq⟩ := c47_loop (evCall (envOf [goodTS, itemsS]) (t.size + 4)) (t.size + 4) (y :: r) (by omega) (.row TC) (.row t.cells) (y :: r) [] [] (t.size + 4) rfl (by simp) (by omega)
         have h5 := encs_refs (y :: r)
         simp only [slT] at c2
         rw [hTC, htc, hcl] at eq
         simp only [c47_m0, List.length_nil, Int.natCast_zero, List.length_cons, Int.natCast_add, Int.natCast_one] at eq
         generalize joinL (y :: r) [] = q at eq
         obtain ⟨q1, q2⟩ := q
         dsimp only at eq
         simp only [List.map_cons] at eq h5 c2
         by_cases he : q2 = 0
         ·subst he
          simp only [if_true] at eq
          simp [run47, c47, c47_m0, c1, c2, hxr, htr, h5, frz_argV, goodTS_f, itemsS_f, eq, hte, F1, F2, F3, F4, F5]
         ·simp only [if_neg he] at eq
          simp [run47, c47, c47_m0, c1, c2, hxr, htr, h5, frz_argV, goodTS_f, itemsS_f, eq, he, F1, F2, F3, F4, F5]
      by_cases k1 : tl.kind = 1
      ·have htc : tl.cells = [.int .i64 1, .int .i64 tl.num, .str tl.name, tl.argV] := by simp [Tm.cells, k1]
       have hte : tailE tl = 5 := by simp [tailE, k1]
       rw [htc] at c2
       cases us with
       | nil =>
         have he : (joinL [] []) = ([], 0) := rfl
         simp only [slT] at c2
         simp [run47, c47, c47_m0, c47_b0, loopH_succ, c1, c2, hxr, htr, frz_argV, goodTS_f, itemsS_f, he, hte, F1, F2, F3, F4, F5]
       | cons y r =>
         obtain ⟨md, eq⟩ := c47_loop (evCall (envOf [goodTS, itemsS]) (t.size + 4)) (t.size + 4) (y :: r) (by omega) (.row TC) (.row t.cells) (y :: r) [] [] (t.size + 4) rfl (by simp) (by omega)
         have h5 := encs_refs (y :: r)
         simp only [slT] at c2
         rw [hTC, htc, hcl] at eq
         simp only [c47_m0, List.length_nil, Int.natCast_zero, List.length_cons, Int.natCast_add, Int.natCast_one] at eq
         generalize joinL (y :: r) [] = q at eq
         obtain ⟨q1, q2⟩ := q
         dsimp only at eq
         simp only [List.map_cons] at eq h5 c2
         by_cases he : q2 = 0
         ·subst he
          simp only [if_true] at eq
          simp [run47, c47, c47_m0, c1, c2, hxr, htr, h5, frz_argV, goodTS_f, itemsS_f, eq, hte, F1, F2, F3, F4, F5]
         ·simp only [if_neg he] at eq
          simp [run47, c47, c47_m0, c1, c2, hxr, htr, h5, frz_argV, goodTS_f, itemsS_f, eq, he, F1, F2, F3, F4, F5]
      cases kn : (tl.name == [91, 93]) with
      | false =>
        have htc := Tm.cells_is tl
        have hte : tailE tl = 5 := by simp [tailE, k0, k1]; intro h; simp [h] at kn
        have F1 := k0
        have F2 := k1
        have F3 := kn
        rw [htc] at c2
        cases us with
        | nil =>
          have he : (joinL [] []) = ([], 0) := rfl
          simp only [slT] at c2
          simp [run47, c47, c47_m0, c47_b0, loopH_succ, c1, c2, hxr, htr, frz_argV, goodTS_f, itemsS_f, he, hte, F1, F2, F3, F4, F5]
        | cons y r =>
          obtain ⟨md, eq⟩ := c47_loop (evCall (envOf [goodTS, itemsS]) (t.size + 4)) (t.size + 4) (y :: r) (by omega) (.row TC) (.row t.cells) (y :: r) [] [] (t.size + 4) rfl (by simp) (by omega)
          have h5 := encs_refs (y :: r)
          simp only [slT] at c2
          rw [hTC, htc, hcl] at eq
          simp only [c47_m0, List.length_nil, Int.natCast_zero, List.length_cons, Int.natCast_add, Int.natCast_one] at eq
          generalize joinL (y :: r) [] = q at eq
          obtain ⟨q1, q2⟩ := q
          dsimp only at eq
          simp only [List.map_cons] at eq h5 c2
          by_cases he : q2 = 0
          ·subst he
           simp only [if_true] at eq
           simp [run47, c47, c47_m0, c1, c2, hxr, htr, h5, frz_argV, goodTS_f, itemsS_f, eq, hte, F1, F2, F3, F4, F5]
          ·simp only [if_neg he] at eq
           simp [run47, c47, c47_m0, c1, c2, hxr, htr, h5, frz_argV, goodTS_f, itemsS_f, eq, he, F1, F2, F3, F4, F5]
      | true =>
        have kn' := eq_of_beq kn
        by_cases ka : tl.args.length = 0
        ·have hte : tailE tl = 0 := by simp [tailE, k0, k1, kn', ka]
         cases tl with
         | nl kk nn ss =>
           simp only [Tm.kind, Tm.name] at k0 k1 kn'
           subst kn'
           have htc : (Tm.nl kk nn [91, 93]).cells = [.int .i64 kk, .int .i64 nn, .str [91, 93], .nils] := rfl
           have F1 := k0
           have F2 := k1
           rw [htc] at c2
           cases us with
           | nil =>
             have he : (joinL [] []) = ([], 0) := rfl
             simp only [slT] at c2
             simp [run47, c47, c47_m0, c47_b0, loopH_succ, c1, c2, hxr, htr, frz_argV, goodTS_f, itemsS_f, he, hte, F1, F2, F3, F4, F5]
           | cons y r =>
             obtain ⟨md, eq⟩ := c47_loop (evCall (envOf [goodTS, itemsS]) (t.size + 4)) (t.size + 4) (y :: r) (by omega) (.row TC) (.row t.cells) (y :: r) [] [] (t.size + 4) rfl (by simp) (by omega)
             have h5 := encs_refs (y :: r)
             simp only [slT] at c2
             rw [hTC, htc, hcl] at eq
             simp only [c47_m0, List.length_nil, Int.natCast_zero, List.length_cons, Int.natCast_add, Int.natCast_one] at eq
             generalize joinL (y :: r) [] = q at eq
             obtain ⟨q1, q2⟩ := q
             dsimp only at eq
             simp only [List.map_cons] at eq h5 c2
             by_cases he : q2 = 0
             ·subst he
              simp only [if_true] at eq
              simp [run47, c47, c47_m0, c1, c2, hxr, htr, h5, frz_argV, goodTS_f, itemsS_f, eq, hte, F1, F2, F3, F4, F5]
             ·simp only [if_neg he] at eq
              simp [run47, c47, c47_m0, c1, c2, hxr, htr, h5, frz_argV, goodTS_f, itemsS_f, eq, he, F1, F2, F3, F4, F5]
         | mk kk nn ss ws =>
           simp only [Tm.kind, Tm.name, Tm.args] at k0 k1 kn' ka
           subst kn'
           have hws : ws = [] := by simpa using ka
           subst hws
           have htc : (Tm.mk kk nn [91, 93] []).cells = [.int .i64 kk, .int .i64 nn, .str [91, 93], .sl []] := rfl
           have F1 := k0
           have F2 := k1
           rw [htc] at c2
           cases us with
           | nil =>
             have he : (joinL [] []) = ([], 0) := rfl
             simp only [slT] at c2
             simp [run47, c47, c47_m0, c47_b0, loopH_succ, c1, c2, hxr, htr, frz_argV, goodTS_f, itemsS_f, he, hte, F1, F2, F3, F4, F5]
           | cons y r =>
             obtain ⟨md, eq⟩ := c47_loop (evCall (envOf [goodTS, itemsS]) (t.size + 4)) (t.size + 4) (y :: r) (by omega) (.row TC) (.row t.cells) (y :: r) [] [] (t.size + 4) rfl (by simp) (by omega)
             have h5 := encs_refs (y :: r)
             simp only [slT] at c2
             rw [hTC, htc, hcl] at eq
             simp only [c47_m0, List.length_nil, Int.natCast_zero, List.length_cons, Int.natCast_add, Int.natCast_one] at eq
             generalize joinL (y :: r) [] = q at eq
             obtain ⟨q1, q2⟩ := q
             dsimp only at eq
             simp only [List.map_cons] at eq h5 c2
             by_cases he : q2 = 0
             ·subst he
              simp only [if_true] at eq
              simp [run47, c47, c47_m0, c1, c2, hxr, htr, h5, frz_argV, goodTS_f, itemsS_f, eq, hte, F1, F2, F3, F4, F5]
             ·simp only [if_neg he] at eq
              simp [run47, c47, c47_m0, c1, c2, hxr, htr, h5, frz_argV, goodTS_f, itemsS_f, eq, he, F1, F2, F3, F4, F5]
        ·have hte : tailE tl = 5 := by simp [tailE, k0, k1, kn', ka]
         cases tl with
         | nl kk nn ss => simp [Tm.args] at ka
         | mk kk nn ss ws =>
           simp only [Tm.kind, Tm.name, Tm.args] at k0 k1 kn' ka
           subst kn'
           have htc : (Tm.mk kk nn [91, 93] ws).cells = [.int .i64 kk, .int .i64 nn, .str [91, 93], .sl (ws.map Tm.enc)] := rfl
           have F1 := k0
           have F2 := k1
           have F3 : (0 < ws.length) = True := eq_true (by omega)
           have F4 := encs_refs ws
           rw [htc] at c2
           cases us with
           | nil =>
             have he : (joinL [] []) = ([], 0) := rfl
             simp only [slT] at c2
             simp [run47, c47, c47_m0, c47_b0, loopH_succ, c1, c2, hxr, htr, frz_argV, goodTS_f, itemsS_f, he, hte, F1, F2, F3, F4, F5]
           | cons y r =>
             obtain ⟨md, eq⟩ := c47_loop (evCall (envOf [goodTS, itemsS]) (t.size + 4)) (t.size + 4) (y :: r) (by omega) (.row TC) (.row t.cells) (y :: r) [] [] (t.size + 4) rfl (by simp) (by omega)
             have h5 := encs_refs (y :: r)
             simp only [slT] at c2
             rw [hTC, htc, hcl] at eq
             simp only [c47_m0, List.length_nil, Int.natCast_zero, List.length_cons, Int.natCast_add, Int.natCast_one] at eq
             generalize joinL (y :: r) [] = q at eq
             obtain ⟨q1, q2⟩ := q
             dsimp only at eq
             simp only [List.map_cons] at eq h5 c2
             by_cases he : q2 = 0
             ·subst he
              simp only [if_true] at eq
              simp [run47, c47, c47_m0, c1, c2, hxr, htr, h5, frz_argV, goodTS_f, itemsS_f, eq, hte, F1, F2, F3, F4, F5]
             ·simp only [if_neg he] at eq
              simp [run47, c47, c47_m0, c1, c2, hxr, htr, h5, frz_argV, goodTS_f, itemsS_f, eq, he, F1, F2, F3, F4, F5]
   ·cases hv
  ·cases hv
 ·cases hv
def parseWS : KSpec := ⟨50, fun | [.str s] => if s.length < 281474976710656 then some (.tuple [.int .i64 (parseT s).1, .int .i64 (parseT s).2]) else none | _ => none⟩
theorem parseWS_f : parseWS.f = 50 := (rfl)
theorem parseWS_at (s : List UInt8) (h : s.length < 281474976710656) : parseWS.S [.str s] = some (.tuple [.int .i64 (parseT s).1, .int .i64 (parseT s).2]) := if_pos h
theorem parse_cases (s : List UInt8) (hd : Lib.trimPrefix s [45] ≠ []) (ha : allDig (Lib.trimPrefix s [45]) = true) : (∃ v, Lib.parseIntB 64 s = .ok v) ∨ Lib.parseIntB 64 s = .range := by
 have pu : ∀ (M : Nat) (l : List UInt8) (acc : Nat), allDig l = true → (∃ u, Lib.parseUintM M acc l = .ok u) ∨ Lib.parseUintM M acc l = .range := by
  intro M l
  induction l with
  | nil => intro acc _; exact .inl ⟨acc, rfl⟩
  | cons c r ih =>
    intro acc h
    simp only [allDig, isDig, Bool.and_eq_true, decide_eq_true_eq] at h
    unfold Lib.parseUintM
    rw [if_pos h.1]
    split
    ·exact .inr rfl
    ·split
     ·exact .inr rfl
     ·exact ih _ h.2
 cases s with
 | nil => exact absurd trim_nil hd
 | cons c r =>
   by_cases hc : c = 45
   ·subst hc
    rw [trim_minus] at hd ha
    unfold Lib.parseIntB Lib.parseUintB
    simp only [show (45 : UInt8).toNat = 45 from rfl, or_true, if_true, hd, if_false]
    rcases pu (2 ^ 64 - 1) r 0 ha with ⟨u, e⟩ | e
    ·rw [e]
     simp only [not_true, false_and, if_false, true_and]
     split
     ·exact .inr rfl
     ·exact .inl ⟨_, rfl⟩
    ·rw [e]; exact .inr rfl
   ·rw [trim_other c r hc] at ha
    have h := nat45 hc
    have hg : 48 ≤ c.toNat ∧ c.toNat ≤ 57 := by
     simp only [allDig, isDig, Bool.and_eq_true, decide_eq_true_eq] at ha; exact ha.1
    unfold Lib.parseIntB Lib.parseUintB
    simp only [show (c.toNat = 43) = False from eq_false (by omega), show (c.toNat = 45) = False from eq_false h, or_false, if_false, reduceCtorEq]
    rcases pu (2 ^ 64 - 1) (c :: r) 0 ha with ⟨u, e⟩ | e
    ·rw [e]
     simp only [not_false_iff, true_and, false_and, if_false]
     split
     ·exact .inr rfl
     ·exact .inl ⟨_, rfl⟩
    ·rw [e]; exact .inr rfl
theorem parseWS_ok : KSpecOKX Tryz.prog TabX parseWS := fun args v hv => by
 unfold parseWS at hv ⊢
 dsimp only at hv ⊢
 split at hv
 ·rename_i s
  split at hv
  ·rename_i hl
   cases hv
   refine prim_of (n := 5) (h' := h0) (envOf_okX (ss := [trimPrefixS, trimS, parseS]) (by simp [trimPrefixS_ok.lift, trimS_ok.lift, parseS_ok])) ?_ (by simp [AV.refs, AV.refsL]) (by simp [AV.refs, AV.refsL])
   have c1 := trimPrefixS_at s [45]
   have hdl : (Lib.trimPrefix s [45]).length ≤ s.length := by unfold Lib.trimPrefix; split <;> simp
   have c2 := trimS_at (Lib.trimPrefix s [45]) (by omega)
   unfold digits at c2
   have c3 := parseS_at s hl
   unfold parseT
   dsimp only
   have hb : ∀ l : List UInt8, (l == []) = decide (l = []) := fun l => by cases l <;> rfl
   by_cases hd : Lib.trimPrefix s [45] = []
   ·rw [if_pos hd]
    rw [hd] at c1
    simp [run50, c50, c1, trimPrefixS_f, trimS_f, parseS_f]
   ·rw [if_neg hd]
    have e1 : (Lib.trimPrefix s [45] == []) = false := by rw [hb]; simpa using hd
    cases ha : allDig (Lib.trimPrefix s [45]) with
    | false =>
      have e2 : (trimD (Lib.trimPrefix s [45]) == []) = false := by
       rw [hb]
       simp only [decide_eq_false_iff_not]
       intro h
       rw [trimD_nil, ha] at h
       cases h
      simp [run50, c50, c1, c2, e1, e2, trimPrefixS_f, trimS_f, parseS_f]
    | true =>
      have e2 : trimD (Lib.trimPrefix s [45]) = [] := (trimD_nil _).2 ha
      rw [e2] at c2
      unfold parseV at c3
      rcases parse_cases s hd ha with ⟨u, e⟩ | e
      ·rw [e] at c3 ⊢
       dsimp only at c3
       simp [run50, c50, c1, c2, c3, e1, trimPrefixS_f, trimS_f, parseS_f]
      ·rw [e] at c3 ⊢
       dsimp only at c3
       simp [run50, c50, c1, c2, c3, e1, trimPrefixS_f, trimS_f, parseS_f]
  ·cases hv
 ·cases hv
def nameT (t : Tm) : Tm × Int := if (joinedT t).2 ≠ 0 then (.nl 0 0 [], (joinedT t).2) else if 64 < (joinedT t).1.length then (.nl 0 0 [], 3) else (.nl 2 0 (joinedT t).1, 0)
def numberT (t : Tm) : Tm × Int := if (joinedT t).2 ≠ 0 then (.nl 0 0 [], (joinedT t).2) else if (parseT (joinedT t).1).2 ≠ 0 then (.nl 0 0 [], (parseT (joinedT t).1).2) else (.nl 1 (parseT (joinedT t).1).1 [], 0)
def nameS : KSpec := ⟨19, fun | [v] => (match decTm v with | some t => if t.bulk < 1000000000 then some (.tuple [(nameT t).1.enc, .int .i64 (nameT t).2]) else none | none => none) | _ => none⟩
theorem nameS_f : nameS.f = 19 := (rfl)
theorem nameS_at (t : Tm) (h : t.bulk < 1000000000) : nameS.S [t.enc] = some (.tuple [(nameT t).1.enc, .int .i64 (nameT t).2]) := by
 simp only [nameS, decTm_enc, if_pos h]
theorem nameS_ok : KSpecOK Tryz.prog nameS := fun args v hv => by
 unfold nameS at hv ⊢
 dsimp only at hv ⊢
 split at hv
 ·rename_i x
  split at hv
  ·rename_i t ht
   split at hv
   ·rename_i hl
    cases hv
    rw [decTm_eq ht]
    refine prim_of (n := 5) (h' := h0) (envOf_ok (ss := [joinedS, atomS]) (by simp [joinedS_ok, atomS_ok])) ?_ (by simp [AV.refs, AV.refsL, Tm.enc_refs]) (by simp [AV.refsL, Tm.enc_refs])
    have c1 := joinedS_at t hl
    have hxe := Tm.enc_eq t
    have hcl := Tm.cells_is t
    have hxr := argV_refs t
    unfold nameT
    generalize joinedT t = p at c1
    obtain ⟨s, e⟩ := p
    dsimp only at c1 ⊢
    rw [hxe, hcl] at c1 ⊢
    have c2 := atomS_at s
    by_cases he : e = 0
    ·subst he
     by_cases hs : 64 < s.length
     ·have h1 : ((64 : Int) < (s.length : Int)) = True := eq_true (by omega)
      simp [run19, c19, c1, hxr, frz_argV, h1, hs, joinedS_f, atomS_f, Tm.enc]
     ·have h1 : ((64 : Int) < (s.length : Int)) = False := eq_false (by omega)
      simp [run19, c19, c1, c2, hxr, frz_argV, h1, hs, joinedS_f, atomS_f, Tm.enc]
    ·simp [run19, c19, c1, hxr, frz_argV, he, joinedS_f, atomS_f, Tm.enc]
   ·cases hv
  ·cases hv
 ·cases hv
theorem joinedT_len (t : Tm) : (joinedT t).1.length ≤ t.size := by
 unfold joinedT
 split
 ·split
  ·split
   ·have := joinL_len (itemsT t).1 []
    have := items_len t.size t (Nat.le_refl _)
    simp at *
    omega
   ·simp
  ·simp
 ·simp
def numberS : KSpec := ⟨22, fun | [v] => (match decTm v with | some t => if t.bulk < 1000000000 then some (.tuple [(numberT t).1.enc, .int .i64 (numberT t).2]) else none | none => none) | _ => none⟩
theorem numberS_f : numberS.f = 22 := (rfl)
theorem numberS_at (t : Tm) (h : t.bulk < 1000000000) : numberS.S [t.enc] = some (.tuple [(numberT t).1.enc, .int .i64 (numberT t).2]) := by
 simp only [numberS, decTm_enc, if_pos h]
theorem numberS_ok : KSpecOKX Tryz.prog TabX numberS := fun args v hv => by
 unfold numberS at hv ⊢
 dsimp only at hv ⊢
 split at hv
 ·rename_i x
  split at hv
  ·rename_i t ht
   split at hv
   ·rename_i hl
    cases hv
    rw [decTm_eq ht]
    refine prim_of (n := 5) (h' := h0) (envOf_okX (ss := [joinedS, intS, parseWS]) (by simp [joinedS_ok.lift, intS_ok.lift, parseWS_ok])) ?_ (by simp [AV.refs, AV.refsL, Tm.enc_refs]) (by simp [AV.refsL, Tm.enc_refs])
    have c1 := joinedS_at t hl
    have hxe := Tm.enc_eq t
    have hcl := Tm.cells_is t
    have hxr := argV_refs t
    have hjl := joinedT_len t
    have hsb := size_bulk t
    unfold numberT
    generalize joinedT t = p at c1 hjl
    obtain ⟨s, e⟩ := p
    dsimp only at c1 hjl ⊢
    rw [hxe, hcl] at c1 ⊢
    have c2 := parseWS_at s (by omega)
    generalize parseT s = q at c2
    obtain ⟨n, f⟩ := q
    dsimp only at c2 ⊢
    have c3 := intS_at n
    by_cases he : e = 0
    ·subst he
     by_cases hf : f = 0
     ·subst hf
      simp [run22, c22, c1, c2, c3, hxr, frz_argV, joinedS_f, intS_f, parseWS_f, Tm.enc]
     ·simp [run22, c22, c1, c2, hxr, frz_argV, hf, joinedS_f, intS_f, parseWS_f, Tm.enc]
    ·simp [run22, c22, c1, hxr, frz_argV, he, joinedS_f, intS_f, parseWS_f, Tm.enc]
   ·cases hv
  ·cases hv
 ·cases hv
def textS : KSpec := ⟨63, fun | [.int .i64 n] => if -9223372036854775808 ≤ n ∧ n < 9223372036854775808 then some (.str (itoaK n)) else none | _ => none⟩
theorem textS_f : textS.f = 63 := (rfl)
theorem textS_at (n : Int) (h : -9223372036854775808 ≤ n ∧ n < 9223372036854775808) : textS.S [.int .i64 n] = some (.str (itoaK n)) := if_pos h
theorem textS_ok : KSpecOKX Tryz.prog TabX textS := fun args v hv => by
 unfold textS at hv ⊢
 dsimp only at hv ⊢
 split at hv
 ·rename_i n
  split at hv
  ·rename_i hl
   cases hv
   refine prim_of (n := 5) (h' := h0) (envOf_okX (ss := [formatS]) (by simp [formatS_ok])) ?_ (by simp [AV.refs]) (by simp [AV.refsL, AV.refs])
   have c1 := formatS_at n hl
   simp [run63, c63, c1, formatS_f]
  ·cases hv
 ·cases hv
def lettersT (t : Tm) : List UInt8 × Int :=
 if goodT t = false then ([], 1) else if t.kind = 0 then ([], 6) else if t.args.length ≠ 0 then ([], 5) else if t.kind = 1 then (itoaK t.num, 0) else (t.name, 0)
def lettersS : KSpec := ⟨46, fun | [v] => (match decTm v with | some t => if t.bulk < 1000000000 ∧ -9223372036854775808 ≤ t.num ∧ t.num < 9223372036854775808 then some (.tuple [.str (lettersT t).1, .int .i64 (lettersT t).2]) else none | none => none) | _ => none⟩
theorem lettersS_f : lettersS.f = 46 := (rfl)
theorem lettersS_at (t : Tm) (h : t.bulk < 1000000000 ∧ -9223372036854775808 ≤ t.num ∧ t.num < 9223372036854775808) : lettersS.S [t.enc] = some (.tuple [.str (lettersT t).1, .int .i64 (lettersT t).2]) := by
 simp only [lettersS, decTm_enc, if_pos h]
theorem lettersS_ok : KSpecOKX Tryz.prog TabX lettersS := fun args v hv => by
 unfold lettersS at hv ⊢
 dsimp only at hv ⊢
 split at hv
 ·rename_i x
  split at hv
  ·rename_i t ht
   split at hv
   ·rename_i hl
    cases hv
    rw [decTm_eq ht]
    refine prim_of (n := 5) (h' := h0) (envOf_okX (ss := [goodTS, textS]) (by simp [goodTS_ok.lift, textS_ok])) ?_ (by simp [AV.refs, AV.refsL]) (by simp [AV.refsL, Tm.enc_refs])
    have c1 := goodTS_at t hl.1
    have c2 := textS_at t.num hl.2
    have hxe := Tm.enc_eq t
    unfold lettersT
    cases hg : goodT t with
    | false =>
      have hcl := Tm.cells_is t
      have hxr := argV_refs t
      rw [hg] at c1
      rw [hxe, hcl] at c1 ⊢
      simp [run46, c46, c1, hxr, frz_argV, goodTS_f, textS_f]
    | true =>
      rw [hg] at c1
      rw [if_neg (by simp)]
      by_cases k0 : t.kind = 0
      ·have hcl : t.cells = [.int .i64 0, .int .i64 t.num, .str t.name, t.argV] := by simp [Tm.cells, k0]
       have hxr := argV_refs t
       rw [hxe, hcl] at c1 ⊢
       simp [run46, c46, c1, hxr, frz_argV, goodTS_f, textS_f, k0]
      rw [if_neg k0]
      by_cases ka : t.args.length = 0
      ·rw [if_neg (by simp [ka])]
       by_cases k1 : t.kind = 1
       ·rw [if_pos k1]
        cases t with
        | nl kk nn ss =>
          have hcl : (Tm.nl kk nn ss).cells = [.int .i64 kk, .int .i64 nn, .str ss, .nils] := rfl
          obtain rfl : kk = 1 := k1
          rw [hxe, hcl] at c1 ⊢
          simp only [Tm.num] at c2 ⊢
          simp [run46, c46, c1, c2, goodTS_f, textS_f]
        | mk kk nn ss us =>
          obtain rfl : us = [] := List.eq_nil_of_length_eq_zero ka
          have hcl : (Tm.mk kk nn ss []).cells = [.int .i64 kk, .int .i64 nn, .str ss, .sl []] := rfl
          obtain rfl : kk = 1 := k1
          rw [hxe, hcl] at c1 ⊢
          simp only [Tm.num] at c2 ⊢
          simp [run46, c46, c1, c2, goodTS_f, textS_f]
       ·rw [if_neg k1]
        cases t with
        | nl kk nn ss =>
          have hcl : (Tm.nl kk nn ss).cells = [.int .i64 kk, .int .i64 nn, .str ss, .nils] := rfl
          simp only [Tm.kind, Tm.name] at k0 k1 ⊢
          rw [hxe, hcl] at c1 ⊢
          simp [run46, c46, c1, k0, k1, goodTS_f, textS_f]
        | mk kk nn ss us =>
          obtain rfl : us = [] := List.eq_nil_of_length_eq_zero ka
          have hcl : (Tm.mk kk nn ss []).cells = [.int .i64 kk, .int .i64 nn, .str ss, .sl []] := rfl
          simp only [Tm.kind, Tm.name] at k0 k1 ⊢
          rw [hxe, hcl] at c1 ⊢
          simp [run46, c46, c1, k0, k1, goodTS_f, textS_f]
      ·rw [if_pos ka]
       cases t with
       | nl kk nn ss => simp [Tm.args] at ka
       | mk kk nn ss us =>
         have hcl : (Tm.mk kk nn ss us).cells = [.int .i64 kk, .int .i64 nn, .str ss, .sl (us.map Tm.enc)] := rfl
         have hur := encs_refs us
         simp only [Tm.kind, Tm.args] at k0 ka
         have hla : (0 < us.length) = True := eq_true (by omega)
         rw [hxe, hcl] at c1 ⊢
         simp [run46, c46, c1, k0, hur, hla, goodTS_f, textS_f]
   ·cases hv
  ·cases hv
 ·cases hv
theorem lettersT_len (t : Tm) (h : -9223372036854775808 ≤ t.num ∧ t.num < 9223372036854775808) : (lettersT t).1.length ≤ t.bulk + 20 := by
 have hb := bulk_args t
 unfold lettersT
 split
 ·simp
 ·split
  ·simp
  ·split
   ·simp
   ·split
    ·have := (itoa_ok t.num h.1 h.2).2
     rw [itoaK_eq _ h.1 h.2]
     show (Lib.itoa t.num).length ≤ _
     omega
    ·show t.name.length ≤ _
     omega
def lengthS : KSpec := ⟨25, fun | [v] => (match decTm v with | some t => if t.bulk < 1000000000 ∧ -9223372036854775808 ≤ t.num ∧ t.num < 9223372036854775808 then some (.tuple [.int .i64 ((lettersT t).1.length : Nat), .int .i64 (lettersT t).2]) else none | none => none) | _ => none⟩
theorem lengthS_f : lengthS.f = 25 := (rfl)
theorem lengthS_at (t : Tm) (h : t.bulk < 1000000000 ∧ -9223372036854775808 ≤ t.num ∧ t.num < 9223372036854775808) : lengthS.S [t.enc] = some (.tuple [.int .i64 ((lettersT t).1.length : Nat), .int .i64 (lettersT t).2]) := by
 simp only [lengthS, decTm_enc, if_pos h]
theorem lengthS_ok : KSpecOKX Tryz.prog TabX lengthS := fun args v hv => by
 unfold lengthS at hv ⊢
 dsimp only at hv ⊢
 split at hv
 ·rename_i x
  split at hv
  ·rename_i t ht
   split at hv
   ·rename_i hl
    cases hv
    rw [decTm_eq ht]
    refine prim_of (n := 5) (h' := h0) (envOf_okX (ss := [lettersS]) (by simp [lettersS_ok])) ?_ (by simp [AV.refs, AV.refsL]) (by simp [AV.refsL, Tm.enc_refs])
    have c1 := lettersS_at t hl
    have hxe := Tm.enc_eq t
    have hcl := Tm.cells_is t
    have hxr := argV_refs t
    have hlen := lettersT_len t hl.2
    generalize lettersT t = p at c1 hlen
    obtain ⟨s, e⟩ := p
    dsimp only at c1 hlen ⊢
    rw [hxe, hcl] at c1 ⊢
    simp [run25, c25, c1, hxr, frz_argV, lettersS_f]
   ·cases hv
  ·cases hv
 ·cases hv
theorem sliceB_one {n i : Nat} (h : i < n) : sliceB n (some (.int .i64 i)) (some (.int .i64 ((i : Int) + 1))) = some (i, i + 1) := by
 have a1 : (0 : Int) ≤ (i : Int) + 1 ∧ (i : Int) + 1 ≤ (n : Int) := by omega
 have a2 : (i : Int) ≤ (i : Int) + 1 := by omega
 have a3 : ((i : Int) + 1).toNat = i + 1 := by omega
 simp [sliceB, a1, a2, a3]
theorem c17_loop (C : Nat → List AV → Heap → Option (AV × Heap)) (n : Nat) (s : List UInt8) (hl : s.length < 1000000100) (A B : AObj) (hC : ∀ (c : UInt8) (h : Heap), C 13 [.str [c]] h = some ((atom1 c).enc, h)) : ∀ (post pre : List UInt8) (m : Nat), s = pre ++ post → pre ≠ [] → post.length < m →
 aft 2 0 (loopH (evCode C n c17_b0) c17_m0 2 m (c17_f0 (.ptr 1 0) (.str s) (.vec 2 0 pre.length 4 pre.length) (.int .i64 s.length) (.int .i64 pre.length)) ⟨3, [.row (flatT (pre.map atom1)), A, B], 2, 0⟩) =
  some (.exit 0, FM 41 [(2, .ptr 1 0), (6, .vec 2 0 s.length 4 s.length)], ⟨3, [.row (flatT (s.map atom1)), A, B], 0, 0⟩)
 | [], pre, m + 1, e, _, _ => by
   simp at e
   subst e
   have hf := flatT_refs (s.map atom1)
   rw [loopH_succ]
   simp [c17_b0, c17_m0, hf]
 | c :: post, pre, m + 1, e, hne, hm => by
   have ih := c17_loop C n s hl A B hC post (pre ++ [c]) m (by simp [e]) (by simp) (by rw [List.length_cons] at hm; omega)
   have hpl : pre.length < s.length := by rw [e]; simp
   have h1 : (s.take (pre.length + 1)).drop pre.length = [c] := by rw [List.drop_take, show pre.length + 1 - pre.length = 1 by omega, e, List.drop_left]; rfl
   have hsl := sliceB_one hpl
   have h3 : IntKind.i64.wrap ((pre.length : Int) + 1) = (pre.length : Int) + 1 := by
    rw [wrap_succ (by omega)]; simp
   have h6 : ((pre.length : Int) < (s.length : Int)) = True := eq_true (by omega)
   have hca : (atom1 c).enc = .agg [.int .i64 2, .int .i64 0, .str [c], .nils] := rfl
   have hf := flatT_refs (pre.map atom1)
   have hf2 : AV.refsL (flatT (pre.map atom1) ++ [.int .i64 2, .int .i64 0, .str [c], .nils]) = 0 := by
    have := flatT_refs ((pre ++ [c]).map atom1)
    simpa [flatT, Tm.cells, atom1, Tm.kind, Tm.num, Tm.name, Tm.argV] using this
   have h8 : (pre.length + 1) * 56 ≤ 140737488355328 := by omega
   have h9 : pre.length + 1 < 9223372036854775808 := by omega
   have h11 : (flatT (pre.map atom1)).length = pre.length * 4 := by rw [flatT_len]; simp
   have h10 : (flatT (pre.map atom1)).take (pre.length * 4) = flatT (pre.map atom1) := by rw [List.take_of_length_le]; omega
   simp only [List.map_append, List.map_cons, List.map_nil, List.length_append, List.length_cons, List.length_nil, Nat.zero_add, flatT_snoc, Int.natCast_add, Int.natCast_one] at ih
   have hcc : (atom1 c).cells = [.int .i64 2, .int .i64 0, .str [c], .nils] := rfl
   rw [hcc] at ih
   rw [loopH_succ]
   simp [c17_b0, c17_m0, h1, h3, h6, hC, hca, hf, hf2, h8, h9, h10, h11, hsl, elemsA]
   exact ih
theorem c17_loop0 (C : Nat → List AV → Heap → Option (AV × Heap)) (n : Nat) (c : UInt8) (r : List UInt8) (hl : r.length < 1000000099) (A B : AObj) (hC : ∀ (c : UInt8) (h : Heap), C 13 [.str [c]] h = some ((atom1 c).enc, h)) (m : Nat) (hm : r.length < m) :
 aft 2 0 (loopH (evCode C n c17_b0) c17_m0 2 (m + 1) (c17_f0 (.ptr 1 0) (.str (c :: r)) .nils (.int .i64 ((r.length : Int) + 1)) (.int .i64 0)) ⟨2, [A, B], 2, 0⟩) =
  some (.exit 0, FM 41 [(2, .ptr 1 0), (6, .vec 2 0 (r.length + 1) 4 (r.length + 1))], ⟨3, [.row (flatT ((c :: r).map atom1)), A, B], 0, 0⟩) := by
 have ih := c17_loop C n (c :: r) (by simp; omega) A B hC r [c] m rfl (by simp) hm
 have hs1 : sliceB (r.length + 1) (some (.int .i64 0)) (some (.int .i64 1)) = some (0, 1) := by
  have := sliceB_one (n := r.length + 1) (i := 0) (by omega)
  simpa using this
 have hw1 : IntKind.i64.wrap 1 = 1 := by decide
 have hla : (0 < r.length + 1) = True := eq_true (by omega)
 have hlb : ((0 : Int) < (r.length : Int) + 1) = True := eq_true (by omega)
 have hfl : flatT ([c].map atom1) = [.int .i64 2, .int .i64 0, .str [c], .nils] := rfl
 have hca : (atom1 c).enc = .agg [.int .i64 2, .int .i64 0, .str [c], .nils] := rfl
 rw [hfl] at ih
 simp only [List.length_cons, List.length_nil, Nat.zero_add, Int.natCast_add, Int.natCast_one] at ih
 rw [loopH_succ]
 simp [c17_b0, c17_m0, hC, hca, hs1, hw1, hla, hlb, elemsA]
 exact ih
def charsE (t : Tm) : Tm × Int := if (lettersT t).2 ≠ 0 then (.nl 0 0 [], (lettersT t).2) else if goodT (charsT (lettersT t).1) then (charsT (lettersT t).1, 0) else (.nl 0 0 [], 12)
def charsS : KSpec := ⟨17, fun | [v] => (match decTm v with | some t => if t.bulk < 100000000 ∧ -9223372036854775808 ≤ t.num ∧ t.num < 9223372036854775808 then some (.tuple [(charsE t).1.enc, .int .i64 (charsE t).2]) else none | none => none) | _ => none⟩
theorem charsS_f : charsS.f = 17 := (rfl)
theorem charsS_at (t : Tm) (h : t.bulk < 100000000 ∧ -9223372036854775808 ≤ t.num ∧ t.num < 9223372036854775808) : charsS.S [t.enc] = some (.tuple [(charsE t).1.enc, .int .i64 (charsE t).2]) := by
 simp only [charsS, decTm_enc, if_pos h]
theorem nilT_cells : nilT.enc = .agg [.int .i64 2, .int .i64 0, .str [91, 93], .nils] := rfl
def ssC : List KSpec := [lettersS, atomS, listS, goodTS]
theorem ssC_ok : ∀ s ∈ ssC, KSpecOKX Tryz.prog TabX s := by simp [ssC, lettersS_ok, atomS_ok.lift, listS_ok.lift, goodTS_ok.lift]
theorem atom_call (n : Nat) (c : UInt8) (h : Heap) : evCall (envOf ssC) (n + 1) 13 [.str [c]] h = some ((atom1 c).enc, h) := by
 have := atomS_at [c]
 simp [ssC, lettersS_f, atomS_f, listS_f, goodTS_f, this, atom1, Tm.enc]
theorem charsS_ok : KSpecOKX Tryz.prog TabX charsS := fun args v hv => by
 unfold charsS at hv ⊢
 dsimp only at hv ⊢
 split at hv
 ·rename_i x
  split at hv
  ·rename_i t ht
   split at hv
   ·rename_i hl
    cases hv
    rw [decTm_eq ht]
    have hlen := lettersT_len t hl.2
    refine prim_of (n := (lettersT t).1.length + 5) (h' := h0) (envOf_okX ssC_ok) ?_ (by simp [AV.refs, AV.refsL, Tm.enc_refs]) (by simp [AV.refsL, Tm.enc_refs])
    have c1 := lettersS_at t ⟨by omega, hl.2⟩
    have hxe := Tm.enc_eq t
    have hcl := Tm.cells_is t
    have hxr := argV_refs t
    unfold charsE
    generalize lettersT t = p at c1 hlen
    obtain ⟨s, e⟩ := p
    dsimp only at c1 hlen ⊢
    rw [hxe, hcl] at c1 ⊢
    have ca := atomS_at [91, 93]
    have cl := listS_at (s.map atom1) nilT (by rw [List.length_map]; omega)
    have cg := goodTS_at (charsT s) (by rw [bulk_chars]; omega)
    have hce : (charsT s).enc = .agg (charsT s).cells := Tm.enc_eq _
    have hcc : (charsT s).cells = [.int .i64 (charsT s).kind, .int .i64 (charsT s).num, .str (charsT s).name, (charsT s).argV] := rfl
    have hcr := argV_refs (charsT s)
    by_cases he : e = 0
    ·subst he
     cases s with
     | nil =>
       have cl := listS_nils nilT
       rw [nilT_cells] at cl
       have cg : goodTS.S [.agg [.int .i64 2, .int .i64 0, .str [91, 93], .nils]] = some (.bool true) := by
        have := goodTS_at nilT (by decide)
        rw [nilT_cells] at this
        rw [this]
        rfl
       have hgt : goodT (charsT []) = true := by rw [good_chars]; rfl
       have hct : (charsT []).enc = .agg [.int .i64 2, .int .i64 0, .str [91, 93], .nils] := rfl
       rw [if_neg (show ¬ ((0 : Int) ≠ 0) by decide), if_pos hgt]
       dsimp only
       rw [hct]
       simp [ssC, run17, c17, c17_m0, c17_b0, loopH_succ, c1, ca, cl, cg, hxr, frz_argV, lettersS_f, atomS_f, listS_f, goodTS_f]
     | cons c r =>
       have lp := c17_loop0 (evCall (envOf ssC) (r.length + 5)) (r.length + 5) c r (by simp at hlen; omega) (.row [.int .i64 0, .int .i64 0, .str [], .nils]) (.row [.int .i64 t.kind, .int .i64 t.num, .str t.name, t.argV]) (atom_call (r.length + 4)) (r.length + 4) (by omega)
       have hf2 := flatT_refs ((c :: r).map atom1)
       have hf : ∀ (A B : AObj) (wl md d : Nat), frz ⟨3, [.row (flatT ((c :: r).map atom1)), A, B], wl, md⟩ 0 (d + 2) (.vec 2 0 (r.length + 1) 4 (r.length + 1)) = some (.sl (((c :: r).map atom1).map Tm.enc), [2]) := fun A B wl md d => by
        have := frz_T (h := ⟨3, [.row (flatT ((c :: r).map atom1)), A, B], wl, md⟩) (n0 := 0) (d := d) (id := 2) (atom1 c) (r.map atom1) (by omega) rfl
        simpa using this
       generalize hg : goodT (charsT (c :: r)) = g at cg ⊢
       simp only [List.map_cons] at cl hf hf2 lp
       rw [nilT_cells] at cl
       have hcs : listT (atom1 c :: r.map atom1) nilT = charsT (c :: r) := rfl
       rw [hcs] at cl
       have hsc : scal1 (charsT (c :: r)).argV = false := rfl
       generalize charsT (c :: r) = ch at cl cg hce hcc hcr hsc ⊢
       simp only [ssC, c17_m0, List.length_cons, List.length_nil, Nat.zero_add, Int.natCast_add, Int.natCast_one] at lp
       rw [hce, hcc] at cl cg
       simp only [List.map_map] at cl
       rw [if_neg (show ¬ ((0 : Int) ≠ 0) by decide)]
       cases g with
       | true =>
         rw [if_pos rfl]
         dsimp only
         rw [hce, hcc]
         simp [ssC, run17, c17, c17_m0, c1, ca, cl, cg, hxr, hcr, frz_argV, hsc, lp, hf, hf2, lettersS_f, atomS_f, listS_f, goodTS_f]
       | false =>
         rw [if_neg (by decide)]
         simp [ssC, run17, c17, c17_m0, c1, ca, cl, cg, hxr, hcr, frz_argV, hsc, lp, hf, hf2, lettersS_f, atomS_f, listS_f, goodTS_f, Tm.enc]
    ·simp [ssC, run17, c17, c1, hxr, frz_argV, he, lettersS_f, atomS_f, listS_f, goodTS_f, Tm.enc]
   ·cases hv
  ·cases hv
 ·cases hv
end Go.Proofs.YtleeinkdkllcdaaGreatDoor
