import Derived.Test.YtleeinkdkllcdaaGreatDoorAt
import Derived.Test.YtleeinkdkllcdaaGreatDoorMb
set_option linter.unusedVariables false
set_option linter.unusedSimpArgs false
set_option linter.unusedSectionVars false
set_option maxHeartbeats 16000000
set_option maxRecDepth 100000

namespace Go.Proofs.YtleeinkdkllcdaaGreatDoor
open Go Sz
def digitS : KSpec := ⟨79, fun | [.int .u8 c] => some (.bool (decide (48 ≤ c) && decide (c ≤ 57))) | _ => none⟩
theorem digitS_f : digitS.f = 79 := (rfl)
theorem digitS_at (c : UInt8) : digitS.S [.int .u8 c.toNat] = some (.bool (isDig c)) := by
 have e1 : decide (48 ≤ (c.toNat : Int)) = decide (48 ≤ c.toNat) := by
  by_cases h : 48 ≤ c.toNat
  ·rw [decide_eq_true h, decide_eq_true (show (48 : Int) ≤ c.toNat by omega)]
  ·rw [decide_eq_false h, decide_eq_false (show ¬ (48 : Int) ≤ c.toNat by omega)]
 have e2 : decide ((c.toNat : Int) ≤ 57) = decide (c.toNat ≤ 57) := by
  by_cases h : c.toNat ≤ 57
  ·rw [decide_eq_true h, decide_eq_true (show (c.toNat : Int) ≤ 57 by omega)]
  ·rw [decide_eq_false h, decide_eq_false (show ¬ (c.toNat : Int) ≤ 57 by omega)]
 simp only [digitS, isDig, e1, e2]
theorem digitS_ok : KSpecOK Tryz.prog digitS := fun args v hv => by
 unfold digitS at hv ⊢
 dsimp only at hv ⊢
 split at hv
 ·rename_i c
  cases hv
  refine prim_of (n := 4) (h' := h0) (envOf_ok (ss := []) (by simp)) ?_ rfl rfl
  by_cases h : 48 ≤ c
  ·simp [run79, c79, h]
  ·simp [run79, c79, h]
 ·cases hv
theorem dec_step (u : Nat) (h : 10 ≤ u) : Lib.decDigits u = Lib.decDigits (u / 10) ++ [UInt8.ofNat (48 + u % 10)] := by
 rw [Lib.decDigits, dif_neg (by omega)]
theorem dec_small (u : Nat) (h : u < 10) : Lib.decDigits u = [UInt8.ofNat (48 + u)] := by
 rw [Lib.decDigits, dif_pos h]
theorem tdiv_neg (m : Nat) : (-(m : Int)).tdiv 10 = -((m / 10 : Nat) : Int) := by
 rw [Int.neg_tdiv]
 rfl
theorem tmod_neg (m : Nat) : (-(m : Int)).tmod 10 = -((m % 10 : Nat) : Int) := by
 rw [Int.neg_tmod]
 rfl
theorem tdiv_pos (m : Nat) : (m : Int).tdiv 10 = ((m / 10 : Nat) : Int) := rfl
theorem tmod_pos (m : Nat) : (m : Int).tmod 10 = ((m % 10 : Nat) : Int) := rfl
theorem dec_len (u : Nat) (h : u < 10 ^ 19 * 10) : (Lib.decDigits u).length ≤ 20 := by
 have dl : ∀ (k u : Nat), u < 10 ^ (k + 1) → (Lib.decDigits u).length ≤ k + 1 := by
  intro k
  induction k with
  | zero => intro u hu; rw [dec_small u (by omega)]; simp
  | succ k ih =>
    intro u hu
    by_cases h : u < 10
    ·rw [dec_small u h]; simp
    ·rw [dec_step u (by omega)]
     have := ih (u / 10) (by rw [Nat.pow_succ] at hu; omega)
     simp
     omega
 exact dl 19 u (by omega)
def numKS (k : Nat) : KSpec := ⟨72, fun | [.int .i64 n] => if n.natAbs < 10 ^ k ∧ -9223372036854775808 ≤ n ∧ n < 9223372036854775808 then some (.str (itoaK n)) else none | _ => none⟩
theorem numKS_f (k : Nat) : (numKS k).f = 72 := (rfl)
theorem numKS_at (k : Nat) (n : Int) (h : n.natAbs < 10 ^ k ∧ -9223372036854775808 ≤ n ∧ n < 9223372036854775808) : (numKS k).S [.int .i64 n] = some (.str (itoaK n)) := if_pos h
theorem numKS_no (k : Nat) (n : Int) (h : 10 ^ k ≤ n.natAbs) : (numKS k).S [.int .i64 n] = none := if_neg (by omega)
theorem wrap_u8 {x : Int} (h1 : 0 ≤ x) (h2 : x < 256) : IntKind.u8.wrap x = x := by
 unfold IntKind.wrap
 simp [IntKind.signed, IntKind.bits]
 omega
theorem numKS_step (k : Nat) (hp : KSpecOK Tryz.prog (numKS k)) : KSpecOK Tryz.prog (numKS (k + 1)) := fun args v hv => by
 unfold numKS at hv
 dsimp only at hv
 split at hv
 ·rename_i n
  split at hv
  ·rename_i hc
   rcases Nat.lt_or_ge n.natAbs (10 ^ k) with hlt | hge
   ·exact hp _ _ (by rw [numKS_at k n ⟨hlt, hc.2⟩]; exact hv)
   cases hv
   rw [numKS_f]
   have hno := numKS_no k n hge
   obtain ⟨hc1, hc2, hc3⟩ := hc
   refine prim_of (n := 4) (h' := h0) (envOf_ok (ss := [numKS k]) (by simp [hp])) ?_ rfl rfl
   obtain ⟨m, hm⟩ : ∃ m : Nat, n.natAbs = m := ⟨_, rfl⟩
   have p2 : 10 ^ (k + 1) = 10 ^ k * 10 := Nat.pow_succ _ _
   rw [hm] at hc1 hge
   obtain ⟨Q, hQ⟩ : ∃ Q, n.tdiv 10 = Q := ⟨_, rfl⟩
   obtain ⟨R, hR⟩ : ∃ R, n.tmod 10 = R := ⟨_, rfl⟩
   have hdl := dec_len m (by omega)
   rw [itoaK_eq n hc2 hc3]
   unfold Lib.itoa
   by_cases hn : n < 0
   ·have hnm : n = -(m : Int) := by omega
    have d1 := tdiv_neg m
    have d2 := tmod_neg m
    rw [← hnm, hQ] at d1
    rw [← hnm, hR] at d2
    rw [if_pos hn, hm]
    have n1 : (n < 0) = True := eq_true hn
    by_cases h10 : m < 10
    ·have n2 : (-10 < n) = True := eq_true (by omega)
     have w1 : IntKind.i64.wrap (48 - n) = 48 - n := wrap_i64 (by omega) (by omega)
     have w2 : IntKind.u8.wrap (48 - n) = 48 - n := wrap_u8 (by omega) (by omega)
     have w3 : (48 - n).toNat = 48 + m := by omega
     rw [dec_small m h10]
     simp [run72, c72, hno, numKS_f, n1, n2, w1, w2, w3, fillA, putAt, bytesOf]
    ·have n2 : (-10 < n) = False := eq_false (by omega)
     have hs := numKS_at k Q ⟨by omega, by omega, by omega⟩
     rw [itoaK_eq _ (by omega) (by omega)] at hs
     unfold Lib.itoa at hs
     rw [if_pos (by omega), show Q.natAbs = m / 10 by omega] at hs
     have w0 : IntKind.i64.wrap Q = Q := wrap_i64 (by omega) (by omega)
     have w1 : IntKind.i64.wrap (48 - R) = 48 - R := wrap_i64 (by omega) (by omega)
     have w2 : IntKind.u8.wrap (48 - R) = 48 - R := wrap_u8 (by omega) (by omega)
     have w3 : (48 - R).toNat = 48 + m % 10 := by omega
     rw [dec_step m (by omega)] at hdl ⊢
     have hl : (Lib.decDigits (m / 10)).length + 1 + 1 < 9223372036854775808 := by simp at hdl; omega
     generalize Lib.decDigits (m / 10) = D at *
     simp [run72, c72, hno, numKS_f, n1, n2, hQ, hR, w0, w1, w2, w3, hs, hl, fillA, putAt, bytesOf]
   ·have hnm : n = (m : Int) := by omega
    have d1 := tdiv_pos m
    have d2 := tmod_pos m
    rw [← hnm, hQ] at d1
    rw [← hnm, hR] at d2
    rw [if_neg hn, show n.toNat = m by omega]
    have n1 : (n < 0) = False := eq_false hn
    by_cases h10 : m < 10
    ·have n2 : (n < 10) = True := eq_true (by omega)
     have w1 : IntKind.i64.wrap (48 + n) = 48 + n := wrap_i64 (by omega) (by omega)
     have w2 : IntKind.u8.wrap (48 + n) = 48 + n := wrap_u8 (by omega) (by omega)
     have w3 : (48 + n).toNat = 48 + m := by omega
     rw [dec_small m h10]
     simp [run72, c72, hno, numKS_f, n1, n2, w1, w2, w3, fillA, putAt, bytesOf]
    ·have n2 : (n < 10) = False := eq_false (by omega)
     have hs := numKS_at k Q ⟨by omega, by omega, by omega⟩
     rw [itoaK_eq _ (by omega) (by omega)] at hs
     unfold Lib.itoa at hs
     rw [if_neg (by omega), show Q.toNat = m / 10 by omega] at hs
     have w0 : IntKind.i64.wrap Q = Q := wrap_i64 (by omega) (by omega)
     have w1 : IntKind.i64.wrap (48 + R) = 48 + R := wrap_i64 (by omega) (by omega)
     have w2 : IntKind.u8.wrap (48 + R) = 48 + R := wrap_u8 (by omega) (by omega)
     have w3 : (48 + R).toNat = 48 + m % 10 := by omega
     rw [dec_step m (by omega)] at hdl ⊢
     have hl : (Lib.decDigits (m / 10)).length + 1 < 9223372036854775808 := by simp at hdl; omega
     generalize Lib.decDigits (m / 10) = D at *
     simp [run72, c72, hno, numKS_f, n1, n2, hQ, hR, w0, w1, w2, w3, hs, hl, fillA, putAt, bytesOf]
  ·cases hv
 ·cases hv
theorem numKS_zero : KSpecOK Tryz.prog (numKS 0) := fun args v hv => by
 unfold numKS at hv
 dsimp only at hv
 split at hv
 ·rename_i n
  split at hv
  ·rename_i hc
   obtain rfl : n = 0 := by omega
   cases hv
   refine prim_of (n := 4) (h' := h0) (envOf_ok (ss := []) (by simp)) ?_ rfl rfl
   have w1 : IntKind.i64.wrap 48 = 48 := rfl
   have w2 : IntKind.u8.wrap 48 = 48 := rfl
   rw [itoaK_eq 0 (by omega) (by omega)]
   unfold Lib.itoa
   rw [if_neg (by omega), dec_small _ (by decide)]
   simp [run72, c72, w1, w2, fillA, putAt, bytesOf, numKS_f]
  ·cases hv
 ·cases hv
theorem numKS_all : ∀ k, KSpecOK Tryz.prog (numKS k)
 | 0 => numKS_zero
 | k + 1 => numKS_step k (numKS_all k)
def okI (x : Int) : Prop := -9223372036854775808 ≤ x ∧ x < 9223372036854775808
instance (x : Int) : Decidable (okI x) := inferInstanceAs (Decidable (_ ∧ _))
def fitV (x : Int) : Int := if okI x then x else 0
def fitE (x : Int) : Int := if okI x then 0 else 3
def twoS : KSpec := ⟨80, fun | [.str op, .int .i64 a, .int .i64 b] => if okI a ∧ okI b then (if op = [42] ∧ b = 10 then some (.tuple [.int .i64 (fitV (a * 10)), .int .i64 (fitE (a * 10))]) else if op = [43] then some (.tuple [.int .i64 (fitV (a + b)), .int .i64 (fitE (a + b))]) else none) else none | _ => none⟩
theorem twoS_f : twoS.f = 80 := (rfl)
theorem okI_10 : okI 10 := by unfold okI; omega
theorem twoS_mul (a : Int) (h : okI a) : twoS.S [.str [42], .int .i64 a, .int .i64 10] = some (.tuple [.int .i64 (fitV (a * 10)), .int .i64 (fitE (a * 10))]) := by
 simp [twoS, h, okI_10]
theorem twoS_add (a b : Int) (h : okI a) (h2 : okI b) : twoS.S [.str [43], .int .i64 a, .int .i64 b] = some (.tuple [.int .i64 (fitV (a + b)), .int .i64 (fitE (a + b))]) := by
 simp [twoS, h, h2]
theorem wrap_any (x : Int) : okI (IntKind.i64.wrap x) ∧ ∃ k : Int, IntKind.i64.wrap x = x + k * 18446744073709551616 := by
 unfold okI
 rw [IntKind.wrap_i64]
 refine ⟨by omega, -((x + 9223372036854775808) / 18446744073709551616), by omega⟩
theorem tdiv_cases (p : Int) : (0 ≤ p ∧ p.tdiv 10 = p / 10) ∨ (p < 0 ∧ p.tdiv 10 = -((-p) / 10)) := by
 by_cases h : 0 ≤ p
 ·exact .inl ⟨h, Int.tdiv_eq_ediv_of_nonneg h⟩
 ·refine .inr ⟨by omega, ?_⟩
  have := Int.neg_tdiv (-p) 10
  rw [Int.neg_neg] at this
  rw [this, Int.tdiv_eq_ediv_of_nonneg (by omega)]
theorem twoS_ok : KSpecOK Tryz.prog twoS := fun args v hv => by
 unfold twoS at hv ⊢
 dsimp only at hv ⊢
 split at hv
 ·rename_i op a b
  split at hv
  ·rename_i hr
   obtain ⟨ha, hb⟩ := hr
   split at hv
   ·rename_i hop
    obtain ⟨rfl, rfl⟩ := hop
    cases hv
    refine prim_of (n := 5) (h' := h0) (envOf_ok (ss := []) (by simp)) ?_ rfl rfl
    by_cases h0a : a = 0
    ·subst h0a
     simp [run80, c80, fitV, fitE, okI]
    obtain ⟨⟨b1, b2⟩, k, hk⟩ := wrap_any (a * 10)
    obtain ⟨⟨b3, b4⟩, k2, hk2⟩ := wrap_any ((IntKind.i64.wrap (a * 10)).tdiv 10)
    have ht := tdiv_cases (IntKind.i64.wrap (a * 10))
    have w2 : IntKind.i64.wrap ((IntKind.i64.wrap (a * 10)).tdiv 10) = (IntKind.i64.wrap (a * 10)).tdiv 10 := wrap_i64 (by omega) (by omega)
    have hm : a = -1 ∨ a ≠ -1 := by omega
    unfold okI at ha
    by_cases hf : okI (a * 10)
    ·have w1 : IntKind.i64.wrap (a * 10) = a * 10 := wrap_i64 hf.1 hf.2
     rw [w1] at ht w2
     have hq : (a * 10).tdiv 10 = a := by omega
     rw [hq] at w2
     rcases hm with hm | hm
     ·subst hm
      have w3 : IntKind.i64.wrap (-10) = -10 := rfl
      have w4 : (-10 : Int).tdiv 10 = -1 := rfl
      have w5 : IntKind.i64.wrap (-1) = -1 := rfl
      simp [run80, c80, run97, c97, fitV, fitE, okI, w3, w4, w5]
     ·simp [run80, c80, fitV, fitE, h0a, hm, hf, w1, w2, hq]
    ·have hne : ¬ (IntKind.i64.wrap (a * 10)).tdiv 10 = a := fun e => hf (by unfold okI at hf ⊢; omega)
     rcases hm with hm | hm
     ·exact absurd (by rw [hm]; unfold okI; omega) hf
     ·generalize hs : IntKind.i64.wrap (a * 10) = p at *
      simp [run80, c80, fitV, fitE, h0a, hm, hf, hs, w2, hne]
   ·split at hv
    ·rename_i hop
     subst hop
     cases hv
     refine prim_of (n := 5) (h' := h0) (envOf_ok (ss := []) (by simp)) ?_ rfl rfl
     obtain ⟨⟨b1, b2⟩, k, hk⟩ := wrap_any (a + b)
     have hi : okI (a + b) ↔ IntKind.i64.wrap (a + b) = a + b := ⟨fun h => wrap_i64 h.1 h.2, fun h => by rw [← h]; exact ⟨b1, b2⟩⟩
     unfold okI at ha hb
     generalize hs : IntKind.i64.wrap (a + b) = p at *
     by_cases ga : 0 ≤ a
     ·by_cases gb : 0 ≤ b
      ·by_cases hf : okI (a + b)
       ·have e := hi.1 hf
        have c1 : (p < 0) = False := eq_false (by omega)
        have c2 : (a < 0) = False := eq_false (by omega)
        simp [run80, c80, fitV, fitE, hf, ga, gb, hs, c1, c2]
        exact e
       ·have c1 : (p < 0) = True := eq_true (by unfold okI at hf; omega)
        simp [run80, c80, fitV, fitE, hf, ga, gb, hs, c1]
      ·have hf : okI (a + b) := by unfold okI; omega
       obtain rfl := hi.1 hf
       have c2 : (a < 0) = False := eq_false (by omega)
       simp [run80, c80, fitV, fitE, hf, ga, gb, hs, c2]
     ·have c2 : (a < 0) = True := eq_true (by omega)
      by_cases gb : 0 ≤ b
      ·have hf : okI (a + b) := by unfold okI; omega
       obtain rfl := hi.1 hf
       have c3 : (b < 0) = False := eq_false (by omega)
       simp [run80, c80, fitV, fitE, hf, ga, gb, hs, c2, c3]
      ·have c3 : (b < 0) = True := eq_true (by omega)
       by_cases hf : okI (a + b)
       ·have e := hi.1 hf
        have c1 : (0 ≤ p) = False := eq_false (by omega)
        simp [run80, c80, fitV, fitE, hf, ga, gb, hs, c1, c2, c3]
        exact e
       ·have c1 : (0 ≤ p) = True := eq_true (by unfold okI at hf; omega)
        simp [run80, c80, fitV, fitE, hf, ga, gb, hs, c1, c2, c3]
    ·cases hv
  ·cases hv
 ·cases hv
def dgI (neg : Bool) (c : UInt8) : Int := if neg then -((c.toNat : Int) - 48) else (c.toNat : Int) - 48
def runD (neg : Bool) : Int → List UInt8 → Option Int
 | n, [] => some n
 | n, c :: r => if okI (n * 10) ∧ okI (n * 10 + dgI neg c) then runD neg (n * 10 + dgI neg c) r else none
theorem runD_pos : ∀ (l : List UInt8) (v : Nat), allDig l = true → v ≤ 9223372036854775807 → runD false v l = if valD v l ≤ 9223372036854775807 then some (valD v l : Int) else none
 | [], v, _, h => by rw [valD_nil, if_pos h]; rfl
 | c :: r, v, hd, h => by
   simp only [allDig, isDig, Bool.and_eq_true, decide_eq_true_eq] at hd
   have hg := valD_ge r (v * 10 + (c.toNat - 48))
   have e : (v : Int) * 10 + dgI false c = ((v * 10 + (c.toNat - 48) : Nat) : Int) := by unfold dgI; rw [if_neg (by simp)]; omega
   rw [valD_cons]
   unfold runD
   rw [e]
   unfold okI
   by_cases hx : v * 10 + (c.toNat - 48) ≤ 9223372036854775807
   ·rw [if_pos (by omega)]
    exact runD_pos r _ hd.2 hx
   ·rw [if_neg (by omega), if_neg (by omega)]
theorem runD_neg : ∀ (l : List UInt8) (v : Nat), allDig l = true → v ≤ 9223372036854775808 → runD true (-(v : Int)) l = if valD v l ≤ 9223372036854775808 then some (-(valD v l : Int)) else none
 | [], v, _, h => by rw [valD_nil, if_pos h]; rfl
 | c :: r, v, hd, h => by
   simp only [allDig, isDig, Bool.and_eq_true, decide_eq_true_eq] at hd
   have hg := valD_ge r (v * 10 + (c.toNat - 48))
   have e : -(v : Int) * 10 + dgI true c = -((v * 10 + (c.toNat - 48) : Nat) : Int) := by unfold dgI; rw [if_pos rfl]; omega
   rw [valD_cons]
   unfold runD
   rw [e]
   unfold okI
   by_cases hx : v * 10 + (c.toNat - 48) ≤ 9223372036854775808
   ·rw [if_pos (by omega)]
    exact runD_neg r _ hd.2 hx
   ·rw [if_neg (by omega), if_neg (by omega)]
theorem parseU_over (M : Nat) (hM : M ≤ 18446744073709551615) : ∀ (l : List UInt8) (acc : Nat), allDig l = true → acc ≤ M → M < valD acc l → Lib.parseUintM M acc l = .range
 | [], acc, _, h1, h2 => by rw [valD_nil] at h2; omega
 | c :: r, acc, h, h1, hv => by
   simp only [allDig, isDig, Bool.and_eq_true, decide_eq_true_eq] at h
   rw [valD_cons] at hv
   unfold Lib.parseUintM
   rw [if_pos h.1]
   split
   ·rfl
   ·split
    ·rfl
    ·exact parseU_over M hM r _ h.2 (by omega) hv
theorem parse_neg_over (r : List UInt8) (hr : r ≠ []) (hd : allDig r = true) (hv : ¬ valD 0 r ≤ 9223372036854775808) : Lib.parseIntB 64 (45 :: r) = .range := by
 unfold Lib.parseIntB Lib.parseUintB
 simp only [show (45 : UInt8).toNat = 45 from rfl, or_true, if_true, hr, if_false]
 rw [show (2 ^ 64 - 1 : Nat) = 18446744073709551615 by decide]
 by_cases h : valD 0 r ≤ 18446744073709551615
 ·rw [parseU_val 18446744073709551615 (Nat.le_refl _) r 0 hd h]
  simp only [not_true, false_and, if_false, true_and]
  rw [if_pos (by omega)]
 ·rw [parseU_over 18446744073709551615 (Nat.le_refl _) r 0 hd (by omega) (by omega)]
theorem parse_pos_over (s : List UInt8) (hr : s ≠ []) (hd : allDig s = true) (hv : ¬ valD 0 s ≤ 9223372036854775807) : Lib.parseIntB 64 s = .range := by
 cases s with
 | nil => exact absurd rfl hr
 | cons c r =>
   have hc : 48 ≤ c.toNat ∧ c.toNat ≤ 57 := by
    simp only [allDig, isDig, Bool.and_eq_true, decide_eq_true_eq] at hd; exact hd.1
   unfold Lib.parseIntB Lib.parseUintB
   simp only [show (c.toNat = 43) = False from eq_false (by omega), show (c.toNat = 45) = False from eq_false (by omega), or_false, if_false, hr]
   rw [show (2 ^ 64 - 1 : Nat) = 18446744073709551615 by decide]
   by_cases h : valD 0 (c :: r) ≤ 18446744073709551615
   ·rw [parseU_val 18446744073709551615 (Nat.le_refl _) (c :: r) 0 hd h]
    simp only [not_false_iff, true_and, false_and, if_false]
    rw [if_pos (by omega)]
   ·rw [parseU_over 18446744073709551615 (Nat.le_refl _) (c :: r) 0 hd (by omega) (by omega)]
theorem parseT_neg (r : List UInt8) : parseT (45 :: r) = if r = [] then ((0 : Int), (2 : Int)) else if allDig r = false then (0, 2) else match runD true 0 r with | some v => (v, 0) | none => (0, 3) := by
 unfold parseT
 rw [trim_minus]
 dsimp only
 by_cases hr : r = []
 ·rw [if_pos hr, if_pos hr]
 rw [if_neg hr, if_neg hr]
 cases hd : allDig r with
 | false => rfl
 | true =>
   rw [if_neg (by simp), if_neg (by simp)]
   have e := runD_neg r 0 hd (by omega)
   rw [show (-((0 : Nat) : Int)) = 0 by rfl] at e
   rw [e]
   by_cases hv : valD 0 r ≤ 9223372036854775808
   ·rw [if_pos hv, parse_neg r hr hd hv]
   ·rw [if_neg hv, parse_neg_over r hr hd hv]
theorem parseT_pos (c : UInt8) (r : List UInt8) (hc : c ≠ 45) : parseT (c :: r) = if allDig (c :: r) = false then ((0 : Int), (2 : Int)) else match runD false 0 (c :: r) with | some v => (v, 0) | none => (0, 3) := by
 unfold parseT
 rw [trim_other c r hc]
 dsimp only
 rw [if_neg (by simp)]
 cases hd : allDig (c :: r) with
 | false => rfl
 | true =>
   rw [if_neg (by simp), if_neg (by simp)]
   have e := runD_pos (c :: r) 0 hd (by omega)
   rw [show (((0 : Nat) : Int)) = 0 by rfl] at e
   rw [e]
   by_cases hv : valD 0 (c :: r) ≤ 9223372036854775807
   ·rw [if_pos hv, parse_pos (c :: r) (by simp) hd hv]
   ·rw [if_neg hv, parse_pos_over (c :: r) (by simp) hd hv]
def ssP : List KSpec := [digitS, twoS]
theorem ssP_ok : ∀ s ∈ ssP, KSpecOK Tryz.prog s := by simp [ssP, digitS_ok, twoS_ok]
theorem c58_scan (n : Nat) (s : List UInt8) (i : Int) (neg : Bool) (hl : s.length < 1000000000) : ∀ (post pre : List UInt8) (m : Nat), s = pre ++ post → post.length < m →
 aft 0 0 (loopH (evCode (evCall (envOf ssP) (n + 1)) (n + 1) c58_b0) c58_m0 0 m (c58_f0 (.str s) (.int .i64 i) (.bool neg) (.int .i64 pre.length)) ⟨0, [], 0, 0⟩) =
  some (if allDig post then .exit 0 else .ret, if allDig post then FM 75 [(0, .str s), (4, .int .i64 i), (5, .bool neg)] else FM 75 [(2, .int .i64 0), (3, .int .i64 2)], ⟨0, [], 0, 0⟩)
 | [], pre, m + 1, e, _ => by
   simp at e
   subst e
   rw [loopH_succ]
   simp [c58_b0, c58_m0, allDig]
 | c :: post, pre, m + 1, e, hm => by
   have h1 : s[pre.length]? = some c := by rw [e]; simp
   have hpl : pre.length < s.length := by rw [e]; simp
   have h3 : IntKind.i64.wrap ((pre.length : Int) + 1) = (pre.length : Int) + 1 := wrap_i64 (by omega) (by omega)
   have h6 : ((pre.length : Int) < (s.length : Int)) = True := eq_true (by omega)
   have ih := c58_scan n s i neg hl post (pre ++ [c]) m (by simp [e]) (by rw [List.length_cons] at hm; omega)
   simp only [List.length_append, List.length_cons, List.length_nil, Nat.zero_add, Int.natCast_add, Int.natCast_one] at ih
   have hd := digitS_at c
   rw [loopH_succ]
   cases hc : isDig c with
   | false =>
     rw [hc] at hd
     simp [c58_b0, c58_m0, h1, h3, h6, hd, hc, allDig, ssP, digitS_f, twoS_f]
   | true =>
     rw [hc] at hd
     simp only [ssP] at ih
     simp [c58_b0, c58_m0, h1, h3, h6, hd, hc, allDig, ssP, digitS_f, twoS_f]
     exact ih
def exD : Option Int → Ex | some _ => .exit 2 | none => .ret
def frD : Option Int → List AV | some v => FM 75 [(7, .int .i64 v)] | none => FM 75 [(2, .int .i64 0), (3, .int .i64 3)]
theorem okI_zero : okI 0 := by unfold okI; omega
theorem c58_num (n : Nat) (s : List UInt8) (neg : Bool) (hl : s.length < 1000000000) : ∀ (post pre : List UInt8) (v : Int) (m : Nat), s = pre ++ post → allDig post = true → okI v → post.length < m →
 aft 0 0 (loopH (evCode (evCall (envOf ssP) (n + 1)) (n + 1) c58_b1) c58_m1 0 m (c58_f1 (.str s) (.int .i64 pre.length) (.bool neg) (.int .i64 v)) ⟨0, [], 0, 0⟩) =
  some (exD (runD neg v post), frD (runD neg v post), ⟨0, [], 0, 0⟩)
 | [], pre, v, m + 1, e, _, _, _ => by
   simp at e
   subst e
   rw [loopH_succ]
   simp [c58_b1, c58_m1, runD, exD, frD]
 | c :: post, pre, v, m + 1, e, hd, hv, hm => by
   simp only [allDig, isDig, Bool.and_eq_true, decide_eq_true_eq] at hd
   obtain ⟨hc, hd⟩ := hd
   have h1 : s[pre.length]? = some c := by rw [e]; simp
   have hpl : pre.length < s.length := by rw [e]; simp
   have h3 : IntKind.i64.wrap ((pre.length : Int) + 1) = (pre.length : Int) + 1 := wrap_i64 (by omega) (by omega)
   have h6 : ((pre.length : Int) < (s.length : Int)) = True := eq_true (by omega)
   have w1 : IntKind.u8.wrap ((c.toNat : Int) - 48) = (c.toNat : Int) - 48 := wrap_u8 (by omega) (by omega)
   have w2 : IntKind.i64.wrap ((c.toNat : Int) - 48) = (c.toNat : Int) - 48 := wrap_i64 (by omega) (by omega)
   have w3 : IntKind.i64.wrap (0 - ((c.toNat : Int) - 48)) = 0 - ((c.toNat : Int) - 48) := wrap_i64 (by omega) (by omega)
   have q1 := twoS_mul v hv
   have hdd : okI (dgI neg c) := by unfold okI dgI; split <;> omega
   have hfv : okI (fitV (v * 10)) := by
    unfold fitV
    split
    ·assumption
    ·exact okI_zero
   have q2 := twoS_add (fitV (v * 10)) (dgI neg c) hfv hdd
   have hdg : dgI neg c = if neg then 0 - ((c.toNat : Int) - 48) else (c.toNat : Int) - 48 := by unfold dgI; split <;> omega
   unfold runD
   rw [loopH_succ]
   by_cases k1 : okI (v * 10)
   ·have e1 : fitV (v * 10) = v * 10 := if_pos k1
    have e2 : fitE (v * 10) = 0 := if_pos k1
    rw [e1, e2] at q1
    rw [e1] at q2
    by_cases k2 : okI (v * 10 + dgI neg c)
    ·have ih := c58_num n s neg hl post (pre ++ [c]) (v * 10 + dgI neg c) m (by simp [e]) hd k2 (by rw [List.length_cons] at hm; omega)
     simp only [List.length_append, List.length_cons, List.length_nil, Nat.zero_add, Int.natCast_add, Int.natCast_one, ssP] at ih
     rw [if_pos ⟨k1, k2⟩]
     have e3 : fitV (v * 10 + dgI neg c) = v * 10 + dgI neg c := if_pos k2
     have e4 : fitE (v * 10 + dgI neg c) = 0 := if_pos k2
     rw [e3, e4] at q2
     generalize v * 10 + dgI neg c = x at *
     generalize v * 10 = y at *
     generalize dgI neg c = z at *
     cases neg with
     | true =>
       simp only [if_true] at hdg
       subst hdg
       simp [c58_b1, c58_m1, h1, h3, h6, w1, w2, w3, q1, q2, ssP, digitS_f, twoS_f, -Int.zero_sub]
       exact ih
     | false =>
       simp only [Bool.false_eq_true, if_false] at hdg
       subst hdg
       simp [c58_b1, c58_m1, h1, h3, h6, w1, w2, w3, q1, q2, ssP, digitS_f, twoS_f]
       exact ih
    ·rw [if_neg (fun h => k2 h.2)]
     have e4 : fitE (v * 10 + dgI neg c) = 3 := if_neg k2
     rw [e4] at q2
     generalize fitV (v * 10 + dgI neg c) = x at *
     generalize v * 10 = y at *
     generalize dgI neg c = z at *
     cases neg with
     | true =>
       simp only [if_true] at hdg
       subst hdg
       simp [c58_b1, c58_m1, h1, h3, h6, w1, w2, w3, q1, q2, ssP, digitS_f, twoS_f, exD, frD, -Int.zero_sub]
     | false =>
       simp only [Bool.false_eq_true, if_false] at hdg
       subst hdg
       simp [c58_b1, c58_m1, h1, h3, h6, w1, w2, w3, q1, q2, ssP, digitS_f, twoS_f, exD, frD]
   ·rw [if_neg (fun h => k1 h.1)]
    have e2 : fitE (v * 10) = 3 := if_neg k1
    rw [e2] at q1
    generalize fitE (fitV (v * 10) + dgI neg c) = u at *
    generalize fitV (fitV (v * 10) + dgI neg c) = x at *
    generalize fitV (v * 10) = y at *
    generalize dgI neg c = z at *
    cases neg with
    | true =>
      simp only [if_true] at hdg
      subst hdg
      simp [c58_b1, c58_m1, h1, h3, h6, w1, w2, w3, q1, q2, ssP, digitS_f, twoS_f, exD, frD, -Int.zero_sub]
    | false =>
      simp only [Bool.false_eq_true, if_false] at hdg
      subst hdg
      simp [c58_b1, c58_m1, h1, h3, h6, w1, w2, w3, q1, q2, ssP, digitS_f, twoS_f, exD, frD]
def dparseS : KSpec := ⟨58, fun | [.str s] => if s.length < 1000000000 then some (.tuple [.int .i64 (parseT s).1, .int .i64 (parseT s).2]) else none | _ => none⟩
theorem dparseS_f : dparseS.f = 58 := (rfl)
theorem dparseS_at (s : List UInt8) (h : s.length < 1000000000) : dparseS.S [.str s] = some (.tuple [.int .i64 (parseT s).1, .int .i64 (parseT s).2]) := if_pos h
theorem dparseS_ok : KSpecOK Tryz.prog dparseS := fun args v hv => by
 unfold dparseS at hv ⊢
 dsimp only at hv ⊢
 split at hv
 ·rename_i s
  split at hv
  ·rename_i hl
   cases hv
   refine prim_of (n := s.length + 5) (h' := h0) (envOf_ok ssP_ok) ?_ rfl rfl
   cases s with
   | nil =>
     have : parseT [] = (0, 2) := by decide
     rw [this]
     simp [run58, c58, ssP, digitS_f, twoS_f]
   | cons c r =>
     by_cases hc : c = 45
     ·subst hc
      rw [parseT_neg]
      have n1 : ((r.length : Int) + 1 ≤ 1) = (r = []) := propext ⟨fun h => List.eq_nil_of_length_eq_zero (by omega), fun h => by subst h; simp⟩
      have t1 : ((0 : Int) < (r.length : Int) + 1) = True := eq_true (by omega)
      by_cases hr : r = []
      ·subst hr
       simp [run58, c58, ssP, digitS_f, twoS_f]
      ·have sc := c58_scan (r.length + 4) (45 :: r) 1 true hl r [45] (r.length + 5) rfl (by omega)
       have nm := c58_num (r.length + 4) (45 :: r) true hl r [45] 0 (r.length + 5) rfl
       simp only [List.length_cons, List.length_nil, Nat.zero_add, Int.natCast_one, ssP, c58_m0, c58_m1] at sc nm
       rw [if_neg hr]
       cases hd : allDig r with
       | false =>
         rw [hd] at sc
         simp only [Bool.false_eq_true, if_false] at sc
         simp [run58, c58, c58_m0, ssP, digitS_f, twoS_f, n1, t1, hr, sc]
       | true =>
         rw [hd] at sc
         simp only [if_true] at sc
         have nm := nm hd okI_zero (by omega)
         cases hx : runD true 0 r with
         | none =>
           rw [hx] at nm
           simp only [exD, frD] at nm
           simp [run58, c58, c58_m0, c58_m1, ssP, digitS_f, twoS_f, n1, t1, hr, sc, nm]
         | some x =>
           rw [hx] at nm
           simp only [exD, frD] at nm
           simp [run58, c58, c58_m0, c58_m1, ssP, digitS_f, twoS_f, n1, t1, hr, sc, nm]
     ·rw [parseT_pos c r hc]
      have n2 : ((c.toNat : Int) = 45) = False := eq_false fun h => hc (UInt8.toNat_inj.1 (by show c.toNat = 45; omega))
      have n1 : ((r.length : Int) + 1 ≤ 0) = False := eq_false (by omega)
      have t1 : ((0 : Int) < (r.length : Int) + 1) = True := eq_true (by omega)
      have sc := c58_scan (r.length + 4) (c :: r) 0 false hl (c :: r) [] (r.length + 5) rfl (by simp)
      have nm := c58_num (r.length + 4) (c :: r) false hl (c :: r) [] 0 (r.length + 5) rfl
      simp only [List.length_nil, show ((0 : Nat) : Int) = 0 from rfl, ssP, c58_m0, c58_m1] at sc nm
      cases hd : allDig (c :: r) with
      | false =>
        rw [hd] at sc
        simp only [Bool.false_eq_true, if_false] at sc
        simp [run58, c58, c58_m0, ssP, digitS_f, twoS_f, n1, n2, t1, sc]
      | true =>
        rw [hd] at sc
        simp only [if_true] at sc
        have nm := nm hd okI_zero (by simp)
        cases hx : runD false 0 (c :: r) with
        | none =>
          rw [hx] at nm
          simp only [exD, frD] at nm
          simp [run58, c58, c58_m0, c58_m1, ssP, digitS_f, twoS_f, n1, n2, t1, sc, nm]
        | some x =>
          rw [hx] at nm
          simp only [exD, frD] at nm
          simp [run58, c58, c58_m0, c58_m1, ssP, digitS_f, twoS_f, n1, n2, t1, sc, nm]
  ·cases hv
 ·cases hv
theorem oneK_int {t : Tm} (h : oneK t = true) (k : t.kind = 1) : t.args.length = 0 := by
 unfold oneK at h
 rw [if_neg (by omega), if_pos k] at h
 simp at h
 simp [h]
theorem good_one {t : Tm} (h : goodT t = true) : oneK t = true := by
 unfold goodT at h
 rw [Bool.and_eq_true] at h
 have := h.2
 rw [allT_args, Bool.and_eq_true] at this
 exact this.1
theorem num_any (n : Int) (h : -9223372036854775808 ≤ n ∧ n < 9223372036854775808) : (numKS 20).S [.int .i64 n] = some (.str (itoaK n)) := numKS_at 20 n ⟨by omega, h⟩
def dlettersS : KSpec := ⟨53, fun | [v] => (match decTm v with | some t => if t.bulk < 1000000000 ∧ -9223372036854775808 ≤ t.num ∧ t.num < 9223372036854775808 then some (.tuple [.str (lettersT t).1, .int .i64 (lettersT t).2]) else none | none => none) | _ => none⟩
theorem dlettersS_f : dlettersS.f = 53 := (rfl)
theorem dlettersS_at (t : Tm) (h : t.bulk < 1000000000 ∧ -9223372036854775808 ≤ t.num ∧ t.num < 9223372036854775808) : dlettersS.S [t.enc] = some (.tuple [.str (lettersT t).1, .int .i64 (lettersT t).2]) := by
 simp only [dlettersS, decTm_enc, if_pos h]
theorem dlettersS_ok : KSpecOK Tryz.prog dlettersS := fun args v hv => by
 unfold dlettersS at hv ⊢
 dsimp only at hv ⊢
 split at hv
 ·rename_i x
  split at hv
  ·rename_i t ht
   split at hv
   ·rename_i hl
    cases hv
    rw [decTm_eq ht]
    refine prim_of (n := 5) (h' := h0) (envOf_ok (ss := [dgoodS, numKS 20]) (by simp [dgoodS_ok, numKS_all])) ?_ (by simp [AV.refs, AV.refsL]) (by simp [AV.refsL, Tm.enc_refs])
    have c1 := dgoodS_at t hl.1
    have c2 := num_any t.num hl.2
    have hxe := enc_kind t
    have hxr := argV_refs t
    have hxl := argV_lenv t
    have hfz := fun (h : Heap) (n0 d : Nat) => frz_argV h n0 d t
    unfold lettersT
    rw [hxe] at c1 ⊢
    cases hg : goodT t with
    | false =>
      rw [hg] at c1
      simp [run53, c53, c1, hxr, hfz, dgoodS_f, numKS_f]
    | true =>
      rw [hg] at c1
      rw [if_neg (by simp)]
      have h1 := oneK_int (good_one hg)
      by_cases k0 : t.kind = 0
      ·rw [if_pos k0]
       rw [k0] at c1 ⊢
       simp [run53, c53, c1, hxr, hfz, dgoodS_f, numKS_f]
      rw [if_neg k0]
      by_cases k1 : t.kind = 1
      ·rw [if_neg (by simp [h1 k1]), if_pos k1]
       rw [k1] at c1 ⊢
       simp [run53, c53, c1, c2, hxr, hfz, dgoodS_f, numKS_f]
      by_cases ka : t.args.length = 0
      ·rw [if_neg (by simp [ka])]
       have l1 : (0 < t.args.length) = False := eq_false (by omega)
       rw [if_neg k1]
       simp [run53, c53, c1, hxr, hxl, hfz, dgoodS_f, numKS_f, k0, k1, l1]
      ·rw [if_pos ka]
       have l1 : ((0 : Int) < (t.args.length : Int)) = True := eq_true (by omega)
       have l2 : (0 < t.args.length) = True := eq_true (by omega)
       simp [run53, c53, c1, hxr, hxl, hfz, dgoodS_f, numKS_f, k0, k1, l1, l2]
   ·cases hv
  ·cases hv
 ·cases hv
def dlengthS : KSpec := ⟨29, fun | [v] => (match decTm v with | some t => if t.bulk < 1000000000 ∧ -9223372036854775808 ≤ t.num ∧ t.num < 9223372036854775808 then some (.tuple [.int .i64 ((lettersT t).1.length : Nat), .int .i64 (lettersT t).2]) else none | none => none) | _ => none⟩
theorem dlengthS_f : dlengthS.f = 29 := (rfl)
theorem dlengthS_at (t : Tm) (h : t.bulk < 1000000000 ∧ -9223372036854775808 ≤ t.num ∧ t.num < 9223372036854775808) : dlengthS.S [t.enc] = some (.tuple [.int .i64 ((lettersT t).1.length : Nat), .int .i64 (lettersT t).2]) := by
 simp only [dlengthS, decTm_enc, if_pos h]
theorem dlengthS_ok : KSpecOK Tryz.prog dlengthS := fun args v hv => by
 unfold dlengthS at hv ⊢
 dsimp only at hv ⊢
 split at hv
 ·rename_i x
  split at hv
  ·rename_i t ht
   split at hv
   ·rename_i hl
    cases hv
    rw [decTm_eq ht]
    refine prim_of (n := 5) (h' := h0) (envOf_ok (ss := [dlettersS]) (by simp [dlettersS_ok])) ?_ (by simp [AV.refs, AV.refsL]) (by simp [AV.refsL, Tm.enc_refs])
    have c1 := dlettersS_at t hl
    have hxe := Tm.enc_eq t
    have hcl := Tm.cells_is t
    have hxr := argV_refs t
    have hlen := lettersT_len t hl.2
    generalize lettersT t = p at c1 hlen
    obtain ⟨s, e⟩ := p
    dsimp only at c1 hlen ⊢
    rw [hxe, hcl] at c1 ⊢
    simp [run29, c29, c1, hxr, frz_argV, dlettersS_f]
   ·cases hv
  ·cases hv
 ·cases hv
theorem c30_loop (C : Nat → List AV → Heap → Option (AV × Heap)) (n : Nat) (s : List UInt8) (hl : s.length < 1000000100) (A B : AObj) (hC : ∀ (c : UInt8) (h : Heap), C 54 [.str [c]] h = some ((atom1 c).enc, h)) : ∀ (post pre : List UInt8) (m : Nat), s = pre ++ post → pre ≠ [] → post.length < m →
 aft 2 0 (loopH (evCode C n c30_b0) c30_m0 2 m (c30_f0 (.ptr 1 0) (.str s) (.vec 2 0 pre.length 4 pre.length) (.int .i64 pre.length)) ⟨3, [.row (flatT (pre.map atom1)), A, B], 2, 0⟩) =
  some (.exit 0, FM 41 [(2, .ptr 1 0), (6, .vec 2 0 s.length 4 s.length)], ⟨3, [.row (flatT (s.map atom1)), A, B], 0, 0⟩)
 | [], pre, m + 1, e, _, _ => by
   simp at e
   subst e
   have hf := flatT_refs (s.map atom1)
   rw [loopH_succ]
   simp [c30_b0, c30_m0, hf]
 | c :: post, pre, m + 1, e, hne, hm => by
   have ih := c30_loop C n s hl A B hC post (pre ++ [c]) m (by simp [e]) (by simp) (by rw [List.length_cons] at hm; omega)
   have hpl : pre.length < s.length := by rw [e]; simp
   have h1 : (s.take (pre.length + 1)).drop pre.length = [c] := by rw [List.drop_take, show pre.length + 1 - pre.length = 1 by omega, e, List.drop_left]; rfl
   have hsl := sliceB_one hpl
   have h3 : IntKind.i64.wrap ((pre.length : Int) + 1) = (pre.length : Int) + 1 := by
    rw [wrap_succ (by omega)]; simp
   have h6 : ((pre.length : Int) < (s.length : Int)) = True := eq_true (by omega)
   have hca : (atom1 c).enc = .agg [.int .i64 2, .int .i64 0, .str [c], .nils] := rfl
   have hf := flatT_refs (pre.map atom1)
   have hf2 : AV.refsL (flatT (pre.map atom1) ++ [.int .i64 2, .int .i64 0, .str [c], .nils]) = 0 := by
    have := flatT_refs ((pre ++ [c]).map atom1)
    simpa [flatT, Tm.cells, atom1, Tm.kind, Tm.num, Tm.name, Tm.argV] using this
   have h8 : (pre.length + 1) * 56 ≤ 140737488355328 := by omega
   have h9 : pre.length + 1 < 9223372036854775808 := by omega
   have h11 : (flatT (pre.map atom1)).length = pre.length * 4 := by rw [flatT_len]; simp
   have h10 : (flatT (pre.map atom1)).take (pre.length * 4) = flatT (pre.map atom1) := by rw [List.take_of_length_le]; omega
   simp only [List.map_append, List.map_cons, List.map_nil, List.length_append, List.length_cons, List.length_nil, Nat.zero_add, flatT_snoc, Int.natCast_add, Int.natCast_one] at ih
   have hcc : (atom1 c).cells = [.int .i64 2, .int .i64 0, .str [c], .nils] := rfl
   rw [hcc] at ih
   rw [loopH_succ]
   simp [c30_b0, c30_m0, h1, h3, h6, hC, hca, hf, hf2, h8, h9, h10, h11, hsl, elemsA]
   exact ih
theorem c30_loop0 (C : Nat → List AV → Heap → Option (AV × Heap)) (n : Nat) (c : UInt8) (r : List UInt8) (hl : r.length < 1000000099) (A B : AObj) (hC : ∀ (c : UInt8) (h : Heap), C 54 [.str [c]] h = some ((atom1 c).enc, h)) (m : Nat) (hm : r.length < m) :
 aft 2 0 (loopH (evCode C n c30_b0) c30_m0 2 (m + 1) (c30_f0 (.ptr 1 0) (.str (c :: r)) .nils (.int .i64 0)) ⟨2, [A, B], 2, 0⟩) =
  some (.exit 0, FM 41 [(2, .ptr 1 0), (6, .vec 2 0 (r.length + 1) 4 (r.length + 1))], ⟨3, [.row (flatT ((c :: r).map atom1)), A, B], 0, 0⟩) := by
 have ih := c30_loop C n (c :: r) (by simp; omega) A B hC r [c] m rfl (by simp) hm
 have hs1 : sliceB (r.length + 1) (some (.int .i64 0)) (some (.int .i64 1)) = some (0, 1) := by
  have := sliceB_one (n := r.length + 1) (i := 0) (by omega)
  simpa using this
 have hw1 : IntKind.i64.wrap 1 = 1 := by decide
 have hla : (0 < r.length + 1) = True := eq_true (by omega)
 have hlb : ((0 : Int) < (r.length : Int) + 1) = True := eq_true (by omega)
 have hfl : flatT ([c].map atom1) = [.int .i64 2, .int .i64 0, .str [c], .nils] := rfl
 have hca : (atom1 c).enc = .agg [.int .i64 2, .int .i64 0, .str [c], .nils] := rfl
 rw [hfl] at ih
 simp only [List.length_cons, List.length_nil, Nat.zero_add, Int.natCast_add, Int.natCast_one] at ih
 rw [loopH_succ]
 simp [c30_b0, c30_m0, hC, hca, hs1, hw1, hla, hlb, elemsA]
 exact ih
def dcharsS : KSpec := ⟨30, fun | [v] => (match decTm v with | some t => if t.bulk < 100000000 ∧ -9223372036854775808 ≤ t.num ∧ t.num < 9223372036854775808 then some (.tuple [(charsE t).1.enc, .int .i64 (charsE t).2]) else none | none => none) | _ => none⟩
theorem dcharsS_f : dcharsS.f = 30 := (rfl)
theorem dcharsS_at (t : Tm) (h : t.bulk < 100000000 ∧ -9223372036854775808 ≤ t.num ∧ t.num < 9223372036854775808) : dcharsS.S [t.enc] = some (.tuple [(charsE t).1.enc, .int .i64 (charsE t).2]) := by
 simp only [dcharsS, decTm_enc, if_pos h]
def ssDC : List KSpec := [dlettersS, atomDS, dlistS, dgoodS]
theorem ssDC_ok : ∀ s ∈ ssDC, KSpecOK Tryz.prog s := by simp [ssDC, dlettersS_ok, atomDS_ok, dlistS_ok, dgoodS_ok]
theorem atom_callD (n : Nat) (c : UInt8) (h : Heap) : evCall (envOf ssDC) (n + 1) 54 [.str [c]] h = some ((atom1 c).enc, h) := by
 have := atomDS_at [c]
 simp [ssDC, dlettersS_f, atomDS_f, dlistS_f, dgoodS_f, this, atom1, Tm.enc]
theorem dcharsS_ok : KSpecOK Tryz.prog dcharsS := fun args v hv => by
 unfold dcharsS at hv ⊢
 dsimp only at hv ⊢
 split at hv
 ·rename_i x
  split at hv
  ·rename_i t ht
   split at hv
   ·rename_i hl
    cases hv
    rw [decTm_eq ht]
    have hlen := lettersT_len t hl.2
    refine prim_of (n := (lettersT t).1.length + 5) (h' := h0) (envOf_ok ssDC_ok) ?_ (by simp [AV.refs, AV.refsL, Tm.enc_refs]) (by simp [AV.refsL, Tm.enc_refs])
    have c1 := dlettersS_at t ⟨by omega, hl.2⟩
    have hxe := Tm.enc_eq t
    have hcl := Tm.cells_is t
    have hxr := argV_refs t
    unfold charsE
    generalize lettersT t = p at c1 hlen
    obtain ⟨s, e⟩ := p
    dsimp only at c1 hlen ⊢
    rw [hxe, hcl] at c1 ⊢
    have ca := atomDS_at [91, 93]
    have cl := dlistS_at (s.map atom1) nilT (by rw [List.length_map]; omega)
    have cg := dgoodS_at (charsT s) (by rw [bulk_chars]; omega)
    have hce : (charsT s).enc = .agg (charsT s).cells := Tm.enc_eq _
    have hcc : (charsT s).cells = [.int .i64 (charsT s).kind, .int .i64 (charsT s).num, .str (charsT s).name, (charsT s).argV] := rfl
    have hcr := argV_refs (charsT s)
    by_cases he : e = 0
    ·subst he
     cases s with
     | nil =>
       have cl := dlistS_nils nilT
       rw [nilT_cells] at cl
       have cg : dgoodS.S [.agg [.int .i64 2, .int .i64 0, .str [91, 93], .nils]] = some (.bool true) := by
        have := dgoodS_at nilT (by decide)
        rw [nilT_cells] at this
        rw [this]
        rfl
       have hgt : goodT (charsT []) = true := by rw [good_chars]; rfl
       have hct : (charsT []).enc = .agg [.int .i64 2, .int .i64 0, .str [91, 93], .nils] := rfl
       rw [if_neg (show ¬ ((0 : Int) ≠ 0) by decide), if_pos hgt]
       dsimp only
       rw [hct]
       simp [ssDC, run30, c30, c30_m0, c30_b0, loopH_succ, c1, ca, cl, cg, hxr, frz_argV, dlettersS_f, atomDS_f, dlistS_f, dgoodS_f]
     | cons c r =>
       have lp := c30_loop0 (evCall (envOf ssDC) (r.length + 5)) (r.length + 5) c r (by simp at hlen; omega) (.row [.int .i64 0, .int .i64 0, .str [], .nils]) (.row [.int .i64 t.kind, .int .i64 t.num, .str t.name, t.argV]) (atom_callD (r.length + 4)) (r.length + 4) (by omega)
       have hf2 := flatT_refs ((c :: r).map atom1)
       have hf : ∀ (A B : AObj) (wl md d : Nat), frz ⟨3, [.row (flatT ((c :: r).map atom1)), A, B], wl, md⟩ 0 (d + 2) (.vec 2 0 (r.length + 1) 4 (r.length + 1)) = some (.sl (((c :: r).map atom1).map Tm.enc), [2]) := fun A B wl md d => by
        have := frz_T (h := ⟨3, [.row (flatT ((c :: r).map atom1)), A, B], wl, md⟩) (n0 := 0) (d := d) (id := 2) (atom1 c) (r.map atom1) (by omega) rfl
        simpa using this
       generalize hg : goodT (charsT (c :: r)) = g at cg ⊢
       simp only [List.map_cons] at cl hf hf2 lp
       rw [nilT_cells] at cl
       have hcs : listT (atom1 c :: r.map atom1) nilT = charsT (c :: r) := rfl
       rw [hcs] at cl
       have hsc : scal1 (charsT (c :: r)).argV = false := rfl
       generalize charsT (c :: r) = ch at cl cg hce hcc hcr hsc ⊢
       simp only [ssDC, c30_m0, List.length_cons, List.length_nil, Nat.zero_add, Int.natCast_add, Int.natCast_one] at lp
       rw [hce, hcc] at cl cg
       simp only [List.map_map] at cl
       rw [if_neg (show ¬ ((0 : Int) ≠ 0) by decide)]
       cases g with
       | true =>
         rw [if_pos rfl]
         dsimp only
         rw [hce, hcc]
         simp [ssDC, run30, c30, c30_m0, c1, ca, cl, cg, hxr, hcr, frz_argV, hsc, lp, hf, hf2, dlettersS_f, atomDS_f, dlistS_f, dgoodS_f]
       | false =>
         rw [if_neg (by decide)]
         simp [ssDC, run30, c30, c30_m0, c1, ca, cl, cg, hxr, hcr, frz_argV, hsc, lp, hf, hf2, dlettersS_f, atomDS_f, dlistS_f, dgoodS_f, Tm.enc]
    ·simp [ssDC, run30, c30, c1, hxr, frz_argV, he, dlettersS_f, atomDS_f, dlistS_f, dgoodS_f, Tm.enc]
   ·cases hv
  ·cases hv
 ·cases hv
def djoinedT (l : Tm) : List UInt8 × Int :=
 if goodT l then (if (joinL (itemsT l).1 []).2 = 0 then ((joinL (itemsT l).1 []).1, tailE (itemsT l).2) else ([], (joinL (itemsT l).1 []).2)) else ([], 1)
theorem djoined_err (l : Tm) : (djoinedT l).2 = (joinedT l).2 ∧ ((joinedT l).2 = 0 → (djoinedT l).1 = (joinedT l).1) := by
 unfold djoinedT joinedT
 by_cases h : goodT l = true
 ·rw [if_pos h, if_pos h]
  by_cases h1 : (joinL (itemsT l).1 []).2 = 0
  ·rw [if_pos h1, if_pos h1]
   by_cases h2 : tailE (itemsT l).2 = 0
   ·rw [if_pos h2, h2]; exact ⟨rfl, fun _ => rfl⟩
   ·rw [if_neg h2]; exact ⟨rfl, fun h => absurd h h2⟩
  ·rw [if_neg h1, if_neg h1]; exact ⟨rfl, fun _ => rfl⟩
 ·rw [if_neg h, if_neg h]; exact ⟨rfl, fun _ => rfl⟩
theorem allL_mem {p : Tm → Bool} : ∀ {us : List Tm}, Tm.allL p us = true → ∀ x ∈ us, x.allT p = true
 | y :: r, h, x, hx => by
   simp only [Tm.allL, Bool.and_eq_true] at h
   rcases List.mem_cons.1 hx with rfl | hx
   ·exact h.1
   ·exact allL_mem h.2 x hx
theorem c57_loop (C : Nat → List AV → Heap → Option (AV × Heap)) (n : Nat) (us : List Tm) (hl : us.length < 1000000000) (hk : ∀ x ∈ us, oneK x = true) (T A : AObj) : ∀ (post pre : List Tm) (s : List UInt8) (m : Nat), us = pre ++ post → s.length ≤ pre.length → post.length < m →
 ∃ md, aft 2 0 (loopH (evCode C n c57_b0) c57_m0 2 m (c57_f0 (.sl (us.map Tm.enc)) (.ptr 1 0) (.str s) (.int .i64 pre.length)) ⟨2, [T, A], 2, 0⟩) =
   some (if (joinL post s).2 = 0 then .exit 0 else .ret, if (joinL post s).2 = 0 then FM 62 [(5, .ptr 1 0), (6, .str (joinL post s).1)] else FM 62 [(2, .str []), (3, .int .i64 (joinL post s).2)], ⟨2, [T, A], 0, md⟩)
 | [], pre, s, m + 1, e, hs, _ => by
   simp at e
   subst e
   have h5 : AV.refsL (us.map Tm.enc) = 0 := encs_refs _
   exact ⟨0, by simp [joinL, loopH_succ, c57_b0, h5]⟩
 | x :: post, pre, s, m + 1, e, hs, hm => by
   have h1 : us[pre.length]? = some x := by rw [e]; simp
   have hpl : pre.length < us.length := by rw [e]; simp
   have h3 : IntKind.i64.wrap ((pre.length : Int) + 1) = (pre.length : Int) + 1 := wrap_i64 (by omega) (by omega)
   have h5 : AV.refsL (us.map Tm.enc) = 0 := encs_refs _
   have h6 : ((pre.length : Int) < (us.length : Int)) = True := eq_true (by omega)
   have hxe := enc_kind x
   have hxr := argV_refs x
   have hxl := argV_lenv x
   have hone := hk x (by rw [e]; simp)
   rw [loopH_succ]
   by_cases k0 : x.kind = 0
   ·have hj : joinL (x :: post) s = ([], 6) := by simp [joinL, stepE, k0]
    rw [hj]
    exact ⟨0, by simp [c57_b0, c57_m0, h1, h3, h5, h6, hxe, hxr, k0]⟩
   by_cases k1 : x.kind = 1
   ·have hj : joinL (x :: post) s = ([], 5) := by simp [joinL, stepE, k1]
    rw [hj]
    exact ⟨0, by simp [c57_b0, c57_m0, h1, h3, h5, h6, hxe, hxr, k1]⟩
   have k2 : x.kind = 2 := (oneK_kind hone).elim (fun h => absurd h k0) fun h => h.elim (fun h => absurd h k1) id
   by_cases ka : x.args.length = 0
   ·have l1 : (0 < x.args.length) = False := eq_false (by omega)
    by_cases kn : x.name.length = 1
    ·have hj : joinL (x :: post) s = joinL post (s ++ x.name) := by simp [joinL, stepE, k0, k1, ka, kn]
     rw [hj]
     obtain ⟨md, ih⟩ := c57_loop C n us hl hk T A post (pre ++ [x]) (s ++ x.name) m (by simp [e]) (by simp; omega) (by rw [List.length_cons] at hm; omega)
     refine ⟨md, ?_⟩
     simp only [List.length_append, List.length_cons, List.length_nil, Nat.zero_add, Int.natCast_add, Int.natCast_one] at ih
     have hb : s.length + 1 < 9223372036854775808 := by omega
     have hn : ((x.name.length : Int) = 1) = True := eq_true (by omega)
     simp [c57_b0, c57_m0, h1, h3, h5, h6, hxe, hxr, hxl, k2, l1, hn, kn, hb]
     exact ih
    ·have hj : joinL (x :: post) s = ([], 5) := by simp [joinL, stepE, k0, k1, ka, kn]
     rw [hj]
     have hn : ((x.name.length : Int) = 1) = False := eq_false (by omega)
     exact ⟨0, by simp [c57_b0, c57_m0, h1, h3, h5, h6, hxe, hxr, hxl, k2, l1, hn, kn]⟩
   ·have hj : joinL (x :: post) s = ([], 5) := by simp [joinL, stepE, k0, k1, ka]
    rw [hj]
    have l1 : (0 < x.args.length) = True := eq_true (by omega)
    exact ⟨0, by simp [c57_b0, c57_m0, h1, h3, h5, h6, hxe, hxr, hxl, k2, l1]⟩
def djoinedS : KSpec := ⟨57, fun | [v] => (match decTm v with | some t => if t.bulk < 1000000000 then some (.tuple [.str (djoinedT t).1, .int .i64 (djoinedT t).2]) else none | none => none) | _ => none⟩
theorem djoinedS_f : djoinedS.f = 57 := (rfl)
theorem djoinedS_at (t : Tm) (h : t.bulk < 1000000000) : djoinedS.S [t.enc] = some (.tuple [.str (djoinedT t).1, .int .i64 (djoinedT t).2]) := by
 simp only [djoinedS, decTm_enc, if_pos h]
theorem djoinedS_ok : KSpecOK Tryz.prog djoinedS := fun args v hv => by
 unfold djoinedS at hv ⊢
 dsimp only at hv ⊢
 split at hv
 ·rename_i x
  split at hv
  ·rename_i t ht
   split at hv
   ·rename_i hl
    cases hv
    rw [decTm_eq ht]
    refine prim_of (n := t.size + 5) (h' := h0) (envOf_ok (ss := [dgoodS, ditemsS, endS]) (by simp [dgoodS_ok, ditemsS_ok, endS_ok])) ?_ (by simp [AV.refs, AV.refsL]) (by simp [AV.refsL, Tm.enc_refs])
    have hsb := size_bulk t
    have c1 := dgoodS_at t (by omega)
    have c2 := ditemsS_at t (by omega)
    have hil := items_len t.size t (Nat.le_refl _)
    have hxe := enc_kind t
    have hxr := argV_refs t
    have hfz := fun (h : Heap) (n0 d : Nat) => frz_argV h n0 d t
    unfold djoinedT
    rw [hxe] at c1 c2 ⊢
    cases hg : goodT t with
    | false =>
      rw [hg] at c1
      simp [run57, c57, c1, hxr, hfz, dgoodS_f, ditemsS_f, endS_f]
    | true =>
      rw [hg] at c1
      simp only [if_true]
      have hall : t.allT oneK = true := by
       have := hg
       unfold goodT at this
       rw [Bool.and_eq_true] at this
       exact this.2
      have ht2 := items_tail t.size t (Nat.le_refl _) hall
      generalize itemsT t = p at c2 hil ht2
      obtain ⟨us, tl⟩ := p
      dsimp only at c2 hil ht2 ⊢
      have hone : oneK tl = true := by
       have := ht2.1
       rw [allT_args, Bool.and_eq_true] at this
       exact this.1
      have hmem : ∀ x ∈ us, oneK x = true := fun x hx => by
       have := allL_mem ht2.2 x hx
       rw [allT_args, Bool.and_eq_true] at this
       exact this.1
      have htl := enc_kind tl
      have htr := argV_refs tl
      have htz := fun (h : Heap) (n0 d : Nat) => frz_argV h n0 d tl
      have c3 := endS_at tl
      rw [endD_tail hone] at c3
      generalize tailE tl = te at *
      rw [htl] at c2 c3
      cases us with
      | nil =>
        have he : (joinL [] []) = ([], 0) := rfl
        simp only [slT] at c2
        simp [run57, c57, c57_m0, c57_b0, loopH_succ, c1, c2, c3, hxr, htr, hfz, htz, dgoodS_f, ditemsS_f, endS_f, he]
      | cons y r =>
        obtain ⟨md, eq⟩ := c57_loop (evCall (envOf [dgoodS, ditemsS, endS]) (t.size + 4)) (t.size + 4) (y :: r) (by omega) hmem (.row tl.cells) (.row t.cells) (y :: r) [] [] (t.size + 4) rfl (by simp) (by omega)
        have h5 := encs_refs (y :: r)
        simp only [slT] at c2
        simp only [c57_m0, List.length_nil, show ((0 : Nat) : Int) = 0 from rfl, List.length_cons, Tm.cells] at eq
        generalize joinL (y :: r) [] = q at eq
        obtain ⟨q1, q2⟩ := q
        dsimp only at eq
        generalize (y :: r).map Tm.enc = E at eq h5 c2
        by_cases he : q2 = 0
        ·subst he
         simp only [if_true] at eq
         simp [run57, c57, c57_m0, c1, c2, c3, hxr, htr, h5, hfz, htz, dgoodS_f, ditemsS_f, endS_f, eq]
        ·simp only [if_neg he] at eq
         simp [run57, c57, c57_m0, c1, c2, c3, hxr, htr, h5, hfz, htz, dgoodS_f, ditemsS_f, endS_f, eq, he]
   ·cases hv
  ·cases hv
 ·cases hv
def dnameS : KSpec := ⟨31, fun | [v] => (match decTm v with | some t => if t.bulk < 1000000000 then some (.tuple [(nameT t).1.enc, .int .i64 (nameT t).2]) else none | none => none) | _ => none⟩
theorem dnameS_f : dnameS.f = 31 := (rfl)
theorem dnameS_at (t : Tm) (h : t.bulk < 1000000000) : dnameS.S [t.enc] = some (.tuple [(nameT t).1.enc, .int .i64 (nameT t).2]) := by
 simp only [dnameS, decTm_enc, if_pos h]
theorem dnameS_ok : KSpecOK Tryz.prog dnameS := fun args v hv => by
 unfold dnameS at hv ⊢
 dsimp only at hv ⊢
 split at hv
 ·rename_i x
  split at hv
  ·rename_i t ht
   split at hv
   ·rename_i hl
    cases hv
    rw [decTm_eq ht]
    refine prim_of (n := 5) (h' := h0) (envOf_ok (ss := [djoinedS, atomDS]) (by simp [djoinedS_ok, atomDS_ok])) ?_ (by simp [AV.refs, AV.refsL, Tm.enc_refs]) (by simp [AV.refsL, Tm.enc_refs])
    have c1 := djoinedS_at t hl
    have hxe := enc_kind t
    have hxr := argV_refs t
    have hfz := fun (h : Heap) (n0 d : Nat) => frz_argV h n0 d t
    obtain ⟨d1, d2⟩ := djoined_err t
    unfold nameT
    generalize joinedT t = p at d1 d2
    generalize djoinedT t = p' at c1 d1 d2
    obtain ⟨s, e⟩ := p
    obtain ⟨s', e'⟩ := p'
    dsimp only at c1 d1 d2 ⊢
    subst d1
    rw [hxe] at c1 ⊢
    by_cases he : e' = 0
    ·subst he
     obtain rfl := d2 rfl
     have c2 := atomDS_at s'
     by_cases hs : 64 < s'.length
     ·have h1 : ((64 : Int) < (s'.length : Int)) = True := eq_true (by omega)
      simp [run31, c31, c1, hxr, hfz, h1, hs, djoinedS_f, atomDS_f, Tm.enc]
     ·have h1 : ((64 : Int) < (s'.length : Int)) = False := eq_false (by omega)
      simp [run31, c31, c1, c2, hxr, hfz, h1, hs, djoinedS_f, atomDS_f, Tm.enc]
    ·simp [run31, c31, c1, hxr, hfz, he, djoinedS_f, atomDS_f, Tm.enc]
   ·cases hv
  ·cases hv
 ·cases hv
theorem items_depth : ∀ (k : Nat) (t : Tm), t.size ≤ k → (itemsT t).1.length < t.depth
 | 0, t, h => by have := size_args t; omega
 | k + 1, t, h => by
   cases hd : isDot t with
   | false =>
     rw [items_end hd]
     cases t with
     | nl k n s => simp [Tm.depth]
     | mk k n s us => simp only [List.length_nil, Tm.depth]; omega
   | true =>
     obtain ⟨x, r, ha, e⟩ := items_isDot hd
     have hs := size_args t
     rw [ha] at hs
     simp only [Tm.sizeL] at hs
     have ih := items_depth k r (by omega)
     rw [e]
     cases t with
     | nl kk nn ss => cases ha
     | mk kk nn ss us =>
       simp only [Tm.args] at ha
       subst ha
       simp only [Tm.depth, Tm.depthL, List.length_cons]
       omega
theorem joined_small (t : Tm) : (joinedT t).1.length ≤ 64 := by
 unfold joinedT
 split
 ·rename_i hg
  split
  ·split
   ·have h1 := joinL_len (itemsT t).1 []
    have h2 := items_depth t.size t (Nat.le_refl _)
    unfold goodT at hg
    rw [Bool.and_eq_true, Bool.and_eq_true] at hg
    have h3 := of_decide_eq_true hg.1.2
    simp at h1
    show (joinL (itemsT t).1 []).1.length ≤ 64
    omega
   ·simp
  ·simp
 ·simp
def dnumberS : KSpec := ⟨32, fun | [v] => (match decTm v with | some t => if t.bulk < 1000000000 then some (.tuple [(numberT t).1.enc, .int .i64 (numberT t).2]) else none | none => none) | _ => none⟩
theorem dnumberS_f : dnumberS.f = 32 := (rfl)
theorem dnumberS_at (t : Tm) (h : t.bulk < 1000000000) : dnumberS.S [t.enc] = some (.tuple [(numberT t).1.enc, .int .i64 (numberT t).2]) := by
 simp only [dnumberS, decTm_enc, if_pos h]
theorem dnumberS_ok : KSpecOK Tryz.prog dnumberS := fun args v hv => by
 unfold dnumberS at hv ⊢
 dsimp only at hv ⊢
 split at hv
 ·rename_i x
  split at hv
  ·rename_i t ht
   split at hv
   ·rename_i hl
    cases hv
    rw [decTm_eq ht]
    refine prim_of (n := 5) (h' := h0) (envOf_ok (ss := [djoinedS, dparseS]) (by simp [djoinedS_ok, dparseS_ok])) ?_ (by simp [AV.refs, AV.refsL, Tm.enc_refs]) (by simp [AV.refsL, Tm.enc_refs])
    have c1 := djoinedS_at t hl
    have hxe := enc_kind t
    have hxr := argV_refs t
    have hfz := fun (h : Heap) (n0 d : Nat) => frz_argV h n0 d t
    obtain ⟨d1, d2⟩ := djoined_err t
    have hjs := joined_small t
    unfold numberT
    generalize joinedT t = p at d1 d2 hjs
    generalize djoinedT t = p' at c1 d1 d2
    obtain ⟨s, e⟩ := p
    obtain ⟨s', e'⟩ := p'
    dsimp only at c1 d1 d2 hjs ⊢
    subst d1
    rw [hxe] at c1 ⊢
    by_cases he : e' = 0
    ·subst he
     obtain rfl := d2 rfl
     have h1 : ((64 : Int) < (s'.length : Int)) = False := eq_false (by omega)
     have c2 := dparseS_at s' (by omega)
     generalize parseT s' = q at c2
     obtain ⟨n, f⟩ := q
     dsimp only at c2 ⊢
     by_cases hf : f = 0
     ·subst hf
      simp [run32, c32, c1, c2, hxr, hfz, h1, djoinedS_f, dparseS_f, Tm.enc]
     ·simp [run32, c32, c1, c2, hxr, hfz, h1, hf, djoinedS_f, dparseS_f, Tm.enc]
    ·simp [run32, c32, c1, hxr, hfz, he, djoinedS_f, dparseS_f, Tm.enc]
   ·cases hv
  ·cases hv
 ·cases hv
end Go.Proofs.YtleeinkdkllcdaaGreatDoor
