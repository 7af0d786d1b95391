import Derived.Test.YtleeinkdkllcdaaGreatDoorAt
import Derived.Test.YtleeinkdkllcdaaGreatDoorTx
set_option linter.unusedVariables false
set_option linter.unusedSimpArgs false
set_option linter.unusedSectionVars false
set_option maxHeartbeats 16000000
set_option maxRecDepth 100000

namespace Go.Proofs.YtleeinkdkllcdaaGreatDoor
open Go Sz
theorem enc_kind (x : Tm) : x.enc = .agg [.int .i64 x.kind, .int .i64 x.num, .str x.name, x.argV] := x.enc_eq
theorem argV_lenv (t : Tm) (fr : List AV) (h : Heap) (o : Opd) (ho : o.ev fr = t.argV) : evOp fr h (.lenv o) = some (.int .i64 t.args.length, h) := by
 rw [evOp_lenv, ho]
 cases t with
 | nl k n s => rfl
 | mk k n s us => simp [Tm.argV, Tm.args]
def isK (t : Tm) (s : List UInt8) (n : Int) : Bool := decide (t.kind = 2) && (t.name == s) && decide ((t.args.length : Int) = n)
def isS : KSpec := ⟨96, fun | [v, .str s, .int .i64 n] => (decTm v).map fun t => .bool (isK t s n) | _ => none⟩
theorem isS_f : isS.f = 96 := (rfl)
theorem isS_at (t : Tm) (s : List UInt8) (n : Int) : isS.S [t.enc, .str s, .int .i64 n] = some (.bool (isK t s n)) := by simp only [isS, decTm_enc, Option.map_some]
theorem isS_ok : KSpecOK Tryz.prog isS := fun args v hv => by
 unfold isS at hv ⊢
 dsimp only at hv ⊢
 split at hv
 ·rename_i x s n
  obtain ⟨t, ht, rfl⟩ := Option.map_eq_some_iff.1 hv
  rw [decTm_eq ht]
  refine prim_of (n := 4) (h' := h0) (envOf_ok (ss := []) (by simp)) ?_ rfl (by simp [AV.refsL, AV.refs, Tm.enc_refs])
  have hxe := Tm.enc_eq t
  have hxc := Tm.cells_is t
  have hxr := argV_refs t
  have hl := argV_lenv t
  unfold isK
  rw [hxe, hxc]
  by_cases c1 : t.kind = 2
  ·cases c2 : (t.name == s) with
   | false => simp [run96, c96, hxr, hl, c1, c2]
   | true => simp [run96, c96, hxr, hl, c1, c2]
  ·simp [run96, c96, hxr, hl, c1]
 ·cases hv
def atomDS : KSpec := ⟨54, fun | [.str s] => some (Tm.nl 2 0 s).enc | _ => none⟩
theorem atomDS_f : atomDS.f = 54 := (rfl)
theorem atomDS_at (s : List UInt8) : atomDS.S [.str s] = some (.agg [.int .i64 2, .int .i64 0, .str s, .nils]) := rfl
theorem atomDS_ok : KSpecOK Tryz.prog atomDS := fun args v hv => by
 unfold atomDS at hv ⊢
 dsimp only at hv ⊢
 split at hv
 ·cases hv
  refine prim_of (n := 3) (h' := h0) (envOf_ok (ss := []) (by simp)) ?_ rfl rfl
  simp [run54, c54, Tm.enc]
 ·cases hv
def compDS : KSpec := ⟨73, fun | [.str s, .sl xs] => (decTms xs).map fun us => (Tm.mk 2 0 s us).enc | _ => none⟩
theorem compDS_f : compDS.f = 73 := (rfl)
theorem compDS_at (s : List UInt8) (us : List Tm) : compDS.S [.str s, .sl (us.map Tm.enc)] = some (Tm.mk 2 0 s us).enc := by
 unfold compDS
 dsimp only
 rw [← encL_map, decTms_enc]
 rfl
theorem compDS_ok : KSpecOK Tryz.prog compDS := fun args v hv => by
 unfold compDS at hv ⊢
 dsimp only at hv ⊢
 split at hv
 ·rename_i s xs
  obtain ⟨us, hx, rfl⟩ := Option.map_eq_some_iff.1 hv
  rw [decTms_eq hx]
  refine prim_of (n := 3) (h' := h0) (envOf_ok (ss := []) (by simp)) ?_ (Tm.enc_refs _) (by simp [AV.refsL, AV.refs, encs_refs])
  have hr := encs_refs us
  simp [run73, c73, Tm.enc, encL_map, hr]
 ·cases hv
def endD (t : Tm) : Int := if t.kind = 0 then 6 else if isK t [91, 93] 0 then 0 else 5
def endS : KSpec := ⟨78, fun | [v] => (decTm v).map fun t => .int .i64 (endD t) | _ => none⟩
theorem endS_f : endS.f = 78 := (rfl)
theorem endS_at (t : Tm) : endS.S [t.enc] = some (.int .i64 (endD t)) := by simp only [endS, decTm_enc, Option.map_some]
theorem endS_ok : KSpecOK Tryz.prog endS := fun args v hv => by
 unfold endS at hv ⊢
 dsimp only at hv ⊢
 split at hv
 ·rename_i x
  obtain ⟨t, ht, rfl⟩ := Option.map_eq_some_iff.1 hv
  rw [decTm_eq ht]
  refine prim_of (n := 4) (h' := h0) (envOf_ok (ss := [isS]) (by simp [isS_ok])) ?_ rfl (by simp [AV.refsL, Tm.enc_refs])
  have hxe := Tm.enc_eq t
  have hxc := Tm.cells_is t
  have hxr := argV_refs t
  have c2 := isS_at t [91, 93] 0
  unfold endD
  rw [hxe, hxc] at c2 ⊢
  by_cases c1 : t.kind = 0
  ·simp [run78, c78, hxr, c1, isS_f]
  ·cases c3 : isK t [91, 93] 0 with
   | false =>
     rw [c3] at c2
     simp [run78, c78, hxr, c1, c2, isS_f, frz_argV]
   | true =>
     rw [c3] at c2
     simp [run78, c78, hxr, c1, c2, isS_f, frz_argV]
 ·cases hv
def dsameKS (N : Nat) : KSpec := ⟨33, fun | [a, b] => (match decTm a, decTm b with | some x, some y => if x.size < N ∧ y.size < 1000000000 then some (.bool (sameT x y)) else none | _, _ => none) | _ => none⟩
theorem dsameKS_f (N : Nat) : (dsameKS N).f = 33 := (rfl)
theorem dsameKS_at (N : Nat) (x y : Tm) (h : x.size < N ∧ y.size < 1000000000) : (dsameKS N).S [x.enc, y.enc] = some (.bool (sameT x y)) := by
 simp only [dsameKS, decTm_enc, if_pos h]
theorem dsameKS_no (N : Nat) (x y : Tm) (h : N ≤ x.size) : (dsameKS N).S [x.enc, y.enc] = none := by
 simp only [dsameKS, decTm_enc]
 rw [if_neg (by omega)]
theorem c33_loop (n N : Nat) (us ws : List Tm) (hl : us.length = ws.length) (hN : N ≤ 1000000000) (h1 : Tm.sizeL us < N) (h2 : Tm.sizeL ws < 1000000000) (K M K' M' : Int) (s s' : List UInt8) : ∀ (post postw pre prew : List Tm) (k : Nat), us = pre ++ post → ws = prew ++ postw → pre.length = prew.length → post.length < k →
 ∃ md, aft 2 0 (loopH (evCode (evCall (envOf [dsameKS N]) (n + 1)) (n + 1) c33_b0) c33_m0 2 k (c33_f0 (.ptr 0 0) (.ptr 1 0) (.int .i64 pre.length)) ⟨2, [.row [.int .i64 K', .int .i64 M', .str s', .sl (ws.map Tm.enc)], .row [.int .i64 K, .int .i64 M, .str s, .sl (us.map Tm.enc)]], 2, 0⟩) =
   some (if sameL post postw then .exit 0 else .ret, if sameL post postw then FM 53 [] else FM 53 [(4, .bool false)], ⟨2, [.row [.int .i64 K', .int .i64 M', .str s', .sl (ws.map Tm.enc)], .row [.int .i64 K, .int .i64 M, .str s, .sl (us.map Tm.enc)]], 0, md⟩)
 | [], [], pre, prew, k + 1, e, e2, hp, _ => by
   simp at e
   subst e
   have h5 : AV.refsL (us.map Tm.enc) = 0 := encs_refs _
   have h6 : AV.refsL (ws.map Tm.enc) = 0 := encs_refs _
   exact ⟨0, by simp [loopH_succ, c33_b0, h5, h6, sameL_nil]⟩
 | [], y :: postw, pre, prew, k, e, e2, hp, _ => by
   rw [e, e2] at hl
   simp at hl
   omega
 | x :: post, [], pre, prew, k + 1, e, e2, hp, _ => by
   rw [e, e2] at hl
   simp at hl
   omega
 | x :: post, y :: postw, pre, prew, k + 1, e, e2, hp, hk => by
   obtain ⟨md, ih⟩ := c33_loop n N us ws hl hN h1 h2 K M K' M' s s' post postw (pre ++ [x]) (prew ++ [y]) k (by simp [e]) (by simp [e2]) (by simp [hp]) (by rw [List.length_cons] at hk; omega)
   have hlu := len_sizeL us
   have g1 : us[pre.length]? = some x := by rw [e]; simp
   have g2 : ws[pre.length]? = some y := by rw [e2, hp]; simp
   have h5 : AV.refsL (us.map Tm.enc) = 0 := encs_refs _
   have h5w : AV.refsL (ws.map Tm.enc) = 0 := encs_refs _
   have hpl : pre.length < us.length := by rw [e]; simp
   have h6 : ((pre.length : Int) < (us.length : Int)) = True := eq_true (by omega)
   have h3 : IntKind.i64.wrap ((pre.length : Int) + 1) = (pre.length : Int) + 1 := wrap_i64 (by omega) (by omega)
   have hxe := Tm.enc_eq x
   have hxc := Tm.cells_is x
   have hxr := argV_refs x
   have hye := Tm.enc_eq y
   have hyc := Tm.cells_is y
   have hyr := argV_refs y
   have hs := dsameKS_at N x y ⟨by have := sizeL_mem (us := us) (y := x) (by rw [e]; simp); omega, by have := sizeL_mem (us := ws) (y := y) (by rw [e2]; simp); omega⟩
   rw [hxe, hxc, hye, hyc] at hs
   simp only [List.length_append, List.length_cons, List.length_nil, Nat.zero_add] at ih
   rw [show ((pre.length + 1 : Nat) : Int) = (pre.length : Int) + 1 by omega] at ih
   rw [loopH_succ, sameL_cons]
   cases hsm : sameT x y with
   | false =>
     rw [hsm] at hs
     exact ⟨0, by simp [c33_b0, g1, g2, h5, h5w, h6, hxe, hxc, hxr, hye, hyc, hyr, hs, frz_argV, dsameKS_f]⟩
   | true =>
     rw [hsm] at hs
     refine ⟨md, ?_⟩
     simp [c33_b0, c33_m0, g1, g2, h3, h5, h5w, h6, hxe, hxc, hxr, hye, hyc, hyr, hs, frz_argV, dsameKS_f]
     exact ih
theorem dsameKS_step (N : Nat) (hN : N ≤ 1000000000) (hp : KSpecOK Tryz.prog (dsameKS N)) : KSpecOK Tryz.prog (dsameKS (N + 1)) := fun args v hv => by
 unfold dsameKS at hv
 dsimp only at hv
 split at hv
 ·rename_i a b
  split at hv
  ·rename_i x y ha hb
   split at hv
   ·rename_i hc
    rcases Nat.lt_or_ge x.size N with hlt | hge
    ·refine hp _ _ ?_
     rw [decTm_eq ha, decTm_eq hb, dsameKS_at N x y ⟨hlt, hc.2⟩]
     exact hv
    cases hv
    rw [dsameKS_f, decTm_eq ha, decTm_eq hb]
    have hno := dsameKS_no N x y hge
    have s1 := size_args x
    have s2 := size_args y
    refine prim_of (n := x.size + 5) (h' := h0) (envOf_ok (ss := [dsameKS N]) (by simp [hp])) ?_ rfl (by simp [AV.refsL, Tm.enc_refs])
    have hxe := Tm.enc_eq x
    have hxc := Tm.cells_is x
    have hxr := argV_refs x
    have hye := Tm.enc_eq y
    have hyc := Tm.cells_is y
    have hyr := argV_refs y
    have hlx := argV_lenv x
    have hly := argV_lenv y
    rw [sameT_eq]
    rw [hxe, hxc, hye, hyc] at hno ⊢
    by_cases c1 : x.kind = y.kind
    ·rw [c1] at hno ⊢
     by_cases c2 : x.num = y.num
     ·rw [c2] at hno ⊢
      cases c3 : x.name == y.name with
      | true =>
        by_cases c4 : x.args.length = y.args.length
        ·have hls := len_sizeL x.args
         by_cases hne : x.args = []
         ·have hw : y.args = [] := List.eq_nil_of_length_eq_zero (by rw [hne] at c4; simpa using c4.symm)
          rw [hne, hw]
          have a1 : x.argV = .nils ∨ x.argV = .sl [] := by
           cases x with
           | nl k n s => exact .inl rfl
           | mk k n s us => simp only [Tm.args] at hne; subst hne; exact .inr rfl
          have a2 : y.argV = .nils ∨ y.argV = .sl [] := by
           cases y with
           | nl k n s => exact .inl rfl
           | mk k n s us => simp only [Tm.args] at hw; subst hw; exact .inr rfl
          rcases a1 with a1 | a1 <;> rcases a2 with a2 | a2 <;> rw [a1, a2] at hno ⊢ <;> simp [run33, c33, c33_m0, c33_b0, loopH_succ, c1, c2, c3, hno, dsameKS_f, sameL_nil, frz_argV]
         ·have a1 : x.argV = .sl (x.args.map Tm.enc) := by
           cases x with
           | nl k n s => exact absurd rfl hne
           | mk k n s us => rfl
          have a2 : y.argV = .sl (y.args.map Tm.enc) := by
           cases y with
           | nl k n s => exact absurd (List.eq_nil_of_length_eq_zero (by simpa [Tm.args] using c4)) hne
           | mk k n s us => rfl
          have h5 := encs_refs x.args
          have h6 := encs_refs y.args
          have c4' : ((x.args.length : Int) = (y.args.length : Int)) = True := eq_true (by omega)
          obtain ⟨md, lp⟩ := c33_loop (x.size + 3) N x.args y.args c4 hN (by omega) (by omega) y.kind y.num y.kind y.num x.name y.name x.args y.args [] [] (x.size + 4) rfl rfl rfl (by omega)
          simp only [List.length_nil, c33_m0, show ((0 : Nat) : Int) = 0 from rfl] at lp
          rw [a1, a2] at hno ⊢
          cases hsm : sameL x.args y.args with
          | true =>
            rw [hsm] at lp
            simp only [if_true] at lp
            simp [run33, c33, c33_m0, c1, c2, c3, c4', h5, h6, hno, lp, dsameKS_f]
          | false =>
            rw [hsm] at lp
            simp only [Bool.false_eq_true, if_false] at lp
            simp [run33, c33, c33_m0, c1, c2, c3, c4', h5, h6, hno, lp, dsameKS_f]
        ·have c4' : ((x.args.length : Int) = (y.args.length : Int)) = False := eq_false (by omega)
         simp [run33, c33, c1, c2, c3, c4', hxr, hyr, hlx, hly, hno, dsameKS_f, frz_argV, sameL_len _ _ c4]
      | false => simp [run33, c33, c1, c2, c3, hxr, hyr, hno, dsameKS_f, frz_argV]
     ·simp [run33, c33, c1, c2, hxr, hyr, hno, dsameKS_f, frz_argV]
    ·simp [run33, c33, c1, hxr, hyr, hno, dsameKS_f, frz_argV]
   ·cases hv
  ·cases hv
 ·cases hv
theorem dsameKS_zero : KSpecOK Tryz.prog (dsameKS 0) := fun args v hv => by
 unfold dsameKS at hv
 dsimp only at hv
 split at hv
 ·split at hv
  ·split at hv
   ·rename_i hc
    omega
   ·cases hv
  ·cases hv
 ·cases hv
theorem dsameKS_all : ∀ N, N ≤ 1000000001 → KSpecOK Tryz.prog (dsameKS N)
 | 0, _ => dsameKS_zero
 | N + 1, h => dsameKS_step N (by omega) (dsameKS_all N (by omega))
mutual
def sizeD : Tm → Int → Int
 | .nl .., _ => 1
 | .mk _ _ _ us, m => sizeDL us m 1
def sizeDL : List Tm → Int → Int → Int
 | [], _, n => n
 | x :: r, m, n => if n ≤ m then sizeDL r m (n + sizeD x (m - n)) else n
end
theorem sizeD_args (t : Tm) (m : Int) : sizeD t m = sizeDL t.args m 1 := by cases t <;> simp [sizeD, sizeDL, Tm.args]
mutual
theorem sizeD_bnd : ∀ (t : Tm) (m : Int), 1 ≤ sizeD t m ∧ sizeD t m ≤ t.size
 | .nl .., m => by simp [sizeD, Tm.size]
 | .mk _ _ _ us, m => by
   have := sizeDL_bnd us m 1
   simp only [sizeD, Tm.size]
   omega
theorem sizeDL_bnd : ∀ (us : List Tm) (m n : Int), n ≤ sizeDL us m n ∧ sizeDL us m n ≤ n + Tm.sizeL us
 | [], m, n => by simp [sizeDL, Tm.sizeL]
 | x :: r, m, n => by
   have h1 := sizeD_bnd x (m - n)
   have h2 := sizeDL_bnd r m (n + sizeD x (m - n))
   simp only [sizeDL, Tm.sizeL]
   split <;> omega
end
mutual
theorem sizeD_law : ∀ (t : Tm) (m : Int), 0 ≤ m → (((t.size : Int) ≤ m → sizeD t m = t.size) ∧ (m < t.size → m < sizeD t m))
 | .nl .., m, h => by simp [sizeD, Tm.size]
 | .mk _ _ _ us, m, h => by
   have := sizeDL_law us m 1 h (by omega)
   simp only [sizeD, Tm.size]
   constructor
   ·intro h1
    have := this.1 (by omega)
    omega
   ·intro h1
    exact this.2 (by omega)
theorem sizeDL_law : ∀ (us : List Tm) (m n : Int), 0 ≤ m → 1 ≤ n → ((n + Tm.sizeL us ≤ m → sizeDL us m n = n + Tm.sizeL us) ∧ (m < n + Tm.sizeL us → m < sizeDL us m n))
 | [], m, n, _, _ => by simp [sizeDL, Tm.sizeL]
 | x :: r, m, n, h, hn => by
   simp only [sizeDL, Tm.sizeL]
   have b1 := sizeD_bnd x (m - n)
   split
   ·have h1 := sizeD_law x (m - n) (by omega)
    have h2 := sizeDL_law r m (n + sizeD x (m - n)) h (by omega)
    have h3 := sizeDL_bnd r m (n + sizeD x (m - n))
    constructor
    ·intro g
     have e := h1.1 (by omega)
     have := h2.1 (by omega)
     omega
    ·intro g
     by_cases c : (x.size : Int) ≤ m - n
     ·have e := h1.1 c
      exact h2.2 (by omega)
     ·have e := h1.2 (by omega)
      omega
   ·constructor <;> intro g <;> omega
end
def dsizeKS (N : Nat) : KSpec := ⟨74, fun | [v, .int .i64 m] => (match decTm v with | some t => if t.size < N ∧ 0 ≤ m ∧ m ≤ 2000 then some (.int .i64 (sizeD t m)) else none | none => none) | _ => none⟩
theorem dsizeKS_f (N : Nat) : (dsizeKS N).f = 74 := (rfl)
theorem dsizeKS_at (N : Nat) (x : Tm) (m : Int) (h : x.size < N ∧ 0 ≤ m ∧ m ≤ 2000) : (dsizeKS N).S [x.enc, .int .i64 m] = some (.int .i64 (sizeD x m)) := by
 simp only [dsizeKS, decTm_enc, if_pos h]
theorem dsizeKS_no (N : Nat) (x : Tm) (m : Int) (h : N ≤ x.size) : (dsizeKS N).S [x.enc, .int .i64 m] = none := by
 simp only [dsizeKS, decTm_enc]
 rw [if_neg (by omega)]
theorem c74_loop (n N : Nat) (us : List Tm) (hN : N ≤ 1000000000) (h1 : Tm.sizeL us < N) (m : Int) (hm : 0 ≤ m ∧ m ≤ 2000) (K M : Int) (s : List UInt8) : ∀ (post pre : List Tm) (k : Nat) (q : Int), us = pre ++ post → post.length < k → 1 ≤ q → q + Tm.sizeL post ≤ 1000000000 →
 ∃ md, aft 1 0 (loopH (evCode (evCall (envOf [dsizeKS N]) (n + 1)) (n + 1) c74_b0) c74_m0 1 k (c74_f0 (.int .i64 m) (.ptr 0 0) (.int .i64 q) (.int .i64 pre.length)) ⟨1, [.row [.int .i64 K, .int .i64 M, .str s, .sl (us.map Tm.enc)]], 1, 0⟩) =
   some (.exit 0, FM 31 [(5, .int .i64 (sizeDL post m q))], ⟨1, [.row [.int .i64 K, .int .i64 M, .str s, .sl (us.map Tm.enc)]], 0, md⟩)
 | [], pre, k + 1, q, e, _, _, _ => by
   simp at e
   subst e
   have h5 : AV.refsL (us.map Tm.enc) = 0 := encs_refs _
   exact ⟨0, by simp [loopH_succ, c74_b0, h5, sizeDL]⟩
 | x :: post, pre, k + 1, q, e, hk, hq, hql => by
   have hlu := len_sizeL us
   have g1 : us[pre.length]? = some x := by rw [e]; simp
   have h5 : AV.refsL (us.map Tm.enc) = 0 := encs_refs _
   have hpl : pre.length < us.length := by rw [e]; simp
   have h6 : ((pre.length : Int) < (us.length : Int)) = True := eq_true (by omega)
   have h3 : IntKind.i64.wrap ((pre.length : Int) + 1) = (pre.length : Int) + 1 := wrap_i64 (by omega) (by omega)
   have hxe := Tm.enc_eq x
   have hxc := Tm.cells_is x
   have hxr := argV_refs x
   by_cases c : q ≤ m
   ·have hxs : x.size < N := by have := sizeL_mem (us := us) (y := x) (by rw [e]; simp); omega
    have hs := dsizeKS_at N x (m - q) ⟨hxs, by omega, by omega⟩
    have hb := sizeD_bnd x (m - q)
    simp only [Tm.sizeL] at hql
    have w1 : IntKind.i64.wrap (m - q) = m - q := wrap_i64 (by omega) (by omega)
    have w2 : IntKind.i64.wrap (q + sizeD x (m - q)) = q + sizeD x (m - q) := wrap_i64 (by omega) (by omega)
    obtain ⟨md, ih⟩ := c74_loop n N us hN h1 m hm K M s post (pre ++ [x]) k (q + sizeD x (m - q)) (by simp [e]) (by rw [List.length_cons] at hk; omega) (by omega) (by omega)
    simp only [List.length_append, List.length_cons, List.length_nil, Nat.zero_add] at ih
    rw [show ((pre.length + 1 : Nat) : Int) = (pre.length : Int) + 1 by omega] at ih
    have hsd : sizeDL (x :: post) m q = sizeDL post m (q + sizeD x (m - q)) := by
     rw [sizeDL, if_pos c]
    rw [hsd, loopH_succ]
    rw [hxe, hxc] at hs
    generalize sizeD x (m - q) = z at *
    refine ⟨md, ?_⟩
    simp [c74_b0, c74_m0, g1, h3, h5, h6, c, hxe, hxc, hxr, hs, w1, w2, frz_argV, dsizeKS_f]
    exact ih
   ·have hsd : sizeDL (x :: post) m q = q := by
     rw [sizeDL, if_neg c]
    rw [hsd, loopH_succ]
    exact ⟨0, by simp [c74_b0, h5, h6, c]⟩
theorem dsizeKS_step (N : Nat) (hN : N ≤ 1000000000) (hp : KSpecOK Tryz.prog (dsizeKS N)) : KSpecOK Tryz.prog (dsizeKS (N + 1)) := fun args v hv => by
 unfold dsizeKS at hv
 dsimp only at hv
 split at hv
 ·rename_i a m
  split at hv
  ·rename_i x ha
   split at hv
   ·rename_i hc
    rcases Nat.lt_or_ge x.size N with hlt | hge
    ·refine hp _ _ ?_
     rw [decTm_eq ha, dsizeKS_at N x m ⟨hlt, hc.2⟩]
     exact hv
    cases hv
    rw [dsizeKS_f, decTm_eq ha]
    have hno := dsizeKS_no N x m hge
    have s1 := size_args x
    have hla := len_sizeL x.args
    refine prim_of (n := x.size + 5) (h' := h0) (envOf_ok (ss := [dsizeKS N]) (by simp [hp])) ?_ rfl (by simp [AV.refsL, AV.refs, Tm.enc_refs])
    have hxe := Tm.enc_eq x
    have hxc := Tm.cells_is x
    rw [sizeD_args]
    rw [hxe, hxc] at hno ⊢
    obtain ⟨md, lp⟩ := c74_loop (x.size + 3) N x.args hN (by omega) m hc.2 x.kind x.num x.name x.args [] (x.size + 4) 1 rfl (by omega) (by omega) (by omega)
    simp only [List.length_nil, c74_m0, show ((0 : Nat) : Int) = 0 from rfl] at lp
    have h5 := encs_refs x.args
    cases x with
    | nl kk nn ss =>
      simp only [Tm.argV, Tm.kind, Tm.num, Tm.name, Tm.args] at hno ⊢
      simp [run74, c74, c74_m0, c74_b0, loopH_succ, hno, dsizeKS_f, sizeDL]
    | mk kk nn ss us =>
      simp only [Tm.argV, Tm.kind, Tm.num, Tm.name, Tm.args] at hno lp h5 ⊢
      simp [run74, c74, c74_m0, hno, h5, lp, dsizeKS_f]
   ·cases hv
  ·cases hv
 ·cases hv
theorem dsizeKS_zero : KSpecOK Tryz.prog (dsizeKS 0) := fun args v hv => by
 unfold dsizeKS at hv
 dsimp only at hv
 split at hv
 ·split at hv
  ·split at hv
   ·rename_i hc
    omega
   ·cases hv
  ·cases hv
 ·cases hv
theorem dsizeKS_all : ∀ N, N ≤ 1000000001 → KSpecOK Tryz.prog (dsizeKS N)
 | 0, _ => dsizeKS_zero
 | N + 1, h => dsizeKS_step N (by omega) (dsizeKS_all N (by omega))
def foldDD (m d : Nat) : List Tm → Nat
 | [] => d
 | x :: r => foldDD m (max d (min x.depth m)) r
theorem foldDD_eq (m : Nat) : ∀ (us : List Tm) (d : Nat), d ≤ m → foldDD m d us = min (max d (Tm.depthL us)) m
 | [], d, h => by simp [foldDD, Tm.depthL]; omega
 | x :: r, d, h => by
   simp only [foldDD, Tm.depthL]
   rw [foldDD_eq m r _ (by omega)]
   omega
def ddepthKS (m : Nat) : KSpec := ⟨75, fun | [v, .int .i64 n] => (match decTm v with | some t => if n = m ∧ t.size < 1000000000 then some (.int .i64 (min t.depth (m + 1) : Nat)) else none | none => none) | _ => none⟩
theorem ddepthKS_f (m : Nat) : (ddepthKS m).f = 75 := (rfl)
theorem ddepthKS_at (m : Nat) (t : Tm) (h : t.size < 1000000000) : (ddepthKS m).S [t.enc, .int .i64 (m : Nat)] = some (.int .i64 (min t.depth (m + 1) : Nat)) := by
 simp only [ddepthKS, decTm_enc]
 exact if_pos ⟨trivial, h⟩
theorem ddepthKS_no (m k : Nat) (v : AV) (h : k ≠ m) : (ddepthKS m).S [v, .int .i64 (k : Nat)] = none := by
 simp only [ddepthKS]
 split
 ·rw [if_neg (by omega)]
 ·rfl
theorem c75_loop (n m : Nat) (hm : m ≤ 100) (K M : Int) (s : List UInt8) (us : List Tm) (hs : Tm.sizeL us < 1000000000) : ∀ (post pre : List Tm) (k d : Nat), us = pre ++ post → post.length < k → d ≤ m + 1 →
 ∃ md, aft 1 0 (loopH (evCode (evCall (envOf [ddepthKS m]) (n + 1)) (n + 1) c75_b0) c75_m0 1 k (c75_f0 (.int .i64 ((m : Int) + 1)) (.ptr 0 0) (.int .i64 d) (.int .i64 pre.length)) ⟨1, [.row [.int .i64 K, .int .i64 M, .str s, .sl (us.map Tm.enc)]], 1, 0⟩) =
   some (.exit 0, FM 31 [(5, .int .i64 (foldDD (m + 1) d post : Nat))], ⟨1, [.row [.int .i64 K, .int .i64 M, .str s, .sl (us.map Tm.enc)]], 0, md⟩)
 | [], pre, k + 1, d, e, _, _ => by
   simp at e
   subst e
   have h5 : AV.refsL (us.map Tm.enc) = 0 := encs_refs _
   exact ⟨0, by simp [loopH_succ, c75_b0, h5, foldDD]⟩
 | x :: post, pre, k + 1, d, e, hk, hd => by
   have hlu := len_sizeL us
   have h1 : us[pre.length]? = some x := by rw [e]; simp
   have h5 : AV.refsL (us.map Tm.enc) = 0 := encs_refs _
   have hpl : pre.length < us.length := by rw [e]; simp
   have h6 : ((pre.length : Int) < (us.length : Int)) = True := eq_true (by omega)
   have h3 : IntKind.i64.wrap ((pre.length : Int) + 1) = (pre.length : Int) + 1 := wrap_i64 (by omega) (by omega)
   have hxe := Tm.enc_eq x
   have hcl := Tm.cells_is x
   have hxr := argV_refs x
   have hxs : x.size < 1000000000 := by
    have := sizeL_mem (us := us) (y := x) (by rw [e]; simp)
    omega
   have w1 : IntKind.i64.wrap ((m : Int) + 1 - 1) = (m : Int) := by rw [wrap_i64 (by omega) (by omega)]; omega
   have w1' : IntKind.i64.wrap (m : Int) = (m : Int) := by rw [wrap_i64 (by omega) (by omega)]
   have hc := ddepthKS_at m x hxs
   rw [hxe, hcl] at hc
   obtain ⟨md, ih⟩ := c75_loop n m hm K M s us hs post (pre ++ [x]) k (max d (min x.depth (m + 1))) (by simp [e]) (by rw [List.length_cons] at hk; omega) (by omega)
   refine ⟨md, ?_⟩
   simp only [List.length_append, List.length_cons, List.length_nil, Nat.zero_add] at ih
   rw [show ((pre.length + 1 : Nat) : Int) = (pre.length : Int) + 1 by omega] at ih
   rw [loopH_succ]
   rw [foldDD]
   generalize min x.depth (m + 1) = q at hc ih ⊢
   by_cases hq : d < q
   ·have hq' : ((d : Int) < (q : Int)) = True := eq_true (by omega)
    rw [show max d q = q by omega] at ih ⊢
    simp [c75_b0, c75_m0, h1, h3, h5, h6, hxe, hcl, hxr, w1, w1', hc, hq', frz_argV, ddepthKS_f]
    exact ih
   ·have hq' : ((d : Int) < (q : Int)) = False := eq_false (by omega)
    rw [show max d q = d by omega] at ih ⊢
    simp [c75_b0, c75_m0, h1, h3, h5, h6, hxe, hcl, hxr, w1, w1', hc, hq', frz_argV, ddepthKS_f]
    exact ih
theorem ddepthKS_step (m : Nat) (hm : m < 100) (hp : KSpecOK Tryz.prog (ddepthKS m)) : KSpecOK Tryz.prog (ddepthKS (m + 1)) := fun args v hv => by
 unfold ddepthKS at hv
 dsimp only at hv
 split at hv
 ·rename_i x n
  split at hv
  ·rename_i t ht
   split at hv
   ·rename_i hc
    obtain ⟨rfl, hs⟩ := hc
    cases hv
    rw [decTm_eq ht]
    have hno := ddepthKS_no m (m + 1) t.enc (by omega)
    refine prim_of (n := t.size + 5) (h' := h0) (envOf_ok (ss := [ddepthKS m]) (by simp [hp])) ?_ rfl (by simp [AV.refsL, AV.refs, Tm.enc_refs])
    rw [ddepthKS_f]
    have hxe := Tm.enc_eq t
    have hcl := Tm.cells_is t
    have hsz := size_args t
    have hla := len_sizeL t.args
    have hde := depth_args t
    have hfe := foldDD_eq (m + 1) t.args 0 (by omega)
    obtain ⟨md, lp⟩ := c75_loop (t.size + 3) m (by omega) t.kind t.num t.name t.args (by omega) t.args [] (t.size + 4) 0 rfl (by omega) (by omega)
    simp only [List.length_nil, show ((0 : Nat) : Int) = 0 from rfl, c75_m0] at lp
    have hz : ((min t.depth (m + 1 + 1) : Nat) : Int) = (foldDD (m + 1) 0 t.args : Int) + 1 := by omega
    rw [hz]
    have w2 : IntKind.i64.wrap ((foldDD (m + 1) 0 t.args : Int) + 1) = (foldDD (m + 1) 0 t.args : Int) + 1 := wrap_i64 (by omega) (by omega)
    rw [hxe, hcl] at hno ⊢
    have hpos : ((m : Int) + 1 ≤ 0) = False := eq_false (by omega)
    simp only [Int.natCast_add, Int.natCast_one] at hno
    have h5 := encs_refs t.args
    cases t with
    | nl kk nn ss =>
      simp only [Tm.argV, Tm.kind, Tm.num, Tm.name, Tm.args] at hno w2 ⊢
      simp [foldDD] at w2
      simp [run75, c75, c75_m0, c75_b0, loopH_succ, hno, hpos, ddepthKS_f, foldDD, w2]
    | mk kk nn ss us =>
      simp only [Tm.argV, Tm.kind, Tm.num, Tm.name, Tm.args] at hno lp h5 w2 ⊢
      simp [run75, c75, c75_m0, hno, hpos, h5, lp, ddepthKS_f, w2]
   ·cases hv
  ·cases hv
 ·cases hv
theorem depth_pos (t : Tm) : 1 ≤ t.depth := by have := depth_args t; omega
theorem ddepthKS_zero : KSpecOK Tryz.prog (ddepthKS 0) := fun args v hv => by
 unfold ddepthKS at hv
 dsimp only at hv
 split at hv
 ·rename_i x n
  split at hv
  ·rename_i t ht
   split at hv
   ·rename_i hc
    obtain ⟨rfl, hs⟩ := hc
    cases hv
    rw [decTm_eq ht]
    refine prim_of (n := 5) (h' := h0) (envOf_ok (ss := []) (by simp)) ?_ rfl (by simp [AV.refsL, AV.refs, Tm.enc_refs])
    rw [ddepthKS_f]
    have hxe := Tm.enc_eq t
    have hcl := Tm.cells_is t
    have hxr := argV_refs t
    have hd := depth_pos t
    rw [show min t.depth (0 + 1) = 1 by omega]
    rw [hxe, hcl]
    simp [run75, c75, hxr]
   ·cases hv
  ·cases hv
 ·cases hv
theorem ddepthKS_all : ∀ m, m ≤ 100 → KSpecOK Tryz.prog (ddepthKS m)
 | 0, _ => ddepthKS_zero
 | m + 1, h => ddepthKS_step m (by omega) (ddepthKS_all m (by omega))
def dformKS (N : Nat) : KSpec := ⟨76, fun | [v] => (match decTm v with | some t => if t.size < N ∧ t.bulk < 1000000000 then some (.bool (t.allT oneK)) else none | none => none) | _ => none⟩
theorem dformKS_f (N : Nat) : (dformKS N).f = 76 := (rfl)
theorem dformKS_at (N : Nat) (x : Tm) (h : x.size < N ∧ x.bulk < 1000000000) : (dformKS N).S [x.enc] = some (.bool (x.allT oneK)) := by
 simp only [dformKS, decTm_enc, if_pos h]
theorem dformKS_no (N : Nat) (x : Tm) (h : N ≤ x.size) : (dformKS N).S [x.enc] = none := by
 simp only [dformKS, decTm_enc]
 rw [if_neg (by omega)]
theorem c76_loop0 (C : Nat → List AV → Heap → Option (AV × Heap)) (n : Nat) (s : List UInt8) (hs : s.length < 4611686018427387904) (K M : Int) (A : AV) (hA : A.refs = 0) : ∀ post pre m, s = pre ++ post → post.length < m →
 aft 1 0 (loopH (evCode C n c76_b0) c76_m0 1 m (c76_f0 (.ptr 0 0) (.int .i64 pre.length)) ⟨1, [.row [.int .i64 K, .int .i64 M, .str s, A]], 1, 0⟩) =
  some (if allOk post then .exit 1 else .ret, if allOk post then FM 96 [(1, .ptr 0 0)] else FM 96 [(2, .bool false)], ⟨1, [.row [.int .i64 K, .int .i64 M, .str s, A]], 0, 0⟩)
 | [], pre, m + 1, e, _ => by
   simp at e
   subst e
   simp [loopH_succ, c76_b0, allOk, hA]
 | c :: post, pre, m + 1, e, hm => by
   have ih := c76_loop0 C n s hs K M A hA post (pre ++ [c]) m (by simp [e]) (by rw [List.length_cons] at hm; omega)
   have h1 : s[pre.length]? = some c := by rw [e]; simp
   have h3 : IntKind.i64.wrap ((pre.length : Int) + 1) = (pre.length : Int) + 1 := by
    rw [wrap_succ (by rw [e] at hs; simp at hs; omega)]; simp
   have h6 : ((pre.length : Int) < (s.length : Int)) = True := eq_true (by rw [e, List.length_append, List.length_cons]; omega)
   simp only [List.length_append, List.length_cons, List.length_nil, Nat.zero_add, Int.natCast_add, Int.natCast_one] at ih
   have ho : okC c = !((decide (c.toNat < 32) || decide (126 < c.toNat)) && decide (c.toNat ≠ 9) && decide (c.toNat ≠ 10)) := rfl
   rw [loopH_succ]
   by_cases a3 : c.toNat = 9
   ·have b3 : ((c.toNat : Int) = 9) = True := eq_true (by omega)
    have ho : okC c = true := by rw [ho]; simp [a3]
    simp [c76_b0, c76_m0, h1, h3, h6, b3, allOk, ho, hA]
    exact ih
   ·have b3 : ((c.toNat : Int) = 9) = False := eq_false (by omega)
    by_cases a4 : c.toNat = 10
    ·have b4 : ((c.toNat : Int) = 10) = True := eq_true (by omega)
     have ho : okC c = true := by rw [ho]; simp [a4]
     simp [c76_b0, c76_m0, h1, h3, h6, b3, b4, allOk, ho, hA]
     exact ih
    ·have b4 : ((c.toNat : Int) = 10) = False := eq_false (by omega)
     by_cases a1 : c.toNat < 32
     ·have b1 : ((c.toNat : Int) < 32) = True := eq_true (by omega)
      have ho : okC c = false := by rw [ho]; simp [a1, a3, a4]
      simp [c76_b0, c76_m0, h1, h3, h6, b1, b3, b4, allOk, ho, hA]
     ·have b1 : ((c.toNat : Int) < 32) = False := eq_false (by omega)
      by_cases a2 : 126 < c.toNat
      ·have b2 : (126 < (c.toNat : Int)) = True := eq_true (by omega)
       have ho : okC c = false := by rw [ho]; simp [a1, a2, a3, a4]
       simp [c76_b0, c76_m0, h1, h3, h6, b1, b2, b3, b4, allOk, ho, hA]
      ·have b2 : (126 < (c.toNat : Int)) = False := eq_false (by omega)
       have ho : okC c = true := by rw [ho]; simp [a1, a2]
       simp [c76_b0, c76_m0, h1, h3, h6, b1, b2, b3, b4, allOk, ho, hA]
       exact ih
theorem bulk_mem {us : List Tm} {y : Tm} (h : y ∈ us) : y.bulk ≤ Tm.bulkL us := bulk_arg us y h
theorem c76_loop1 (n N : Nat) (us : List Tm) (hN : N ≤ 1000000000) (h1 : Tm.sizeL us < N) (h2 : Tm.bulkL us < 1000000000) (K M : Int) (s : List UInt8) : ∀ (post pre : List Tm) (k : Nat), us = pre ++ post → post.length < k →
 ∃ md, aft 1 0 (loopH (evCode (evCall (envOf [dformKS N]) (n + 1)) (n + 1) c76_b1) c76_m1 1 k (c76_f1 (.ptr 0 0) (.int .i64 pre.length)) ⟨1, [.row [.int .i64 K, .int .i64 M, .str s, .sl (us.map Tm.enc)]], 1, 0⟩) =
   some (if Tm.allL oneK post then .exit 3 else .ret, if Tm.allL oneK post then FM 96 [] else FM 96 [(2, .bool false)], ⟨1, [.row [.int .i64 K, .int .i64 M, .str s, .sl (us.map Tm.enc)]], 0, md⟩)
 | [], pre, k + 1, e, _ => by
   simp at e
   subst e
   have h5 : AV.refsL (us.map Tm.enc) = 0 := encs_refs _
   exact ⟨0, by simp [loopH_succ, c76_b1, h5, Tm.allL]⟩
 | x :: post, pre, k + 1, e, hk => by
   have hlu := len_sizeL us
   have g1 : us[pre.length]? = some x := by rw [e]; simp
   have h5 : AV.refsL (us.map Tm.enc) = 0 := encs_refs _
   have hpl : pre.length < us.length := by rw [e]; simp
   have h6 : ((pre.length : Int) < (us.length : Int)) = True := eq_true (by omega)
   have h3 : IntKind.i64.wrap ((pre.length : Int) + 1) = (pre.length : Int) + 1 := wrap_i64 (by omega) (by omega)
   have hxe := Tm.enc_eq x
   have hxc := Tm.cells_is x
   have hxr := argV_refs x
   have hx : x ∈ us := by rw [e]; simp
   have hs := dformKS_at N x ⟨by have := sizeL_mem hx; omega, by have := bulk_mem hx; omega⟩
   obtain ⟨md, ih⟩ := c76_loop1 n N us hN h1 h2 K M s post (pre ++ [x]) k (by simp [e]) (by rw [List.length_cons] at hk; omega)
   simp only [List.length_append, List.length_cons, List.length_nil, Nat.zero_add] at ih
   rw [show ((pre.length + 1 : Nat) : Int) = (pre.length : Int) + 1 by omega] at ih
   rw [loopH_succ]
   rw [show Tm.allL oneK (x :: post) = (x.allT oneK && Tm.allL oneK post) by simp [Tm.allL]]
   rw [hxe, hxc] at hs
   cases ha : x.allT oneK with
   | false =>
     rw [ha] at hs
     exact ⟨0, by simp [c76_b1, c76_m1, g1, h3, h5, h6, hxe, hxc, hxr, hs, frz_argV, dformKS_f]⟩
   | true =>
     rw [ha] at hs
     refine ⟨md, ?_⟩
     simp [c76_b1, c76_m1, g1, h3, h5, h6, hxe, hxc, hxr, hs, frz_argV, dformKS_f]
     exact ih
theorem c76_loop1n (C : Nat → List AV → Heap → Option (AV × Heap)) (n k : Nat) (K M : Int) (s : List UInt8) : aft 1 0 (loopH (evCode C n c76_b1) c76_m1 1 (k + 1) (c76_f1 (.ptr 0 0) (.int .i64 0)) ⟨1, [.row [.int .i64 K, .int .i64 M, .str s, .nils]], 1, 0⟩) =
 some (.exit 3, FM 96 [], ⟨1, [.row [.int .i64 K, .int .i64 M, .str s, .nils]], 0, 0⟩) := by
 simp [loopH_succ, c76_b1]
theorem dformKS_step (N : Nat) (hN : N ≤ 1000000000) (hp : KSpecOK Tryz.prog (dformKS N)) : KSpecOK Tryz.prog (dformKS (N + 1)) := fun args v hv => by
 unfold dformKS at hv
 dsimp only at hv
 split at hv
 ·rename_i a
  split at hv
  ·rename_i x ha
   split at hv
   ·rename_i hc
    rcases Nat.lt_or_ge x.size N with hlt | hge
    ·refine hp _ _ ?_
     rw [decTm_eq ha, dformKS_at N x ⟨hlt, hc.2⟩]
     exact hv
    cases hv
    rw [dformKS_f, decTm_eq ha]
    have hno := dformKS_no N x hge
    have s1 := size_args x
    have b1 := bulk_args x
    have hla := len_sizeL x.args
    refine prim_of (n := x.bulk + 9) (h' := h0) (envOf_ok (ss := [dformKS N]) (by simp [hp])) ?_ rfl (by simp [AV.refsL, AV.refs, Tm.enc_refs])
    have hxe := Tm.enc_eq x
    have hxc := Tm.cells_is x
    have hl := argV_lenv x
    have hr := argV_refs x
    have hsb := size_bulk x
    rw [allT_args]
    have hone : oneK x = if x.kind = 0 then decide (0 ≤ x.num) && decide (x.num ≤ 2147483647) && decide (x.name = []) && decide (x.args.length = 0)
     else if x.kind = 1 then decide (x.name = []) && decide (x.args.length = 0)
     else if x.kind = 2 then decide (x.num = 0) && goodNm x.name && decide (x.args.length ≤ 8)
     else false := rfl
    rw [hone]
    rw [hxe, hxc] at hno ⊢
    by_cases k0 : x.kind = 0
    ·rw [k0] at hno ⊢
     by_cases c1 : 0 ≤ x.num
     ·by_cases c2 : x.num < 2147483648
      ·have c2' : (x.num ≤ 2147483647) = True := eq_true (by omega)
       cases hnm : x.name with
       | nil =>
         rw [hnm] at hno
         by_cases c4 : x.args.length = 0
         ·have c4' : ((x.args.length : Int) = 0) = True := eq_true (by omega)
          have c5 : x.args = [] := List.eq_nil_of_length_eq_zero c4
          simp [run76, c76, hno, c1, c2, c2', c4, c4', c5, hl, hr, frz_argV, dformKS_f, Tm.allL]
         ·have c4' : ((x.args.length : Int) = 0) = False := eq_false (by omega)
          have c5 : (x.args = []) = False := eq_false (fun h => c4 (by rw [h]; rfl))
          simp [run76, c76, hno, c1, c2, c2', c4, c4', c5, hl, hr, frz_argV, dformKS_f]
       | cons c r =>
         rw [hnm] at hno
         simp [run76, c76, hno, c1, c2, c2', hl, hr, frz_argV, dformKS_f]
      ·have c2' : (x.num ≤ 2147483647) = False := eq_false (by omega)
       simp [run76, c76, hno, c1, c2, c2', hl, hr, frz_argV, dformKS_f]
     ·simp [run76, c76, hno, c1, hl, hr, frz_argV, dformKS_f]
    ·by_cases k1 : x.kind = 1
     ·rw [k1] at hno ⊢
      cases hnm : x.name with
      | nil =>
        rw [hnm] at hno
        by_cases c4 : x.args.length = 0
        ·have c4' : ((x.args.length : Int) = 0) = True := eq_true (by omega)
         have c5 : x.args = [] := List.eq_nil_of_length_eq_zero c4
         simp [run76, c76, hno, c4, c4', c5, hl, hr, frz_argV, dformKS_f, Tm.allL]
        ·have c4' : ((x.args.length : Int) = 0) = False := eq_false (by omega)
         have c5 : (x.args = []) = False := eq_false (fun h => c4 (by rw [h]; rfl))
         simp [run76, c76, hno, c4, c4', c5, hl, hr, frz_argV, dformKS_f]
      | cons c r =>
        rw [hnm] at hno
        simp [run76, c76, hno, hl, hr, frz_argV, dformKS_f]
     ·by_cases k2 : x.kind = 2
      ·rw [k2] at hno ⊢
       by_cases c1 : x.num = 0
       ·rw [c1] at hno ⊢
        by_cases c2 : x.name.length ≤ 64
        ·have c2' : ((64 : Int) < (x.name.length : Int)) = False := eq_false (by omega)
         by_cases c3 : x.args.length ≤ 8
         ·have c3' : ((8 : Int) < (x.args.length : Int)) = False := eq_false (by omega)
          have lp0 := c76_loop0 (evCall (envOf [dformKS N]) (x.bulk + 8)) (x.bulk + 8) x.name (by omega) 2 0 x.argV hr x.name [] (x.bulk + 8) rfl (by omega)
          simp only [List.length_nil, c76_m0, show ((0 : Nat) : Int) = 0 from rfl] at lp0
          cases hao : allOk x.name with
          | false =>
            rw [hao] at lp0
            simp only [Bool.false_eq_true, if_false] at lp0
            have hgn : goodNm x.name = false := by simp [goodNm, hao]
            simp [run76, c76, c76_m0, hno, c2', c3', hgn, hl, hr, lp0, frz_argV, dformKS_f]
          | true =>
            rw [hao] at lp0
            simp only [if_true] at lp0
            have hgn : goodNm x.name = true := by simp [goodNm, hao, c2]
            cases x with
            | nl kk nn ss =>
              simp only [Tm.argV, Tm.kind, Tm.num, Tm.name, Tm.args] at *
              have lp1 := c76_loop1n (evCall (envOf [dformKS N]) ((Tm.nl kk nn ss).bulk + 8)) ((Tm.nl kk nn ss).bulk + 8) ((Tm.nl kk nn ss).bulk + 7) 2 0 ss
              simp only [c76_m1] at lp1
              simp [run76, c76, c76_m0, c76_m1, hno, c2', hgn, lp0, lp1, dformKS_f, Tm.allL]
            | mk kk nn ss us =>
              simp only [Tm.argV, Tm.kind, Tm.num, Tm.name, Tm.args] at *
              have h5 := encs_refs us
              obtain ⟨md1, lp1⟩ := c76_loop1 ((Tm.mk kk nn ss us).bulk + 7) N us hN (by omega) (by omega) 2 0 ss us [] ((Tm.mk kk nn ss us).bulk + 8) rfl (by omega)
              simp only [List.length_nil, c76_m1, show ((0 : Nat) : Int) = 0 from rfl] at lp1
              cases hal : Tm.allL oneK us with
              | false =>
                rw [hal] at lp1
                simp only [Bool.false_eq_true, if_false] at lp1
                simp [run76, c76, c76_m0, c76_m1, hno, c2', c3', hgn, h5, lp0, lp1, dformKS_f, c3, hal]
              | true =>
                rw [hal] at lp1
                simp only [if_true] at lp1
                simp [run76, c76, c76_m0, c76_m1, hno, c2', c3', hgn, h5, lp0, lp1, dformKS_f, c3, hal]
         ·have c3' : ((8 : Int) < (x.args.length : Int)) = True := eq_true (by omega)
          simp [run76, c76, hno, c2', c3', c3, hl, hr, frz_argV, dformKS_f]
        ·have c2' : ((64 : Int) < (x.name.length : Int)) = True := eq_true (by omega)
         have hgn : goodNm x.name = false := by simp [goodNm, c2]
         simp [run76, c76, hno, c2', hgn, hl, hr, frz_argV, dformKS_f]
       ·simp [run76, c76, hno, c1, hl, hr, frz_argV, dformKS_f]
      ·simp [run76, c76, hno, k0, k1, k2, hl, hr, frz_argV, dformKS_f]
   ·cases hv
  ·cases hv
 ·cases hv
theorem dformKS_zero : KSpecOK Tryz.prog (dformKS 0) := fun args v hv => by
 unfold dformKS at hv
 dsimp only at hv
 split at hv
 ·split at hv
  ·split at hv
   ·rename_i hc
    omega
   ·cases hv
  ·cases hv
 ·cases hv
theorem dformKS_all : ∀ N, N ≤ 1000000001 → KSpecOK Tryz.prog (dformKS N)
 | 0, _ => dformKS_zero
 | N + 1, h => dformKS_step N (by omega) (dformKS_all N (by omega))
def dgoodS : KSpec := ⟨56, fun | [v] => (match decTm v with | some t => if t.bulk < 1000000000 then some (.bool (goodT t)) else none | none => none) | _ => none⟩
theorem dgoodS_f : dgoodS.f = 56 := (rfl)
theorem dgoodS_at (t : Tm) (h : t.bulk < 1000000000) : dgoodS.S [t.enc] = some (.bool (goodT t)) := by
 simp only [dgoodS, decTm_enc, if_pos h]
theorem dgoodS_ok : KSpecOK Tryz.prog dgoodS := fun args v hv => by
 unfold dgoodS at hv ⊢
 dsimp only at hv ⊢
 split at hv
 ·rename_i x
  split at hv
  ·rename_i t ht
   split at hv
   ·rename_i hl
    cases hv
    rw [decTm_eq ht]
    refine prim_of (n := 5) (h' := h0) (envOf_ok (ss := [dsizeKS 1000000000, ddepthKS 64, dformKS 1000000000]) (by simp [dsizeKS_all 1000000000 (by omega), ddepthKS_all 64 (by omega), dformKS_all 1000000000 (by omega)])) ?_ rfl (by simp [AV.refsL, Tm.enc_refs])
    have hsb := size_bulk t
    have c1 := dsizeKS_at 1000000000 t 2000 ⟨by omega, by omega, by omega⟩
    have c2 := ddepthKS_at 64 t (by omega)
    have c3 := dformKS_at 1000000000 t ⟨by omega, hl⟩
    have hlw := sizeD_law t 2000 (by omega)
    have hxe := Tm.enc_eq t
    have hcl := Tm.cells_is t
    have hxr := argV_refs t
    rw [show ((64 : Nat) : Int) = 64 from rfl] at c2
    unfold goodT
    rw [hxe, hcl] at c1 c2 c3 ⊢
    by_cases d1 : t.size ≤ 2000
    ·have e1 := hlw.1 (by omega)
     have d1' : (sizeD t 2000 ≤ 2000) = True := eq_true (by omega)
     by_cases d2 : t.depth ≤ 64
     ·have d2' : (((min t.depth (64 + 1) : Nat) : Int) ≤ 64) = True := eq_true (by omega)
      generalize sizeD t 2000 = z at *
      generalize min t.depth (64 + 1) = y at *
      simp [run56, c56, c1, c2, c3, hxr, d1, d2, d1', d2', frz_argV, dsizeKS_f, ddepthKS_f, dformKS_f]
     ·have d2' : (((min t.depth (64 + 1) : Nat) : Int) ≤ 64) = False := eq_false (by omega)
      generalize sizeD t 2000 = z at *
      generalize min t.depth (64 + 1) = y at *
      simp [run56, c56, c1, c2, c3, hxr, d1, d2, d1', d2', frz_argV, dsizeKS_f, ddepthKS_f, dformKS_f]
    ·have e1 := hlw.2 (by omega)
     have d1' : (sizeD t 2000 ≤ 2000) = False := eq_false (by omega)
     simp [run56, c56, c1, c2, c3, hxr, d1, d1', frz_argV, dsizeKS_f, ddepthKS_f, dformKS_f]
   ·cases hv
  ·cases hv
 ·cases hv
end Go.Proofs.YtleeinkdkllcdaaGreatDoor
