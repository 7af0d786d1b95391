import Derived.Test.YtleeinkdkllcdaaGreatDoorAt
import Derived.Test.YtleeinkdkllcdaaGreatDoorEnv
import Derived.Test.YtleeinkdkllcdaaGreatDoorFast
import Derived.Test.YtleeinkdkllcdaaGreatDoorArg
set_option linter.unusedVariables false
set_option linter.unusedSimpArgs false
set_option linter.unusedSectionVars false
set_option maxHeartbeats 16000000
set_option maxRecDepth 100000

namespace Go.Proofs.YtleeinkdkllcdaaGreatDoor
open Go Sz
inductive Tm where
 | nl (k n : Int) (s : List UInt8)
 | mk (k n : Int) (s : List UInt8) (us : List Tm)
mutual
def Tm.enc : Tm → AV
 | .nl k n s => .agg [.int .i64 k, .int .i64 n, .str s, .nils]
 | .mk k n s us => .agg [.int .i64 k, .int .i64 n, .str s, .sl (Tm.encL us)]
def Tm.encL : List Tm → List AV
 | [] => []
 | t :: r => t.enc :: Tm.encL r
end
theorem encL_map : ∀ l : List Tm, Tm.encL l = l.map Tm.enc
 | [] => rfl
 | t :: r => by simp [Tm.encL, encL_map r]
def Tm.kind : Tm → Int | .nl k _ _ => k | .mk k _ _ _ => k
def Tm.num : Tm → Int | .nl _ n _ => n | .mk _ n _ _ => n
def Tm.name : Tm → List UInt8 | .nl _ _ s => s | .mk _ _ s _ => s
def Tm.args : Tm → List Tm | .nl .. => [] | .mk _ _ _ us => us
def Tm.argV : Tm → AV | .nl .. => .nils | .mk _ _ _ us => .sl (us.map Tm.enc)
def Tm.cells (t : Tm) : List AV := [.int .i64 t.kind, .int .i64 t.num, .str t.name, t.argV]
theorem Tm.cells_is (t : Tm) : t.cells = [.int .i64 t.kind, .int .i64 t.num, .str t.name, t.argV] := rfl
theorem Tm.enc_eq (t : Tm) : t.enc = .agg t.cells := by
 cases t with
 | nl k n s => rfl
 | mk k n s us => simp only [Tm.enc, Tm.cells, Tm.kind, Tm.num, Tm.name, Tm.argV, encL_map]
mutual
theorem Tm.enc_refs : ∀ t : Tm, t.enc.refs = 0
 | .nl k n s => rfl
 | .mk k n s us => by simp [Tm.enc, AV.refs, AV.refsL, Tm.encL_refs us]
theorem Tm.encL_refs : ∀ l : List Tm, AV.refsL (Tm.encL l) = 0
 | [] => rfl
 | t :: r => by simp [Tm.encL, AV.refsL, Tm.enc_refs t, Tm.encL_refs r]
end
theorem encs_refs (l : List Tm) : AV.refsL (l.map Tm.enc) = 0 := by rw [← encL_map]; exact Tm.encL_refs l
theorem argV_refs (t : Tm) : t.argV.refs = 0 := by
 cases t with
 | nl k n s => rfl
 | mk k n s us => simp [Tm.argV, AV.refs, encs_refs]
mutual
def decTm : AV → Option Tm
 | .agg [.int .i64 k, .int .i64 n, .str s, .nils] => some (.nl k n s)
 | .agg [.int .i64 k, .int .i64 n, .str s, .sl xs] => (decTms xs).map (.mk k n s)
 | _ => none
def decTms : List AV → Option (List Tm)
 | [] => some []
 | v :: r => match decTm v, decTms r with
   | some t, some l => some (t :: l)
   | _, _ => none
end
mutual
theorem decTm_enc : ∀ t : Tm, decTm t.enc = some t
 | .nl k n s => by simp [Tm.enc, decTm]
 | .mk k n s us => by simp [Tm.enc, decTm, decTms_enc us]
theorem decTms_enc : ∀ l : List Tm, decTms (Tm.encL l) = some l
 | [] => by simp [Tm.encL, decTms]
 | t :: r => by simp [Tm.encL, decTms, decTm_enc t, decTms_enc r]
end
theorem decTm_inv : ∀ (n : Nat) (v : AV) (t : Tm), SizeOf.sizeOf v ≤ n → decTm v = some t → v = t.enc
 | 0, v, t, h, _ => by cases v <;> simp at h
 | n + 1, v, t, h, e => by
   have hl : ∀ (xs : List AV) (l : List Tm), SizeOf.sizeOf xs ≤ n → decTms xs = some l → xs = Tm.encL l := by
    intro xs
    induction xs with
    | nil => intro l _ e; simp [decTms] at e; subst e; rfl
    | cons x r ih =>
      intro l hx e
      simp only [decTms] at e
      split at e
      ·rename_i t l' h1 h2
       cases e
       simp only [List.cons.sizeOf_spec] at hx
       rw [decTm_inv n x t (by omega) h1, ih l' (by omega) h2]
       rfl
      ·cases e
   unfold decTm at e
   split at e
   ·cases e; rfl
   ·rename_i k q s xs
    obtain ⟨us, h1, rfl⟩ := Option.map_eq_some_iff.1 e
    simp only [AV.agg.sizeOf_spec, List.cons.sizeOf_spec, AV.sl.sizeOf_spec] at h
    rw [hl xs us (by omega) h1]
    rfl
   ·cases e
theorem decTm_eq {v : AV} {t : Tm} (h : decTm v = some t) : v = t.enc := decTm_inv _ v t (Nat.le_refl _) h
def okC (c : UInt8) : Bool := !((decide (c.toNat < 32) || decide (126 < c.toNat)) && decide (c.toNat ≠ 9) && decide (c.toNat ≠ 10))
def allOk : List UInt8 → Bool
 | [] => true
 | c :: r => okC c && allOk r
def goodNm (s : List UInt8) : Bool := allOk s && decide (s.length ≤ 64)
def u8s (s : List UInt8) : List AV := s.map fun b => .int .u8 b.toNat
theorem u8s_refs : ∀ s : List UInt8, AV.refsL (u8s s) = 0
 | [] => rfl
 | c :: r => by
   have := u8s_refs r
   unfold u8s at this ⊢
   simp [AV.refsL, AV.refs, this]
theorem c62_loop (C : Nat → List AV → Heap → Option (AV × Heap)) (n : Nat) (s : List UInt8) (hs : s.length < 4611686018427387904) : ∀ post pre m, s = pre ++ post → post.length < m →
 aft 0 0 (loopH (evCode C n c62_b0) c62_m0 0 m (c62_f0 (.str s) (.sl (u8s s)) (.int .i64 s.length) (.int .i64 pre.length)) ⟨0, [], 0, 0⟩) =
  if allOk post then some (.exit 0, FM 30 [(0, .str s)], ⟨0, [], 0, 0⟩) else some (.ret, FM 30 [(2, .bool false)], ⟨0, [], 0, 0⟩)
 | [], pre, m + 1, e, _ => by
   simp at e
   subst e
   simp [loopH_succ, c62_b0, allOk]
 | c :: post, pre, m + 1, e, hm => by
   have ih := c62_loop C n s hs post (pre ++ [c]) m (by simp [e]) (by rw [List.length_cons] at hm; omega)
   have h1 : (u8s s)[pre.length]? = some (.int .u8 c.toNat) := by unfold u8s; rw [e]; simp
   have h3 : IntKind.i64.wrap ((pre.length : Int) + 1) = (pre.length : Int) + 1 := by
    rw [wrap_succ (by rw [e] at hs; simp at hs; omega)]; simp
   have h5 := u8s_refs s
   have h6 : ((pre.length : Int) < (s.length : Int)) = True := eq_true (by rw [e, List.length_append, List.length_cons]; omega)
   simp only [List.length_append, List.length_cons, List.length_nil, Nat.zero_add, Int.natCast_add, Int.natCast_one] at ih
   have ho : okC c = !((decide (c.toNat < 32) || decide (126 < c.toNat)) && decide (c.toNat ≠ 9) && decide (c.toNat ≠ 10)) := rfl
   rw [loopH_succ]
   by_cases a1 : c.toNat < 32
   ·have b1 : ((c.toNat : Int) < 32) = True := eq_true (by omega)
    by_cases a3 : c.toNat = 9
    ·have b3 : ((c.toNat : Int) = 9) = True := eq_true (by omega)
     have ho : okC c = true := by rw [ho]; simp [a3]
     simp [c62_b0, c62_m0, h1, h3, h5, h6, b1, b3, allOk, ho]
     exact ih
    ·have b3 : ((c.toNat : Int) = 9) = False := eq_false (by omega)
     by_cases a4 : c.toNat = 10
     ·have b4 : ((c.toNat : Int) = 10) = True := eq_true (by omega)
      have ho : okC c = true := by rw [ho]; simp [a4]
      simp [c62_b0, c62_m0, h1, h3, h5, h6, b1, b3, b4, allOk, ho]
      exact ih
     ·have b4 : ((c.toNat : Int) = 10) = False := eq_false (by omega)
      have ho : okC c = false := by rw [ho]; simp [a1, a3, a4]
      simp [c62_b0, c62_m0, h1, h3, h5, h6, b1, b3, b4, allOk, ho]
   ·have b1 : ((c.toNat : Int) < 32) = False := eq_false (by omega)
    by_cases a2 : 126 < c.toNat
    ·have b2 : (126 < (c.toNat : Int)) = True := eq_true (by omega)
     have b3 : ((c.toNat : Int) = 9) = False := eq_false (by omega)
     have b4 : ((c.toNat : Int) = 10) = False := eq_false (by omega)
     have ho : okC c = false := by
      rw [ho]
      have : c.toNat ≠ 9 := by omega
      have : c.toNat ≠ 10 := by omega
      simp [*]
     simp [c62_b0, c62_m0, h1, h3, h5, h6, b1, b2, b3, b4, allOk, ho]
    ·have b2 : (126 < (c.toNat : Int)) = False := eq_false (by omega)
     have ho : okC c = true := by rw [ho]; simp [a1, a2]
     simp [c62_b0, c62_m0, h1, h3, h5, h6, b1, b2, allOk, ho]
     exact ih
def goodNmS : KSpec := ⟨62, fun | [.str s] => if s.length < 4611686018427387904 then some (.bool (goodNm s)) else none | _ => none⟩
theorem goodNmS_f : goodNmS.f = 62 := (rfl)
theorem goodNmS_at (s : List UInt8) (h : s.length < 4611686018427387904) : goodNmS.S [.str s] = some (.bool (goodNm s)) := if_pos h
theorem goodNmS_ok : KSpecOK Tryz.prog goodNmS := fun args v hv => by
 unfold goodNmS at hv ⊢
 dsimp only at hv ⊢
 split at hv
 ·rename_i s
  split at hv
  ·rename_i hs
   cases hv
   refine prim_of (n := s.length + 2) (h' := h0) (envOf_ok (ss := []) (by simp)) ?_ rfl rfl
   have lp := c62_loop (evCall (envOf []) (s.length + 1)) (s.length + 1) s hs s [] (s.length + 1) rfl (by omega)
   simp only [List.length_nil, show ((0 : Nat) : Int) = 0 from rfl, c62_m0] at lp
   have h5 := u8s_refs s
   have e5 : (s.map fun b => AV.int .u8 b.toNat) = u8s s := rfl
   have e6 : (u8s s).length = s.length := by simp [u8s]
   unfold goodNm
   cases ha : allOk s with
   | false =>
     rw [ha] at lp
     simp at lp
     simp [run62, c62, c62_m0, e5, e6, h5, lp]
   | true =>
     rw [ha] at lp
     simp at lp
     by_cases hl : s.length ≤ 64
     ·have hl' : ((s.length : Int) ≤ 64) = True := eq_true (by omega)
      simp [run62, c62, c62_m0, e5, e6, h5, lp, hl, hl']
     ·have hl' : ((s.length : Int) ≤ 64) = False := eq_false (by omega)
      simp [run62, c62, c62_m0, e5, e6, h5, lp, hl, hl']
  ·cases hv
 ·cases hv
def oneK (t : Tm) : Bool :=
 if t.kind = 0 then decide (0 ≤ t.num) && decide (t.num ≤ 2147483647) && decide (t.name = []) && decide (t.args.length = 0)
 else if t.kind = 1 then decide (t.name = []) && decide (t.args.length = 0)
 else if t.kind = 2 then decide (t.num = 0) && goodNm t.name && decide (t.args.length ≤ 8)
 else false
theorem enc_flds (t : Tm) : ∃ k n s a, t.enc = .agg [.int .i64 k, .int .i64 n, .str s, a] ∧ t.kind = k ∧ t.num = n ∧ t.name = s ∧ a.refs = 0 ∧ ((a = .nils ∧ t.args = []) ∨ a = .sl (t.args.map Tm.enc)) := by
 cases t with
 | nl k n s => exact ⟨k, n, s, .nils, rfl, rfl, rfl, rfl, rfl, .inl ⟨rfl, rfl⟩⟩
 | mk k n s us => exact ⟨k, n, s, _, (Tm.mk k n s us).enc_eq, rfl, rfl, rfl, argV_refs _, .inr rfl⟩
def oneS : KSpec := ⟨44, fun | [v] => (match decTm v with | some t => if t.name.length < 4611686018427387904 then some (.bool (oneK t)) else none | none => none) | _ => none⟩
theorem oneS_f : oneS.f = 44 := (rfl)
theorem oneS_at (t : Tm) (h : t.name.length < 4611686018427387904) : oneS.S [t.enc] = some (.bool (oneK t)) := by
 simp only [oneS, decTm_enc, if_pos h]
theorem oneS_ok : KSpecOK Tryz.prog oneS := fun args v hv => by
 unfold oneS at hv ⊢
 dsimp only at hv ⊢
 split at hv
 ·rename_i x
  split at hv
  ·rename_i t ht
   split at hv
   ·rename_i hl
    cases hv
    rw [decTm_eq ht]
    refine prim_of (n := 5) (h' := h0) (envOf_ok (ss := [goodNmS]) (by simp [goodNmS_ok])) ?_ rfl (by simp [AV.refsL, Tm.enc_refs])
    obtain ⟨k, n, s, a, e, e1, e2, e3, hr, ha⟩ := enc_flds t
    have hg := goodNmS_at s (by rw [← e3]; exact hl)
    unfold oneK
    rw [e, e1, e2, e3]
    have ha0 : (a = .nils ∧ t.args.length = 0) ∨ (∃ l : List AV, a = .sl l ∧ l.length = t.args.length) := by
     rcases ha with ⟨h1, h2⟩ | h1
     ·exact .inl ⟨h1, by rw [h2]; rfl⟩
     ·exact .inr ⟨_, h1, by simp⟩
    generalize t.args.length = q at ha0
    clear ha e1 e2 e3 ht hl e
    by_cases k0 : k = 0
    ·subst k0
     by_cases c1 : 0 ≤ n
     ·by_cases c2 : n ≤ 2147483647
      ·cases s with
       | nil =>
         rcases ha0 with ⟨rfl, rfl⟩ | ⟨l, rfl, rfl⟩
         ·simp [run44, c44, c1, c2, goodNmS_f]
         ·by_cases c4 : l.length = 0
          ·have c4' : ((l.length : Int) = 0) = True := eq_true (by omega)
           simp only [AV.refs] at hr
           simp [run44, c44, c1, c2, c4', c4, hr, goodNmS_f]
          ·have c4' : ((l.length : Int) = 0) = False := eq_false (by omega)
           simp only [AV.refs] at hr
           simp [run44, c44, c1, c2, c4', c4, hr, goodNmS_f]
       | cons c r => simp [run44, c44, c1, c2, goodNmS_f, hr]
      ·simp [run44, c44, c1, c2, goodNmS_f, hr]
     ·simp [run44, c44, c1, goodNmS_f, hr]
    ·by_cases k1 : k = 1
     ·subst k1
      cases s with
      | nil =>
        rcases ha0 with ⟨rfl, rfl⟩ | ⟨l, rfl, rfl⟩
        ·simp [run44, c44, goodNmS_f]
        ·by_cases c4 : l.length = 0
         ·have c4' : ((l.length : Int) = 0) = True := eq_true (by omega)
          simp only [AV.refs] at hr
          simp [run44, c44, c4', c4, hr, goodNmS_f]
         ·have c4' : ((l.length : Int) = 0) = False := eq_false (by omega)
          simp only [AV.refs] at hr
          simp [run44, c44, c4', c4, hr, goodNmS_f]
      | cons c r => simp [run44, c44, goodNmS_f, hr]
     ·by_cases k2 : k = 2
      ·subst k2
       by_cases c1 : n = 0
       ·cases hgn : goodNm s with
        | false =>
          rw [hgn] at hg
          simp [run44, c44, c1, hg, goodNmS_f, hr]
        | true =>
          rw [hgn] at hg
          rcases ha0 with ⟨rfl, rfl⟩ | ⟨l, rfl, rfl⟩
          ·simp [run44, c44, c1, hg, goodNmS_f]
          ·by_cases c4 : l.length ≤ 8
           ·have c4' : ((l.length : Int) ≤ 8) = True := eq_true (by omega)
            simp only [AV.refs] at hr
            simp [run44, c44, c1, hg, c4', c4, hr, goodNmS_f]
           ·have c4' : ((l.length : Int) ≤ 8) = False := eq_false (by omega)
            simp only [AV.refs] at hr
            simp [run44, c44, c1, hg, c4', c4, hr, goodNmS_f]
       ·simp [run44, c44, c1, goodNmS_f, hr]
      ·simp [run44, c44, k0, k1, k2, goodNmS_f, hr]
   ·cases hv
  ·cases hv
 ·cases hv
theorem argV_basic (t : Tm) : basic t.argV = true := by cases t <;> rfl
theorem enc_elem (t : Tm) : Elem 4 t.enc := by
 rw [Tm.enc_eq]
 refine ⟨rfl, ?_, fun h => by omega, fun _ => rfl, rfl⟩
 have := argV_basic t
 simp only [AV.cells, Tm.cells, List.all_cons, List.all_nil, this]
 rfl
theorem encs_elem (us : List Tm) : ∀ x ∈ us.map Tm.enc, Elem 4 x := by
 intro x hx
 obtain ⟨t, _, rfl⟩ := List.mem_map.1 hx
 exact enc_elem t
def flatT (us : List Tm) : List AV := us.flatMap Tm.cells
theorem flatT_eq (us : List Tm) : (us.map Tm.enc).flatMap AV.cells = flatT us := by
 induction us with
 | nil => rfl
 | cons t r ih =>
   unfold flatT at ih ⊢
   rw [List.map_cons, List.flatMap_cons, List.flatMap_cons, ih, Tm.enc_eq]
   rfl
theorem flatT_len (us : List Tm) : (flatT us).length = us.length * 4 := by
 rw [← flatT_eq, flat_len (encs_elem us), List.length_map]
theorem flatT_refs (us : List Tm) : AV.refsL (flatT us) = 0 := by
 rw [← flatT_eq]
 exact refsL_basic (flat_all (encs_elem us))
theorem elemsA_T (h : Heap) (us : List Tm) : elemsA h 4 (.sl (us.map Tm.enc)) = some (us.length, flatT us) := by
 have e : elemsA h 4 (.sl (us.map Tm.enc)) = if ((us.map Tm.enc).all fun x => (x.cells?.map List.length) == some 4) then some ((us.map Tm.enc).length, (us.map Tm.enc).flatMap AV.cells) else none := rfl
 rw [e, if_pos (elem_all (encs_elem us)), List.length_map, flatT_eq]
def intS : KSpec := ⟨23, fun | [.int .i64 n] => some (Tm.nl 1 n []).enc | _ => none⟩
theorem intS_f : intS.f = 23 := (rfl)
theorem intS_at (n : Int) : intS.S [.int .i64 n] = some (.agg [.int .i64 1, .int .i64 n, .str [], .nils]) := rfl
theorem intS_ok : KSpecOK Tryz.prog intS := fun args v hv => by
 unfold intS at hv ⊢
 dsimp only at hv ⊢
 split at hv
 ·cases hv
  refine prim_of (n := 3) (h' := h0) (envOf_ok (ss := []) (by simp)) ?_ rfl rfl
  simp [run23, c23, Tm.enc]
 ·cases hv
def varS : KSpec := ⟨26, fun | [.int .i64 n] => some (Tm.nl 0 n []).enc | _ => none⟩
theorem varS_ok : KSpecOK Tryz.prog varS := fun args v hv => by
 unfold varS at hv ⊢
 dsimp only at hv ⊢
 split at hv
 ·cases hv
  refine prim_of (n := 3) (h' := h0) (envOf_ok (ss := []) (by simp)) ?_ rfl rfl
  simp [run26, c26, Tm.enc]
 ·cases hv
def atomS : KSpec := ⟨13, fun | [.str s] => some (Tm.nl 2 0 s).enc | _ => none⟩
theorem atomS_f : atomS.f = 13 := (rfl)
theorem atomS_at (s : List UInt8) : atomS.S [.str s] = some (.agg [.int .i64 2, .int .i64 0, .str s, .nils]) := rfl
theorem atomS_ok : KSpecOK Tryz.prog atomS := fun args v hv => by
 unfold atomS at hv ⊢
 dsimp only at hv ⊢
 split at hv
 ·cases hv
  refine prim_of (n := 3) (h' := h0) (envOf_ok (ss := []) (by simp)) ?_ rfl rfl
  simp [run13, c13, Tm.enc]
 ·cases hv
def compT (s : List UInt8) : List Tm → Tm
 | [] => .nl 2 0 s
 | us => .mk 2 0 s us
def compS : KSpec := ⟨39, fun
 | [.str s, .nils] => some (Tm.nl 2 0 s).enc
 | [.str s, .sl xs] => (match decTms xs with | some us => if us.length < 1000000000000 then some (compT s us).enc else none | none => none)
 | _ => none⟩
theorem compS_f : compS.f = 39 := (rfl)
theorem compS_at (s : List UInt8) (us : List Tm) (h : us.length < 1000000000000) : compS.S [.str s, .sl (us.map Tm.enc)] = some (compT s us).enc := by
 unfold compS
 dsimp only
 rw [← encL_map, decTms_enc]
 exact if_pos h
theorem decTms_eq : ∀ {xs : List AV} {us : List Tm}, decTms xs = some us → xs = us.map Tm.enc
 | [], us, e => by simp [decTms] at e; subst e; rfl
 | x :: r, us, e => by
   simp only [decTms] at e
   split at e
   ·rename_i t l h1 h2
    cases e
    rw [decTm_eq h1, decTms_eq h2]
    rfl
   ·cases e
theorem compS_ok : KSpecOK Tryz.prog compS := fun args v hv => by
 unfold compS at hv ⊢
 dsimp only at hv ⊢
 split at hv
 ·cases hv
  refine prim_of (n := 4) (h' := h0) (envOf_ok (ss := []) (by simp)) ?_ rfl rfl
  simp [run39, c39, Tm.enc]
 ·rename_i s xs
  split at hv
  ·rename_i us hx
   split at hv
   ·rename_i hl
    cases hv
    rw [decTms_eq hx]
    refine prim_of (n := 4) (h' := h0) (envOf_ok (ss := []) (by simp)) ?_ (Tm.enc_refs _) (by simp [AV.refsL, AV.refs, encs_refs])
    cases us with
    | nil => simp [run39, c39, Tm.enc, compT]
    | cons t r =>
      have h5 : AV.refsL (r.map Tm.enc) = 0 := encs_refs _
      have h6 : t.enc.refs = 0 := Tm.enc_refs _
      have hcl := cloneS_sl 59 (xs := t.enc :: r.map Tm.enc) (by simp)
      have he := fun h => elemsA_T h (t :: r)
      have b1 : (r.length + 1) * 56 ≤ 140737488355328 := by simp at hl; omega
      have b2 : r.length + 1 < 9223372036854775808 := by simp at hl; omega
      have e : (compT s (t :: r)).enc = .agg [.int .i64 2, .int .i64 0, .str s, .sl (t.enc :: r.map Tm.enc)] := by simp [compT, Tm.enc, encL_map, Tm.encL]
      have hfr := flatT_refs (t :: r)
      have hf : ∀ (X : AObj) (wl md d : Nat), frz ⟨2, [.row (flatT (t :: r)), X], wl, md⟩ 0 (d + 2) (.vec 1 0 (r.length + 1) 4 (r.length + 1)) = some (.sl ((t :: r).map Tm.enc), [1]) := fun X wl md d =>
       frz_vec (by omega) rfl (by omega) (encs_elem (t :: r)) (by simp) (by rw [flatT_len]; simp) (by rw [flatT_eq, List.take_of_length_le]; rw [flatT_len]; simp)
      rw [e]
      simp only [List.map_cons, List.length_cons] at he hf
      simp [run39, c39, run59, c59, hcl, h5, h6, b1, b2, he, hfr, hf, finish_keep]
   ·cases hv
  ·cases hv
 ·cases hv
theorem refsL_app : ∀ {a b : List AV}, AV.refsL a = 0 → AV.refsL b = 0 → AV.refsL (a ++ b) = 0
 | [], b, _, hb => hb
 | v :: r, b, ha, hb => by
   simp only [AV.refsL] at ha
   simp only [List.cons_append, AV.refsL]
   rw [refsL_app (a := r) (by omega) hb]
   omega
theorem refsL_sub : ∀ {a : List AV}, AV.refsL a = 0 → ∀ k, AV.refsL (a.take k) = 0 ∧ AV.refsL (a.drop k) = 0
 | [], _, k => by simp [AV.refsL]
 | v :: r, ha, 0 => ⟨by simp [AV.refsL], by simpa using ha⟩
 | v :: r, ha, k + 1 => by
   simp only [AV.refsL] at ha
   have := refsL_sub (a := r) (by omega) k
   simp only [List.take_succ_cons, List.drop_succ_cons, AV.refsL]
   exact ⟨by rw [this.1]; omega, this.2⟩
theorem refsL_put {R : List AV} (h : AV.refsL R = 0) (x : Tm) (k : Nat) (hk : k + 4 ≤ R.length) : AV.refsL (putAt R k x.cells) = 0 := by
 rw [putAt_eq x.cells R k (by have : x.cells.length = 4 := rfl; omega)]
 have q1 : AV.refsL x.cells = 0 := by simp [Tm.cells, AV.refsL, AV.refs, argV_refs]
 exact refsL_app (refsL_app (refsL_sub h _).1 q1) (refsL_sub h _).2
def eachF {σ : Type} (fs : Tm → σ → Bool × σ) : Nat → List Tm → σ → Bool × σ
 | 0, _, s => (true, s)
 | _ + 1, [], s => (true, s)
 | d + 1, x :: rs, s => if (fs x s).1 then eachF fs d (x.args ++ rs) (fs x s).2 else (false, (fs x s).2)
mutual
def Tm.size : Tm → Nat
 | .nl .. => 1
 | .mk _ _ _ us => 1 + Tm.sizeL us
def Tm.sizeL : List Tm → Nat
 | [] => 0
 | t :: r => t.size + Tm.sizeL r
end
theorem size_args (t : Tm) : t.size = 1 + Tm.sizeL t.args := by cases t <;> rfl
theorem sizeL_app : ∀ a b : List Tm, Tm.sizeL (a ++ b) = Tm.sizeL a + Tm.sizeL b
 | [], b => by simp [Tm.sizeL]
 | t :: r, b => by simp [Tm.sizeL, sizeL_app r b]; omega
theorem len_sizeL : ∀ a : List Tm, a.length ≤ Tm.sizeL a
 | [] => by simp
 | t :: r => by
   have := len_sizeL r
   have := size_args t
   simp [Tm.sizeL]
   omega
theorem top_flat {R : List AV} {st : List Tm} {x : Tm} (h : R.take ((st.length + 1) * 4) = flatT (st ++ [x])) : R.take (st.length * 4) = flatT st ∧ (R.drop (st.length * 4)).take 4 = x.cells := by
 have e : flatT (st ++ [x]) = flatT st ++ x.cells := by simp [flatT]
 have hl := flatT_len st
 refine ⟨?_, ?_⟩
 ·have := congrArg (List.take (st.length * 4)) h
  rw [List.take_take, Nat.min_eq_left (by omega), e, List.take_left' hl] at this
  exact this
 ·have := congrArg (List.drop (st.length * 4)) h
  rw [List.drop_take, e, List.drop_left' hl, show (st.length + 1) * 4 - st.length * 4 = 4 by omega] at this
  exact this
theorem inner2x3_new (C : Nat → List AV → Heap → Option (AV × Heap)) (n g : Nat) (caps : List AV) (hc : AV.refsL caps ≤ 2) (X : Tm) (os : List AObj) (md : Nat) (hmd : ∀ k, 2 ≤ k → min md k = md) (w : Nat) (hw : min w 5 = w) : ∀ (i m : Nat) (st : List Tm), i ≤ X.args.length → i < m → st.length + i < 1000000000000 →
 aft 5 w (loopH (evCode C n c43_b0) c43_m0 5 m (c43_f0 (.fn g caps) (.vec 5 0 st.length 4 st.length) (.ptr 4 0) (.int .i64 ((i : Int) - 1))) ⟨6, .row (flatT st) :: .row X.cells :: .dead :: os, 5, md⟩) =
  some (.exit 2, FM 44 [(1, .fn g caps), (5, .vec 5 0 (st.length + i) 4 (st.length + i))], ⟨6, .row (flatT (st ++ (X.args.take i).reverse)) :: .row X.cells :: .dead :: os, w, md⟩)
 | 0, m + 1, st, _, _, _ => by
   have h1 : (0 ≤ (-1 : Int)) = False := by simp
   have hr : AV.refsL caps ≤ 5 := by omega
   have hm1 : min md 3 = md := hmd 3 (by omega)
   have hm2 : min md 5 = md := hmd 5 (by omega)
   have hfr := flatT_refs st
   simp [loopH_succ, c43_b0, hr, hfr, hw]
 | i + 1, m + 1, st, hi, hm, hl => by
   have hr : AV.refsL caps ≤ 5 := by omega
   have hm1 : min md 3 = md := hmd 3 (by omega)
   have hm2 : min md 5 = md := hmd 5 (by omega)
   obtain ⟨x, hx⟩ : ∃ x, X.args[i]? = some x := ⟨X.args[i]'(by omega), by simp⟩
   have ih := inner2x3_new C n g caps hc X os md hmd w hw i m (st ++ [x]) (by omega) (by omega) (by simp; omega)
   have ha : X.argV = .sl (X.args.map Tm.enc) := by
    cases X with
    | nl k n s => simp [Tm.args] at hx
    | mk k n s us => rfl
   have hX : X.cells = [.int .i64 X.kind, .int .i64 X.num, .str X.name, .sl (X.args.map Tm.enc)] := by rw [← ha]; rfl
   have h5 : AV.refsL (X.args.map Tm.enc) = 0 := encs_refs _
   have hxe := Tm.enc_eq x
   have hxc := Tm.cells_is x
   have hxr := argV_refs x
   have hfr := flatT_refs st
   have hfl := flatT_len st
   have w1 : IntKind.i64.wrap ((i : Int) - 1) = (i : Int) - 1 := wrap_i64 (by omega) (by omega)
   have t1 : (0 ≤ (i : Int)) = True := eq_true (by omega)
   have b1 : (st.length + 1) * 56 ≤ 140737488355328 := by omega
   have b2 : st.length + 1 < 9223372036854775808 := by omega
   have htk : X.args.take (i + 1) = X.args.take i ++ [x] := by
    rw [List.take_add_one, hx]; rfl
   have hft : flatT (st ++ [x]) = flatT st ++ [.int .i64 x.kind, .int .i64 x.num, .str x.name, x.argV] := by
    simp [flatT, Tm.cells]
   have hft2 : List.take (st.length * 4) (flatT st) = flatT st := List.take_of_length_le (by omega)
   have hfr2 : AV.refsL (flatT st ++ [.int .i64 x.kind, .int .i64 x.num, .str x.name, x.argV]) = 0 := by rw [← hft]; exact flatT_refs _
   rw [htk, List.reverse_append]
   simp only [List.length_append, List.length_cons, List.length_nil, Nat.zero_add, List.append_assoc, hft] at ih
   have e1 : st.length + 1 + i = st.length + (i + 1) := by omega
   rw [e1] at ih
   have e2 : ((i + 1 : Nat) : Int) - 1 = (i : Int) := by omega
   rw [e2, loopH_succ]
   rw [hX] at ih ⊢
   simp [c43_b0, c43_m0, h5, hx, hxe, hxc, hxr, hfr, hfl, w1, t1, b1, b2, hr, hft2, hfr2, hm1, hm2, elemsA]
   exact ih
theorem put2x3_ok {R : List AV} {st : List Tm} {lb : Nat} (hR : R.length = lb * 4) (ht : R.take (st.length * 4) = flatT st) (hlb : st.length + 1 ≤ lb) (x : Tm) :
 (putAt R (st.length * 4) x.cells).length = lb * 4 ∧ (putAt R (st.length * 4) x.cells).take ((st ++ [x]).length * 4) = flatT (st ++ [x]) := by
 have hc : x.cells.length = 4 := rfl
 have h1 : st.length * 4 + x.cells.length ≤ R.length := by omega
 refine ⟨?_, ?_⟩
 ·rw [putAt_eq x.cells R _ h1]
  simp only [List.length_append, List.length_take, List.length_drop]
  omega
 ·have := putAt_takeTo x.cells h1
  rw [List.length_append, show (st.length + [x].length) * 4 = st.length * 4 + x.cells.length by simp [hc]; omega, this, ht]
  simp [flatT]
theorem inner2x3_old1 (C : Nat → List AV → Heap → Option (AV × Heap)) (n g : Nat) (caps : List AV) (hc : AV.refsL caps ≤ 2) (X : Tm) (os : List AObj) (md : Nat) (hmd : ∀ k, 2 ≤ k → min md k = md) (w : Nat) (hw : min w 5 = w) (lb : Nat) : ∀ (i m : Nat) (st : List Tm) (R : List AV), i ≤ X.args.length → i < m → st.length + i ≤ lb → lb < 1000000000000 → R.length = lb * 4 → R.take (st.length * 4) = flatT st → AV.refsL R = 0 →
 ∃ R', R'.length = lb * 4 ∧ R'.take ((st.length + i) * 4) = flatT (st ++ (X.args.take i).reverse) ∧ AV.refsL R' = 0 ∧
 aft 5 w (loopH (evCode C n c43_b0) c43_m0 5 m (c43_f0 (.fn g caps) (.vec 3 0 st.length 4 lb) (.ptr 4 0) (.int .i64 ((i : Int) - 1))) ⟨5, .row X.cells :: .row R :: os, 5, md⟩) =
  some (.exit 2, FM 44 [(1, .fn g caps), (5, .vec 3 0 (st.length + i) 4 lb)], ⟨5, .row X.cells :: .row R' :: os, w, md⟩)
 | 0, m + 1, st, R, _, _, _, _, hR, ht, hrR => by
   have h1 : (0 ≤ (-1 : Int)) = False := by simp
   have hr : AV.refsL caps ≤ 5 := by omega
   have hm1 : min md 3 = md := hmd 3 (by omega)
   have hm2 : min md 5 = md := hmd 5 (by omega)
   refine ⟨R, hR, by simpa using ht, hrR, ?_⟩
   simp [loopH_succ, c43_b0, hr, hw]
 | i + 1, m + 1, st, R, hi, hm, hlb, hl, hR, ht, hrR => by
   have hr : AV.refsL caps ≤ 5 := by omega
   have hm1 : min md 3 = md := hmd 3 (by omega)
   have hm2 : min md 5 = md := hmd 5 (by omega)
   obtain ⟨x, hx⟩ : ∃ x, X.args[i]? = some x := ⟨X.args[i]'(by omega), by simp⟩
   obtain ⟨p1, p2⟩ := put2x3_ok hR ht (by omega) x
   have p3 := refsL_put hrR x (st.length * 4) (by omega)
   obtain ⟨R', r1, r2, r3, ih⟩ := inner2x3_old1 C n g caps hc X os md hmd w hw lb i m (st ++ [x]) (putAt R (st.length * 4) x.cells) (by omega) (by omega) (by simp; omega) hl p1 p2 p3
   have e1 : (st ++ [x]).length + i = st.length + (i + 1) := by simp; omega
   have htk : X.args.take (i + 1) = X.args.take i ++ [x] := by
    rw [List.take_add_one, hx]; rfl
   refine ⟨R', r1, ?_, r3, ?_⟩
   ·rw [htk, List.reverse_append, ← e1, r2]
    simp [List.append_assoc]
   have ha : X.argV = .sl (X.args.map Tm.enc) := by
    cases X with
    | nl k n s => simp [Tm.args] at hx
    | mk k n s us => rfl
   have hX : X.cells = [.int .i64 X.kind, .int .i64 X.num, .str X.name, .sl (X.args.map Tm.enc)] := by rw [← ha]; rfl
   have h5 : AV.refsL (X.args.map Tm.enc) = 0 := encs_refs _
   have hxe := Tm.enc_eq x
   have hxc := Tm.cells_is x
   have hxr := argV_refs x
   have w1 : IntKind.i64.wrap ((i : Int) - 1) = (i : Int) - 1 := wrap_i64 (by omega) (by omega)
   have t1 : (0 ≤ (i : Int)) = True := eq_true (by omega)
   have b1 : st.length * 4 ≤ R.length := by omega
   have b2 : st.length + 1 ≤ lb := by omega
   have b3 : (st.length + 1) * 4 ≤ R.length := by omega
   have hbs : putAt [.int .i64 0, .int .i64 0, .str [], .nils] 0 [.int .i64 x.kind, .int .i64 x.num, .str x.name, x.argV] = [.int .i64 x.kind, .int .i64 x.num, .str x.name, x.argV] := rfl
   have hl1 : (st ++ [x]).length = st.length + 1 := by simp
   rw [hl1, show st.length + 1 + i = st.length + (i + 1) by omega] at ih
   have e2 : ((i + 1 : Nat) : Int) - 1 = (i : Int) := by omega
   rw [e2, loopH_succ]
   rw [hX, hxc] at ih
   rw [hX]
   simp [c43_b0, c43_m0, h5, hx, hxe, hxc, hxr, w1, t1, b1, b2, b3, hr, hm1, hm2, hrR, hbs, elemsA, -putAt_cons]
   exact ih
theorem inner2x3_old2 (C : Nat → List AV → Heap → Option (AV × Heap)) (n g : Nat) (caps : List AV) (hc : AV.refsL caps ≤ 2) (X : Tm) (os : List AObj) (md : Nat) (hmd : ∀ k, 2 ≤ k → min md k = md) (w : Nat) (hw : min w 5 = w) (lb : Nat) : ∀ (i m : Nat) (st : List Tm) (R : List AV), i ≤ X.args.length → i < m → st.length ≤ lb → lb < st.length + i → st.length + i < 1000000000000 → R.length = lb * 4 → R.take (st.length * 4) = flatT st → AV.refsL R = 0 →
 aft 5 w (loopH (evCode C n c43_b0) c43_m0 5 m (c43_f0 (.fn g caps) (.vec 3 0 st.length 4 lb) (.ptr 4 0) (.int .i64 ((i : Int) - 1))) ⟨5, .row X.cells :: .row R :: os, 5, md⟩) =
  some (.exit 2, FM 44 [(1, .fn g caps), (5, .vec 5 0 (st.length + i) 4 (st.length + i))], ⟨6, .row (flatT (st ++ (X.args.take i).reverse)) :: .row X.cells :: .dead :: os, w, md⟩)
 | 0, m, st, R, _, _, h1, h2, _, _, _, _ => by omega
 | i + 1, 0, st, R, _, h, _, _, _, _, _, _ => by omega
 | i + 1, m + 1, st, R, hi, hm, h1, h2, hl, hR, ht, hrR => by
   have hr : AV.refsL caps ≤ 5 := by omega
   have hm1 : min md 3 = md := hmd 3 (by omega)
   have hm2 : min md 5 = md := hmd 5 (by omega)
   obtain ⟨x, hx⟩ : ∃ x, X.args[i]? = some x := ⟨X.args[i]'(by omega), by simp⟩
   have htk : X.args.take (i + 1) = X.args.take i ++ [x] := by
    rw [List.take_add_one, hx]; rfl
   have ha : X.argV = .sl (X.args.map Tm.enc) := by
    cases X with
    | nl k n s => simp [Tm.args] at hx
    | mk k n s us => rfl
   have hX : X.cells = [.int .i64 X.kind, .int .i64 X.num, .str X.name, .sl (X.args.map Tm.enc)] := by rw [← ha]; rfl
   have h5 : AV.refsL (X.args.map Tm.enc) = 0 := encs_refs _
   have hxe := Tm.enc_eq x
   have hxc := Tm.cells_is x
   have hxr := argV_refs x
   have w1 : IntKind.i64.wrap ((i : Int) - 1) = (i : Int) - 1 := wrap_i64 (by omega) (by omega)
   have t1 : (0 ≤ (i : Int)) = True := eq_true (by omega)
   have b1 : st.length * 4 ≤ R.length := by omega
   have hbs : putAt [.int .i64 0, .int .i64 0, .str [], .nils] 0 [.int .i64 x.kind, .int .i64 x.num, .str x.name, x.argV] = [.int .i64 x.kind, .int .i64 x.num, .str x.name, x.argV] := rfl
   have hl1 : (st ++ [x]).length = st.length + 1 := by simp
   have e2 : ((i + 1 : Nat) : Int) - 1 = (i : Int) := by omega
   by_cases hfit : st.length + 1 ≤ lb
   ·obtain ⟨p1, p2⟩ := put2x3_ok hR ht (by omega) x
    have p3 := refsL_put hrR x (st.length * 4) (by omega)
    have ih := inner2x3_old2 C n g caps hc X os md hmd w hw lb i m (st ++ [x]) (putAt R (st.length * 4) x.cells) (by omega) (by omega) (by omega) (by omega) (by omega) p1 p2 p3
    have b3 : (st.length + 1) * 4 ≤ R.length := by omega
    rw [hl1, show st.length + 1 + i = st.length + (i + 1) by omega] at ih
    rw [e2, loopH_succ, htk, List.reverse_append]
    rw [hX, hxc] at ih
    rw [hX]
    simp only [List.append_assoc] at ih
    simp [c43_b0, c43_m0, h5, hx, hxe, hxc, hxr, w1, t1, b1, hfit, b3, hr, hm1, hm2, hrR, hbs, elemsA, -putAt_cons]
    exact ih
   ·have hlb : lb = st.length := by omega
    have ih := inner2x3_new C n g caps hc X os md hmd w hw i m (st ++ [x]) (by omega) (by omega) (by omega)
    have c1 : (st.length + 1) * 56 ≤ 140737488355328 := by omega
    have c2 : st.length + 1 < 9223372036854775808 := by omega
    have hft : flatT (st ++ [x]) = flatT st ++ [.int .i64 x.kind, .int .i64 x.num, .str x.name, x.argV] := by
     simp [flatT, Tm.cells]
    have hfr2 : AV.refsL (flatT st ++ [.int .i64 x.kind, .int .i64 x.num, .str x.name, x.argV]) = 0 := by rw [← hft]; exact flatT_refs _
    rw [hl1, show st.length + 1 + i = st.length + (i + 1) by omega, hft] at ih
    rw [e2, loopH_succ, htk, List.reverse_append]
    rw [hX] at ih ⊢
    simp only [List.append_assoc] at ih
    simp [c43_b0, c43_m0, h5, hx, hxe, hxc, hxr, w1, t1, b1, hfit, c1, c2, hr, hm1, hm2, hrR, ht, hfr2, elemsA]
    exact ih
theorem inner2x4_new (C : Nat → List AV → Heap → Option (AV × Heap)) (n g : Nat) (caps : List AV) (hc : AV.refsL caps ≤ 2) (X : Tm) (os : List AObj) (md : Nat) (hmd : ∀ k, 2 ≤ k → min md k = md) (w : Nat) (hw : min w 6 = w) : ∀ (i m : Nat) (st : List Tm), i ≤ X.args.length → i < m → st.length + i < 1000000000000 →
 aft 6 w (loopH (evCode C n c43_b0) c43_m0 6 m (c43_f0 (.fn g caps) (.vec 6 0 st.length 4 st.length) (.ptr 5 0) (.int .i64 ((i : Int) - 1))) ⟨7, .row (flatT st) :: .row X.cells :: .dead :: os, 6, md⟩) =
  some (.exit 2, FM 44 [(1, .fn g caps), (5, .vec 6 0 (st.length + i) 4 (st.length + i))], ⟨7, .row (flatT (st ++ (X.args.take i).reverse)) :: .row X.cells :: .dead :: os, w, md⟩)
 | 0, m + 1, st, _, _, _ => by
   have h1 : (0 ≤ (-1 : Int)) = False := by simp
   have hr : AV.refsL caps ≤ 6 := by omega
   have hm1 : min md 4 = md := hmd 4 (by omega)
   have hm2 : min md 6 = md := hmd 6 (by omega)
   have hfr := flatT_refs st
   simp [loopH_succ, c43_b0, hr, hfr, hw]
 | i + 1, m + 1, st, hi, hm, hl => by
   have hr : AV.refsL caps ≤ 6 := by omega
   have hm1 : min md 4 = md := hmd 4 (by omega)
   have hm2 : min md 6 = md := hmd 6 (by omega)
   obtain ⟨x, hx⟩ : ∃ x, X.args[i]? = some x := ⟨X.args[i]'(by omega), by simp⟩
   have ih := inner2x4_new C n g caps hc X os md hmd w hw i m (st ++ [x]) (by omega) (by omega) (by simp; omega)
   have ha : X.argV = .sl (X.args.map Tm.enc) := by
    cases X with
    | nl k n s => simp [Tm.args] at hx
    | mk k n s us => rfl
   have hX : X.cells = [.int .i64 X.kind, .int .i64 X.num, .str X.name, .sl (X.args.map Tm.enc)] := by rw [← ha]; rfl
   have h5 : AV.refsL (X.args.map Tm.enc) = 0 := encs_refs _
   have hxe := Tm.enc_eq x
   have hxc := Tm.cells_is x
   have hxr := argV_refs x
   have hfr := flatT_refs st
   have hfl := flatT_len st
   have w1 : IntKind.i64.wrap ((i : Int) - 1) = (i : Int) - 1 := wrap_i64 (by omega) (by omega)
   have t1 : (0 ≤ (i : Int)) = True := eq_true (by omega)
   have b1 : (st.length + 1) * 56 ≤ 140737488355328 := by omega
   have b2 : st.length + 1 < 9223372036854775808 := by omega
   have htk : X.args.take (i + 1) = X.args.take i ++ [x] := by
    rw [List.take_add_one, hx]; rfl
   have hft : flatT (st ++ [x]) = flatT st ++ [.int .i64 x.kind, .int .i64 x.num, .str x.name, x.argV] := by
    simp [flatT, Tm.cells]
   have hft2 : List.take (st.length * 4) (flatT st) = flatT st := List.take_of_length_le (by omega)
   have hfr2 : AV.refsL (flatT st ++ [.int .i64 x.kind, .int .i64 x.num, .str x.name, x.argV]) = 0 := by rw [← hft]; exact flatT_refs _
   rw [htk, List.reverse_append]
   simp only [List.length_append, List.length_cons, List.length_nil, Nat.zero_add, List.append_assoc, hft] at ih
   have e1 : st.length + 1 + i = st.length + (i + 1) := by omega
   rw [e1] at ih
   have e2 : ((i + 1 : Nat) : Int) - 1 = (i : Int) := by omega
   rw [e2, loopH_succ]
   rw [hX] at ih ⊢
   simp [c43_b0, c43_m0, h5, hx, hxe, hxc, hxr, hfr, hfl, w1, t1, b1, b2, hr, hft2, hfr2, hm1, hm2, elemsA]
   exact ih
theorem put2x4_ok {R : List AV} {st : List Tm} {lb : Nat} (hR : R.length = lb * 4) (ht : R.take (st.length * 4) = flatT st) (hlb : st.length + 1 ≤ lb) (x : Tm) :
 (putAt R (st.length * 4) x.cells).length = lb * 4 ∧ (putAt R (st.length * 4) x.cells).take ((st ++ [x]).length * 4) = flatT (st ++ [x]) := by
 have hc : x.cells.length = 4 := rfl
 have h1 : st.length * 4 + x.cells.length ≤ R.length := by omega
 refine ⟨?_, ?_⟩
 ·rw [putAt_eq x.cells R _ h1]
  simp only [List.length_append, List.length_take, List.length_drop]
  omega
 ·have := putAt_takeTo x.cells h1
  rw [List.length_append, show (st.length + [x].length) * 4 = st.length * 4 + x.cells.length by simp [hc]; omega, this, ht]
  simp [flatT]
theorem inner2x4_old1 (C : Nat → List AV → Heap → Option (AV × Heap)) (n g : Nat) (caps : List AV) (hc : AV.refsL caps ≤ 2) (X : Tm) (os : List AObj) (md : Nat) (hmd : ∀ k, 2 ≤ k → min md k = md) (w : Nat) (hw : min w 6 = w) (lb : Nat) : ∀ (i m : Nat) (st : List Tm) (R : List AV), i ≤ X.args.length → i < m → st.length + i ≤ lb → lb < 1000000000000 → R.length = lb * 4 → R.take (st.length * 4) = flatT st → AV.refsL R = 0 →
 ∃ R', R'.length = lb * 4 ∧ R'.take ((st.length + i) * 4) = flatT (st ++ (X.args.take i).reverse) ∧ AV.refsL R' = 0 ∧
 aft 6 w (loopH (evCode C n c43_b0) c43_m0 6 m (c43_f0 (.fn g caps) (.vec 4 0 st.length 4 lb) (.ptr 5 0) (.int .i64 ((i : Int) - 1))) ⟨6, .row X.cells :: .row R :: os, 6, md⟩) =
  some (.exit 2, FM 44 [(1, .fn g caps), (5, .vec 4 0 (st.length + i) 4 lb)], ⟨6, .row X.cells :: .row R' :: os, w, md⟩)
 | 0, m + 1, st, R, _, _, _, _, hR, ht, hrR => by
   have h1 : (0 ≤ (-1 : Int)) = False := by simp
   have hr : AV.refsL caps ≤ 6 := by omega
   have hm1 : min md 4 = md := hmd 4 (by omega)
   have hm2 : min md 6 = md := hmd 6 (by omega)
   refine ⟨R, hR, by simpa using ht, hrR, ?_⟩
   simp [loopH_succ, c43_b0, hr, hw]
 | i + 1, m + 1, st, R, hi, hm, hlb, hl, hR, ht, hrR => by
   have hr : AV.refsL caps ≤ 6 := by omega
   have hm1 : min md 4 = md := hmd 4 (by omega)
   have hm2 : min md 6 = md := hmd 6 (by omega)
   obtain ⟨x, hx⟩ : ∃ x, X.args[i]? = some x := ⟨X.args[i]'(by omega), by simp⟩
   obtain ⟨p1, p2⟩ := put2x4_ok hR ht (by omega) x
   have p3 := refsL_put hrR x (st.length * 4) (by omega)
   obtain ⟨R', r1, r2, r3, ih⟩ := inner2x4_old1 C n g caps hc X os md hmd w hw lb i m (st ++ [x]) (putAt R (st.length * 4) x.cells) (by omega) (by omega) (by simp; omega) hl p1 p2 p3
   have e1 : (st ++ [x]).length + i = st.length + (i + 1) := by simp; omega
   have htk : X.args.take (i + 1) = X.args.take i ++ [x] := by
    rw [List.take_add_one, hx]; rfl
   refine ⟨R', r1, ?_, r3, ?_⟩
   ·rw [htk, List.reverse_append, ← e1, r2]
    simp [List.append_assoc]
   have ha : X.argV = .sl (X.args.map Tm.enc) := by
    cases X with
    | nl k n s => simp [Tm.args] at hx
    | mk k n s us => rfl
   have hX : X.cells = [.int .i64 X.kind, .int .i64 X.num, .str X.name, .sl (X.args.map Tm.enc)] := by rw [← ha]; rfl
   have h5 : AV.refsL (X.args.map Tm.enc) = 0 := encs_refs _
   have hxe := Tm.enc_eq x
   have hxc := Tm.cells_is x
   have hxr := argV_refs x
   have w1 : IntKind.i64.wrap ((i : Int) - 1) = (i : Int) - 1 := wrap_i64 (by omega) (by omega)
   have t1 : (0 ≤ (i : Int)) = True := eq_true (by omega)
   have b1 : st.length * 4 ≤ R.length := by omega
   have b2 : st.length + 1 ≤ lb := by omega
   have b3 : (st.length + 1) * 4 ≤ R.length := by omega
   have hbs : putAt [.int .i64 0, .int .i64 0, .str [], .nils] 0 [.int .i64 x.kind, .int .i64 x.num, .str x.name, x.argV] = [.int .i64 x.kind, .int .i64 x.num, .str x.name, x.argV] := rfl
   have hl1 : (st ++ [x]).length = st.length + 1 := by simp
   rw [hl1, show st.length + 1 + i = st.length + (i + 1) by omega] at ih
   have e2 : ((i + 1 : Nat) : Int) - 1 = (i : Int) := by omega
   rw [e2, loopH_succ]
   rw [hX, hxc] at ih
   rw [hX]
   simp [c43_b0, c43_m0, h5, hx, hxe, hxc, hxr, w1, t1, b1, b2, b3, hr, hm1, hm2, hrR, hbs, elemsA, -putAt_cons]
   exact ih
theorem inner2x4_old2 (C : Nat → List AV → Heap → Option (AV × Heap)) (n g : Nat) (caps : List AV) (hc : AV.refsL caps ≤ 2) (X : Tm) (os : List AObj) (md : Nat) (hmd : ∀ k, 2 ≤ k → min md k = md) (w : Nat) (hw : min w 6 = w) (lb : Nat) : ∀ (i m : Nat) (st : List Tm) (R : List AV), i ≤ X.args.length → i < m → st.length ≤ lb → lb < st.length + i → st.length + i < 1000000000000 → R.length = lb * 4 → R.take (st.length * 4) = flatT st → AV.refsL R = 0 →
 aft 6 w (loopH (evCode C n c43_b0) c43_m0 6 m (c43_f0 (.fn g caps) (.vec 4 0 st.length 4 lb) (.ptr 5 0) (.int .i64 ((i : Int) - 1))) ⟨6, .row X.cells :: .row R :: os, 6, md⟩) =
  some (.exit 2, FM 44 [(1, .fn g caps), (5, .vec 6 0 (st.length + i) 4 (st.length + i))], ⟨7, .row (flatT (st ++ (X.args.take i).reverse)) :: .row X.cells :: .dead :: os, w, md⟩)
 | 0, m, st, R, _, _, h1, h2, _, _, _, _ => by omega
 | i + 1, 0, st, R, _, h, _, _, _, _, _, _ => by omega
 | i + 1, m + 1, st, R, hi, hm, h1, h2, hl, hR, ht, hrR => by
   have hr : AV.refsL caps ≤ 6 := by omega
   have hm1 : min md 4 = md := hmd 4 (by omega)
   have hm2 : min md 6 = md := hmd 6 (by omega)
   obtain ⟨x, hx⟩ : ∃ x, X.args[i]? = some x := ⟨X.args[i]'(by omega), by simp⟩
   have htk : X.args.take (i + 1) = X.args.take i ++ [x] := by
    rw [List.take_add_one, hx]; rfl
   have ha : X.argV = .sl (X.args.map Tm.enc) := by
    cases X with
    | nl k n s => simp [Tm.args] at hx
    | mk k n s us => rfl
   have hX : X.cells = [.int .i64 X.kind, .int .i64 X.num, .str X.name, .sl (X.args.map Tm.enc)] := by rw [← ha]; rfl
   have h5 : AV.refsL (X.args.map Tm.enc) = 0 := encs_refs _
   have hxe := Tm.enc_eq x
   have hxc := Tm.cells_is x
   have hxr := argV_refs x
   have w1 : IntKind.i64.wrap ((i : Int) - 1) = (i : Int) - 1 := wrap_i64 (by omega) (by omega)
   have t1 : (0 ≤ (i : Int)) = True := eq_true (by omega)
   have b1 : st.length * 4 ≤ R.length := by omega
   have hbs : putAt [.int .i64 0, .int .i64 0, .str [], .nils] 0 [.int .i64 x.kind, .int .i64 x.num, .str x.name, x.argV] = [.int .i64 x.kind, .int .i64 x.num, .str x.name, x.argV] := rfl
   have hl1 : (st ++ [x]).length = st.length + 1 := by simp
   have e2 : ((i + 1 : Nat) : Int) - 1 = (i : Int) := by omega
   by_cases hfit : st.length + 1 ≤ lb
   ·obtain ⟨p1, p2⟩ := put2x4_ok hR ht (by omega) x
    have p3 := refsL_put hrR x (st.length * 4) (by omega)
    have ih := inner2x4_old2 C n g caps hc X os md hmd w hw lb i m (st ++ [x]) (putAt R (st.length * 4) x.cells) (by omega) (by omega) (by omega) (by omega) (by omega) p1 p2 p3
    have b3 : (st.length + 1) * 4 ≤ R.length := by omega
    rw [hl1, show st.length + 1 + i = st.length + (i + 1) by omega] at ih
    rw [e2, loopH_succ, htk, List.reverse_append]
    rw [hX, hxc] at ih
    rw [hX]
    simp only [List.append_assoc] at ih
    simp [c43_b0, c43_m0, h5, hx, hxe, hxc, hxr, w1, t1, b1, hfit, b3, hr, hm1, hm2, hrR, hbs, elemsA, -putAt_cons]
    exact ih
   ·have hlb : lb = st.length := by omega
    have ih := inner2x4_new C n g caps hc X os md hmd w hw i m (st ++ [x]) (by omega) (by omega) (by omega)
    have c1 : (st.length + 1) * 56 ≤ 140737488355328 := by omega
    have c2 : st.length + 1 < 9223372036854775808 := by omega
    have hft : flatT (st ++ [x]) = flatT st ++ [.int .i64 x.kind, .int .i64 x.num, .str x.name, x.argV] := by
     simp [flatT, Tm.cells]
    have hfr2 : AV.refsL (flatT st ++ [.int .i64 x.kind, .int .i64 x.num, .str x.name, x.argV]) = 0 := by rw [← hft]; exact flatT_refs _
    rw [hl1, show st.length + 1 + i = st.length + (i + 1) by omega, hft] at ih
    rw [e2, loopH_succ, htk, List.reverse_append]
    rw [hX] at ih ⊢
    simp only [List.append_assoc] at ih
    simp [c43_b0, c43_m0, h5, hx, hxe, hxc, hxr, w1, t1, b1, hfit, c1, c2, hr, hm1, hm2, hrR, ht, hfr2, elemsA]
    exact ih
theorem inner1x2_new (C : Nat → List AV → Heap → Option (AV × Heap)) (n g : Nat) (caps : List AV) (hc : AV.refsL caps ≤ 1) (X : Tm) (os : List AObj) (md : Nat) (hmd : ∀ k, 1 ≤ k → min md k = md) (w : Nat) (hw : min w 4 = w) : ∀ (i m : Nat) (st : List Tm), i ≤ X.args.length → i < m → st.length + i < 1000000000000 →
 aft 4 w (loopH (evCode C n c43_b0) c43_m0 4 m (c43_f0 (.fn g caps) (.vec 4 0 st.length 4 st.length) (.ptr 3 0) (.int .i64 ((i : Int) - 1))) ⟨5, .row (flatT st) :: .row X.cells :: .dead :: os, 4, md⟩) =
  some (.exit 2, FM 44 [(1, .fn g caps), (5, .vec 4 0 (st.length + i) 4 (st.length + i))], ⟨5, .row (flatT (st ++ (X.args.take i).reverse)) :: .row X.cells :: .dead :: os, w, md⟩)
 | 0, m + 1, st, _, _, _ => by
   have h1 : (0 ≤ (-1 : Int)) = False := by simp
   have hr : AV.refsL caps ≤ 4 := by omega
   have hm1 : min md 2 = md := hmd 2 (by omega)
   have hm2 : min md 4 = md := hmd 4 (by omega)
   have hfr := flatT_refs st
   simp [loopH_succ, c43_b0, hr, hfr, hw]
 | i + 1, m + 1, st, hi, hm, hl => by
   have hr : AV.refsL caps ≤ 4 := by omega
   have hm1 : min md 2 = md := hmd 2 (by omega)
   have hm2 : min md 4 = md := hmd 4 (by omega)
   obtain ⟨x, hx⟩ : ∃ x, X.args[i]? = some x := ⟨X.args[i]'(by omega), by simp⟩
   have ih := inner1x2_new C n g caps hc X os md hmd w hw i m (st ++ [x]) (by omega) (by omega) (by simp; omega)
   have ha : X.argV = .sl (X.args.map Tm.enc) := by
    cases X with
    | nl k n s => simp [Tm.args] at hx
    | mk k n s us => rfl
   have hX : X.cells = [.int .i64 X.kind, .int .i64 X.num, .str X.name, .sl (X.args.map Tm.enc)] := by rw [← ha]; rfl
   have h5 : AV.refsL (X.args.map Tm.enc) = 0 := encs_refs _
   have hxe := Tm.enc_eq x
   have hxc := Tm.cells_is x
   have hxr := argV_refs x
   have hfr := flatT_refs st
   have hfl := flatT_len st
   have w1 : IntKind.i64.wrap ((i : Int) - 1) = (i : Int) - 1 := wrap_i64 (by omega) (by omega)
   have t1 : (0 ≤ (i : Int)) = True := eq_true (by omega)
   have b1 : (st.length + 1) * 56 ≤ 140737488355328 := by omega
   have b2 : st.length + 1 < 9223372036854775808 := by omega
   have htk : X.args.take (i + 1) = X.args.take i ++ [x] := by
    rw [List.take_add_one, hx]; rfl
   have hft : flatT (st ++ [x]) = flatT st ++ [.int .i64 x.kind, .int .i64 x.num, .str x.name, x.argV] := by
    simp [flatT, Tm.cells]
   have hft2 : List.take (st.length * 4) (flatT st) = flatT st := List.take_of_length_le (by omega)
   have hfr2 : AV.refsL (flatT st ++ [.int .i64 x.kind, .int .i64 x.num, .str x.name, x.argV]) = 0 := by rw [← hft]; exact flatT_refs _
   rw [htk, List.reverse_append]
   simp only [List.length_append, List.length_cons, List.length_nil, Nat.zero_add, List.append_assoc, hft] at ih
   have e1 : st.length + 1 + i = st.length + (i + 1) := by omega
   rw [e1] at ih
   have e2 : ((i + 1 : Nat) : Int) - 1 = (i : Int) := by omega
   rw [e2, loopH_succ]
   rw [hX] at ih ⊢
   simp [c43_b0, c43_m0, h5, hx, hxe, hxc, hxr, hfr, hfl, w1, t1, b1, b2, hr, hft2, hfr2, hm1, hm2, elemsA]
   exact ih
theorem put1x2_ok {R : List AV} {st : List Tm} {lb : Nat} (hR : R.length = lb * 4) (ht : R.take (st.length * 4) = flatT st) (hlb : st.length + 1 ≤ lb) (x : Tm) :
 (putAt R (st.length * 4) x.cells).length = lb * 4 ∧ (putAt R (st.length * 4) x.cells).take ((st ++ [x]).length * 4) = flatT (st ++ [x]) := by
 have hc : x.cells.length = 4 := rfl
 have h1 : st.length * 4 + x.cells.length ≤ R.length := by omega
 refine ⟨?_, ?_⟩
 ·rw [putAt_eq x.cells R _ h1]
  simp only [List.length_append, List.length_take, List.length_drop]
  omega
 ·have := putAt_takeTo x.cells h1
  rw [List.length_append, show (st.length + [x].length) * 4 = st.length * 4 + x.cells.length by simp [hc]; omega, this, ht]
  simp [flatT]
theorem inner1x2_old1 (C : Nat → List AV → Heap → Option (AV × Heap)) (n g : Nat) (caps : List AV) (hc : AV.refsL caps ≤ 1) (X : Tm) (os : List AObj) (md : Nat) (hmd : ∀ k, 1 ≤ k → min md k = md) (w : Nat) (hw : min w 4 = w) (lb : Nat) : ∀ (i m : Nat) (st : List Tm) (R : List AV), i ≤ X.args.length → i < m → st.length + i ≤ lb → lb < 1000000000000 → R.length = lb * 4 → R.take (st.length * 4) = flatT st → AV.refsL R = 0 →
 ∃ R', R'.length = lb * 4 ∧ R'.take ((st.length + i) * 4) = flatT (st ++ (X.args.take i).reverse) ∧ AV.refsL R' = 0 ∧
 aft 4 w (loopH (evCode C n c43_b0) c43_m0 4 m (c43_f0 (.fn g caps) (.vec 2 0 st.length 4 lb) (.ptr 3 0) (.int .i64 ((i : Int) - 1))) ⟨4, .row X.cells :: .row R :: os, 4, md⟩) =
  some (.exit 2, FM 44 [(1, .fn g caps), (5, .vec 2 0 (st.length + i) 4 lb)], ⟨4, .row X.cells :: .row R' :: os, w, md⟩)
 | 0, m + 1, st, R, _, _, _, _, hR, ht, hrR => by
   have h1 : (0 ≤ (-1 : Int)) = False := by simp
   have hr : AV.refsL caps ≤ 4 := by omega
   have hm1 : min md 2 = md := hmd 2 (by omega)
   have hm2 : min md 4 = md := hmd 4 (by omega)
   refine ⟨R, hR, by simpa using ht, hrR, ?_⟩
   simp [loopH_succ, c43_b0, hr, hw]
 | i + 1, m + 1, st, R, hi, hm, hlb, hl, hR, ht, hrR => by
   have hr : AV.refsL caps ≤ 4 := by omega
   have hm1 : min md 2 = md := hmd 2 (by omega)
   have hm2 : min md 4 = md := hmd 4 (by omega)
   obtain ⟨x, hx⟩ : ∃ x, X.args[i]? = some x := ⟨X.args[i]'(by omega), by simp⟩
   obtain ⟨p1, p2⟩ := put1x2_ok hR ht (by omega) x
   have p3 := refsL_put hrR x (st.length * 4) (by omega)
   obtain ⟨R', r1, r2, r3, ih⟩ := inner1x2_old1 C n g caps hc X os md hmd w hw lb i m (st ++ [x]) (putAt R (st.length * 4) x.cells) (by omega) (by omega) (by simp; omega) hl p1 p2 p3
   have e1 : (st ++ [x]).length + i = st.length + (i + 1) := by simp; omega
   have htk : X.args.take (i + 1) = X.args.take i ++ [x] := by
    rw [List.take_add_one, hx]; rfl
   refine ⟨R', r1, ?_, r3, ?_⟩
   ·rw [htk, List.reverse_append, ← e1, r2]
    simp [List.append_assoc]
   have ha : X.argV = .sl (X.args.map Tm.enc) := by
    cases X with
    | nl k n s => simp [Tm.args] at hx
    | mk k n s us => rfl
   have hX : X.cells = [.int .i64 X.kind, .int .i64 X.num, .str X.name, .sl (X.args.map Tm.enc)] := by rw [← ha]; rfl
   have h5 : AV.refsL (X.args.map Tm.enc) = 0 := encs_refs _
   have hxe := Tm.enc_eq x
   have hxc := Tm.cells_is x
   have hxr := argV_refs x
   have w1 : IntKind.i64.wrap ((i : Int) - 1) = (i : Int) - 1 := wrap_i64 (by omega) (by omega)
   have t1 : (0 ≤ (i : Int)) = True := eq_true (by omega)
   have b1 : st.length * 4 ≤ R.length := by omega
   have b2 : st.length + 1 ≤ lb := by omega
   have b3 : (st.length + 1) * 4 ≤ R.length := by omega
   have hbs : putAt [.int .i64 0, .int .i64 0, .str [], .nils] 0 [.int .i64 x.kind, .int .i64 x.num, .str x.name, x.argV] = [.int .i64 x.kind, .int .i64 x.num, .str x.name, x.argV] := rfl
   have hl1 : (st ++ [x]).length = st.length + 1 := by simp
   rw [hl1, show st.length + 1 + i = st.length + (i + 1) by omega] at ih
   have e2 : ((i + 1 : Nat) : Int) - 1 = (i : Int) := by omega
   rw [e2, loopH_succ]
   rw [hX, hxc] at ih
   rw [hX]
   simp [c43_b0, c43_m0, h5, hx, hxe, hxc, hxr, w1, t1, b1, b2, b3, hr, hm1, hm2, hrR, hbs, elemsA, -putAt_cons]
   exact ih
theorem inner1x2_old2 (C : Nat → List AV → Heap → Option (AV × Heap)) (n g : Nat) (caps : List AV) (hc : AV.refsL caps ≤ 1) (X : Tm) (os : List AObj) (md : Nat) (hmd : ∀ k, 1 ≤ k → min md k = md) (w : Nat) (hw : min w 4 = w) (lb : Nat) : ∀ (i m : Nat) (st : List Tm) (R : List AV), i ≤ X.args.length → i < m → st.length ≤ lb → lb < st.length + i → st.length + i < 1000000000000 → R.length = lb * 4 → R.take (st.length * 4) = flatT st → AV.refsL R = 0 →
 aft 4 w (loopH (evCode C n c43_b0) c43_m0 4 m (c43_f0 (.fn g caps) (.vec 2 0 st.length 4 lb) (.ptr 3 0) (.int .i64 ((i : Int) - 1))) ⟨4, .row X.cells :: .row R :: os, 4, md⟩) =
  some (.exit 2, FM 44 [(1, .fn g caps), (5, .vec 4 0 (st.length + i) 4 (st.length + i))], ⟨5, .row (flatT (st ++ (X.args.take i).reverse)) :: .row X.cells :: .dead :: os, w, md⟩)
 | 0, m, st, R, _, _, h1, h2, _, _, _, _ => by omega
 | i + 1, 0, st, R, _, h, _, _, _, _, _, _ => by omega
 | i + 1, m + 1, st, R, hi, hm, h1, h2, hl, hR, ht, hrR => by
   have hr : AV.refsL caps ≤ 4 := by omega
   have hm1 : min md 2 = md := hmd 2 (by omega)
   have hm2 : min md 4 = md := hmd 4 (by omega)
   obtain ⟨x, hx⟩ : ∃ x, X.args[i]? = some x := ⟨X.args[i]'(by omega), by simp⟩
   have htk : X.args.take (i + 1) = X.args.take i ++ [x] := by
    rw [List.take_add_one, hx]; rfl
   have ha : X.argV = .sl (X.args.map Tm.enc) := by
    cases X with
    | nl k n s => simp [Tm.args] at hx
    | mk k n s us => rfl
   have hX : X.cells = [.int .i64 X.kind, .int .i64 X.num, .str X.name, .sl (X.args.map Tm.enc)] := by rw [← ha]; rfl
   have h5 : AV.refsL (X.args.map Tm.enc) = 0 := encs_refs _
   have hxe := Tm.enc_eq x
   have hxc := Tm.cells_is x
   have hxr := argV_refs x
   have w1 : IntKind.i64.wrap ((i : Int) - 1) = (i : Int) - 1 := wrap_i64 (by omega) (by omega)
   have t1 : (0 ≤ (i : Int)) = True := eq_true (by omega)
   have b1 : st.length * 4 ≤ R.length := by omega
   have hbs : putAt [.int .i64 0, .int .i64 0, .str [], .nils] 0 [.int .i64 x.kind, .int .i64 x.num, .str x.name, x.argV] = [.int .i64 x.kind, .int .i64 x.num, .str x.name, x.argV] := rfl
   have hl1 : (st ++ [x]).length = st.length + 1 := by simp
   have e2 : ((i + 1 : Nat) : Int) - 1 = (i : Int) := by omega
   by_cases hfit : st.length + 1 ≤ lb
   ·obtain ⟨p1, p2⟩ := put1x2_ok hR ht (by omega) x
    have p3 := refsL_put hrR x (st.length * 4) (by omega)
    have ih := inner1x2_old2 C n g caps hc X os md hmd w hw lb i m (st ++ [x]) (putAt R (st.length * 4) x.cells) (by omega) (by omega) (by omega) (by omega) (by omega) p1 p2 p3
    have b3 : (st.length + 1) * 4 ≤ R.length := by omega
    rw [hl1, show st.length + 1 + i = st.length + (i + 1) by omega] at ih
    rw [e2, loopH_succ, htk, List.reverse_append]
    rw [hX, hxc] at ih
    rw [hX]
    simp only [List.append_assoc] at ih
    simp [c43_b0, c43_m0, h5, hx, hxe, hxc, hxr, w1, t1, b1, hfit, b3, hr, hm1, hm2, hrR, hbs, elemsA, -putAt_cons]
    exact ih
   ·have hlb : lb = st.length := by omega
    have ih := inner1x2_new C n g caps hc X os md hmd w hw i m (st ++ [x]) (by omega) (by omega) (by omega)
    have c1 : (st.length + 1) * 56 ≤ 140737488355328 := by omega
    have c2 : st.length + 1 < 9223372036854775808 := by omega
    have hft : flatT (st ++ [x]) = flatT st ++ [.int .i64 x.kind, .int .i64 x.num, .str x.name, x.argV] := by
     simp [flatT, Tm.cells]
    have hfr2 : AV.refsL (flatT st ++ [.int .i64 x.kind, .int .i64 x.num, .str x.name, x.argV]) = 0 := by rw [← hft]; exact flatT_refs _
    rw [hl1, show st.length + 1 + i = st.length + (i + 1) by omega, hft] at ih
    rw [e2, loopH_succ, htk, List.reverse_append]
    rw [hX] at ih ⊢
    simp only [List.append_assoc] at ih
    simp [c43_b0, c43_m0, h5, hx, hxe, hxc, hxr, w1, t1, b1, hfit, c1, c2, hr, hm1, hm2, hrR, ht, hfr2, elemsA]
    exact ih
theorem inner1x3_new (C : Nat → List AV → Heap → Option (AV × Heap)) (n g : Nat) (caps : List AV) (hc : AV.refsL caps ≤ 1) (X : Tm) (os : List AObj) (md : Nat) (hmd : ∀ k, 1 ≤ k → min md k = md) (w : Nat) (hw : min w 5 = w) : ∀ (i m : Nat) (st : List Tm), i ≤ X.args.length → i < m → st.length + i < 1000000000000 →
 aft 5 w (loopH (evCode C n c43_b0) c43_m0 5 m (c43_f0 (.fn g caps) (.vec 5 0 st.length 4 st.length) (.ptr 4 0) (.int .i64 ((i : Int) - 1))) ⟨6, .row (flatT st) :: .row X.cells :: .dead :: os, 5, md⟩) =
  some (.exit 2, FM 44 [(1, .fn g caps), (5, .vec 5 0 (st.length + i) 4 (st.length + i))], ⟨6, .row (flatT (st ++ (X.args.take i).reverse)) :: .row X.cells :: .dead :: os, w, md⟩)
 | 0, m + 1, st, _, _, _ => by
   have h1 : (0 ≤ (-1 : Int)) = False := by simp
   have hr : AV.refsL caps ≤ 5 := by omega
   have hm1 : min md 3 = md := hmd 3 (by omega)
   have hm2 : min md 5 = md := hmd 5 (by omega)
   have hfr := flatT_refs st
   simp [loopH_succ, c43_b0, hr, hfr, hw]
 | i + 1, m + 1, st, hi, hm, hl => by
   have hr : AV.refsL caps ≤ 5 := by omega
   have hm1 : min md 3 = md := hmd 3 (by omega)
   have hm2 : min md 5 = md := hmd 5 (by omega)
   obtain ⟨x, hx⟩ : ∃ x, X.args[i]? = some x := ⟨X.args[i]'(by omega), by simp⟩
   have ih := inner1x3_new C n g caps hc X os md hmd w hw i m (st ++ [x]) (by omega) (by omega) (by simp; omega)
   have ha : X.argV = .sl (X.args.map Tm.enc) := by
    cases X with
    | nl k n s => simp [Tm.args] at hx
    | mk k n s us => rfl
   have hX : X.cells = [.int .i64 X.kind, .int .i64 X.num, .str X.name, .sl (X.args.map Tm.enc)] := by rw [← ha]; rfl
   have h5 : AV.refsL (X.args.map Tm.enc) = 0 := encs_refs _
   have hxe := Tm.enc_eq x
   have hxc := Tm.cells_is x
   have hxr := argV_refs x
   have hfr := flatT_refs st
   have hfl := flatT_len st
   have w1 : IntKind.i64.wrap ((i : Int) - 1) = (i : Int) - 1 := wrap_i64 (by omega) (by omega)
   have t1 : (0 ≤ (i : Int)) = True := eq_true (by omega)
   have b1 : (st.length + 1) * 56 ≤ 140737488355328 := by omega
   have b2 : st.length + 1 < 9223372036854775808 := by omega
   have htk : X.args.take (i + 1) = X.args.take i ++ [x] := by
    rw [List.take_add_one, hx]; rfl
   have hft : flatT (st ++ [x]) = flatT st ++ [.int .i64 x.kind, .int .i64 x.num, .str x.name, x.argV] := by
    simp [flatT, Tm.cells]
   have hft2 : List.take (st.length * 4) (flatT st) = flatT st := List.take_of_length_le (by omega)
   have hfr2 : AV.refsL (flatT st ++ [.int .i64 x.kind, .int .i64 x.num, .str x.name, x.argV]) = 0 := by rw [← hft]; exact flatT_refs _
   rw [htk, List.reverse_append]
   simp only [List.length_append, List.length_cons, List.length_nil, Nat.zero_add, List.append_assoc, hft] at ih
   have e1 : st.length + 1 + i = st.length + (i + 1) := by omega
   rw [e1] at ih
   have e2 : ((i + 1 : Nat) : Int) - 1 = (i : Int) := by omega
   rw [e2, loopH_succ]
   rw [hX] at ih ⊢
   simp [c43_b0, c43_m0, h5, hx, hxe, hxc, hxr, hfr, hfl, w1, t1, b1, b2, hr, hft2, hfr2, hm1, hm2, elemsA]
   exact ih
theorem put1x3_ok {R : List AV} {st : List Tm} {lb : Nat} (hR : R.length = lb * 4) (ht : R.take (st.length * 4) = flatT st) (hlb : st.length + 1 ≤ lb) (x : Tm) :
 (putAt R (st.length * 4) x.cells).length = lb * 4 ∧ (putAt R (st.length * 4) x.cells).take ((st ++ [x]).length * 4) = flatT (st ++ [x]) := by
 have hc : x.cells.length = 4 := rfl
 have h1 : st.length * 4 + x.cells.length ≤ R.length := by omega
 refine ⟨?_, ?_⟩
 ·rw [putAt_eq x.cells R _ h1]
  simp only [List.length_append, List.length_take, List.length_drop]
  omega
 ·have := putAt_takeTo x.cells h1
  rw [List.length_append, show (st.length + [x].length) * 4 = st.length * 4 + x.cells.length by simp [hc]; omega, this, ht]
  simp [flatT]
theorem inner1x3_old1 (C : Nat → List AV → Heap → Option (AV × Heap)) (n g : Nat) (caps : List AV) (hc : AV.refsL caps ≤ 1) (X : Tm) (os : List AObj) (md : Nat) (hmd : ∀ k, 1 ≤ k → min md k = md) (w : Nat) (hw : min w 5 = w) (lb : Nat) : ∀ (i m : Nat) (st : List Tm) (R : List AV), i ≤ X.args.length → i < m → st.length + i ≤ lb → lb < 1000000000000 → R.length = lb * 4 → R.take (st.length * 4) = flatT st → AV.refsL R = 0 →
 ∃ R', R'.length = lb * 4 ∧ R'.take ((st.length + i) * 4) = flatT (st ++ (X.args.take i).reverse) ∧ AV.refsL R' = 0 ∧
 aft 5 w (loopH (evCode C n c43_b0) c43_m0 5 m (c43_f0 (.fn g caps) (.vec 3 0 st.length 4 lb) (.ptr 4 0) (.int .i64 ((i : Int) - 1))) ⟨5, .row X.cells :: .row R :: os, 5, md⟩) =
  some (.exit 2, FM 44 [(1, .fn g caps), (5, .vec 3 0 (st.length + i) 4 lb)], ⟨5, .row X.cells :: .row R' :: os, w, md⟩)
 | 0, m + 1, st, R, _, _, _, _, hR, ht, hrR => by
   have h1 : (0 ≤ (-1 : Int)) = False := by simp
   have hr : AV.refsL caps ≤ 5 := by omega
   have hm1 : min md 3 = md := hmd 3 (by omega)
   have hm2 : min md 5 = md := hmd 5 (by omega)
   refine ⟨R, hR, by simpa using ht, hrR, ?_⟩
   simp [loopH_succ, c43_b0, hr, hw]
 | i + 1, m + 1, st, R, hi, hm, hlb, hl, hR, ht, hrR => by
   have hr : AV.refsL caps ≤ 5 := by omega
   have hm1 : min md 3 = md := hmd 3 (by omega)
   have hm2 : min md 5 = md := hmd 5 (by omega)
   obtain ⟨x, hx⟩ : ∃ x, X.args[i]? = some x := ⟨X.args[i]'(by omega), by simp⟩
   obtain ⟨p1, p2⟩ := put1x3_ok hR ht (by omega) x
   have p3 := refsL_put hrR x (st.length * 4) (by omega)
   obtain ⟨R', r1, r2, r3, ih⟩ := inner1x3_old1 C n g caps hc X os md hmd w hw lb i m (st ++ [x]) (putAt R (st.length * 4) x.cells) (by omega) (by omega) (by simp; omega) hl p1 p2 p3
   have e1 : (st ++ [x]).length + i = st.length + (i + 1) := by simp; omega
   have htk : X.args.take (i + 1) = X.args.take i ++ [x] := by
    rw [List.take_add_one, hx]; rfl
   refine ⟨R', r1, ?_, r3, ?_⟩
   ·rw [htk, List.reverse_append, ← e1, r2]
    simp [List.append_assoc]
   have ha : X.argV = .sl (X.args.map Tm.enc) := by
    cases X with
    | nl k n s => simp [Tm.args] at hx
    | mk k n s us => rfl
   have hX : X.cells = [.int .i64 X.kind, .int .i64 X.num, .str X.name, .sl (X.args.map Tm.enc)] := by rw [← ha]; rfl
   have h5 : AV.refsL (X.args.map Tm.enc) = 0 := encs_refs _
   have hxe := Tm.enc_eq x
   have hxc := Tm.cells_is x
   have hxr := argV_refs x
   have w1 : IntKind.i64.wrap ((i : Int) - 1) = (i : Int) - 1 := wrap_i64 (by omega) (by omega)
   have t1 : (0 ≤ (i : Int)) = True := eq_true (by omega)
   have b1 : st.length * 4 ≤ R.length := by omega
   have b2 : st.length + 1 ≤ lb := by omega
   have b3 : (st.length + 1) * 4 ≤ R.length := by omega
   have hbs : putAt [.int .i64 0, .int .i64 0, .str [], .nils] 0 [.int .i64 x.kind, .int .i64 x.num, .str x.name, x.argV] = [.int .i64 x.kind, .int .i64 x.num, .str x.name, x.argV] := rfl
   have hl1 : (st ++ [x]).length = st.length + 1 := by simp
   rw [hl1, show st.length + 1 + i = st.length + (i + 1) by omega] at ih
   have e2 : ((i + 1 : Nat) : Int) - 1 = (i : Int) := by omega
   rw [e2, loopH_succ]
   rw [hX, hxc] at ih
   rw [hX]
   simp [c43_b0, c43_m0, h5, hx, hxe, hxc, hxr, w1, t1, b1, b2, b3, hr, hm1, hm2, hrR, hbs, elemsA, -putAt_cons]
   exact ih
theorem inner1x3_old2 (C : Nat → List AV → Heap → Option (AV × Heap)) (n g : Nat) (caps : List AV) (hc : AV.refsL caps ≤ 1) (X : Tm) (os : List AObj) (md : Nat) (hmd : ∀ k, 1 ≤ k → min md k = md) (w : Nat) (hw : min w 5 = w) (lb : Nat) : ∀ (i m : Nat) (st : List Tm) (R : List AV), i ≤ X.args.length → i < m → st.length ≤ lb → lb < st.length + i → st.length + i < 1000000000000 → R.length = lb * 4 → R.take (st.length * 4) = flatT st → AV.refsL R = 0 →
 aft 5 w (loopH (evCode C n c43_b0) c43_m0 5 m (c43_f0 (.fn g caps) (.vec 3 0 st.length 4 lb) (.ptr 4 0) (.int .i64 ((i : Int) - 1))) ⟨5, .row X.cells :: .row R :: os, 5, md⟩) =
  some (.exit 2, FM 44 [(1, .fn g caps), (5, .vec 5 0 (st.length + i) 4 (st.length + i))], ⟨6, .row (flatT (st ++ (X.args.take i).reverse)) :: .row X.cells :: .dead :: os, w, md⟩)
 | 0, m, st, R, _, _, h1, h2, _, _, _, _ => by omega
 | i + 1, 0, st, R, _, h, _, _, _, _, _, _ => by omega
 | i + 1, m + 1, st, R, hi, hm, h1, h2, hl, hR, ht, hrR => by
   have hr : AV.refsL caps ≤ 5 := by omega
   have hm1 : min md 3 = md := hmd 3 (by omega)
   have hm2 : min md 5 = md := hmd 5 (by omega)
   obtain ⟨x, hx⟩ : ∃ x, X.args[i]? = some x := ⟨X.args[i]'(by omega), by simp⟩
   have htk : X.args.take (i + 1) = X.args.take i ++ [x] := by
    rw [List.take_add_one, hx]; rfl
   have ha : X.argV = .sl (X.args.map Tm.enc) := by
    cases X with
    | nl k n s => simp [Tm.args] at hx
    | mk k n s us => rfl
   have hX : X.cells = [.int .i64 X.kind, .int .i64 X.num, .str X.name, .sl (X.args.map Tm.enc)] := by rw [← ha]; rfl
   have h5 : AV.refsL (X.args.map Tm.enc) = 0 := encs_refs _
   have hxe := Tm.enc_eq x
   have hxc := Tm.cells_is x
   have hxr := argV_refs x
   have w1 : IntKind.i64.wrap ((i : Int) - 1) = (i : Int) - 1 := wrap_i64 (by omega) (by omega)
   have t1 : (0 ≤ (i : Int)) = True := eq_true (by omega)
   have b1 : st.length * 4 ≤ R.length := by omega
   have hbs : putAt [.int .i64 0, .int .i64 0, .str [], .nils] 0 [.int .i64 x.kind, .int .i64 x.num, .str x.name, x.argV] = [.int .i64 x.kind, .int .i64 x.num, .str x.name, x.argV] := rfl
   have hl1 : (st ++ [x]).length = st.length + 1 := by simp
   have e2 : ((i + 1 : Nat) : Int) - 1 = (i : Int) := by omega
   by_cases hfit : st.length + 1 ≤ lb
   ·obtain ⟨p1, p2⟩ := put1x3_ok hR ht (by omega) x
    have p3 := refsL_put hrR x (st.length * 4) (by omega)
    have ih := inner1x3_old2 C n g caps hc X os md hmd w hw lb i m (st ++ [x]) (putAt R (st.length * 4) x.cells) (by omega) (by omega) (by omega) (by omega) (by omega) p1 p2 p3
    have b3 : (st.length + 1) * 4 ≤ R.length := by omega
    rw [hl1, show st.length + 1 + i = st.length + (i + 1) by omega] at ih
    rw [e2, loopH_succ, htk, List.reverse_append]
    rw [hX, hxc] at ih
    rw [hX]
    simp only [List.append_assoc] at ih
    simp [c43_b0, c43_m0, h5, hx, hxe, hxc, hxr, w1, t1, b1, hfit, b3, hr, hm1, hm2, hrR, hbs, elemsA, -putAt_cons]
    exact ih
   ·have hlb : lb = st.length := by omega
    have ih := inner1x3_new C n g caps hc X os md hmd w hw i m (st ++ [x]) (by omega) (by omega) (by omega)
    have c1 : (st.length + 1) * 56 ≤ 140737488355328 := by omega
    have c2 : st.length + 1 < 9223372036854775808 := by omega
    have hft : flatT (st ++ [x]) = flatT st ++ [.int .i64 x.kind, .int .i64 x.num, .str x.name, x.argV] := by
     simp [flatT, Tm.cells]
    have hfr2 : AV.refsL (flatT st ++ [.int .i64 x.kind, .int .i64 x.num, .str x.name, x.argV]) = 0 := by rw [← hft]; exact flatT_refs _
    rw [hl1, show st.length + 1 + i = st.length + (i + 1) by omega, hft] at ih
    rw [e2, loopH_succ, htk, List.reverse_append]
    rw [hX] at ih ⊢
    simp only [List.append_assoc] at ih
    simp [c43_b0, c43_m0, h5, hx, hxe, hxc, hxr, w1, t1, b1, hfit, c1, c2, hr, hm1, hm2, hrR, ht, hfr2, elemsA]
    exact ih
theorem each2_loop {σ : Type} (C : Nat → List AV → Heap → Option (AV × Heap)) (n g : Nat) (caps : List AV) (hc : AV.refsL caps ≤ 2) (fs : Tm → σ → Bool × σ) (tl : σ → List AObj) (T : Tm) (mf : Nat → Nat)
 (okX : Tm → Prop) (hokX : ∀ x, okX x → ∀ y ∈ x.args, okX y) (okS : σ → Prop) (hokS : ∀ s x, okS s → (fs x s).1 = true → okS (fs x s).2) (okM : Nat → Prop) (hmf : ∀ md, okM md → okM (mf md)) (hmd : ∀ md, okM md → ∀ k, 2 ≤ k → min md k = md) (w : Nat) (hw : min w 4 = w)
 (hA : ∀ s x R md, okX x → okS s → okM md → C g (x.enc :: caps) ⟨5, .row x.cells :: .row R :: .row T.cells :: tl s, 4, md⟩ = some (.bool (fs x s).1, ⟨5, .row x.cells :: .row R :: .row T.cells :: tl (fs x s).2, 4, mf md⟩))
 (hB : ∀ s x R md, okX x → okS s → okM md → C g (x.enc :: caps) ⟨6, .row x.cells :: .row R :: .dead :: .row T.cells :: tl s, 4, md⟩ = some (.bool (fs x s).1, ⟨6, .row x.cells :: .row R :: .dead :: .row T.cells :: tl (fs x s).2, 4, mf md⟩)) :
 ∀ (d m : Nat) (rs : List Tm) (R : List AV) (lb : Nat) (s : σ) (md : Nat), Tm.sizeL rs < d → d ≤ m → d ≤ n → Tm.sizeL rs < 1000000000 → lb < 1000000000 → rs.length ≤ lb → R.length = lb * 4 → R.take (rs.length * 4) = flatT rs.reverse → AV.refsL R = 0 → (∀ x ∈ rs, okX x) → okS s → okM md →
 (∃ Y md', okM md' ∧ aft 4 w (loopH (evCode C n c43_b1) c43_m1 4 m (c43_f1 (.fn g caps) (.vec 3 0 rs.length 4 lb)) ⟨4, .row R :: .row T.cells :: tl s, 4, md⟩) =
  some (if (eachF fs d rs s).1 then .exit 0 else .ret, if (eachF fs d rs s).1 then FM 44 [] else FM 44 [(4, .bool false)], ⟨4, Y :: .row T.cells :: tl (eachF fs d rs s).2, w, md'⟩)) ∧
 (∃ Y md', okM md' ∧ aft 4 w (loopH (evCode C n c43_b1) c43_m1 4 m (c43_f1 (.fn g caps) (.vec 4 0 rs.length 4 lb)) ⟨5, .row R :: .dead :: .row T.cells :: tl s, 4, md⟩) =
  some (if (eachF fs d rs s).1 then .exit 0 else .ret, if (eachF fs d rs s).1 then FM 44 [] else FM 44 [(4, .bool false)], ⟨4, Y :: .row T.cells :: tl (eachF fs d rs s).2, w, md'⟩))
 | 0, m, rs, R, lb, s, md, h, _, _, _, _, _, _, _, _, _, _, _ => by omega
 | d + 1, 0, rs, R, lb, s, md, _, h, _, _, _, _, _, _, _, _, _, _ => by omega
 | d + 1, m + 1, [], R, lb, s, md, _, _, _, _, _, _, hR, ht, hrR, hox, hos, hok => by
   have hr : AV.refsL caps ≤ 4 := by omega
   refine ⟨⟨.row R, md, hok, ?_⟩, ⟨.dead, md, hok, ?_⟩⟩
   ·simp [loopH_succ, c43_b1, eachF, hr, hrR, hw]
   ·simp [loopH_succ, c43_b1, eachF, hr, hrR, hw]
 | d + 1, m + 1, x :: rs, R, lb, s, md, hd, hm, hn, hsz, hlb, hlen, hR, ht, hrR, hox, hos, hok => by
   have hr : AV.refsL caps ≤ 4 := by omega
   have hr1 : AV.refsL caps ≤ 5 := by omega
   have hsx := size_args x
   simp only [Tm.sizeL] at hd hsz
   have hla := len_sizeL x.args
   have hlr := len_sizeL rs
   have hs2 : Tm.sizeL (x.args ++ rs) = Tm.sizeL x.args + Tm.sizeL rs := sizeL_app _ _
   rw [List.length_cons] at hlen ht
   rw [List.reverse_cons] at ht
   have hrl : rs.reverse.length = rs.length := List.length_reverse
   rw [← hrl] at ht
   obtain ⟨t1, t2⟩ := top_flat ht
   rw [hrl] at t1 t2
   have hok2 := hmf md hok
   have w1 : IntKind.i64.wrap (rs.length : Int) = (rs.length : Int) := wrap_i64 (by omega) (by omega)
   have b1 : (0 < (rs.length : Int) + 1) = True := eq_true (by omega)
   have b2 : rs.length * 4 + 4 ≤ R.length := by omega
   have m1 : min md 4 = md := hmd md hok 4 (by omega)
   have m2 : min md 5 = md := hmd md hok 5 (by omega)
   have b3 : ((rs.length : Int) < (rs.length : Int) + 1) = True := eq_true (by omega)
   have hsl : sliceC (rs.length + 1) lb none (some (.int .i64 (rs.length : Int))) none = some (0, rs.length, none) := by
    have a1 : (rs.length : Int) ≤ ((max (rs.length + 1) lb : Nat) : Int) := by omega
    simp [sliceC, sliceB, a1]
   have hxe := Tm.enc_eq x
   have hA' := hA s x R md (hox x (by simp)) hos hok
   have hB' := hB s x R md (hox x (by simp)) hos hok
   rw [hxe] at hA' hB'
   have hcl := Tm.cells_is x
   have hxr := argV_refs x
   cases hf : (fs x s).1 with
   | false =>
     rw [hf] at hA' hB'
     have e : eachF fs (d + 1) (x :: rs) s = (false, (fs x s).2) := by simp [eachF, hf]
     rw [e]
     rw [hcl] at hA' hB' t2
     refine ⟨⟨.row R, mf md, hok2, ?_⟩, ⟨.dead, mf md, hok2, ?_⟩⟩
     ·rw [loopH_succ]
      simp [c43_b1, w1, b1, b2, b3, m1, m2, t2, hsl, hA', hr, hr1, hrR, hxr, hw]
     ·rw [loopH_succ]
      simp [c43_b1, w1, b1, b2, b3, m1, m2, t2, hsl, hB', hr, hr1, hrR, hxr, hw]
   | true =>
     rw [hf] at hA' hB'
     have hos2 := hokS s x hos hf
     have hox2 : ∀ y ∈ x.args ++ rs, okX y := fun y hy => by
      rcases List.mem_append.1 hy with hy | hy
      ·exact hokX x (hox x (by simp)) y hy
      ·exact hox y (by simp [hy])
     have e : eachF fs (d + 1) (x :: rs) s = eachF fs d (x.args ++ rs) (fs x s).2 := by simp [eachF, hf]
     rw [e]
     have hw4 : min 4 5 = 4 := rfl
     have hw5 : min 4 6 = 4 := rfl
     have hta : x.args.take x.args.length = x.args := List.take_length
     have hst : rs.reverse ++ x.args.reverse = (x.args ++ rs).reverse := by simp
     have hl2 : rs.length + x.args.length = (x.args ++ rs).length := by simp; omega
     have w2 : IntKind.i64.wrap ((x.args.length : Int) - 1) = (x.args.length : Int) - 1 := wrap_i64 (by omega) (by omega)
     have hlv : ∀ (fr : List AV) (h : Heap) (o : Opd), o.ev fr = x.argV → evOp fr h (.lenv o) = some (.int .i64 x.args.length, h) := by
      intro fr h o ho
      rw [evOp_lenv, ho]
      cases x <;> simp [Tm.argV, Tm.args]
     have t1' : R.take (rs.reverse.length * 4) = flatT rs.reverse := by rw [hrl]; exact t1
     by_cases hfit : rs.length + x.args.length ≤ lb
     ·refine ⟨?_, ?_⟩
      ·obtain ⟨R', r1, r2, r3, eq⟩ := inner2x3_old1 C n g caps hc x (.row T.cells :: tl (fs x s).2) (mf md) (hmd _ hok2) 4 hw4 lb x.args.length n rs.reverse R (Nat.le_refl _) (by omega) (by rw [hrl]; exact hfit) (by omega) hR t1' hrR
       obtain ⟨⟨Y, md', k1, k2⟩, _⟩ := each2_loop C n g caps hc fs tl T mf okX hokX okS hokS okM hmf hmd w hw hA hB d m (x.args ++ rs) R' lb (fs x s).2 (mf md) (by omega) (by omega) (by omega) (by omega) hlb (by rw [← hl2]; exact hfit) r1 (by rw [← hl2, ← hst, ← hrl]; rw [hta] at r2; exact r2) r3 hox2 hos2 hok2
       refine ⟨Y, md', k1, ?_⟩
       rw [hrl] at eq
       rw [loopH_succ]
       rw [← hl2] at k2
       rw [hcl] at hA' t2 eq
       simp only [c43_m0] at eq
       simp [c43_b1, c43_m0, c43_m1, w1, w2, b1, b2, b3, m1, m2, t2, hsl, hA', hr, hr1, hrR, hxr, hw, hlv, eq, r3]
       exact k2
      ·obtain ⟨R', r1, r2, r3, eq⟩ := inner2x4_old1 C n g caps hc x (.dead :: .row T.cells :: tl (fs x s).2) (mf md) (hmd _ hok2) 4 hw5 lb x.args.length n rs.reverse R (Nat.le_refl _) (by omega) (by rw [hrl]; exact hfit) (by omega) hR t1' hrR
       obtain ⟨_, ⟨Y, md', k1, k2⟩⟩ := each2_loop C n g caps hc fs tl T mf okX hokX okS hokS okM hmf hmd w hw hA hB d m (x.args ++ rs) R' lb (fs x s).2 (mf md) (by omega) (by omega) (by omega) (by omega) hlb (by rw [← hl2]; exact hfit) r1 (by rw [← hl2, ← hst, ← hrl]; rw [hta] at r2; exact r2) r3 hox2 hos2 hok2
       refine ⟨Y, md', k1, ?_⟩
       rw [hrl] at eq
       rw [loopH_succ]
       rw [← hl2] at k2
       rw [hcl] at hB' t2 eq
       simp only [c43_m0] at eq
       simp [c43_b1, c43_m0, c43_m1, w1, w2, b1, b2, b3, m1, m2, t2, hsl, hB', hr, hr1, hrR, hxr, hw, hlv, eq, r3]
       exact k2
     ·have hRn : (flatT (x.args ++ rs).reverse).length = (x.args ++ rs).length * 4 := by rw [flatT_len, List.length_reverse]
      have hRr := flatT_refs (x.args ++ rs).reverse
      obtain ⟨_, ⟨Y, md', k1, k2⟩⟩ := each2_loop C n g caps hc fs tl T mf okX hokX okS hokS okM hmf hmd w hw hA hB d m (x.args ++ rs) (flatT (x.args ++ rs).reverse) (x.args ++ rs).length (fs x s).2 (mf md) (by omega) (by omega) (by omega) (by omega) (by omega) (Nat.le_refl _) hRn (List.take_of_length_le (by omega)) hRr hox2 hos2 hok2
      rw [← hl2] at k2
      have hRr' := hRr
      rw [List.reverse_append] at hRr'
      refine ⟨⟨Y, md', k1, ?_⟩, ⟨Y, md', k1, ?_⟩⟩
      ·have eq := inner2x3_old2 C n g caps hc x (.row T.cells :: tl (fs x s).2) (mf md) (hmd _ hok2) 4 hw4 lb x.args.length n rs.reverse R (Nat.le_refl _) (by omega) (by omega) (by omega) (by omega) hR t1' hrR
       rw [hta, hst, hrl] at eq
       rw [loopH_succ]
       rw [hcl] at hA' t2 eq
       simp only [c43_m0] at eq
       simp [c43_b1, c43_m0, c43_m1, w1, w2, b1, b2, b3, m1, m2, t2, hsl, hA', hr, hr1, hrR, hxr, hw, hlv, eq, hRr']
       rw [List.reverse_append] at k2
       exact k2
      ·have eq := inner2x4_old2 C n g caps hc x (.dead :: .row T.cells :: tl (fs x s).2) (mf md) (hmd _ hok2) 4 hw5 lb x.args.length n rs.reverse R (Nat.le_refl _) (by omega) (by omega) (by omega) (by omega) hR t1' hrR
       rw [hta, hst, hrl] at eq
       rw [loopH_succ]
       rw [hcl] at hB' t2 eq
       simp only [c43_m0] at eq
       simp [c43_b1, c43_m0, c43_m1, w1, w2, b1, b2, b3, m1, m2, t2, hsl, hB', hr, hr1, hrR, hxr, hw, hlv, eq, hRr']
       rw [List.reverse_append] at k2
       exact k2
theorem each1_loop {σ : Type} (C : Nat → List AV → Heap → Option (AV × Heap)) (n g : Nat) (caps : List AV) (hc : AV.refsL caps ≤ 1) (fs : Tm → σ → Bool × σ) (tl : σ → List AObj) (T : Tm) (mf : Nat → Nat)
 (okX : Tm → Prop) (hokX : ∀ x, okX x → ∀ y ∈ x.args, okX y) (okS : σ → Prop) (hokS : ∀ s x, okS s → (fs x s).1 = true → okS (fs x s).2) (okM : Nat → Prop) (hmf : ∀ md, okM md → okM (mf md)) (hmd : ∀ md, okM md → ∀ k, 1 ≤ k → min md k = md) (w : Nat) (hw : min w 3 = w)
 (hA : ∀ s x R md, okX x → okS s → okM md → C g (x.enc :: caps) ⟨4, .row x.cells :: .row R :: .row T.cells :: tl s, 3, md⟩ = some (.bool (fs x s).1, ⟨4, .row x.cells :: .row R :: .row T.cells :: tl (fs x s).2, 3, mf md⟩))
 (hB : ∀ s x R md, okX x → okS s → okM md → C g (x.enc :: caps) ⟨5, .row x.cells :: .row R :: .dead :: .row T.cells :: tl s, 3, md⟩ = some (.bool (fs x s).1, ⟨5, .row x.cells :: .row R :: .dead :: .row T.cells :: tl (fs x s).2, 3, mf md⟩)) :
 ∀ (d m : Nat) (rs : List Tm) (R : List AV) (lb : Nat) (s : σ) (md : Nat), Tm.sizeL rs < d → d ≤ m → d ≤ n → Tm.sizeL rs < 1000000000 → lb < 1000000000 → rs.length ≤ lb → R.length = lb * 4 → R.take (rs.length * 4) = flatT rs.reverse → AV.refsL R = 0 → (∀ x ∈ rs, okX x) → okS s → okM md →
 (∃ Y md', okM md' ∧ aft 3 w (loopH (evCode C n c43_b1) c43_m1 3 m (c43_f1 (.fn g caps) (.vec 2 0 rs.length 4 lb)) ⟨3, .row R :: .row T.cells :: tl s, 3, md⟩) =
  some (if (eachF fs d rs s).1 then .exit 0 else .ret, if (eachF fs d rs s).1 then FM 44 [] else FM 44 [(4, .bool false)], ⟨3, Y :: .row T.cells :: tl (eachF fs d rs s).2, w, md'⟩)) ∧
 (∃ Y md', okM md' ∧ aft 3 w (loopH (evCode C n c43_b1) c43_m1 3 m (c43_f1 (.fn g caps) (.vec 3 0 rs.length 4 lb)) ⟨4, .row R :: .dead :: .row T.cells :: tl s, 3, md⟩) =
  some (if (eachF fs d rs s).1 then .exit 0 else .ret, if (eachF fs d rs s).1 then FM 44 [] else FM 44 [(4, .bool false)], ⟨3, Y :: .row T.cells :: tl (eachF fs d rs s).2, w, md'⟩))
 | 0, m, rs, R, lb, s, md, h, _, _, _, _, _, _, _, _, _, _, _ => by omega
 | d + 1, 0, rs, R, lb, s, md, _, h, _, _, _, _, _, _, _, _, _, _ => by omega
 | d + 1, m + 1, [], R, lb, s, md, _, _, _, _, _, _, hR, ht, hrR, hox, hos, hok => by
   have hr : AV.refsL caps ≤ 3 := by omega
   refine ⟨⟨.row R, md, hok, ?_⟩, ⟨.dead, md, hok, ?_⟩⟩
   ·simp [loopH_succ, c43_b1, eachF, hr, hrR, hw]
   ·simp [loopH_succ, c43_b1, eachF, hr, hrR, hw]
 | d + 1, m + 1, x :: rs, R, lb, s, md, hd, hm, hn, hsz, hlb, hlen, hR, ht, hrR, hox, hos, hok => by
   have hr : AV.refsL caps ≤ 3 := by omega
   have hr1 : AV.refsL caps ≤ 4 := by omega
   have hsx := size_args x
   simp only [Tm.sizeL] at hd hsz
   have hla := len_sizeL x.args
   have hlr := len_sizeL rs
   have hs2 : Tm.sizeL (x.args ++ rs) = Tm.sizeL x.args + Tm.sizeL rs := sizeL_app _ _
   rw [List.length_cons] at hlen ht
   rw [List.reverse_cons] at ht
   have hrl : rs.reverse.length = rs.length := List.length_reverse
   rw [← hrl] at ht
   obtain ⟨t1, t2⟩ := top_flat ht
   rw [hrl] at t1 t2
   have hok2 := hmf md hok
   have w1 : IntKind.i64.wrap (rs.length : Int) = (rs.length : Int) := wrap_i64 (by omega) (by omega)
   have b1 : (0 < (rs.length : Int) + 1) = True := eq_true (by omega)
   have b2 : rs.length * 4 + 4 ≤ R.length := by omega
   have m1 : min md 3 = md := hmd md hok 3 (by omega)
   have m2 : min md 4 = md := hmd md hok 4 (by omega)
   have b3 : ((rs.length : Int) < (rs.length : Int) + 1) = True := eq_true (by omega)
   have hsl : sliceC (rs.length + 1) lb none (some (.int .i64 (rs.length : Int))) none = some (0, rs.length, none) := by
    have a1 : (rs.length : Int) ≤ ((max (rs.length + 1) lb : Nat) : Int) := by omega
    simp [sliceC, sliceB, a1]
   have hxe := Tm.enc_eq x
   have hA' := hA s x R md (hox x (by simp)) hos hok
   have hB' := hB s x R md (hox x (by simp)) hos hok
   rw [hxe] at hA' hB'
   have hcl := Tm.cells_is x
   have hxr := argV_refs x
   cases hf : (fs x s).1 with
   | false =>
     rw [hf] at hA' hB'
     have e : eachF fs (d + 1) (x :: rs) s = (false, (fs x s).2) := by simp [eachF, hf]
     rw [e]
     rw [hcl] at hA' hB' t2
     refine ⟨⟨.row R, mf md, hok2, ?_⟩, ⟨.dead, mf md, hok2, ?_⟩⟩
     ·rw [loopH_succ]
      simp [c43_b1, w1, b1, b2, b3, m1, m2, t2, hsl, hA', hr, hr1, hrR, hxr, hw]
     ·rw [loopH_succ]
      simp [c43_b1, w1, b1, b2, b3, m1, m2, t2, hsl, hB', hr, hr1, hrR, hxr, hw]
   | true =>
     rw [hf] at hA' hB'
     have hos2 := hokS s x hos hf
     have hox2 : ∀ y ∈ x.args ++ rs, okX y := fun y hy => by
      rcases List.mem_append.1 hy with hy | hy
      ·exact hokX x (hox x (by simp)) y hy
      ·exact hox y (by simp [hy])
     have e : eachF fs (d + 1) (x :: rs) s = eachF fs d (x.args ++ rs) (fs x s).2 := by simp [eachF, hf]
     rw [e]
     have hw4 : min 3 4 = 3 := rfl
     have hw5 : min 3 5 = 3 := rfl
     have hta : x.args.take x.args.length = x.args := List.take_length
     have hst : rs.reverse ++ x.args.reverse = (x.args ++ rs).reverse := by simp
     have hl2 : rs.length + x.args.length = (x.args ++ rs).length := by simp; omega
     have w2 : IntKind.i64.wrap ((x.args.length : Int) - 1) = (x.args.length : Int) - 1 := wrap_i64 (by omega) (by omega)
     have hlv : ∀ (fr : List AV) (h : Heap) (o : Opd), o.ev fr = x.argV → evOp fr h (.lenv o) = some (.int .i64 x.args.length, h) := by
      intro fr h o ho
      rw [evOp_lenv, ho]
      cases x <;> simp [Tm.argV, Tm.args]
     have t1' : R.take (rs.reverse.length * 4) = flatT rs.reverse := by rw [hrl]; exact t1
     by_cases hfit : rs.length + x.args.length ≤ lb
     ·refine ⟨?_, ?_⟩
      ·obtain ⟨R', r1, r2, r3, eq⟩ := inner1x2_old1 C n g caps hc x (.row T.cells :: tl (fs x s).2) (mf md) (hmd _ hok2) 3 hw4 lb x.args.length n rs.reverse R (Nat.le_refl _) (by omega) (by rw [hrl]; exact hfit) (by omega) hR t1' hrR
       obtain ⟨⟨Y, md', k1, k2⟩, _⟩ := each1_loop C n g caps hc fs tl T mf okX hokX okS hokS okM hmf hmd w hw hA hB d m (x.args ++ rs) R' lb (fs x s).2 (mf md) (by omega) (by omega) (by omega) (by omega) hlb (by rw [← hl2]; exact hfit) r1 (by rw [← hl2, ← hst, ← hrl]; rw [hta] at r2; exact r2) r3 hox2 hos2 hok2
       refine ⟨Y, md', k1, ?_⟩
       rw [hrl] at eq
       rw [loopH_succ]
       rw [← hl2] at k2
       rw [hcl] at hA' t2 eq
       simp only [c43_m0] at eq
       simp [c43_b1, c43_m0, c43_m1, w1, w2, b1, b2, b3, m1, m2, t2, hsl, hA', hr, hr1, hrR, hxr, hw, hlv, eq, r3]
       exact k2
      ·obtain ⟨R', r1, r2, r3, eq⟩ := inner1x3_old1 C n g caps hc x (.dead :: .row T.cells :: tl (fs x s).2) (mf md) (hmd _ hok2) 3 hw5 lb x.args.length n rs.reverse R (Nat.le_refl _) (by omega) (by rw [hrl]; exact hfit) (by omega) hR t1' hrR
       obtain ⟨_, ⟨Y, md', k1, k2⟩⟩ := each1_loop C n g caps hc fs tl T mf okX hokX okS hokS okM hmf hmd w hw hA hB d m (x.args ++ rs) R' lb (fs x s).2 (mf md) (by omega) (by omega) (by omega) (by omega) hlb (by rw [← hl2]; exact hfit) r1 (by rw [← hl2, ← hst, ← hrl]; rw [hta] at r2; exact r2) r3 hox2 hos2 hok2
       refine ⟨Y, md', k1, ?_⟩
       rw [hrl] at eq
       rw [loopH_succ]
       rw [← hl2] at k2
       rw [hcl] at hB' t2 eq
       simp only [c43_m0] at eq
       simp [c43_b1, c43_m0, c43_m1, w1, w2, b1, b2, b3, m1, m2, t2, hsl, hB', hr, hr1, hrR, hxr, hw, hlv, eq, r3]
       exact k2
     ·have hRn : (flatT (x.args ++ rs).reverse).length = (x.args ++ rs).length * 4 := by rw [flatT_len, List.length_reverse]
      have hRr := flatT_refs (x.args ++ rs).reverse
      obtain ⟨_, ⟨Y, md', k1, k2⟩⟩ := each1_loop C n g caps hc fs tl T mf okX hokX okS hokS okM hmf hmd w hw hA hB d m (x.args ++ rs) (flatT (x.args ++ rs).reverse) (x.args ++ rs).length (fs x s).2 (mf md) (by omega) (by omega) (by omega) (by omega) (by omega) (Nat.le_refl _) hRn (List.take_of_length_le (by omega)) hRr hox2 hos2 hok2
      rw [← hl2] at k2
      have hRr' := hRr
      rw [List.reverse_append] at hRr'
      refine ⟨⟨Y, md', k1, ?_⟩, ⟨Y, md', k1, ?_⟩⟩
      ·have eq := inner1x2_old2 C n g caps hc x (.row T.cells :: tl (fs x s).2) (mf md) (hmd _ hok2) 3 hw4 lb x.args.length n rs.reverse R (Nat.le_refl _) (by omega) (by omega) (by omega) (by omega) hR t1' hrR
       rw [hta, hst, hrl] at eq
       rw [loopH_succ]
       rw [hcl] at hA' t2 eq
       simp only [c43_m0] at eq
       simp [c43_b1, c43_m0, c43_m1, w1, w2, b1, b2, b3, m1, m2, t2, hsl, hA', hr, hr1, hrR, hxr, hw, hlv, eq, hRr']
       rw [List.reverse_append] at k2
       exact k2
      ·have eq := inner1x3_old2 C n g caps hc x (.dead :: .row T.cells :: tl (fs x s).2) (mf md) (hmd _ hok2) 3 hw5 lb x.args.length n rs.reverse R (Nat.le_refl _) (by omega) (by omega) (by omega) (by omega) hR t1' hrR
       rw [hta, hst, hrl] at eq
       rw [loopH_succ]
       rw [hcl] at hB' t2 eq
       simp only [c43_m0] at eq
       simp [c43_b1, c43_m0, c43_m1, w1, w2, b1, b2, b3, m1, m2, t2, hsl, hB', hr, hr1, hrR, hxr, hw, hlv, eq, hRr']
       rw [List.reverse_append] at k2
       exact k2
def cntF (_ : Tm) (k : Nat) : Bool × Nat := (decide (k + 1 ≤ 2000), k + 1)
def sizeN (t : Tm) : Nat := (eachF cntF (t.size + 1) [t] 0).2
theorem cnt_each : ∀ (d : Nat) (rs : List Tm) (k : Nat), Tm.sizeL rs < d → k ≤ 2000 → (eachF cntF d rs k).2 = min (k + Tm.sizeL rs) 2001
 | 0, rs, k, h, _ => by omega
 | d + 1, [], k, _, hk => by simp [eachF, Tm.sizeL]; omega
 | d + 1, x :: rs, k, h, hk => by
   have hs := size_args x
   have h2 := sizeL_app x.args rs
   simp only [Tm.sizeL] at h ⊢
   unfold eachF
   simp only [cntF, decide_eq_true_eq]
   split
   ·rename_i hc
    rw [cnt_each d (x.args ++ rs) (k + 1) (by omega) hc, h2]
    omega
   ·omega
theorem sizeN_eq (t : Tm) : sizeN t = min t.size 2001 := by
 unfold sizeN
 rw [cnt_each _ _ _ (by simp [Tm.sizeL]) (by omega)]
 simp [Tm.sizeL]
theorem cls60 (n : Nat) (x : Tm) (k : Nat) (hk : k ≤ 2000) (R : AObj) (T T0 : AObj) (md : Nat) : evCall (envOf []) (n + 1) 60 [x.enc, .ptr 1 0] ⟨5, .row x.cells :: R :: T :: .row [.int .i64 k] :: [T0], 4, md⟩ =
 some (.bool (cntF x k).1, ⟨5, .row x.cells :: R :: T :: .row [.int .i64 ((cntF x k).2 : Nat)] :: [T0], 4, min md 1⟩) := by
 have hxe := Tm.enc_eq x
 have hcl := Tm.cells_is x
 have hxr := argV_refs x
 have w1 : IntKind.i64.wrap ((k : Int) + 1) = (k : Int) + 1 := wrap_i64 (by omega) (by omega)
 rw [hxe, hcl]
 by_cases hc : k + 1 ≤ 2000
 ·have hc' : ((k : Int) + 1 ≤ 2000) = True := eq_true (by omega)
  simp [run60, c60, cntF, hc, hc', w1, hxr]
 ·have hc' : ((k : Int) + 1 ≤ 2000) = False := eq_false (by omega)
  simp [run60, c60, cntF, hc, hc', w1, hxr]
theorem cls60b (n : Nat) (x : Tm) (k : Nat) (hk : k ≤ 2000) (R : AObj) (D T T0 : AObj) (md : Nat) : evCall (envOf []) (n + 1) 60 [x.enc, .ptr 1 0] ⟨6, .row x.cells :: R :: D :: T :: .row [.int .i64 k] :: [T0], 4, md⟩ =
 some (.bool (cntF x k).1, ⟨6, .row x.cells :: R :: D :: T :: .row [.int .i64 ((cntF x k).2 : Nat)] :: [T0], 4, min md 1⟩) := by
 have hxe := Tm.enc_eq x
 have hcl := Tm.cells_is x
 have hxr := argV_refs x
 have w1 : IntKind.i64.wrap ((k : Int) + 1) = (k : Int) + 1 := wrap_i64 (by omega) (by omega)
 rw [hxe, hcl]
 by_cases hc : k + 1 ≤ 2000
 ·have hc' : ((k : Int) + 1 ≤ 2000) = True := eq_true (by omega)
  simp [run60, c60, cntF, hc, hc', w1, hxr]
 ·have hc' : ((k : Int) + 1 ≤ 2000) = False := eq_false (by omega)
  simp [run60, c60, cntF, hc, hc', w1, hxr]
theorem size_each (t : Tm) (hs : t.size < 1000000000) (n : Nat) (hn : t.size + 1 ≤ n + 1) : ∃ Y md', aft 4 2 (loopH (evCode (evCall (envOf []) (n + 1)) (n + 1) c43_b1) c43_m1 4 (n + 1) (c43_f1 (.fn 60 [.ptr 1 0]) (.vec 3 0 1 4 1)) ⟨4, [.row t.cells, .row t.cells, .row [.int .i64 0], .row t.cells], 4, 2⟩) =
 some (if (eachF cntF (t.size + 1) [t] 0).1 then .exit 0 else .ret, if (eachF cntF (t.size + 1) [t] 0).1 then FM 44 [] else FM 44 [(4, .bool false)], ⟨4, [Y, .row t.cells, .row [.int .i64 (sizeN t : Nat)], .row t.cells], 2, md'⟩) := by
 have h := each2_loop (evCall (envOf []) (n + 1)) (n + 1) 60 [.ptr 1 0] (by simp [AV.refsL, AV.refs]) cntF (fun k => [.row [.int .i64 (k : Nat)], .row t.cells]) t (min · 1)
  (fun _ => True) (fun _ _ _ _ => trivial) (· ≤ 2000) (fun s x _ h => by simpa [cntF] using h) (fun md => md = 1 ∨ md = 2) (fun md h => by omega) (fun md h k hk => by omega) 2 rfl
  (fun s x R md _ hs' _ => cls60 n x s hs' _ _ _ md) (fun s x R md _ hs' _ => cls60b n x s hs' _ _ _ _ md)
  (t.size + 1) (n + 1) [t] t.cells 1 0 2 (by simp [Tm.sizeL]) hn hn (by simp [Tm.sizeL]; exact hs) (by omega) (by simp) rfl (by simp [flatT]; rfl) (by simp [Tm.cells, AV.refsL, AV.refs, argV_refs]) (fun _ _ => trivial) (by omega) (.inr rfl)
 obtain ⟨⟨Y, md', _, e⟩, _⟩ := h
 exact ⟨Y, md', e⟩
def sizeS : KSpec := ⟨41, fun | [v] => (match decTm v with | some t => if t.size < 1000000000 then some (.int .i64 (sizeN t : Nat)) else none | none => none) | _ => none⟩
theorem sizeS_f : sizeS.f = 41 := (rfl)
theorem sizeS_at (t : Tm) (h : t.size < 1000000000) : sizeS.S [t.enc] = some (.int .i64 (sizeN t : Nat)) := by
 simp only [sizeS, decTm_enc, if_pos h]
theorem sizeS_ok : KSpecOK Tryz.prog sizeS := fun args v hv => by
 unfold sizeS at hv ⊢
 dsimp only at hv ⊢
 split at hv
 ·rename_i x
  split at hv
  ·rename_i t ht
   split at hv
   ·rename_i hl
    cases hv
    rw [decTm_eq ht]
    refine prim_of (n := t.size + 5) (h' := h0) (envOf_ok (ss := []) (by simp)) ?_ rfl (by simp [AV.refsL, Tm.enc_refs])
    obtain ⟨Y, md', eq⟩ := size_each t hl (t.size + 2) (by omega)
    have hcl := Tm.cells_is t
    have hxr := argV_refs t
    rw [Tm.enc_eq, hcl]
    rw [hcl] at eq
    simp only [c43_m1] at eq
    cases hb : (eachF cntF (t.size + 1) [t] 0).1 with
    | true =>
      rw [hb] at eq
      simp only [if_true] at eq
      simp [run41, c41, run43, c43, c43_m1, hxr, eq]
    | false =>
      rw [hb] at eq
      simp only [Bool.false_eq_true, if_false] at eq
      simp [run41, c41, run43, c43, c43_m1, hxr, eq]
   ·cases hv
  ·cases hv
 ·cases hv
theorem frz_argV (h : Heap) (n0 d : Nat) (t : Tm) : frz h n0 (d + 1) t.argV = some (t.argV, []) := basic_frz (argV_basic t)
mutual
def Tm.depth : Tm → Nat
 | .nl .. => 1
 | .mk _ _ _ us => 1 + Tm.depthL us
def Tm.depthL : List Tm → Nat
 | [] => 0
 | t :: r => max t.depth (Tm.depthL r)
end
theorem depth_args (t : Tm) : t.depth = 1 + Tm.depthL t.args := by cases t <;> rfl
def foldD (most d : Nat) : List Tm → Nat
 | [] => d
 | x :: r => if most ≤ d + 1 then d else foldD most (max d (min x.depth (most - 1))) r
theorem foldD_eq (most : Nat) : ∀ (us : List Tm) (d : Nat), min (foldD most d us + 1) most = min (max d (Tm.depthL us) + 1) most
 | [], d => by simp [foldD, Tm.depthL]
 | x :: r, d => by
   unfold foldD
   simp only [Tm.depthL]
   split
   ·omega
   ·rw [foldD_eq most r]
    omega
def depthKS (m : Nat) : KSpec := ⟨61, fun | [v, .int .i64 n] => (match decTm v with | some t => if n = m ∧ t.size < 1000000000 then some (.int .i64 (min t.depth m : Nat)) else none | none => none) | _ => none⟩
theorem depthKS_f (m : Nat) : (depthKS m).f = 61 := (rfl)
theorem depthKS_at (m : Nat) (t : Tm) (h : t.size < 1000000000) : (depthKS m).S [t.enc, .int .i64 (m : Nat)] = some (.int .i64 (min t.depth m : Nat)) := by
 simp only [depthKS, decTm_enc]
 exact if_pos ⟨trivial, h⟩
theorem depthKS_no (m k : Nat) (v : AV) (h : k ≠ m) : (depthKS m).S [v, .int .i64 (k : Nat)] = none := by
 simp only [depthKS]
 split
 ·rw [if_neg (by omega)]
 ·rfl
theorem c61_loop (n m : Nat) (hm : m ≤ 100) (hm1 : 1 ≤ m) (T : AObj) (us : List Tm) (hs : Tm.sizeL us < 1000000000) : ∀ (post pre : List Tm) (k d : Nat), us = pre ++ post → post.length < k → d ≤ 100 →
 ∃ md, aft 1 0 (loopH (evCode (evCall (envOf [depthKS (m - 1)]) (n + 1)) (n + 1) c61_b0) c61_m0 1 k (c61_f0 (.int .i64 m) (.int .i64 d) (.sl (us.map Tm.enc)) (.int .i64 us.length) (.int .i64 pre.length)) ⟨1, [T], 1, 0⟩) =
   some (.exit 0, FM 30 [(1, .int .i64 m), (5, .int .i64 (foldD m d post : Nat))], ⟨1, [T], 0, md⟩)
 | [], pre, k + 1, d, e, _, _ => by
   simp at e
   subst e
   have h5 : AV.refsL (us.map Tm.enc) = 0 := encs_refs _
   exact ⟨0, by simp [loopH_succ, c61_b0, h5, foldD]⟩
 | x :: post, pre, k + 1, d, e, hk, hd => by
   have hlu := len_sizeL us
   have h1 : us[pre.length]? = some x := by rw [e]; simp
   have h5 : AV.refsL (us.map Tm.enc) = 0 := encs_refs _
   have h6 : ((pre.length : Int) < (us.length : Int)) = True := eq_true (by rw [e, List.length_append, List.length_cons]; omega)
   have hpl : pre.length < us.length := by rw [e]; simp
   have h3 : IntKind.i64.wrap ((pre.length : Int) + 1) = (pre.length : Int) + 1 := wrap_i64 (by omega) (by omega)
   have hxe := Tm.enc_eq x
   have hcl := Tm.cells_is x
   have hxr := argV_refs x
   have hxs : x.size < 1000000000 := by
    have := sizeL_app pre (x :: post)
    rw [← e] at this
    simp only [Tm.sizeL] at this
    omega
   have w1 : IntKind.i64.wrap ((m : Int) - 1) = ((m - 1 : Nat) : Int) := by rw [wrap_i64 (by omega) (by omega)]; omega
   by_cases hb : m ≤ d + 1
   ·have hb' : (((m - 1 : Nat) : Int) ≤ (d : Int)) = True := eq_true (by omega)
    refine ⟨0, ?_⟩
    rw [loopH_succ]
    simp [c61_b0, h1, h5, h6, hxe, hcl, hxr, w1, hb', foldD, hb]
   ·have hb' : (((m - 1 : Nat) : Int) ≤ (d : Int)) = False := eq_false (by omega)
    have hc := depthKS_at (m - 1) x hxs
    rw [hxe, hcl] at hc
    have hmx : (if d < min x.depth (m - 1) then ((min x.depth (m - 1) : Nat) : Int) else (d : Int)) = ((max d (min x.depth (m - 1)) : Nat) : Int) := by
     split <;> omega
    obtain ⟨md, ih⟩ := c61_loop n m hm hm1 T us hs post (pre ++ [x]) k (max d (min x.depth (m - 1))) (by simp [e]) (by rw [List.length_cons] at hk; omega) (by omega)
    refine ⟨md, ?_⟩
    simp only [List.length_append, List.length_cons, List.length_nil, Nat.zero_add] at ih
    rw [show ((pre.length + 1 : Nat) : Int) = (pre.length : Int) + 1 by omega] at ih
    rw [loopH_succ]
    have hfd : foldD m d (x :: post) = foldD m (max d (min x.depth (m - 1))) post := by
     rw [foldD, if_neg hb]
    rw [hfd]
    generalize min x.depth (m - 1) = q at hc hmx ih
    generalize max d q = q2 at hmx ih
    simp [c61_b0, c61_m0, h1, h3, h5, h6, hxe, hcl, hxr, w1, hb', hc, hmx, frz_argV, depthKS_f]
    exact ih
theorem depthKS_step (m : Nat) (hm1 : 1 ≤ m) (hm : m ≤ 100) (hp : KSpecOK Tryz.prog (depthKS (m - 1))) : KSpecOK Tryz.prog (depthKS m) := fun args v hv => by
 have hv0 := hv
 unfold depthKS at hv
 dsimp only at hv
 split at hv
 ·rename_i x n
  split at hv
  ·rename_i t ht
   split at hv
   ·rename_i hc
    obtain ⟨rfl, hs⟩ := hc
    cases hv
    rw [decTm_eq ht]
    have hno := depthKS_no (m - 1) m t.enc (by omega)
    refine prim_of (n := t.size + 5) (h' := h0) (envOf_ok (ss := [depthKS (m - 1)]) (by simp [hp])) ?_ rfl (by simp [AV.refsL, AV.refs, Tm.enc_refs])
    rw [depthKS_f]
    have hxe := Tm.enc_eq t
    have hcl := Tm.cells_is t
    have hxr := argV_refs t
    have hsz := size_args t
    have hla := len_sizeL t.args
    have hde := depth_args t
    have hfe := foldD_eq m t.args 0
    rw [Nat.zero_max, Nat.add_comm (Tm.depthL t.args) 1, ← hde] at hfe
    rw [hxe, hcl] at hno ⊢
    have hr : foldD m 0 t.args ≤ 100 := by
     have key : ∀ (us : List Tm) (d : Nat), d ≤ 100 → foldD m d us ≤ 100 := by
      intro us
      induction us with
      | nil => intro d h; exact h
      | cons x r ih =>
        intro d h
        unfold foldD
        split
        ·exact h
        ·exact ih _ (by omega)
     exact key _ 0 (by omega)
    have w2 : IntKind.i64.wrap ((foldD m 0 t.args : Int) + 1) = (foldD m 0 t.args : Int) + 1 := wrap_i64 (by omega) (by omega)
    have hmn : (if (m : Int) < (foldD m 0 t.args : Int) + 1 then (m : Int) else (foldD m 0 t.args : Int) + 1) = ((min t.depth m : Nat) : Int) := by
     split <;> omega
    obtain ⟨md, lp⟩ := c61_loop (t.size + 3) m hm hm1 (.row t.cells) t.args (by omega) t.args [] (t.size + 4) 0 rfl (by omega) (by omega)
    simp only [List.length_nil, show ((0 : Nat) : Int) = 0 from rfl, c61_m0] at lp
    rw [hcl] at lp
    have ha : (t.argV = .nils ∧ t.args = []) ∨ t.argV = .sl (t.args.map Tm.enc) := by
     cases t with
     | nl k n s => exact .inl ⟨rfl, rfl⟩
     | mk k n s us => exact .inr rfl
    generalize t.args = us at *
    generalize t.argV = a at *
    rcases ha with ⟨rfl, rfl⟩ | rfl
    ·simp [foldD] at w2 hmn
     simp [run61, c61, c61_m0, c61_b0, loopH_succ, hno, depthKS_f, w2, hmn]
    ·have h5 : AV.refsL (us.map Tm.enc) = 0 := encs_refs _
     simp [run61, c61, c61_m0, hno, depthKS_f, w2, hmn, lp, h5]
   ·cases hv
  ·cases hv
 ·cases hv
theorem depthKS_zero : KSpecOK Tryz.prog (depthKS 0) := fun args v hv => by
 unfold depthKS at hv
 dsimp only at hv
 split at hv
 ·rename_i x n
  split at hv
  ·rename_i t ht
   split at hv
   ·rename_i hc
    obtain ⟨rfl, hs⟩ := hc
    cases hv
    rw [decTm_eq ht]
    refine prim_of (n := 5) (h' := h0) (envOf_ok (ss := []) (by simp)) ?_ rfl (by simp [AV.refsL, AV.refs, Tm.enc_refs])
    rw [depthKS_f]
    have hxe := Tm.enc_eq t
    have hcl := Tm.cells_is t
    have hxr := argV_refs t
    have ha : (t.argV = .nils) ∨ ∃ us : List Tm, t.argV = .sl (us.map Tm.enc) := by
     cases t with
     | nl k n s => exact .inl rfl
     | mk k n s us => exact .inr ⟨us, rfl⟩
    have w0 : IntKind.i64.wrap (-1) = -1 := rfl
    have w1 : IntKind.i64.wrap (0 - 1) = -1 := rfl
    have w2 : IntKind.i64.wrap (0 + 1) = 1 := rfl
    have w3 : IntKind.i64.wrap 1 = 1 := rfl
    rw [hxe, hcl]
    generalize t.argV = a at *
    rcases ha with rfl | ⟨us, rfl⟩
    ·simp [run61, c61, c61_m0, c61_b0, loopH_succ, w0, w1, w2, w3]
    ·have h5 : AV.refsL (us.map Tm.enc) = 0 := encs_refs _
     cases us with
     | nil => simp [run61, c61, c61_m0, c61_b0, loopH_succ, w0, w1, w2, w3]
     | cons y r =>
       have h6 : AV.refsL (r.map Tm.enc) = 0 := encs_refs _
       have hye := Tm.enc_eq y
       have hyc := Tm.cells_is y
       have hyr := argV_refs y
       have t1 : ((0 : Int) < (r.length : Int) + 1) = True := eq_true (by omega)
       simp [run61, c61, c61_m0, c61_b0, loopH_succ, w0, w1, w2, w3, h6, hye, hyc, hyr, t1]
   ·cases hv
  ·cases hv
 ·cases hv
theorem depthKS_all : ∀ m, m ≤ 100 → KSpecOK Tryz.prog (depthKS m)
 | 0, _ => depthKS_zero
 | m + 1, h => depthKS_step (m + 1) (by omega) h (depthKS_all m (by omega))
def depthS : KSpec := ⟨42, fun | [v] => (match decTm v with | some t => if t.size < 1000000000 then some (.int .i64 (min t.depth 65 : Nat)) else none | none => none) | _ => none⟩
theorem depthS_f : depthS.f = 42 := (rfl)
theorem depthS_at (t : Tm) (h : t.size < 1000000000) : depthS.S [t.enc] = some (.int .i64 (min t.depth 65 : Nat)) := by
 simp only [depthS, decTm_enc, if_pos h]
theorem depthS_ok : KSpecOK Tryz.prog depthS := fun args v hv => by
 unfold depthS at hv ⊢
 dsimp only at hv ⊢
 split at hv
 ·rename_i x
  split at hv
  ·rename_i t ht
   split at hv
   ·rename_i hl
    cases hv
    rw [decTm_eq ht]
    refine prim_of (n := 3) (h' := h0) (envOf_ok (ss := [depthKS 65]) (by simp [depthKS_all 65 (by omega)])) ?_ rfl (by simp [AV.refsL, Tm.enc_refs])
    have hc := depthKS_at 65 t hl
    have hxe := Tm.enc_eq t
    have hcl := Tm.cells_is t
    have hxr := argV_refs t
    rw [hxe, hcl] at hc ⊢
    rw [show ((65 : Nat) : Int) = 65 from rfl] at hc
    simp [run42, c42, hc, hxr, frz_argV, depthKS_f]
   ·cases hv
  ·cases hv
 ·cases hv
mutual
def Tm.bulk : Tm → Nat
 | .nl _ _ s => 1 + s.length
 | .mk _ _ s us => 1 + s.length + Tm.bulkL us
def Tm.bulkL : List Tm → Nat
 | [] => 0
 | t :: r => t.bulk + Tm.bulkL r
end
theorem bulk_args (t : Tm) : t.bulk = 1 + t.name.length + Tm.bulkL t.args := by cases t <;> rfl
mutual
theorem size_bulk : ∀ t : Tm, t.size ≤ t.bulk
 | .nl _ _ s => by simp [Tm.size, Tm.bulk]
 | .mk _ _ s us => by
   have := sizeL_bulk us
   simp [Tm.size, Tm.bulk]
   omega
theorem sizeL_bulk : ∀ l : List Tm, Tm.sizeL l ≤ Tm.bulkL l
 | [] => by simp [Tm.sizeL, Tm.bulkL]
 | t :: r => by
   have := size_bulk t
   have := sizeL_bulk r
   simp [Tm.sizeL, Tm.bulkL]
   omega
end
mutual
def Tm.allT (p : Tm → Bool) : Tm → Bool
 | .nl k n s => p (.nl k n s)
 | .mk k n s us => p (.mk k n s us) && Tm.allL p us
def Tm.allL (p : Tm → Bool) : List Tm → Bool
 | [] => true
 | t :: r => Tm.allT p t && Tm.allL p r
end
theorem allT_args (p : Tm → Bool) (t : Tm) : t.allT p = (p t && Tm.allL p t.args) := by cases t <;> simp [Tm.allT, Tm.args, Tm.allL]
theorem allL_app (p : Tm → Bool) : ∀ a b : List Tm, Tm.allL p (a ++ b) = (Tm.allL p a && Tm.allL p b)
 | [], b => by simp [Tm.allL]
 | t :: r, b => by simp [Tm.allL, allL_app p r b, Bool.and_assoc]
def pureF (p : Tm → Bool) (x : Tm) (_ : Unit) : Bool × Unit := (p x, ())
theorem each_all (p : Tm → Bool) : ∀ (d : Nat) (rs : List Tm), Tm.sizeL rs < d → (eachF (pureF p) d rs ()).1 = Tm.allL p rs
 | 0, rs, h => by omega
 | d + 1, [], _ => by simp [eachF, Tm.allL]
 | d + 1, x :: rs, h => by
   have hs := size_args x
   have h2 := sizeL_app x.args rs
   simp only [Tm.sizeL] at h
   have e : eachF (pureF p) (d + 1) (x :: rs) () = if p x = true then eachF (pureF p) d (x.args ++ rs) () else (false, ()) := rfl
   rw [e]
   simp only [Tm.allL, allT_args]
   by_cases hp : p x = true
   ·rw [if_pos hp, hp, each_all p d (x.args ++ rs) (by omega), allL_app]
    simp
   ·simp [hp]
def goodT (t : Tm) : Bool := decide (t.size ≤ 2000) && decide (t.depth ≤ 64) && t.allT oneK
mutual
theorem bulk_arg : ∀ (us : List Tm) (y : Tm), y ∈ us → y.bulk ≤ Tm.bulkL us
 | [], y, h => by simp at h
 | t :: r, y, h => by
   simp only [Tm.bulkL]
   rcases List.mem_cons.1 h with rfl | h
   ·omega
   ·have := bulk_arg r y h
    omega
end
theorem good_each (t : Tm) (hs : t.bulk < 1000000000) (ss : List KSpec) (hss : ∀ (n : Nat) (x : Tm) (h : Heap), x.bulk < 1000000000 → evCall (envOf ss) (n + 1) 44 [x.enc] h = some (.bool (oneK x), h)) (n : Nat) (hn : t.size + 1 ≤ n + 1) (T0 : AObj) : ∃ Y md', aft 3 1 (loopH (evCode (evCall (envOf ss) (n + 1)) (n + 1) c43_b1) c43_m1 3 (n + 1) (c43_f1 (.fn 44 []) (.vec 2 0 1 4 1)) ⟨3, [.row t.cells, .row t.cells, T0], 3, 1⟩) =
 some (if t.allT oneK then .exit 0 else .ret, if t.allT oneK then FM 44 [] else FM 44 [(4, .bool false)], ⟨3, [Y, .row t.cells, T0], 1, md'⟩) := by
 have hsb := size_bulk t
 have h := each1_loop (evCall (envOf ss) (n + 1)) (n + 1) 44 [] (by simp [AV.refsL]) (pureF oneK) (fun _ => [T0]) t id
  (fun x => x.bulk < 1000000000) (fun x hx y hy => by have := bulk_args x; have := bulk_arg x.args y hy; omega) (fun _ => True) (fun _ _ _ _ => trivial) (fun md => md = 1) (fun md h => h) (fun md h k hk => by omega) 1 rfl
  (fun s x R md hx _ _ => hss n x _ hx) (fun s x R md hx _ _ => hss n x _ hx)
  (t.size + 1) (n + 1) [t] t.cells 1 () 1 (by simp [Tm.sizeL]) hn hn (by simp [Tm.sizeL]; omega) (by omega) (by simp) rfl (by simp [flatT]; rfl) (by simp [Tm.cells, AV.refsL, AV.refs, argV_refs]) (fun x hx => by simp at hx; subst hx; exact hs) trivial rfl
 obtain ⟨⟨Y, md', _, e⟩, _⟩ := h
 rw [each_all oneK _ _ (by simp [Tm.sizeL])] at e
 have ea : Tm.allL oneK [t] = t.allT oneK := by simp [Tm.allL]
 rw [ea] at e
 exact ⟨Y, md', e⟩
def goodTS : KSpec := ⟨12, fun | [v] => (match decTm v with | some t => if t.bulk < 1000000000 then some (.bool (goodT t)) else none | none => none) | _ => none⟩
theorem goodTS_f : goodTS.f = 12 := (rfl)
theorem goodTS_at (t : Tm) (h : t.bulk < 1000000000) : goodTS.S [t.enc] = some (.bool (goodT t)) := by
 simp only [goodTS, decTm_enc, if_pos h]
theorem one_call (n : Nat) (x : Tm) (h : Heap) (hx : x.bulk < 1000000000) : evCall (envOf [sizeS, depthS, oneS]) (n + 1) 44 [x.enc] h = some (.bool (oneK x), h) := by
 have hb := bulk_args x
 have ho := oneS_at x (by omega)
 have hxe := Tm.enc_eq x
 have hcl := Tm.cells_is x
 rw [hxe, hcl] at ho ⊢
 simp [ho, frz_argV, sizeS_f, depthS_f, oneS_f]
theorem goodTS_ok : KSpecOK Tryz.prog goodTS := fun args v hv => by
 unfold goodTS at hv ⊢
 dsimp only at hv ⊢
 split at hv
 ·rename_i x
  split at hv
  ·rename_i t ht
   split at hv
   ·rename_i hl
    cases hv
    rw [decTm_eq ht]
    refine prim_of (n := t.size + 5) (h' := h0) (envOf_ok (ss := [sizeS, depthS, oneS]) (by simp [sizeS_ok, depthS_ok, oneS_ok])) ?_ rfl (by simp [AV.refsL, Tm.enc_refs])
    have hsb := size_bulk t
    have c1 := sizeS_at t (by omega)
    have c2 := depthS_at t (by omega)
    have hxe := Tm.enc_eq t
    have hcl := Tm.cells_is t
    have hxr := argV_refs t
    obtain ⟨Y, md', eq⟩ := good_each t hl [sizeS, depthS, oneS] one_call (t.size + 2) (by omega) (.row t.cells)
    rw [hxe, hcl] at c1 c2 ⊢
    rw [hcl] at eq
    simp only [c43_m1] at eq
    unfold goodT
    by_cases h1 : t.size ≤ 2000
    ·have h1' : (((sizeN t : Nat) : Int) ≤ 2000) = True := eq_true (by rw [sizeN_eq]; omega)
     by_cases h2 : t.depth ≤ 64
     ·have h2' : (((min t.depth 65 : Nat) : Int) ≤ 64) = True := eq_true (by omega)
      generalize min t.depth 65 = q at c2 h2'
      cases hb : t.allT oneK with
      | true =>
        rw [hb] at eq
        simp only [if_true] at eq
        simp [run12, c12, run43, c43, c43_m1, hxr, frz_argV, c1, c2, h1, h1', h2, h2', eq, sizeS_f, depthS_f, oneS_f]
      | false =>
        rw [hb] at eq
        simp only [Bool.false_eq_true, if_false] at eq
        simp [run12, c12, run43, c43, c43_m1, hxr, frz_argV, c1, c2, h1, h1', h2, h2', eq, sizeS_f, depthS_f, oneS_f]
     ·have h2' : (((min t.depth 65 : Nat) : Int) ≤ 64) = False := eq_false (by omega)
      generalize min t.depth 65 = q at c2 h2'
      simp [run12, c12, hxr, frz_argV, c1, c2, h1, h1', h2, h2', sizeS_f, depthS_f, oneS_f]
    ·have h1' : (((sizeN t : Nat) : Int) ≤ 2000) = False := eq_false (by rw [sizeN_eq]; omega)
     simp [run12, c12, hxr, frz_argV, c1, h1, h1', sizeS_f, depthS_f, oneS_f]
   ·cases hv
  ·cases hv
 ·cases hv
mutual
def sameT : Tm → Tm → Bool
 | .nl k n s, b => decide (k = b.kind) && decide (n = b.num) && (s == b.name) && b.args.isEmpty
 | .mk k n s us, b => decide (k = b.kind) && decide (n = b.num) && (s == b.name) && sameL us b.args
def sameL : List Tm → List Tm → Bool
 | [], ws => ws.isEmpty
 | x :: r, ws => match ws with
   | [] => false
   | y :: q => sameT x y && sameL r q
end
theorem sameL_nil (ws : List Tm) : sameL [] ws = ws.isEmpty := by simp [sameL]
theorem sameL_cons (x y : Tm) (r q : List Tm) : sameL (x :: r) (y :: q) = (sameT x y && sameL r q) := by simp [sameL]
theorem sameT_eq (a b : Tm) : sameT a b = (decide (a.kind = b.kind) && decide (a.num = b.num) && (a.name == b.name) && sameL a.args b.args) := by
 cases a with
 | nl k n s =>
   show _ = (_ && sameL [] b.args)
   rw [sameL_nil, sameT]
   rfl
 | mk k n s us =>
   rw [sameT]
   rfl
theorem sameL_len : ∀ (us ws : List Tm), us.length ≠ ws.length → sameL us ws = false
 | [], [], h => absurd rfl h
 | [], _ :: _, _ => by simp [sameL_nil]
 | _ :: _, [], _ => by simp [sameL]
 | x :: r, y :: q, h => by
   have := sameL_len r q (by simpa using h)
   rw [sameL_cons, this, Bool.and_false]
def sameKS (N : Nat) : KSpec := ⟨49, fun | [a, b] => (match decTm a, decTm b with | some x, some y => if x.size < N ∧ y.size < 1000000000 then some (.bool (sameT x y)) else none | _, _ => none) | _ => none⟩
theorem sameKS_f (N : Nat) : (sameKS N).f = 49 := (rfl)
theorem sameKS_at (N : Nat) (x y : Tm) (h : x.size < N ∧ y.size < 1000000000) : (sameKS N).S [x.enc, y.enc] = some (.bool (sameT x y)) := by
 simp only [sameKS, decTm_enc, if_pos h]
def decArgs : AV → Option (List Tm)
 | .nils => some []
 | .sl xs => decTms xs
 | _ => none
theorem decArgs_argV (t : Tm) : decArgs t.argV = some t.args := by
 cases t with
 | nl k n s => rfl
 | mk k n s us => simp [decArgs, Tm.argV, Tm.args, ← encL_map, decTms_enc]
theorem decArgs_inv {v : AV} {us : List Tm} (h : decArgs v = some us) : (v = .nils ∧ us = []) ∨ v = .sl (us.map Tm.enc) := by
 cases v <;> simp [decArgs] at h
 ·exact .inl ⟨rfl, h⟩
 ·exact .inr (by rw [decTms_eq h])
theorem decArgs_refs {v : AV} {us : List Tm} (h : decArgs v = some us) : v.refs = 0 := by
 rcases decArgs_inv h with ⟨rfl, _⟩ | rfl
 ·rfl
 ·simp [AV.refs, encs_refs]
theorem sizeL_mem : ∀ {us : List Tm} {y : Tm}, y ∈ us → y.size ≤ Tm.sizeL us
 | t :: r, y, h => by
   simp only [Tm.sizeL]
   rcases List.mem_cons.1 h with rfl | h
   ·omega
   ·have := sizeL_mem h
    omega
theorem c65_loop (n N : Nat) (us ws : List Tm) (hl : us.length = ws.length) (hN : N ≤ 1000000000) (h1 : Tm.sizeL us < N) (h2 : Tm.sizeL ws < 1000000000) : ∀ (post postw pre prew : List Tm) (k : Nat), us = pre ++ post → ws = prew ++ postw → pre.length = prew.length → post.length < k →
 aft 0 0 (loopH (evCode (evCall (envOf [sameKS N]) (n + 1)) (n + 1) c65_b0) c65_m0 0 k (c65_f0 (.sl (ws.map Tm.enc)) (.fn 49 []) (.sl (us.map Tm.enc)) (.int .i64 us.length) (.int .i64 pre.length)) ⟨0, [], 0, 0⟩) =
  some (if sameL post postw then .exit 0 else .ret, if sameL post postw then FM 32 [] else FM 32 [(6, .bool false)], ⟨0, [], 0, 0⟩)
 | [], [], pre, prew, k + 1, e, e2, hp, _ => by
   simp at e
   subst e
   have h5 : AV.refsL (us.map Tm.enc) = 0 := encs_refs _
   have h6 : AV.refsL (ws.map Tm.enc) = 0 := encs_refs _
   simp [loopH_succ, c65_b0, h5, h6, sameL_nil]
 | [], y :: postw, pre, prew, k, e, e2, hp, _ => by
   rw [e, e2] at hl
   simp at hl
   omega
 | x :: post, [], pre, prew, k, e, e2, hp, _ => by
   rw [e, e2] at hl
   simp at hl
   omega
 | x :: post, y :: postw, pre, prew, k + 1, e, e2, hp, hk => by
   have ih := c65_loop n N us ws hl hN h1 h2 post postw (pre ++ [x]) (prew ++ [y]) k (by simp [e]) (by simp [e2]) (by simp [hp]) (by rw [List.length_cons] at hk; omega)
   have hlu := len_sizeL us
   have g1 : us[pre.length]? = some x := by rw [e]; simp
   have g2 : ws[pre.length]? = some y := by rw [e2, hp]; simp
   have h5 : AV.refsL (us.map Tm.enc) = 0 := encs_refs _
   have h5w : AV.refsL (ws.map Tm.enc) = 0 := encs_refs _
   have hpl : pre.length < us.length := by rw [e]; simp
   have h6 : ((pre.length : Int) < (us.length : Int)) = True := eq_true (by omega)
   have h3 : IntKind.i64.wrap ((pre.length : Int) + 1) = (pre.length : Int) + 1 := wrap_i64 (by omega) (by omega)
   have hxe := Tm.enc_eq x
   have hxc := Tm.cells_is x
   have hxr := argV_refs x
   have hye := Tm.enc_eq y
   have hyc := Tm.cells_is y
   have hyr := argV_refs y
   have hs := sameKS_at N x y ⟨by have := sizeL_mem (us := us) (y := x) (by rw [e]; simp); omega, by have := sizeL_mem (us := ws) (y := y) (by rw [e2]; simp); omega⟩
   rw [hxe, hxc, hye, hyc] at hs
   simp only [List.length_append, List.length_cons, List.length_nil, Nat.zero_add] at ih
   rw [show ((pre.length + 1 : Nat) : Int) = (pre.length : Int) + 1 by omega] at ih
   rw [loopH_succ]
   cases hsm : sameT x y with
   | false =>
     rw [hsm] at hs
     simp [c65_b0, g1, g2, h5, h5w, h6, hxe, hxc, hxr, hye, hyc, hyr, hs, frz_argV, sameKS_f, sameL_cons, hsm]
   | true =>
     rw [hsm] at hs
     simp [c65_b0, c65_m0, g1, g2, h3, h5, h5w, h6, hxe, hxc, hxr, hye, hyc, hyr, hs, frz_argV, sameKS_f, sameL_cons, hsm]
     exact ih
def eqKS (N : Nat) : KSpec := ⟨65, fun | [a, b, .fn 49 []] => (match decArgs a, decArgs b with | some us, some ws => if Tm.sizeL us < N ∧ Tm.sizeL ws < 1000000000 then some (.bool (sameL us ws)) else none | _, _ => none) | _ => none⟩
theorem eqKS_f (N : Nat) : (eqKS N).f = 65 := (rfl)
theorem eqKS_at (N : Nat) (x y : Tm) (h : Tm.sizeL x.args < N ∧ Tm.sizeL y.args < 1000000000) : (eqKS N).S [x.argV, y.argV, .fn 49 []] = some (.bool (sameL x.args y.args)) := by
 simp only [eqKS, decArgs_argV, if_pos h]
theorem eqKS_ok (N : Nat) (hN : N ≤ 1000000000) (hp : KSpecOK Tryz.prog (sameKS N)) : KSpecOK Tryz.prog (eqKS N) := fun args v hv => by
 unfold eqKS at hv
 dsimp only at hv
 split at hv
 ·rename_i a b
  split at hv
  ·rename_i us ws ha hb
   split at hv
   ·rename_i hc
    cases hv
    rw [eqKS_f]
    have hra := decArgs_refs ha
    have hrb := decArgs_refs hb
    refine prim_of (n := us.length + 4) (h' := h0) (envOf_ok (ss := [sameKS N]) (by simp [hp])) ?_ rfl (by simp [AV.refsL, AV.refs, hra, hrb])
    have hlen : ∀ (v : AV) (l : List Tm), decArgs v = some l → ∀ (fr : List AV) (h : Heap) (o : Opd), o.ev fr = v → evOp fr h (.lenv o) = some (.int .i64 l.length, h) := by
     intro v l hv fr h o ho
     rw [evOp_lenv, ho]
     rcases decArgs_inv hv with ⟨rfl, rfl⟩ | rfl <;> simp
    have hla := hlen a us ha
    have hlb := hlen b ws hb
    by_cases hl : us.length = ws.length
    ·have hl' : ((us.length : Int) = (ws.length : Int)) = True := eq_true (by omega)
     by_cases hne : us = []
     ·subst hne
      have hw : ws = [] := List.eq_nil_of_length_eq_zero (by simpa using hl.symm)
      subst hw
      rcases decArgs_inv ha with ⟨rfl, _⟩ | rfl <;> rcases decArgs_inv hb with ⟨rfl, _⟩ | rfl <;> simp [run65, c65, c65_m0, c65_b0, loopH_succ, sameKS_f, sameL_nil]
     ·have ha' : a = .sl (us.map Tm.enc) := by
       rcases decArgs_inv ha with ⟨_, h⟩ | h
       ·exact absurd h hne
       ·exact h
      have hb' : b = .sl (ws.map Tm.enc) := by
       rcases decArgs_inv hb with ⟨_, h⟩ | h
       ·subst h
        exact absurd (List.eq_nil_of_length_eq_zero (by simpa using hl)) hne
       ·exact h
      subst ha' hb'
      have lp := c65_loop (us.length + 2) N us ws hl hN hc.1 hc.2 us ws [] [] (us.length + 3) rfl rfl rfl (by omega)
      simp only [List.length_nil, c65_m0, show ((0 : Nat) : Int) = 0 from rfl] at lp
      have h5 : AV.refsL (us.map Tm.enc) = 0 := encs_refs _
      have h6 : AV.refsL (ws.map Tm.enc) = 0 := encs_refs _
      cases hsm : sameL us ws with
      | true =>
        rw [hsm] at lp
        simp only [if_true] at lp
        simp [run65, c65, c65_m0, h5, h6, hl', lp, sameKS_f]
      | false =>
        rw [hsm] at lp
        simp only [Bool.false_eq_true, if_false] at lp
        simp [run65, c65, c65_m0, h5, h6, hl', lp, sameKS_f]
    ·have hl' : ((us.length : Int) = (ws.length : Int)) = False := eq_false (by omega)
     simp [run65, c65, hla, hlb, hra, hrb, hl, hl', sameKS_f, sameL_len us ws hl]
   ·cases hv
  ·cases hv
 ·cases hv
theorem sameKS_step (N : Nat) (hN : N ≤ 1000000000) (hp : KSpecOK Tryz.prog (sameKS N)) : KSpecOK Tryz.prog (sameKS (N + 1)) := fun args v hv => by
 unfold sameKS at hv
 dsimp only at hv
 split at hv
 ·rename_i a b
  split at hv
  ·rename_i x y ha hb
   split at hv
   ·rename_i hc
    cases hv
    rw [sameKS_f, decTm_eq ha, decTm_eq hb]
    refine prim_of (n := 5) (h' := h0) (envOf_ok (ss := [eqKS N]) (by simp [eqKS_ok N hN hp])) ?_ rfl (by simp [AV.refsL, Tm.enc_refs])
    have s1 := size_args x
    have s2 := size_args y
    have hq := eqKS_at N x y ⟨by omega, by omega⟩
    have hxe := Tm.enc_eq x
    have hxc := Tm.cells_is x
    have hxr := argV_refs x
    have hye := Tm.enc_eq y
    have hyc := Tm.cells_is y
    have hyr := argV_refs y
    rw [sameT_eq, hxe, hxc, hye, hyc]
    by_cases c1 : x.kind = y.kind
    ·by_cases c2 : x.num = y.num
     ·cases c3 : x.name == y.name with
      | true =>
        cases c4 : sameL x.args y.args with
        | true =>
          rw [c4] at hq
          simp [run49, c49, c1, c2, c3, hxr, hyr, hq, frz_argV, eqKS_f]
        | false =>
          rw [c4] at hq
          simp [run49, c49, c1, c2, c3, hxr, hyr, hq, frz_argV, eqKS_f]
      | false => simp [run49, c49, c1, c2, c3, hxr, hyr, eqKS_f]
     ·simp [run49, c49, c1, c2, hxr, hyr, eqKS_f]
    ·simp [run49, c49, c1, hxr, hyr, eqKS_f]
   ·cases hv
  ·cases hv
 ·cases hv
theorem sameKS_zero : KSpecOK Tryz.prog (sameKS 0) := fun args v hv => by
 unfold sameKS at hv
 dsimp only at hv
 split at hv
 ·split at hv
  ·split at hv
   ·rename_i hc
    omega
   ·cases hv
  ·cases hv
 ·cases hv
theorem sameKS_all : ∀ N, N ≤ 1000000001 → KSpecOK Tryz.prog (sameKS N)
 | 0, _ => sameKS_zero
 | N + 1, h => sameKS_step N (by omega) (sameKS_all N (by omega))
def sameS : KSpec := ⟨21, fun | [a, b] => (match decTm a, decTm b with | some x, some y => if x.bulk < 1000000000 ∧ y.bulk < 1000000000 then some (.bool (goodT x && goodT y && sameT x y)) else none | _, _ => none) | _ => none⟩
theorem sameS_ok : KSpecOK Tryz.prog sameS := fun args v hv => by
 unfold sameS at hv ⊢
 dsimp only at hv ⊢
 split at hv
 ·rename_i a b
  split at hv
  ·rename_i x y ha hb
   split at hv
   ·rename_i hc
    cases hv
    rw [decTm_eq ha, decTm_eq hb]
    refine prim_of (n := 5) (h' := h0) (envOf_ok (ss := [goodTS, sameKS 1000000000]) (by simp [goodTS_ok, sameKS_all 1000000000 (by omega)])) ?_ rfl (by simp [AV.refsL, Tm.enc_refs])
    have b1 := size_bulk x
    have b2 := size_bulk y
    have g1 := goodTS_at x hc.1
    have g2 := goodTS_at y hc.2
    have hq := sameKS_at 1000000000 x y ⟨by omega, by omega⟩
    have hxe := Tm.enc_eq x
    have hxc := Tm.cells_is x
    have hxr := argV_refs x
    have hye := Tm.enc_eq y
    have hyc := Tm.cells_is y
    have hyr := argV_refs y
    rw [hxe, hxc] at g1 hq ⊢
    rw [hye, hyc] at g2 hq ⊢
    cases e1 : goodT x with
    | false =>
      rw [e1] at g1
      simp [run21, c21, g1, hxr, hyr, frz_argV, goodTS_f, sameKS_f]
    | true =>
      rw [e1] at g1
      cases e2 : goodT y with
      | false =>
        rw [e2] at g2
        simp [run21, c21, g1, g2, hxr, hyr, frz_argV, goodTS_f, sameKS_f]
      | true =>
        rw [e2] at g2
        cases e3 : sameT x y with
        | false =>
          rw [e3] at hq
          simp [run21, c21, g1, g2, hq, hxr, hyr, frz_argV, goodTS_f, sameKS_f]
        | true =>
          rw [e3] at hq
          simp [run21, c21, g1, g2, hq, hxr, hyr, frz_argV, goodTS_f, sameKS_f]
   ·cases hv
  ·cases hv
 ·cases hv
end Go.Proofs.YtleeinkdkllcdaaGreatDoor
