import Derived.Test.YtlakiipofcibhaaGreatDoorAt
import Derived.Test.YtlakiipofcibhaaGreatDoorDa
import Derived.Test.YtlakiipofcibhaaGreatDoorSe
import Derived.Test.YtlakiipofcibhaaGreatDoorSd
set_option linter.unusedVariables false
set_option linter.unusedSimpArgs false
set_option linter.unusedSectionVars false
set_option maxHeartbeats 16000000
set_option maxRecDepth 100000

namespace Go.Proofs.YtlakiipofcibhaaGreatDoor
open Go Sz
def mkT (k n : Int) (s : List UInt8) : List Tm → Tm
 | [] => .nl k n s
 | x :: r => .mk k n s (x :: r)
mutual
def ownT : Tm → Tm
 | .nl k n s => .nl k n s
 | .mk k n s us => mkT k n s (ownL us)
def ownL : List Tm → List Tm
 | [] => []
 | t :: r => ownT t :: ownL r
end
theorem ownL_map : ∀ us : List Tm, ownL us = us.map ownT
 | [] => rfl
 | x :: r => by simp [ownL, ownL_map r]
theorem ownT_eq (t : Tm) : ownT t = mkT t.kind t.num t.name (t.args.map ownT) := by
 cases t with
 | nl k n s => rfl
 | mk k n s us => rw [ownT, ownL_map]; rfl
def downKS (N : Nat) : KSpec := ⟨36, fun | [v] => (match decTm v with | some t => if t.size < N then some (ownT t).enc else none | none => none) | _ => none⟩
theorem downKS_f (N : Nat) : (downKS N).f = 36 := (rfl)
theorem downKS_at (N : Nat) (x : Tm) (h : x.size < N) : (downKS N).S [x.enc] = some (ownT x).enc := by
 simp only [downKS, decTm_enc, if_pos h]
theorem downKS_no (N : Nat) (x : Tm) (h : N ≤ x.size) : (downKS N).S [x.enc] = none := by
 simp only [downKS, decTm_enc]
 rw [if_neg (by omega)]
theorem c36_loop (n N : Nat) (us : List Tm) (hN : N ≤ 1000000000) (h1 : Tm.sizeL us < N) (K M : Int) (s : List UInt8) : ∀ (post pre acc : List Tm) (k : Nat), us = pre ++ post → acc.length = pre.length → acc ≠ [] → post.length < k →
 ∃ md, aft 3 0 (loopH (evCode (evCall (envOf [downKS N]) (n + 1)) (n + 1) c36_b0) c36_m0 3 k (c36_f0 (.ptr 0 0) (.ptr 1 0) (.ptr 2 0) (.int .i64 pre.length)) ⟨4, [.row (flatT acc), .row [.int .i64 K, .int .i64 M, .str s, .vec 3 0 acc.length 4 acc.length], .row zT, .row [.int .i64 K, .int .i64 M, .str s, .sl (us.map Tm.enc)]], 2, 0⟩) =
   some (.exit 0, FM 31 [(2, .ptr 1 0), (3, .ptr 2 0)], ⟨4, [.row (flatT (acc ++ post.map ownT)), .row [.int .i64 K, .int .i64 M, .str s, .vec 3 0 (acc ++ post.map ownT).length 4 (acc ++ post.map ownT).length], .row zT, .row [.int .i64 K, .int .i64 M, .str s, .sl (us.map Tm.enc)]], 0, md⟩)
 | [], pre, acc, k + 1, e, ea, _, _ => by
   simp at e
   subst e
   have h5 : AV.refsL (us.map Tm.enc) = 0 := encs_refs _
   have hf := flatT_refs acc
   exact ⟨0, by simp [loopH_succ, c36_b0, h5, hf, zT]⟩
 | x :: post, pre, acc, k + 1, e, ea, hne, hk => by
   have hlu := len_sizeL us
   have g1 : us[pre.length]? = some x := by rw [e]; simp
   have h5 : AV.refsL (us.map Tm.enc) = 0 := encs_refs _
   have hf := flatT_refs acc
   have hpl : pre.length < us.length := by rw [e]; simp
   have h6 : ((pre.length : Int) < (us.length : Int)) = True := eq_true (by omega)
   have h3 : IntKind.i64.wrap ((pre.length : Int) + 1) = (pre.length : Int) + 1 := wrap_i64 (by omega) (by omega)
   have hxe := Tm.enc_eq x
   have hxc := Tm.cells_is x
   have hxr := argV_refs x
   have hx : x ∈ us := by rw [e]; simp
   have hs := downKS_at N x (by have := sizeL_mem hx; omega)
   obtain ⟨md, ih⟩ := c36_loop n N us hN h1 K M s post (pre ++ [x]) (acc ++ [ownT x]) k (by simp [e]) (by simp [ea]) (by simp) (by rw [List.length_cons] at hk; omega)
   refine ⟨md, ?_⟩
   have hye : (ownT x).enc = .agg (ownT x).cells := Tm.enc_eq _
   have hyr := argV_refs (ownT x)
   have hf2 : AV.refsL (flatT acc ++ (ownT x).cells) = 0 := by rw [← flatT_snoc]; exact flatT_refs _
   rw [hxe, hxc] at hs
   have em : (x :: post).map ownT = ownT x :: post.map ownT := rfl
   rw [em]
   generalize ownT x = y at *
   have hyc := Tm.cells_is y
   rw [hyc] at hf2
   have h8 : (acc.length + 1) * 56 ≤ 140737488355328 := by omega
   have h9 : acc.length + 1 < 9223372036854775808 := by omega
   have h10 : (flatT acc).take (acc.length * 4) = flatT acc := by rw [List.take_of_length_le]; rw [flatT_len]; exact Nat.le_refl _
   have h11 := flatT_len acc
   simp only [List.length_append, List.length_cons, List.length_nil, Nat.zero_add, flatT_snoc, hyc, List.append_assoc] at ih
   rw [show ((pre.length + 1 : Nat) : Int) = (pre.length : Int) + 1 by omega] at ih
   rw [loopH_succ]
   simp [c36_b0, c36_m0, g1, h3, h5, h6, hf, hf2, h8, h9, h10, h11, hxe, hxc, hxr, hye, hyc, hyr, hs, frz_argV, downKS_f, elemsA, zT]
   simp only [zT] at ih
   refine Eq.trans ih ?_
   simp [flatT, hyc, Nat.add_comm, Nat.add_left_comm, Nat.add_assoc]
theorem c36_loop0n (C : Nat → List AV → Heap → Option (AV × Heap)) (n k : Nat) (K M : Int) (s : List UInt8) (A : AV) (hA : A = .nils ∨ A = .sl []) :
 aft 3 0 (loopH (evCode C n c36_b0) c36_m0 3 (k + 1) (c36_f0 (.ptr 0 0) (.ptr 1 0) (.ptr 2 0) (.int .i64 0)) ⟨3, [.row [.int .i64 K, .int .i64 M, .str s, .nils], .row zT, .row [.int .i64 K, .int .i64 M, .str s, A]], 3, 0⟩) =
  some (.exit 0, FM 31 [(2, .ptr 1 0), (3, .ptr 2 0)], ⟨3, [.row [.int .i64 K, .int .i64 M, .str s, .nils], .row zT, .row [.int .i64 K, .int .i64 M, .str s, A]], 0, 0⟩) := by
 rcases hA with rfl | rfl <;> simp [loopH_succ, c36_b0, zT]
theorem c36_loop0 (n N : Nat) (x : Tm) (r : List Tm) (hN : N ≤ 1000000000) (h1 : Tm.sizeL (x :: r) < N) (K M : Int) (s : List UInt8) (k : Nat) (hk : r.length + 1 < k) :
 ∃ md, aft 3 0 (loopH (evCode (evCall (envOf [downKS N]) (n + 1)) (n + 1) c36_b0) c36_m0 3 k (c36_f0 (.ptr 0 0) (.ptr 1 0) (.ptr 2 0) (.int .i64 0)) ⟨3, [.row [.int .i64 K, .int .i64 M, .str s, .nils], .row zT, .row [.int .i64 K, .int .i64 M, .str s, .sl ((x :: r).map Tm.enc)]], 3, 0⟩) =
   some (.exit 0, FM 31 [(2, .ptr 1 0), (3, .ptr 2 0)], ⟨4, [.row (flatT ((x :: r).map ownT)), .row [.int .i64 K, .int .i64 M, .str s, .vec 3 0 (r.length + 1) 4 (r.length + 1)], .row zT, .row [.int .i64 K, .int .i64 M, .str s, .sl ((x :: r).map Tm.enc)]], 0, md⟩) := by
 obtain ⟨k, rfl⟩ : ∃ k', k = k' + 1 := ⟨k - 1, by omega⟩
 have h5 : AV.refsL (r.map Tm.enc) = 0 := encs_refs _
 have h6 : ((0 : Int) < (r.length : Int) + 1) = True := eq_true (by omega)
 have h3 : IntKind.i64.wrap (0 + 1) = 1 := rfl
 have h3' : IntKind.i64.wrap 1 = 1 := rfl
 have hxe := Tm.enc_eq x
 have hxc := Tm.cells_is x
 have hxr := argV_refs x
 have hs := downKS_at N x (by simp only [Tm.sizeL] at h1; omega)
 obtain ⟨md, ih⟩ := c36_loop n N (x :: r) hN h1 K M s r [x] [ownT x] k rfl rfl (by simp) (by omega)
 refine ⟨md, ?_⟩
 have hye : (ownT x).enc = .agg (ownT x).cells := Tm.enc_eq _
 have hyr := argV_refs (ownT x)
 rw [hxe, hxc] at hs
 have em : (x :: r).map ownT = ownT x :: r.map ownT := rfl
 rw [em]
 generalize ownT x = y at *
 have hyc := Tm.cells_is y
 simp only [List.length_append, List.length_cons, List.length_nil, Nat.zero_add, hyc, zT, flatT, List.flatMap_cons, List.flatMap_nil, List.append_nil, List.map_cons, hxe, hxc] at ih
 rw [loopH_succ]
 simp [c36_b0, c36_m0, h3, h3', h5, h6, hxe, hxc, hxr, hye, hyc, hyr, hs, frz_argV, downKS_f, elemsA, zT]
 refine Eq.trans ih ?_
 simp [flatT, hyc, Nat.add_comm, Nat.add_left_comm, Nat.add_assoc]
theorem downKS_step (N : Nat) (hN : N ≤ 1000000000) (hp : KSpecOK Tryz.prog (downKS N)) : KSpecOK Tryz.prog (downKS (N + 1)) := fun args v hv => by
 unfold downKS at hv
 dsimp only at hv
 split at hv
 ·rename_i a
  split at hv
  ·rename_i x ha
   split at hv
   ·rename_i hc
    rcases Nat.lt_or_ge x.size N with hlt | hge
    ·refine hp _ _ ?_
     rw [decTm_eq ha, downKS_at N x hlt]
     exact hv
    cases hv
    rw [downKS_f, decTm_eq ha]
    have hno := downKS_no N x hge
    have s1 := size_args x
    have hla := len_sizeL x.args
    refine prim_of (n := x.size + 5) (h' := h0) (envOf_ok (ss := [downKS N]) (by simp [hp])) ?_ (Tm.enc_refs _) (by simp [AV.refsL, AV.refs, Tm.enc_refs])
    have hxe := Tm.enc_eq x
    have hxc := Tm.cells_is x
    rw [ownT_eq]
    rw [hxe, hxc] at hno ⊢
    by_cases hne : x.args = []
    ·have a1 : x.argV = .nils ∨ x.argV = .sl [] := by
      cases x with
      | nl k n s => exact .inl rfl
      | mk k n s us => simp only [Tm.args] at hne; subst hne; exact .inr rfl
     have lp := c36_loop0n (evCall (envOf [downKS N]) (x.size + 4)) (x.size + 4) (x.size + 3) x.kind x.num x.name x.argV a1
     simp only [c36_m0, zT] at lp
     rw [hne]
     have em : (mkT x.kind x.num x.name (List.map ownT [])).enc = .agg [.int .i64 x.kind, .int .i64 x.num, .str x.name, .nils] := rfl
     rw [em]
     rcases a1 with a1 | a1 <;> rw [a1] at hno lp ⊢ <;> simp [run36, c36, c36_m0, hno, downKS_f, lp]
    ·obtain ⟨y, r, ha⟩ : ∃ y r, x.args = y :: r := by
      cases h : x.args with
      | nil => exact absurd h hne
      | cons y r => exact ⟨y, r, rfl⟩
     have a1 : x.argV = .sl (x.args.map Tm.enc) := by
      cases x with
      | nl k n s => exact absurd rfl hne
      | mk k n s us => rfl
     have h5 := encs_refs x.args
     rw [ha] at s1 hla h5
     obtain ⟨md, lp⟩ := c36_loop0 (x.size + 3) N y r hN (by omega) x.kind x.num x.name (x.size + 4) (by simp at hla; omega)
     simp only [c36_m0, zT] at lp
     have hf2 := flatT_refs ((y :: r).map ownT)
     have em : (mkT x.kind x.num x.name ((y :: r).map ownT)).enc = .agg [.int .i64 x.kind, .int .i64 x.num, .str x.name, .sl (((y :: r).map ownT).map Tm.enc)] := by simp [mkT, Tm.enc, encL_map, Tm.encL]
     have hf : ∀ (A B C : AObj) (wl md d : Nat), frz ⟨4, [.row (flatT ((y :: r).map ownT)), A, B, C], wl, md⟩ 0 (d + 2) (.vec 3 0 (r.length + 1) 4 (r.length + 1)) = some (.sl (((y :: r).map ownT).map Tm.enc), [3]) := fun A B C wl md d => by
      have := frz_T (h := ⟨4, [.row (flatT ((y :: r).map ownT)), A, B, C], wl, md⟩) (n0 := 0) (d := d) (id := 3) (ownT y) (r.map ownT) (by omega) rfl
      simpa using this
     rw [a1] at hno ⊢
     rw [ha, em]
     rw [ha] at hno
     generalize (y :: r).map ownT = Z at *
     generalize (y :: r).map Tm.enc = E at *
     simp [run36, c36, c36_m0, hno, h5, hf2, hf, lp, downKS_f, finish_keep]
   ·cases hv
  ·cases hv
 ·cases hv
theorem downKS_zero : KSpecOK Tryz.prog (downKS 0) := fun args v hv => by
 unfold downKS at hv
 dsimp only at hv
 split at hv
 ·split at hv
  ·split at hv
   ·rename_i hc
    omega
   ·cases hv
  ·cases hv
 ·cases hv
theorem downKS_all : ∀ N, N ≤ 1000000001 → KSpecOK Tryz.prog (downKS N)
 | 0, _ => downKS_zero
 | N + 1, h => downKS_step N (by omega) (downKS_all N (by omega))
end Go.Proofs.YtlakiipofcibhaaGreatDoor

namespace Go.Proofs.YtlakiipofcibhaaGreatDoor
open Go Sz Srt
def keyOf (ks : Bool) (t : Tm) : Tm := match ks, t.args with
 | true, x :: _ => x
 | _, _ => t
def okD (ks : Bool) (x : Tm) : Prop := x.size < 1000000000 ∧ x.allT oneK = true ∧ (ks = true → x.args ≠ [])
theorem keyOf_at {ks : Bool} {x : Tm} (h : okD ks x) : keyD ks x = some (keyOf ks x) ∧ (keyOf ks x).size < 1000000000 ∧ (keyOf ks x).allT oneK = true := by
 cases ks with
 | false => exact ⟨rfl, h.1, h.2.1⟩
 | true =>
   have hne := h.2.2 rfl
   have hs := size_args x
   have ha := (allT_one h.2.1).2
   have h1 := h.1
   unfold keyD keyOf
   cases e : x.args with
   | nil => exact absurd e hne
   | cons y r =>
     rw [e] at hs ha
     simp only [Tm.sizeL] at hs
     simp only [Tm.allL, Bool.and_eq_true] at ha
     refine ⟨rfl, ?_, ha.1⟩
     show y.size < 1000000000
     omega
def cK (ks : Bool) (x y : Tm) : Int := cmpT (keyOf ks x) (keyOf ks y)
theorem c62_loop (n : Nat) (us : List Tm) (hu : us.length < 1000000000) (t : Tm) (ks : Bool) (hok : ∀ x ∈ us, okD ks x) (hot : okD ks t) : ∀ (k m : Nat), k ≤ us.length → k < m →
 ∃ p md, p ≤ k ∧ insR (cK ks) t (us.take k).reverse ++ us.drop k = us.take p ++ t :: us.drop p ∧
 aft 1 0 (loopH (evCode (evCall (envOf [keyS, dcmpKS 1000000000]) (n + 1)) (n + 1) c62_b0) c62_m0 1 m (c62_f0 (.sl (us.map Tm.enc)) (.bool ks) (.ptr 0 0) (.int .i64 k)) ⟨1, [.row t.cells], 1, 0⟩) =
  some (.exit 0, FM 40 [(0, .sl (us.map Tm.enc)), (4, .ptr 0 0), (7, .int .i64 p)], ⟨1, [.row t.cells], 0, md⟩)
 | 0, m + 1, _, _ => by
   have h5 := encs_refs us
   have htr := argV_refs t
   refine ⟨0, 0, Nat.le_refl _, by simp [insR], ?_⟩
   simp [loopH_succ, c62_b0, h5, Tm.cells, htr]
 | k + 1, m + 1, hk, hm => by
   have h5 := encs_refs us
   have htr := argV_refs t
   obtain ⟨x, hx⟩ : ∃ x, us[k]? = some x := ⟨us[k]'(by omega), by simp⟩
   have hxm : x ∈ us := List.mem_of_getElem? hx
   have htk : us.take (k + 1) = us.take k ++ [x] := by rw [List.take_add_one, hx]; rfl
   have hdk : us.drop k = x :: us.drop (k + 1) := by
    have hl : k < us.length := by omega
    rw [List.drop_eq_getElem_cons hl]
    rw [List.getElem?_eq_getElem hl] at hx
    cases hx
    rfl
   have hrv : (us.take (k + 1)).reverse = x :: (us.take k).reverse := by rw [htk]; simp
   obtain ⟨kx1, kx2, kx3⟩ := keyOf_at (hok x hxm)
   obtain ⟨kt1, kt2, kt3⟩ := keyOf_at hot
   have q1 := keyS_at x ks
   have q2 := keyS_at t ks
   rw [kx1, Option.map_some] at q1
   rw [kt1, Option.map_some] at q2
   have q3 := dcmpKS_at 1000000000 (keyOf ks x) (keyOf ks t) ⟨kx2, kt2, kx3, kt3⟩
   have a1 := (keyOf ks x).enc_eq
   have a2 := argV_refs (keyOf ks x)
   have a3 := (keyOf ks t).enc_eq
   have a4 := argV_refs (keyOf ks t)
   have hc : cK ks t x < 0 ↔ 0 < cmpT (keyOf ks x) (keyOf ks t) := by
    unfold cK
    exact cmpT_ord.1 _ _
   have f1 := fun (h : Heap) (n0 d : Nat) => frz_argV h n0 d (keyOf ks x)
   have f2 := fun (h : Heap) (n0 d : Nat) => frz_argV h n0 d (keyOf ks t)
   have f3 := fun (h : Heap) (n0 d : Nat) => frz_argV h n0 d x
   have f4 := fun (h : Heap) (n0 d : Nat) => frz_argV h n0 d t
   have ex := x.enc_eq
   have et := t.enc_eq
   have hxr := argV_refs x
   have t1 : ((0 : Int) < (k : Int) + 1) = True := eq_true (by omega)
   have w1 : IntKind.i64.wrap ((k : Int)) = (k : Int) := wrap_i64 (by omega) (by omega)
   have e3 : (k : Int) + 1 - 1 = (k : Int) := by omega
   rw [ex, a1] at q1
   rw [et, a3] at q2
   rw [a1, a3] at q3
   have hli : ((k : Int) < (us.length : Int)) = True := eq_true (by omega)
   rw [loopH_succ, hrv, insR_cons]
   generalize keyOf ks x = kx at *
   generalize keyOf ks t = kt at *
   by_cases hcc : cK ks t x < 0
   ·rw [if_pos hcc]
    have hcc' : (0 < cmpT kx kt) = True := eq_true (hc.1 hcc)
    obtain ⟨p, md, p1, p2, ih⟩ := c62_loop n us hu t ks hok hot k m (by omega) (by omega)
    refine ⟨p, md, by omega, ?_, ?_⟩
    ·rw [← p2, hdk]
     simp
    simp only [Tm.cells] at q1 q2 q3 ih
    simp [c62_b0, c62_m0, hx, h5, htr, t1, w1, e3, ex, et, hxr, q1, q2, q3, a2, a4, f1, f2, f3, f4, hcc', keyS_f, dcmpKS_f, Tm.cells, hli]
    exact ih
   ·rw [if_neg hcc]
    have hcc' : (0 < cmpT kx kt) = False := eq_false (fun h => hcc (hc.2 h))
    refine ⟨k + 1, ?_, Nat.le_refl _, ?_, ?_⟩
    rotate_left
    ·rw [htk]
     simp
    ·simp only [Tm.cells] at q1 q2 q3
     simp [c62_b0, c62_m0, hx, h5, htr, t1, w1, e3, ex, et, hxr, q1, q2, q3, a2, a4, f1, f2, f3, f4, hcc', keyS_f, dcmpKS_f, Tm.cells, hli]
     rfl
open Classical in
noncomputable def dinS : KSpec := ⟨62, fun | [A, v, .bool ks] => (match decArgs A, decTm v with | some us, some t => if us.length < 999999999 ∧ (∀ x ∈ us, okD ks x) ∧ okD ks t then some (.sl ((insR (cK ks) t us.reverse).map Tm.enc)) else none | _, _ => none) | _ => none⟩
theorem dinS_f : dinS.f = 62 := (rfl)
theorem dinS_at {A : AV} {us : List Tm} (hA : decArgs A = some us) (t : Tm) (ks : Bool) (h : us.length < 999999999 ∧ (∀ x ∈ us, okD ks x) ∧ okD ks t) : dinS.S [A, t.enc, .bool ks] = some (.sl ((insR (cK ks) t us.reverse).map Tm.enc)) := by
 simp only [dinS, decTm_enc, hA]
 exact if_pos h
theorem map_take_elem (us : List Tm) (p : Nat) : ((us.map Tm.enc).take p) = (us.take p).map Tm.enc := by rw [List.map_take]
theorem map_drop_elem (us : List Tm) (p : Nat) : ((us.map Tm.enc).drop p) = (us.drop p).map Tm.enc := by rw [List.map_drop]
theorem dinS_ok : KSpecOK Tryz.prog dinS := fun args v hv => by
 unfold dinS at hv ⊢
 dsimp only at hv ⊢
 split at hv
 ·rename_i A a ks
  split at hv
  ·rename_i us t hA ha
   split at hv
   ·rename_i hc
    obtain ⟨hl, hok, hot⟩ := hc
    cases hv
    rw [decTm_eq ha]
    refine prim_of (n := us.length + 6) (h' := h0) (envOf_ok (ss := [keyS, dcmpKS 1000000000]) (by simp [keyS_ok, dcmpKS_all 1000000000 (by omega)])) ?_ (by simp [AV.refs, encs_refs]) (by simp [AV.refsL, AV.refs, Tm.enc_refs, decArgs_refs hA])
    have htr := argV_refs t
    have et := t.enc_eq
    have ec := Tm.cells_is t
    rcases decArgs_inv hA with ⟨rfl, rfl⟩ | rfl
    ·have e0 : (insR (cK ks) t [].reverse).map Tm.enc = [t.enc] := rfl
     have z1 : sliceC 0 0 none (some (.int .i64 0)) none = some (0, 0, none) := rfl
     have z2 : sliceC 0 0 (some (.int .i64 0)) none none = some (0, 0, none) := rfl
     rw [e0, et, ec]
     simp [run62, c62, c62_m0, c62_b0, loopH_succ, htr, frz_argV, keyS_f, dcmpKS_f, elemsA, z1, z2, basic_cells (argV_basic t)]
    ·by_cases hne : us = []
     ·subst hne
      have e0 : (insR (cK ks) t [].reverse).map Tm.enc = [t.enc] := rfl
      have z1 : sliceC 0 0 none (some (.int .i64 0)) none = some (0, 0, none) := rfl
      have z2 : sliceC 0 0 (some (.int .i64 0)) none none = some (0, 0, none) := rfl
      rw [e0, et, ec]
      simp [run62, c62, c62_m0, c62_b0, loopH_succ, htr, frz_argV, keyS_f, dcmpKS_f, elemsA, z1, z2, basic_cells (argV_basic t)]
     have hlp : 0 < us.length := List.length_pos_iff.2 hne
     have h5 := encs_refs us
     obtain ⟨p, md, p1, p2, lp⟩ := c62_loop (us.length + 4) us (by omega) t ks hok hot us.length (us.length + 5) (Nat.le_refl _) (by omega)
     rw [List.take_length, List.drop_length, List.append_nil] at p2
     rw [p2]
     simp only [c62_m0, ec] at lp
     have hel : (us.map Tm.enc).all (fun x => (x.cells?.map List.length) == some 4) = true := elem_all (encs_elem us)
     have s1 : sliceC us.length us.length none (some (.int .i64 (p : Int))) none = some (0, p, none) := by
      have a1 : (p : Int) ≤ ((max us.length us.length : Nat) : Int) := by omega
      simp [sliceC, sliceB, a1, p1]
     have s2 : sliceC us.length us.length (some (.int .i64 (p : Int))) none none = some (p, us.length, none) := by
      simp [sliceC, sliceB, p1]
     have e1 : ∀ h, elemsA h 4 (.sl ((us.map Tm.enc).take p)) = some (p, flatT (us.take p)) := fun h => by
      rw [map_take_elem, elemsA_T, List.length_take, Nat.min_eq_left p1]
     have e2 : ∀ h, elemsA h 4 (.sl (((us.map Tm.enc).take us.length).drop p)) = some (us.length - p, flatT (us.drop p)) := fun h => by
      rw [List.take_of_length_le (by simp), map_drop_elem, elemsA_T, List.length_drop]
     have g1 := flatT_len (us.take p)
     have g2 := flatT_refs (us.take p)
     have g3 := flatT_len (us.drop p)
     have g4 := flatT_refs (us.drop p)
     have g5 : (flatT (us.take p)).take (p * 4) = flatT (us.take p) := List.take_of_length_le (by rw [g1, List.length_take]; omega)
     have ltk : (us.take p).length = p := by rw [List.length_take, Nat.min_eq_left p1]
     have ldp : (us.drop p).length = us.length - p := List.length_drop
     have hfz : ∀ (X : AObj) (os : List AObj) (id nx wl md d : Nat) (L : List Tm), nx = os.length + 1 → 0 < L.length → frz ⟨nx, .row (flatT L) :: os, wl, md⟩ 0 (d + 2) (.vec (nx - 1) 0 L.length 4 L.length) = some (.sl (L.map Tm.enc), [nx - 1]) := fun X os id nx wl md d L hnx hL => by
      cases L with
      | nil => simp at hL
      | cons y r =>
        exact frz_T y r (by omega) (by subst hnx; simp [Heap.get])
     rw [et, ec]
     rw [List.map_append, List.map_cons, et, ec]
     have b1 : p * 56 ≤ 140737488355328 := by omega
     have b2 : p < 9223372036854775808 := by omega
     have b3 : (p + 1) * 56 ≤ 140737488355328 := by omega
     have b4 : p + 1 < 9223372036854775808 := by omega
     have d2 : ((p + 1) * 4 ≤ p * 4 + 4) = True := eq_true (by omega)
     obtain ⟨q, hq⟩ : ∃ q, us.length - p = q := ⟨_, rfl⟩
     have hq1 : us.length = p + q := by omega
     rw [hq] at e2 ldp
     have b5 : (p + 1 + q) * 56 ≤ 140737488355328 := by omega
     have b6 : p + 1 + q < 9223372036854775808 := by omega
     have b7 : (1 + q) * 56 ≤ 140737488355328 := by omega
     have b8 : 1 + q < 9223372036854775808 := by omega
     have hfin : flatT (us.take p) ++ ([.int .i64 t.kind, .int .i64 t.num, .str t.name, t.argV] ++ flatT (us.drop p)) = flatT (us.take p ++ t :: us.drop p) := by
      simp [flatT, Tm.cells]
     have hln : (us.take p ++ t :: us.drop p).length = p + 1 + q := by simp [ltk]; omega
     have g6 : ((flatT (us.take p) ++ [.int .i64 t.kind, .int .i64 t.num, .str t.name, t.argV]).take ((p + 1) * 4)) = flatT (us.take p) ++ [.int .i64 t.kind, .int .i64 t.num, .str t.name, t.argV] := List.take_of_length_le (by rw [List.length_append, g1, ltk]; simp; omega)
     by_cases c1 : p = 0
     ·have c1' : (p = 0) = True := eq_true c1
      have tk0 : us.take p = [] := by rw [c1]; rfl
      have hA : ∀ (A B C : AObj) (wl md d : Nat), frz ⟨4, [.row (.int .i64 t.kind :: .int .i64 t.num :: .str t.name :: t.argV :: flatT (us.drop p)), A, B, C], wl, md⟩ 0 (d + 2) (.vec 3 0 (1 + q) 4 (1 + q)) = some (.sl ((t :: us.drop p).map Tm.enc), [3]) := fun A B C wl md d =>
       frz_L (t :: us.drop p) (by simp only [List.length_cons, ldp]; omega) (by omega) rfl
      rw [List.map_cons, et, ec] at hA
      have c2' : (q = 0) = False := eq_false (by omega)
      have r1 : (1 + q ≤ 1) = False := eq_false (by omega)
      simp [run62, c62, c62_m0, h5, htr, frz_argV, keyS_f, dcmpKS_f, lp, hel, s1, s2, e1, e2, c1', c2', b7, b8, r1, g4, tk0, hA]
     ·have c1' : (p = 0) = False := eq_false c1
      by_cases c2 : q = 0
      ·have c2' : (q = 0) = True := eq_true c2
       have dk0 : us.drop p = [] := List.drop_of_length_le (by omega)
       have hB : ∀ (A B C : AObj) (wl md d : Nat), frz ⟨4, [.row (flatT (us.take p) ++ [.int .i64 t.kind, .int .i64 t.num, .str t.name, t.argV]), A, B, C], wl, md⟩ 0 (d + 2) (.vec 3 0 (p + 1) 4 (p + 1)) = some (.sl ((us.take p ++ [t]).map Tm.enc), [3]) := fun A B C wl md d =>
        frz_L (us.take p ++ [t]) (by rw [List.length_append, ltk]; rfl) (by omega) (by rw [flatT_snoc]; rfl)
       rw [List.map_append, List.map_cons, et, ec] at hB
       simp [run62, c62, c62_m0, h5, htr, frz_argV, keyS_f, dcmpKS_f, lp, hel, s1, s2, e1, e2, c1', c2', b1, b2, b3, b4, g1, g2, g5, ltk, d2, dk0, hB]
      ·have c2' : (q = 0) = False := eq_false c2
       have r2 : (p + 1 + q ≤ p + 1) = False := eq_false (by omega)
       have hC : ∀ (A B C D : AObj) (wl md d : Nat), frz ⟨5, [.row (flatT (us.take p) ++ .int .i64 t.kind :: .int .i64 t.num :: .str t.name :: t.argV :: flatT (us.drop p)), A, B, C, D], wl, md⟩ 0 (d + 2) (.vec 4 0 (p + 1 + q) 4 (p + 1 + q)) = some (.sl ((us.take p ++ t :: us.drop p).map Tm.enc), [4]) := fun A B C D wl md d =>
        frz_L (us.take p ++ t :: us.drop p) hln (by omega) (by rw [← hfin]; rfl)
       rw [List.map_append, List.map_cons, et, ec] at hC
       simp [run62, c62, c62_m0, h5, htr, frz_argV, keyS_f, dcmpKS_f, lp, hel, s1, s2, e1, e2, c1', c2', b1, b2, b3, b4, b5, b6, g1, g2, g4, g5, g6, ltk, d2, r2, hC]
   ·cases hv
  ·cases hv
 ·cases hv
theorem decArgs_slT (us : List Tm) : decArgs (slT us) = some us := by
 cases us with
 | nil => rfl
 | cons x r =>
   show decTms _ = _
   rw [← encL_map, decTms_enc]
def badK : List Tm → Int
 | [] => 0
 | x :: r => if x.kind = 0 then 6 else if isK x [45] 2 = true then badK r else 5
def badB (ks : Bool) (us : List Tm) : Int := if ks then badK us else 0
noncomputable def ssD : List KSpec := [dsItemsS, isS, dinS, dcmpKS 1000000000, atomDS, dlistS]
theorem c37_loop0t (n : Nat) (us : List Tm) (hu : us.length < 1000000000) (o : Bool) (T : Tm) : ∀ (post pre : List Tm) (k : Nat), us = pre ++ post → post.length < k →
 ∃ _md : Nat, aft 2 0 (loopH (evCode (evCall (envOf ssD) (n + 1)) (n + 1) c37_b0) c37_m0 2 k (c37_f0 (.bool o) (.bool true) (.ptr 1 0) (.sl (us.map Tm.enc)) .nils (.int .i64 pre.length)) ⟨2, [.row zT, .row T.cells], 2, 0⟩) =
   some (if badK post = 0 then .exit 0 else .ret, if badK post = 0 then FM 95 [(1, .bool o), (2, .bool true), (6, .ptr 1 0), (8, .sl (us.map Tm.enc)), (10, .nils)] else FM 95 [(6, .ptr 1 0), (7, .int .i64 (badK post))], ⟨2, [.row zT, .row T.cells], 0, 0⟩)
 | [], pre, k + 1, e, _ => by
   simp at e
   subst e
   have h5 := encs_refs us
   have hTr := argV_refs T
   exact ⟨0, by simp [loopH_succ, c37_b0, h5, badK, zT, Tm.cells, hTr]⟩
 | x :: post, pre, k + 1, e, hk => by
   have g1 : us[pre.length]? = some x := by rw [e]; simp
   have h5 : AV.refsL (us.map Tm.enc) = 0 := encs_refs _
   have hTr := argV_refs T
   have hpl : pre.length < us.length := by rw [e]; simp
   have h6 : ((pre.length : Int) < (us.length : Int)) = True := eq_true (by omega)
   have h3 : IntKind.i64.wrap ((pre.length : Int) + 1) = (pre.length : Int) + 1 := wrap_i64 (by omega) (by omega)
   have hxe := Tm.enc_eq x
   have hxc := Tm.cells_is x
   have hxr := argV_refs x
   have hs := isS_at x [45] 2
   obtain ⟨md, ih⟩ := c37_loop0t n us hu o T post (pre ++ [x]) k (by simp [e]) (by rw [List.length_cons] at hk; omega)
   simp only [List.length_append, List.length_cons, List.length_nil, Nat.zero_add, zT, Tm.cells] at ih
   rw [show ((pre.length + 1 : Nat) : Int) = (pre.length : Int) + 1 by omega] at ih
   rw [hxe, hxc] at hs
   rw [loopH_succ]
   by_cases c1 : x.kind = 0
   ·have hb : badK (x :: post) = 6 := by simp only [badK, if_pos c1]
    rw [hb]
    exact ⟨0, by simp [c37_b0, c37_m0, ssD, g1, h3, h5, h6, hxe, hxc, hxr, c1, zT, Tm.cells, hTr, frz_argV, dsItemsS_f, isS_f, dinS_f, dcmpKS_f, atomDS_f, dlistS_f]⟩
   ·cases c2 : isK x [45] 2 with
    | true =>
      have hb : badK (x :: post) = badK post := by simp only [badK, if_neg c1, c2, if_true]
      rw [hb]
      rw [c2] at hs
      refine ⟨md, ?_⟩
      simp only [ssD] at ih
      simp [c37_b0, c37_m0, ssD, g1, h3, h5, h6, hxe, hxc, hxr, c1, hs, zT, Tm.cells, hTr, frz_argV, dsItemsS_f, isS_f, dinS_f, dcmpKS_f, atomDS_f, dlistS_f]
      exact ih
    | false =>
      have hb : badK (x :: post) = 5 := by simp only [badK, if_neg c1, c2]; rfl
      rw [hb]
      rw [c2] at hs
      exact ⟨0, by simp [c37_b0, c37_m0, ssD, g1, h3, h5, h6, hxe, hxc, hxr, c1, hs, zT, Tm.cells, hTr, frz_argV, dsItemsS_f, isS_f, dinS_f, dcmpKS_f, atomDS_f, dlistS_f]⟩
theorem c37_loop0f (n : Nat) (us : List Tm) (hu : us.length < 1000000000) (o : Bool) (T : Tm) : ∀ (post pre : List Tm) (k : Nat), us = pre ++ post → post.length < k →
 ∃ _md : Nat, aft 2 0 (loopH (evCode (evCall (envOf ssD) (n + 1)) (n + 1) c37_b0) c37_m0 2 k (c37_f0 (.bool o) (.bool false) (.ptr 1 0) (.sl (us.map Tm.enc)) .nils (.int .i64 pre.length)) ⟨2, [.row zT, .row T.cells], 2, 0⟩) =
   some (.exit 0, FM 95 [(1, .bool o), (2, .bool false), (6, .ptr 1 0), (8, .sl (us.map Tm.enc)), (10, .nils)], ⟨2, [.row zT, .row T.cells], 0, 0⟩)
 | [], pre, k + 1, e, _ => by
   simp at e
   subst e
   have h5 := encs_refs us
   have hTr := argV_refs T
   exact ⟨0, by simp [loopH_succ, c37_b0, h5, zT, Tm.cells, hTr]⟩
 | x :: post, pre, k + 1, e, hk => by
   have h5 : AV.refsL (us.map Tm.enc) = 0 := encs_refs _
   have hTr := argV_refs T
   have hpl : pre.length < us.length := by rw [e]; simp
   have h6 : ((pre.length : Int) < (us.length : Int)) = True := eq_true (by omega)
   have h3 : IntKind.i64.wrap ((pre.length : Int) + 1) = (pre.length : Int) + 1 := wrap_i64 (by omega) (by omega)
   obtain ⟨md, ih⟩ := c37_loop0f n us hu o T post (pre ++ [x]) k (by simp [e]) (by rw [List.length_cons] at hk; omega)
   simp only [List.length_append, List.length_cons, List.length_nil, Nat.zero_add, zT, Tm.cells, ssD] at ih
   rw [show ((pre.length + 1 : Nat) : Int) = (pre.length : Int) + 1 by omega] at ih
   rw [loopH_succ]
   refine ⟨md, ?_⟩
   simp [c37_b0, c37_m0, ssD, h3, h5, h6, zT, Tm.cells, hTr, dsItemsS_f, isS_f, dinS_f, dcmpKS_f, atomDS_f, dlistS_f]
   exact ih
theorem insAll_snoc (c : Tm → Tm → Int) (x : Tm) : ∀ (l s : List Tm), insAll c s (l ++ [x]) = insR c x (insAll c s l).reverse
 | [], s => rfl
 | y :: r, s => insAll_snoc c x r _
theorem insR_mem' (c : Tm → Tm → Int) (x : Tm) (q : List Tm) (z : Tm) : z ∈ insR c x q.reverse → z = x ∨ z ∈ q := by
 intro h
 have := (insR_mem x z q.reverse).1 h
 simpa using this
theorem insAll_mem (c : Tm → Tm → Int) : ∀ (l s : List Tm) (z : Tm), z ∈ insAll c s l → z ∈ s ∨ z ∈ l
 | [], s, z, h => .inl h
 | y :: r, s, z, h => by
   rcases insAll_mem c r _ z h with h | h
   ·rcases insR_mem' c y s z h with h | h
    ·exact .inr (by simp [h])
    ·exact .inl h
   ·exact .inr (by simp [h])
theorem slT_cases (us : List Tm) : slT us = .nils ∨ ∃ xs, slT us = .sl xs ∧ AV.refsL xs = 0 := by
 cases us with
 | nil => exact .inl rfl
 | cons x r => exact .inr ⟨_, rfl, encs_refs _⟩
theorem slT_cons {L : List Tm} (h : L ≠ []) : slT L = .sl (L.map Tm.enc) := by
 cases L with
 | nil => exact absurd rfl h
 | cons x r => rfl
theorem c37_loop1 (n : Nat) (us : List Tm) (hu : us.length < 999999999) (o ks : Bool) (T : Tm) (hok : ∀ x ∈ us, okD ks x) : ∀ (post pre : List Tm) (k : Nat), us = pre ++ post → post.length < k →
 ∃ _md : Nat, aft 2 0 (loopH (evCode (evCall (envOf ssD) (n + 1)) (n + 1) c37_b1) c37_m1 2 k (c37_f1 (.bool o) (.bool ks) (.ptr 1 0) (.sl (us.map Tm.enc)) (slT (insAll (cK ks) [] pre)) (.int .i64 pre.length)) ⟨2, [.row zT, .row T.cells], 2, 0⟩) =
   some (.exit 2, FM 95 [(1, .bool o), (6, .ptr 1 0), (10, slT (insAll (cK ks) [] us))], ⟨2, [.row zT, .row T.cells], 0, 0⟩)
 | [], pre, k + 1, e, _ => by
   simp at e
   subst e
   have h5 := encs_refs us
   have hTr := argV_refs T
   have h7 := slT_cases (insAll (cK ks) [] us)
   generalize slT (insAll (cK ks) [] us) = A at *
   rcases h7 with rfl | ⟨xs, rfl, h7⟩
   ·exact ⟨0, by simp [loopH_succ, c37_b1, h5, zT, Tm.cells, hTr]⟩
   ·exact ⟨0, by simp [loopH_succ, c37_b1, h5, h7, zT, Tm.cells, hTr]⟩
 | x :: post, pre, k + 1, e, hk => by
   have g1 : us[pre.length]? = some x := by rw [e]; simp
   have h5 : AV.refsL (us.map Tm.enc) = 0 := encs_refs _
   have hTr := argV_refs T
   have hpl : pre.length < us.length := by rw [e]; simp
   have h6 : ((pre.length : Int) < (us.length : Int)) = True := eq_true (by omega)
   have h3 : IntKind.i64.wrap ((pre.length : Int) + 1) = (pre.length : Int) + 1 := wrap_i64 (by omega) (by omega)
   have hxe := Tm.enc_eq x
   have hxc := Tm.cells_is x
   have hxr := argV_refs x
   obtain ⟨md, ih⟩ := c37_loop1 n us hu o ks T hok post (pre ++ [x]) k (by simp [e]) (by rw [List.length_cons] at hk; omega)
   simp only [List.length_append, List.length_cons, List.length_nil, Nat.zero_add, zT, Tm.cells, ssD] at ih
   rw [show ((pre.length + 1 : Nat) : Int) = (pre.length : Int) + 1 by omega, insAll_snoc] at ih
   have hlen : (insAll (cK ks) [] pre).length = pre.length := by rw [insAll_len]; simp
   have hs := dinS_at (decArgs_slT (insAll (cK ks) [] pre)) x ks ⟨by omega, fun y hy => by
    rcases insAll_mem _ _ _ y hy with h | h
    ·cases h
    ·exact hok y (by rw [e]; simp [h]), hok x (by rw [e]; simp)⟩
   rw [hxe, hxc] at hs
   have hne : insR (cK ks) x (insAll (cK ks) [] pre).reverse ≠ [] := fun h => by
    have := insR_len (c := cK ks) x (insAll (cK ks) [] pre).reverse
    rw [h] at this
    simp at this
   rw [slT_cons hne] at ih
   have h8 := encs_refs (insR (cK ks) x (insAll (cK ks) [] pre).reverse)
   generalize insR (cK ks) x (insAll (cK ks) [] pre).reverse = Z at *
   have h9 := slT_refs (insAll (cK ks) [] pre)
   have h10 := slT_cells (insAll (cK ks) [] pre)
   have h11 := slT_frz (insAll (cK ks) [] pre)
   generalize slT (insAll (cK ks) [] pre) = A at *
   rw [loopH_succ]
   refine ⟨md, ?_⟩
   simp [c37_b1, c37_m1, ssD, g1, h3, h5, h6, h8, h9, h10, h11, hs, hxe, hxc, hxr, zT, Tm.cells, hTr, frz_argV, dsItemsS_f, isS_f, dinS_f, dcmpKS_f, atomDS_f, dlistS_f]
   exact ih
def dgo : Tm → List Tm → List Tm
 | _, [] => []
 | p, y :: r => if cmpT p y = 0 then dgo p r else y :: dgo y r
theorem dgo_cons (p y : Tm) (r : List Tm) : dgo p (y :: r) = if cmpT p y = 0 then dgo p r else y :: dgo y r := rfl
theorem flat_at (pre : List Tm) (p : Tm) (post : List Tm) {k : Nat} (hk : k = pre.length) : ((flatT (pre ++ p :: post)).drop (k * 4)).take 4 = p.cells := by
 subst hk
 have h1 := flatT_len pre
 have e : flatT (pre ++ p :: post) = flatT pre ++ (p.cells ++ flatT post) := by simp [flatT]
 rw [e, List.drop_left' h1]
 exact List.take_left' (l₁ := p.cells) rfl
theorem c37_loop2v (n : Nat) (T : Tm) : ∀ (post pre : List Tm) (p : Tm) (k : Nat), post.length < k → (pre ++ p :: post).length < 999999999 → (∀ x ∈ p :: post, okD false x) →
 ∃ _md : Nat, aft 2 0 (loopH (evCode (evCall (envOf ssD) (n + 1)) (n + 1) c37_b2) c37_m2 2 k (c37_f2 (.bool true) (.ptr 1 0) (.vec 2 0 (pre ++ p :: post).length 4 (pre ++ p :: post).length) (.int .i64 ((pre.length : Int) + 1))) ⟨3, [.row (flatT (pre ++ p :: post)), .row zT, .row T.cells], 2, 0⟩) =
   some (.exit 4, FM 95 [(6, .ptr 1 0), (10, .vec 2 0 (pre ++ p :: dgo p post).length 4 (pre ++ p :: dgo p post).length)], ⟨3, [.row (flatT (pre ++ p :: dgo p post)), .row zT, .row T.cells], 0, 0⟩)
 | [], pre, p, k + 1, _, hl, _ => by
   have hTr := argV_refs T
   have hf := flatT_refs (pre ++ [p])
   exact ⟨0, by simp [loopH_succ, c37_b2, hf, zT, Tm.cells, hTr, dgo]⟩
 | x :: post, pre, p, k + 1, hk, hl, hok => by
   have hTr := argV_refs T
   obtain ⟨L, hL⟩ : ∃ L, pre ++ p :: x :: post = L := ⟨_, rfl⟩
   have at1 := flat_at pre p (x :: post) rfl
   have at2 : ((flatT (pre ++ p :: x :: post)).drop ((pre.length + 1) * 4)).take 4 = x.cells := by
    have := flat_at (pre ++ [p]) x post (k := pre.length + 1) (by simp)
    simpa using this
   have hln : (pre ++ p :: x :: post).length = pre.length + (post.length + 2) := by simp
   have hTk : (pre ++ p :: x :: post).take (pre.length + 1) = pre ++ [p] := by
    rw [show pre ++ p :: x :: post = (pre ++ [p]) ++ x :: post by simp]
    exact List.take_left' (by simp)
   have hDr : (pre ++ p :: x :: post).drop (pre.length + 1 + 1) = post := by
    rw [show pre ++ p :: x :: post = (pre ++ [p, x]) ++ post by simp]
    exact List.drop_left' (by simp)
   have hL2 : (pre ++ [p]) ++ x :: post = L := by rw [← hL]; simp
   rw [hL] at at1 at2 hln hTk hDr hl ⊢
   have hf := flatT_refs L
   have hfl := flatT_len L
   have hpe := Tm.enc_eq p
   have hpc := Tm.cells_is p
   have hpr := argV_refs p
   have hxe := Tm.enc_eq x
   have hxc := Tm.cells_is x
   have hxr := argV_refs x
   have o1 := hok p (by simp)
   have o2 := hok x (by simp)
   have hs := dcmpKS_at 1000000000 p x ⟨o1.1, o2.1, o1.2.1, o2.2.1⟩
   rw [hpe, hpc, hxe, hxc] at hs
   rw [hpc] at at1
   rw [hxc] at at2
   have h6 : ((pre.length : Int) + 1 < (L.length : Int)) = True := eq_true (by omega)
   have b1 : pre.length * 4 + 4 ≤ L.length * 4 := by omega
   have b2 : (pre.length + 1) * 4 + 4 ≤ L.length * 4 := by omega
   have b3 : pre.length < L.length := by omega
   have b4 : pre.length + 1 < L.length := by omega
   have b5 : (0 ≤ (pre.length : Int) + 1) = True := eq_true (by omega)
   have w1 : IntKind.i64.wrap ((pre.length : Int)) = (pre.length : Int) := wrap_i64 (by omega) (by omega)
   have w2 : IntKind.i64.wrap ((pre.length : Int) + 1 + 1) = (pre.length : Int) + 1 + 1 := wrap_i64 (by omega) (by omega)
   rw [dgo_cons, loopH_succ]
   by_cases hc : cmpT p x = 0
   ·rw [if_pos hc]
    obtain ⟨md, ih⟩ := c37_loop2v n T post pre p k (by simp at hk; omega) (by rw [← hL] at hl; simp at hl ⊢; omega) (fun y hy => hok y (by simp at hy ⊢; rcases hy with h | h; exact .inl h; exact .inr (.inr h)))
    refine ⟨md, ?_⟩
    have s1 : sliceC L.length L.length none (some (.int .i64 ((pre.length : Int) + 1))) none = some (0, pre.length + 1, none) := by
     have a1 : (pre.length : Int) + 1 ≤ ((max L.length L.length : Nat) : Int) := by omega
     have a2 : ((pre.length : Int) + 1).toNat = pre.length + 1 := by omega
     have a3 : pre.length + 1 ≤ L.length := by omega
     have a4 : (pre.length : Int) + 1 ≤ (L.length : Int) := by omega
     simp [sliceC, sliceB, a1, a2, a3, a4, b5]
    have s2 : sliceC L.length L.length (some (.int .i64 ((pre.length : Int) + 1 + 1))) none none = some (pre.length + 1 + 1, L.length, none) := by
     have a1 : (pre.length : Int) + 1 + 1 ≤ (L.length : Int) := by omega
     have a2 : ((pre.length : Int) + 1 + 1).toNat = pre.length + 1 + 1 := by omega
     have a3 : pre.length + 1 + 1 ≤ L.length := by omega
     have a4 : 0 ≤ (pre.length : Int) + 1 + 1 := by omega
     simp [sliceC, sliceB, a1, a2, a3, a4]
    have e1 : ∀ (A B : AObj) (wl md : Nat), elemsA ⟨3, [.row (flatT L), A, B], wl, md⟩ 4 (.vec 2 0 (pre.length + 1) 4 L.length) = some (pre.length + 1, flatT (pre ++ [p])) := fun A B wl md => by
     have hr : Heap.row ⟨3, [.row (flatT L), A, B], wl, md⟩ 2 = some (flatT L) := rfl
     have a1 : (pre.length + 1) * 4 ≤ (flatT L).length := by omega
     have a2 : (flatT L).take ((pre.length + 1) * 4) = flatT (pre ++ [p]) := by
      have h1 := flatT_len (pre ++ [p])
      have e : flatT L = flatT (pre ++ [p]) ++ flatT (x :: post) := by rw [← hL2]; exact flatT_append _ _
      rw [e]
      exact List.take_left' (by rw [h1]; simp)
     simp [elemsA, hr, a1, a2]
    have e2 : ∀ (A B C : AObj) (wl md : Nat), elemsA ⟨4, [A, .row (flatT L), B, C], wl, md⟩ 4 (.vec 2 ((pre.length + 1 + 1) * 4) (L.length - (pre.length + 1 + 1)) 4 (L.length - (pre.length + 1 + 1))) = some (post.length, flatT post) := fun A B C wl md => by
     have hr : Heap.row ⟨4, [A, .row (flatT L), B, C], wl, md⟩ 2 = some (flatT L) := rfl
     have hq : L.length - (pre.length + 1 + 1) = post.length := by omega
     have a1 : (pre.length + 1 + 1) * 4 + post.length * 4 ≤ (flatT L).length := by omega
     have a2 : ((flatT L).drop ((pre.length + 1 + 1) * 4)).take (post.length * 4) = flatT post := by
      have h1 := flatT_len (pre ++ [p, x])
      have e : flatT L = flatT (pre ++ [p, x]) ++ flatT post := by rw [← flatT_append, ← hL]; simp
      rw [e, List.drop_left' (by rw [h1]; simp), List.take_of_length_le (by rw [flatT_len]; omega)]
     rw [hq]
     simp [elemsA, hr, a1, a2]
    have d1 : (pre.length + 1) * 56 ≤ 140737488355328 := by omega
    have d2 : pre.length + 1 < 9223372036854775808 := by omega
    have d3 : (pre.length + 1 + post.length) * 56 ≤ 140737488355328 := by omega
    have d4 : pre.length + 1 + post.length < 9223372036854775808 := by omega
    have g1 : (flatT (pre ++ [p])).length = (pre.length + 1) * 4 := by rw [flatT_len]; simp
    have g2 : (flatT (pre ++ [p])).take ((pre.length + 1) * 4) = flatT (pre ++ [p]) := List.take_of_length_le (by omega)
    have g3 := flatT_refs (pre ++ [p])
    have g4 := flatT_refs post
    have hfin : flatT (pre ++ p :: post) = flatT (pre ++ [p]) ++ flatT post := by rw [← flatT_append]; simp
    have hln2 : (pre ++ p :: post).length = pre.length + 1 + post.length := by simp; omega
    rw [hfin, hln2] at ih
    simp only [zT, Tm.cells, ssD] at ih
    obtain ⟨Q, hQ⟩ : ∃ Q, flatT (pre ++ [p]) = Q := ⟨_, rfl⟩
    rw [hQ] at ih g1 g2 g3 e1
    by_cases hp0 : post.length = 0
    ·have hp1 : post = [] := List.eq_nil_of_length_eq_zero hp0
     subst hp1
     have hfn : flatT [] = [] := rfl
     rw [hfn] at e2
     simp only [hfn, List.append_nil, List.length_nil, Nat.add_zero] at ih e2
     simp [c37_b2, c37_m2, ssD, h6, w1, w2, at1, at2, b1, b2, b3, b4, b5, s1, s2, e1, e2, hs, hc, hf, hfl, hpr, hxr, zT, Tm.cells, hTr, frz_argV, dsItemsS_f, isS_f, dinS_f, dcmpKS_f, atomDS_f, dlistS_f, d1, d2, g1, g2, g3]
     refine Eq.trans ih ?_
     simp [Nat.add_comm, Nat.add_left_comm, Nat.add_assoc]
    ·have g5 : AV.refsL (Q ++ flatT post) = 0 := refsL_app g3 g4
     have d6 : (pre.length + 1 + post.length ≤ pre.length + 1) = False := eq_false (by omega)
     have d7 : (post.length = 0) = False := eq_false hp0
     simp [c37_b2, c37_m2, ssD, h6, w1, w2, at1, at2, b1, b2, b3, b4, b5, s1, s2, e1, e2, hs, hc, hf, hfl, hpr, hxr, zT, Tm.cells, hTr, frz_argV, dsItemsS_f, isS_f, dinS_f, dcmpKS_f, atomDS_f, dlistS_f, d1, d2, d3, d4, d6, d7, g1, g2, g3, g4, g5]
     refine Eq.trans ih ?_
     simp [Nat.add_comm, Nat.add_left_comm, Nat.add_assoc]
   ·rw [if_neg hc]
    obtain ⟨md, ih⟩ := c37_loop2v n T post (pre ++ [p]) x k (by simp at hk; omega) (by rw [hL2]; exact hl) (fun y hy => hok y (by simp at hy ⊢; rcases hy with h | h; exact .inr (.inl h); exact .inr (.inr h)))
    refine ⟨md, ?_⟩
    rw [hL2] at ih
    simp only [List.length_append, List.length_cons, List.length_nil, Nat.zero_add, Int.natCast_add, Int.natCast_one, zT, Tm.cells, ssD] at ih
    simp [c37_b2, c37_m2, ssD, h6, w1, w2, at1, at2, b1, b2, b3, b4, b5, hs, hc, hf, hfl, hpr, hxr, zT, Tm.cells, hTr, frz_argV, dsItemsS_f, isS_f, dinS_f, dcmpKS_f, atomDS_f, dlistS_f]
    refine Eq.trans ih ?_
    simp [Nat.add_comm, Nat.add_left_comm, Nat.add_assoc]
theorem c37_loop2s (n : Nat) (T : Tm) : ∀ (post pre : List Tm) (p : Tm) (k : Nat), post.length < k → (pre ++ p :: post).length < 999999999 → (∀ x ∈ p :: post, okD false x) →
 ∃ _md : Nat, (dgo p post = post ∧ aft 2 0 (loopH (evCode (evCall (envOf ssD) (n + 1)) (n + 1) c37_b2) c37_m2 2 k (c37_f2 (.bool true) (.ptr 1 0) (.sl ((pre ++ p :: post).map Tm.enc)) (.int .i64 ((pre.length : Int) + 1))) ⟨2, [.row zT, .row T.cells], 2, 0⟩) =
   some (.exit 4, FM 95 [(6, .ptr 1 0), (10, .sl ((pre ++ p :: post).map Tm.enc))], ⟨2, [.row zT, .row T.cells], 0, 0⟩)) ∨
  aft 2 0 (loopH (evCode (evCall (envOf ssD) (n + 1)) (n + 1) c37_b2) c37_m2 2 k (c37_f2 (.bool true) (.ptr 1 0) (.sl ((pre ++ p :: post).map Tm.enc)) (.int .i64 ((pre.length : Int) + 1))) ⟨2, [.row zT, .row T.cells], 2, 0⟩) =
   some (.exit 4, FM 95 [(6, .ptr 1 0), (10, .vec 2 0 (pre ++ p :: dgo p post).length 4 (pre ++ p :: dgo p post).length)], ⟨3, [.row (flatT (pre ++ p :: dgo p post)), .row zT, .row T.cells], 0, 0⟩)
 | [], pre, p, k + 1, _, hl, _ => by
   have hTr := argV_refs T
   have hf := encs_refs (pre ++ [p])
   have hln : (pre ++ [p]).length = pre.length + 1 := by simp
   obtain ⟨L, hL⟩ : ∃ L, pre ++ [p] = L := ⟨_, rfl⟩
   rw [hL] at hf hln ⊢
   have h6 : ((pre.length : Int) + 1 < (L.length : Int)) = False := eq_false (by omega)
   exact ⟨0, .inl ⟨rfl, by simp [loopH_succ, c37_b2, hf, h6, zT, Tm.cells, hTr, dgo]⟩⟩
 | x :: post, pre, p, k + 1, hk, hl, hok => by
   have hTr := argV_refs T
   obtain ⟨L, hL⟩ : ∃ L, pre ++ p :: x :: post = L := ⟨_, rfl⟩
   have at1 : (pre ++ p :: x :: post)[pre.length]? = some p := by simp
   have at2 : (pre ++ p :: x :: post)[pre.length + 1]? = some x := by simp
   have hln : (pre ++ p :: x :: post).length = pre.length + (post.length + 2) := by simp
   have hTk : (pre ++ p :: x :: post).take (pre.length + 1) = pre ++ [p] := by
    rw [show pre ++ p :: x :: post = (pre ++ [p]) ++ x :: post by simp]
    exact List.take_left' (by simp)
   have hDr : (pre ++ p :: x :: post).drop (pre.length + 1 + 1) = post := by
    rw [show pre ++ p :: x :: post = (pre ++ [p, x]) ++ post by simp]
    exact List.drop_left' (by simp)
   have hL2 : (pre ++ [p]) ++ x :: post = L := by rw [← hL]; simp
   rw [hL] at at1 at2 hln hTk hDr hl ⊢
   have hf := encs_refs L
   have hpe := Tm.enc_eq p
   have hpc := Tm.cells_is p
   have hpr := argV_refs p
   have hxe := Tm.enc_eq x
   have hxc := Tm.cells_is x
   have hxr := argV_refs x
   have o1 := hok p (by simp)
   have o2 := hok x (by simp)
   have hs := dcmpKS_at 1000000000 p x ⟨o1.1, o2.1, o1.2.1, o2.2.1⟩
   rw [hpe, hpc, hxe, hxc] at hs
   have h6 : ((pre.length : Int) + 1 < (L.length : Int)) = True := eq_true (by omega)
   have b3 : pre.length < L.length := by omega
   have b4 : pre.length + 1 < L.length := by omega
   have b5 : (0 ≤ (pre.length : Int) + 1) = True := eq_true (by omega)
   have w1 : IntKind.i64.wrap ((pre.length : Int)) = (pre.length : Int) := wrap_i64 (by omega) (by omega)
   have w2 : IntKind.i64.wrap ((pre.length : Int) + 1 + 1) = (pre.length : Int) + 1 + 1 := wrap_i64 (by omega) (by omega)
   rw [dgo_cons, loopH_succ]
   by_cases hc : cmpT p x = 0
   ·rw [if_pos hc]
    obtain ⟨md, ih⟩ := c37_loop2v n T post pre p k (by simp at hk; omega) (by rw [← hL] at hl; simp at hl ⊢; omega) (fun y hy => hok y (by simp at hy ⊢; rcases hy with h | h; exact .inl h; exact .inr (.inr h)))
    refine ⟨md, .inr ?_⟩
    have hel : (L.map Tm.enc).all (fun x => (x.cells?.map List.length) == some 4) = true := elem_all (encs_elem L)
    have s1 : sliceC L.length L.length none (some (.int .i64 ((pre.length : Int) + 1))) none = some (0, pre.length + 1, none) := by
     have a1 : (pre.length : Int) + 1 ≤ ((max L.length L.length : Nat) : Int) := by omega
     have a2 : ((pre.length : Int) + 1).toNat = pre.length + 1 := by omega
     have a3 : pre.length + 1 ≤ L.length := by omega
     have a4 : (pre.length : Int) + 1 ≤ (L.length : Int) := by omega
     simp [sliceC, sliceB, a1, a2, a3, a4, b5]
    have s2 : sliceC L.length L.length (some (.int .i64 ((pre.length : Int) + 1 + 1))) none none = some (pre.length + 1 + 1, L.length, none) := by
     have a1 : (pre.length : Int) + 1 + 1 ≤ (L.length : Int) := by omega
     have a2 : ((pre.length : Int) + 1 + 1).toNat = pre.length + 1 + 1 := by omega
     have a3 : pre.length + 1 + 1 ≤ L.length := by omega
     have a4 : 0 ≤ (pre.length : Int) + 1 + 1 := by omega
     simp [sliceC, sliceB, a1, a2, a3, a4]
    have e1 : ∀ h, elemsA h 4 (.sl ((L.map Tm.enc).take (pre.length + 1))) = some (pre.length + 1, flatT (pre ++ [p])) := fun h => by
     rw [map_take_elem, elemsA_T, hTk]
     simp
    have e2 : ∀ h, elemsA h 4 (.sl (((L.map Tm.enc).take L.length).drop (pre.length + 1 + 1))) = some (post.length, flatT post) := fun h => by
     rw [List.take_of_length_le (by simp), map_drop_elem, elemsA_T, hDr]
    have d1 : (pre.length + 1) * 56 ≤ 140737488355328 := by omega
    have d2 : pre.length + 1 < 9223372036854775808 := by omega
    have d3 : (pre.length + 1 + post.length) * 56 ≤ 140737488355328 := by omega
    have d4 : pre.length + 1 + post.length < 9223372036854775808 := by omega
    have g1 : (flatT (pre ++ [p])).length = (pre.length + 1) * 4 := by rw [flatT_len]; simp
    have g2 : (flatT (pre ++ [p])).take ((pre.length + 1) * 4) = flatT (pre ++ [p]) := List.take_of_length_le (by omega)
    have g3 := flatT_refs (pre ++ [p])
    have g4 := flatT_refs post
    have hfin : flatT (pre ++ p :: post) = flatT (pre ++ [p]) ++ flatT post := by rw [← flatT_append]; simp
    have hln2 : (pre ++ p :: post).length = pre.length + 1 + post.length := by simp; omega
    rw [hfin, hln2] at ih
    simp only [zT, Tm.cells, ssD] at ih
    obtain ⟨Q, hQ⟩ : ∃ Q, flatT (pre ++ [p]) = Q := ⟨_, rfl⟩
    rw [hQ] at ih g1 g2 g3 e1
    by_cases hp0 : post.length = 0
    ·have hp1 : post = [] := List.eq_nil_of_length_eq_zero hp0
     subst hp1
     have hfn : flatT [] = [] := rfl
     rw [hfn] at e2
     simp only [hfn, List.append_nil, List.length_nil, Nat.add_zero] at ih e2
     simp [c37_b2, c37_m2, ssD, h6, w1, w2, at1, at2, b5, s1, s2, e1, e2, hs, hc, hf, hel, hpe, hpc, hxe, hxc, hpr, hxr, zT, Tm.cells, hTr, frz_argV, dsItemsS_f, isS_f, dinS_f, dcmpKS_f, atomDS_f, dlistS_f, d1, d2, g1, g2, g3]
     refine Eq.trans ih ?_
     simp [Nat.add_comm, Nat.add_left_comm, Nat.add_assoc, hpc]
    ·have g5 : AV.refsL (Q ++ flatT post) = 0 := refsL_app g3 g4
     have d6 : (pre.length + 1 + post.length ≤ pre.length + 1) = False := eq_false (by omega)
     have d7 : (post.length = 0) = False := eq_false hp0
     simp [c37_b2, c37_m2, ssD, h6, w1, w2, at1, at2, b5, s1, s2, e1, e2, hs, hc, hf, hel, hpe, hpc, hxe, hxc, hpr, hxr, zT, Tm.cells, hTr, frz_argV, dsItemsS_f, isS_f, dinS_f, dcmpKS_f, atomDS_f, dlistS_f, d1, d2, d3, d4, d6, d7, g1, g2, g3, g4, g5]
     refine Eq.trans ih ?_
     simp [Nat.add_comm, Nat.add_left_comm, Nat.add_assoc]
   ·rw [if_neg hc]
    obtain ⟨md, ih⟩ := c37_loop2s n T post (pre ++ [p]) x k (by simp at hk; omega) (by rw [hL2]; exact hl) (fun y hy => hok y (by simp at hy ⊢; rcases hy with h | h; exact .inr (.inl h); exact .inr (.inr h)))
    refine ⟨md, ?_⟩
    rw [hL2] at ih
    simp only [List.length_append, List.length_cons, List.length_nil, Nat.zero_add, Int.natCast_add, Int.natCast_one, zT, Tm.cells, ssD] at ih
    rcases ih with ⟨ih1, ih⟩ | ih
    ·refine .inl ⟨by rw [ih1], ?_⟩
     simp [c37_b2, c37_m2, ssD, h6, w1, w2, at1, at2, b5, hs, hc, hf, hpe, hpc, hxe, hxc, hpr, hxr, zT, Tm.cells, hTr, frz_argV, dsItemsS_f, isS_f, dinS_f, dcmpKS_f, atomDS_f, dlistS_f]
     exact ih
    ·refine .inr ?_
     simp [c37_b2, c37_m2, ssD, h6, w1, w2, at1, at2, b5, hs, hc, hf, hpe, hpc, hxe, hxc, hpr, hxr, zT, Tm.cells, hTr, frz_argV, dsItemsS_f, isS_f, dinS_f, dcmpKS_f, atomDS_f, dlistS_f]
     refine Eq.trans ih ?_
     simp [Nat.add_comm, Nat.add_left_comm, Nat.add_assoc]
def onceL : List Tm → List Tm
 | [] => []
 | p :: r => p :: dgo p r
def sortDL (o ks : Bool) (us : List Tm) : List Tm := if o then onceL (insAll (cK ks) [] us) else insAll (cK ks) [] us
def sortD (o ks : Bool) (t : Tm) : Tm × Int :=
 if (sItems t).2 = 0 then (if badB ks (sItems t).1 = 0 then (listT (sortDL o ks (sItems t).1) emptyT, 0) else (zeroT, badB ks (sItems t).1)) else (zeroT, (sItems t).2)
theorem dgo_len : ∀ (r : List Tm) (p : Tm), (dgo p r).length ≤ r.length
 | [], p => Nat.le_refl _
 | y :: r, p => by
   rw [dgo_cons]
   have h1 := dgo_len r p
   have h2 := dgo_len r y
   split <;> simp <;> omega
theorem c37_loop2f (n : Nat) (T : Tm) (A : AV) (N : Int) (hA : A.refs = 0) (hl : ∀ (fr : List AV) (h : Heap) (o : Opd), o.ev fr = A → evOp fr h (.lenv o) = some (.int .i64 N, h)) (hA2 : A = .nils ∨ ∃ xs, A = .sl xs) (k : Nat) :
 aft 2 0 (loopH (evCode (evCall (envOf ssD) (n + 1)) (n + 1) c37_b2) c37_m2 2 (k + 1) (c37_f2 (.bool false) (.ptr 1 0) A (.int .i64 1)) ⟨2, [.row zT, .row T.cells], 2, 0⟩) =
  some (.exit 4, FM 95 [(6, .ptr 1 0), (10, A)], ⟨2, [.row zT, .row T.cells], 0, 0⟩) := by
 have hTr := argV_refs T
 rcases hA2 with rfl | ⟨xs, rfl⟩
 ·simp [loopH_succ, c37_b2, zT, Tm.cells, hTr]
 ·simp only [AV.refs] at hA
  by_cases h : (1 : Int) < (xs.length : Int)
  ·have h' : ((1 : Int) < (xs.length : Int)) = True := eq_true h
   have h'' : (1 < xs.length) = True := eq_true (by omega)
   simp [loopH_succ, c37_b2, hA, h', h'', zT, Tm.cells, hTr]
  ·have h' : ((1 : Int) < (xs.length : Int)) = False := eq_false h
   have h'' : (1 < xs.length) = False := eq_false (by omega)
   simp [loopH_succ, c37_b2, hA, h', h'', zT, Tm.cells, hTr]
def dsortS : KSpec := ⟨37, fun | [v, .bool o, .bool ks] => (match decTm v with | some t => if t.bulk < 1000000000 then some (.tuple [(sortD o ks t).1.enc, .int .i64 (sortD o ks t).2]) else none | none => none) | _ => none⟩
theorem dsortS_f : dsortS.f = 37 := (rfl)
theorem dsortS_at (o ks : Bool) (t : Tm) (h : t.bulk < 1000000000) : dsortS.S [t.enc, .bool o, .bool ks] = some (.tuple [(sortD o ks t).1.enc, .int .i64 (sortD o ks t).2]) := by
 simp only [dsortS, decTm_enc, if_pos h]
theorem isK_args {x : Tm} {s : List UInt8} (h : isK x s 2 = true) : x.args ≠ [] := fun e => by
 simp only [isK, Bool.and_eq_true, decide_eq_true_eq, e] at h
 simp at h
theorem badK_ok : ∀ {us : List Tm}, badK us = 0 → ∀ x ∈ us, x.args ≠ []
 | y :: r, h, x, hx => by
   unfold badK at h
   split at h
   ·omega
   ·split at h
    ·rename_i h1
     rcases List.mem_cons.1 hx with rfl | hx
     ·exact isK_args h1
     ·exact badK_ok h x hx
    ·omega
theorem dsortS_ok : KSpecOK Tryz.prog dsortS := fun args v hv => by
 unfold dsortS at hv ⊢
 dsimp only at hv ⊢
 split at hv
 ·rename_i x o ks
  split at hv
  ·rename_i t ht
   split at hv
   ·rename_i hb
    cases hv
    rw [decTm_eq ht]
    have hsb := size_bulk t
    refine prim_of (n := t.size + 10) (h' := h0) (envOf_ok (ss := ssD) (by simp [ssD, dsItemsS_ok, isS_ok, dinS_ok, dcmpKS_all 1000000000 (by omega), atomDS_ok, dlistS_ok])) ?_ (by simp [AV.refs, AV.refsL, Tm.enc_refs]) (by simp [AV.refsL, AV.refs, Tm.enc_refs])
    have c1 := dsItemsS_at t hb
    have hxe := Tm.enc_eq t
    have hcl := Tm.cells_is t
    have hxr := argV_refs t
    have ha := atomDS_at [91, 93]
    have hee : emptyT.enc = .agg [.int .i64 2, .int .i64 0, .str [91, 93], .nils] := rfl
    have hze : zeroT.enc = .agg [.int .i64 0, .int .i64 0, .str [], .nils] := rfl
    unfold sortD
    by_cases he : (sItems t).2 = 0
    ·rw [if_pos he]
     have hgood : goodT t = true := by
      unfold sItems at he
      split at he
      ·assumption
      ·exact absurd he (by decide)
     have hus : (sItems t).1 = (itemsT t).1 := by
      unfold sItems at he ⊢
      rw [if_pos hgood] at he ⊢
      split at he
      ·rename_i h0; rw [if_pos h0]
      ·rename_i h0; exact absurd he h0
     have him := items_mem hb hgood
     have hin := (items_in (t.size) t)
     rw [he] at c1
     have hitem : ∀ x ∈ (sItems t).1, x.size < 1000000000 ∧ x.allT oneK = true := fun x hx => by
      rw [hus] at hx
      have h1 := him.1 x hx
      have h2 := size_bulk x
      have h3 := h1.2
      have h4 := h1.1
      simp only [goodT, Bool.and_eq_true] at h4
      exact ⟨by omega, h4.2⟩
     have hlen : (sItems t).1.length ≤ t.size := by rw [hus]; exact him.2.1
     have hsz := him.2.2
     generalize (sItems t).1 = us at *
     by_cases hne : us = []
     ·subst hne
      have hbb : badB ks [] = 0 := by cases ks <;> rfl
      have hdl : sortDL o ks [] = [] := by cases o <;> rfl
      rw [if_pos hbb, hdl]
      have hl := dlistS_nils emptyT
      rw [hee] at hl
      have hfin : (listT [] emptyT).enc = .agg [.int .i64 2, .int .i64 0, .str [91, 93], .nils] := rfl
      rw [hfin]
      rw [slT0, hxe, hcl] at c1
      rw [hxe, hcl]
      cases o <;> simp [run37, c37, c37_m0, c37_m1, c37_m2, c37_b0, c37_b1, c37_b2, loopH_succ, ssD, c1, hxr, ha, hl, frz_argV, dsItemsS_f, isS_f, dinS_f, dcmpKS_f, atomDS_f, dlistS_f]
     ·rw [slT_cons hne, hxe, hcl] at c1
      rw [hxe, hcl]
      have h5 := encs_refs us
      by_cases hbad : badB ks us = 0
      ·rw [if_pos hbad]
       have hokD : ∀ x ∈ us, okD ks x := fun x hx => ⟨(hitem x hx).1, (hitem x hx).2, fun hk => by
        subst hk
        exact badK_ok hbad x hx⟩
       obtain ⟨md0, lp0⟩ : ∃ _md : Nat, aft 2 0 (loopH (evCode (evCall (envOf ssD) (t.size + 8 + 1)) (t.size + 8 + 1) c37_b0) c37_m0 2 (t.size + 9) (c37_f0 (.bool o) (.bool ks) (.ptr 1 0) (.sl (us.map Tm.enc)) .nils (.int .i64 0)) ⟨2, [.row zT, .row t.cells], 2, 0⟩) =
        some (.exit 0, FM 95 [(1, .bool o), (2, .bool ks), (6, .ptr 1 0), (8, .sl (us.map Tm.enc)), (10, .nils)], ⟨2, [.row zT, .row t.cells], 0, 0⟩) := by
        cases ks with
        | false => exact c37_loop0f (t.size + 8) us (by omega) o t us [] (t.size + 9) rfl (by omega)
        | true =>
          have h := c37_loop0t (t.size + 8) us (by omega) o t us [] (t.size + 9) rfl (by omega)
          have hbk : badK us = 0 := hbad
          rw [if_pos hbk, if_pos hbk] at h
          exact h
       obtain ⟨md1, lp1⟩ := c37_loop1 (t.size + 8) us (by omega) o ks t hokD us [] (t.size + 9) rfl (by omega)
       have hSl : (insAll (cK ks) [] us).length = us.length := by rw [insAll_len]; simp
       have hSin : ∀ x ∈ insAll (cK ks) [] us, x ∈ us := fun x hx => by
        rcases insAll_mem _ _ _ x hx with h | h
        ·cases h
        ·exact h
       have hSne : insAll (cK ks) [] us ≠ [] := fun h => by
        rw [h] at hSl
        exact hne (List.eq_nil_of_length_eq_zero hSl.symm)
       unfold sortDL
       have e00 : insAll (cK ks) [] ([] : List Tm) = [] := rfl
       rw [e00, slT0] at lp1
       rw [slT_cons hSne] at lp1
       generalize insAll (cK ks) [] us = S at *
       have h7 := encs_refs S
       simp only [List.length_nil, c37_m0, c37_m1, zT, hcl, show ((0 : Nat) : Int) = 0 from rfl, ssD] at lp0 lp1
       cases o with
       | false =>
         have lp2 := c37_loop2f (t.size + 8) t (.sl (S.map Tm.enc)) S.length (by simp [AV.refs, h7]) (fun fr h o ho => by rw [evOp_lenv, ho]; simp) (.inr ⟨_, rfl⟩) (t.size + 8)
         simp only [c37_m2, zT, hcl, ssD] at lp2
         have hl := dlistS_at S emptyT (by omega)
         have hre : (listT S emptyT).enc = .agg (listT S emptyT).cells := Tm.enc_eq _
         have hrc : (listT S emptyT).cells = [.int .i64 (listT S emptyT).kind, .int .i64 (listT S emptyT).num, .str (listT S emptyT).name, (listT S emptyT).argV] := rfl
         have hrr := argV_refs (listT S emptyT)
         rw [hee, hre, hrc] at hl
         have hif : (if false = true then onceL S else S) = S := rfl
         rw [hif]
         dsimp only
         rw [hre, hrc]
         have hrf := fun (h : Heap) (n0 d : Nat) => frz_argV h n0 d (listT S emptyT)
         generalize listT S emptyT = Z at *
         simp [run37, c37, c37_m0, c37_m1, c37_m2, ssD, c1, hxr, h5, h7, lp0, lp1, lp2, ha, hl, hrr, hrf, frz_argV, dsItemsS_f, isS_f, dinS_f, dcmpKS_f, atomDS_f, dlistS_f]
       | true =>
         obtain ⟨p, post, rfl⟩ : ∃ p post, S = p :: post := by
          cases S with
          | nil => exact absurd rfl hSne
          | cons p post => exact ⟨p, post, rfl⟩
         have hdl := dgo_len post p
         obtain ⟨md2, lp2⟩ := c37_loop2s (t.size + 8) t post [] p (t.size + 9) (by simp at hSl; omega) (by simp at hSl ⊢; omega) (fun x hx => ⟨(hitem x (hSin x hx)).1, (hitem x (hSin x hx)).2, fun h => by cases h⟩)
         have hif : (if true = true then onceL (p :: post) else p :: post) = p :: dgo p post := rfl
         rw [hif]
         dsimp only
         have hl := dlistS_at (p :: dgo p post) emptyT (by simp at hSl ⊢; omega)
         have hre : (listT (p :: dgo p post) emptyT).enc = .agg (listT (p :: dgo p post) emptyT).cells := Tm.enc_eq _
         have hrc : (listT (p :: dgo p post) emptyT).cells = [.int .i64 (listT (p :: dgo p post) emptyT).kind, .int .i64 (listT (p :: dgo p post) emptyT).num, .str (listT (p :: dgo p post) emptyT).name, (listT (p :: dgo p post) emptyT).argV] := rfl
         have hrr := argV_refs (listT (p :: dgo p post) emptyT)
         rw [hee, hre, hrc] at hl
         rw [hre, hrc]
         have hrf := fun (h : Heap) (n0 d : Nat) => frz_argV h n0 d (listT (p :: dgo p post) emptyT)
         have hsc : scal1 (listT (p :: dgo p post) emptyT).argV = false := rfl
         generalize listT (p :: dgo p post) emptyT = Z at *
         simp only [List.nil_append, List.length_nil, show ((0 : Nat) : Int) + 1 = 1 from rfl, c37_m2, zT, hcl, ssD] at lp2
         rcases lp2 with ⟨e1, lp2⟩ | lp2
         ·rw [e1] at hl
          generalize (p :: post).map Tm.enc = E at *
          simp [run37, c37, c37_m0, c37_m1, c37_m2, ssD, c1, hxr, h5, h7, lp0, lp1, lp2, ha, hl, hrr, hrf, frz_argV, dsItemsS_f, isS_f, dinS_f, dcmpKS_f, atomDS_f, dlistS_f]
         ·have hf : ∀ (A B : AObj) (wl md d : Nat), frz ⟨3, [.row (flatT (p :: dgo p post)), A, B], wl, md⟩ 0 (d + 2) (.vec 2 0 (p :: dgo p post).length 4 (p :: dgo p post).length) = some (.sl ((p :: dgo p post).map Tm.enc), [2]) := fun A B wl md d =>
           frz_L (p :: dgo p post) rfl (by omega) rfl
          have hfr := flatT_refs (p :: dgo p post)
          generalize (p :: post).map Tm.enc = E at *
          generalize p :: dgo p post = W at *
          generalize W.map Tm.enc = E2 at *
          generalize W.length = N2 at *
          simp [run37, c37, c37_m0, c37_m1, c37_m2, ssD, c1, hxr, h5, h7, lp0, lp1, lp2, ha, hl, hf, hfr, hsc, hrr, hrf, frz_argV, dsItemsS_f, isS_f, dinS_f, dcmpKS_f, atomDS_f, dlistS_f]
      ·rw [if_neg hbad]
       cases ks with
       | false => exact absurd rfl hbad
       | true =>
         have hbk : badB true us = badK us := rfl
         rw [hbk] at hbad ⊢
         obtain ⟨md, lp⟩ := c37_loop0t (t.size + 8) us (by omega) o t us [] (t.size + 9) rfl (by omega)
         rw [if_neg hbad, if_neg hbad] at lp
         simp only [List.length_nil, c37_m0, zT, hcl, show ((0 : Nat) : Int) = 0 from rfl, ssD] at lp
         rw [hze]
         simp [run37, c37, c37_m0, ssD, c1, hxr, h5, lp, frz_argV, dsItemsS_f, isS_f, dinS_f, dcmpKS_f, atomDS_f, dlistS_f]
    ·rw [if_neg he]
     have hu0 : (sItems t).1 = [] := by
      unfold sItems at he ⊢
      split
      ·rename_i hg
       rw [if_pos hg] at he
       split
       ·rename_i h0; rw [if_pos h0] at he; exact absurd rfl he
       ·rfl
      ·rfl
     rw [hu0, slT0] at c1
     rw [hze]
     rw [hxe, hcl] at c1 ⊢
     simp [run37, c37, ssD, c1, hxr, he, frz_argV, dsItemsS_f, isS_f, dinS_f, dcmpKS_f, atomDS_f, dlistS_f]
   ·cases hv
  ·cases hv
 ·cases hv
end Go.Proofs.YtlakiipofcibhaaGreatDoor
