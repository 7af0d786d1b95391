import Derived.Test.YtleeinkdkllcdaaGreatDoorAt
import Derived.Test.YtleeinkdkllcdaaGreatDoorMa
import Derived.Test.YtleeinkdkllcdaaGreatDoorFn
import Derived.Test.YtleeinkdkllcdaaGreatDoorTx
import Derived.Test.YtleeinkdkllcdaaGreatDoorTm
set_option linter.unusedVariables false
set_option linter.unusedSimpArgs false
set_option linter.unusedSectionVars false
set_option maxHeartbeats 16000000
set_option maxRecDepth 100000

namespace Go.Proofs.YtleeinkdkllcdaaGreatDoor
open Go Sz
theorem listT_snoc : ∀ (us : List Tm) (x t : Tm), listT (us ++ [x]) t = listT us (.mk 2 0 [46] [x, t])
 | [], x, t => rfl
 | y :: r, x, t => by simp [listT, listT_snoc r x t]
theorem c55_loop (n : Nat) (us : List Tm) (hu : us.length < 1000000000) : ∀ (i m : Nat) (u : Tm), i ≤ us.length → i < m →
 ∃ md, aft 2 0 (loopH (evCode (evCall (envOf [atomDS, compDS]) (n + 1)) (n + 1) c55_b0) c55_m0 2 m (c55_f0 (.sl (us.map Tm.enc)) (.ptr 0 0) (.ptr 1 0) (.int .i64 ((i : Int) - 1))) ⟨2, [.row zT, .row u.cells], 2, 0⟩) =
   some (.exit 0, FM 21 [(3, .ptr 0 0), (4, .ptr 1 0)], ⟨2, [.row zT, .row (listT (us.take i) u).cells], 0, md⟩)
 | 0, m + 1, u, _, _ => by
   have h5 := encs_refs us
   have hur := argV_refs u
   have h1 : (0 ≤ (-1 : Int)) = False := by simp
   exact ⟨0, by simp [loopH_succ, c55_b0, h5, listT, Tm.cells, hur, zT]⟩
 | i + 1, m + 1, u, hi, hm => by
   have h5 := encs_refs us
   obtain ⟨x, hx⟩ : ∃ x, us[i]? = some x := ⟨us[i]'(by omega), by simp⟩
   have htk : us.take (i + 1) = us.take i ++ [x] := by rw [List.take_add_one, hx]; rfl
   obtain ⟨md, ih⟩ := c55_loop n us hu i m (.mk 2 0 [46] [x, u]) (by omega) (by omega)
   refine ⟨md, ?_⟩
   rw [htk, listT_snoc]
   have ex := x.enc_eq
   have eu := u.enc_eq
   have r1 := argV_refs x
   have r2 := argV_refs u
   have cs := compDS_at [46] [x, u]
   have c1 := basic_cells (argV_basic x)
   have c2 := basic_cells (argV_basic u)
   have em : (Tm.mk 2 0 [46] [x, u]).enc = .agg [.int .i64 2, .int .i64 0, .str [46], .sl [x.enc, u.enc]] := by simp [Tm.enc, Tm.encL]
   have k1 : (Tm.mk 2 0 [46] [x, u]).kind = 2 := rfl
   have k2 : (Tm.mk 2 0 [46] [x, u]).num = 0 := rfl
   have k3 : (Tm.mk 2 0 [46] [x, u]).name = [46] := rfl
   have k4 : (Tm.mk 2 0 [46] [x, u]).argV = .sl [x.enc, u.enc] := rfl
   rw [em] at cs
   simp only [List.map_cons, List.map_nil, ex, eu, Tm.cells] at cs
   have f1 := fun (h : Heap) (n0 d : Nat) => frz_argV h n0 d x
   have f2 := fun (h : Heap) (n0 d : Nat) => frz_argV h n0 d u
   have t1 : (0 ≤ (i : Int)) = True := eq_true (by omega)
   have w1 : IntKind.i64.wrap ((i : Int) - 1) = (i : Int) - 1 := wrap_i64 (by omega) (by omega)
   have e2 : ((i + 1 : Nat) : Int) - 1 = (i : Int) := by omega
   rw [e2, loopH_succ]
   simp only [Tm.cells, k1, k2, k3, k4, ex, eu] at ih
   simp [c55_b0, c55_m0, compDS_f, atomDS_f, hx, h5, t1, w1, ex, eu, r1, r2, f1, f2, Tm.cells, cs, c1, c2, AV.cells, k1, k2, k3, k4]
   exact ih
def dlistS : KSpec := ⟨55, fun
 | [.nils, v] => (match decTm v with | some t => some t.enc | none => none)
 | [.sl xs, v] => (match decTms xs, decTm v with | some us, some t => if us.length < 1000000000 then some (listT us t).enc else none | _, _ => none)
 | _ => none⟩
theorem dlistS_f : dlistS.f = 55 := (rfl)
theorem dlistS_at (us : List Tm) (t : Tm) (h : us.length < 1000000000) : dlistS.S [.sl (us.map Tm.enc), t.enc] = some (listT us t).enc := by
 unfold dlistS
 dsimp only
 rw [← encL_map, decTms_enc, decTm_enc]
 exact if_pos h
theorem dlistS_nils (t : Tm) : dlistS.S [.nils, t.enc] = some t.enc := by
 unfold dlistS
 dsimp only
 rw [decTm_enc]
theorem dlistS_ok : KSpecOK Tryz.prog dlistS := fun args v hv => by
 unfold dlistS at hv ⊢
 dsimp only at hv ⊢
 split at hv
 ·split at hv
  ·rename_i t ht
   cases hv
   rw [decTm_eq ht]
   refine prim_of (n := 5) (h' := h0) (envOf_ok (ss := [atomDS, compDS]) (by simp [atomDS_ok, compDS_ok])) ?_ (Tm.enc_refs _) (by simp [AV.refsL, AV.refs, Tm.enc_refs])
   have hxe := Tm.enc_eq t
   have hcl := Tm.cells_is t
   have hxr := argV_refs t
   have w1 : IntKind.i64.wrap (-1) = -1 := rfl
   have w2 : IntKind.i64.wrap (0 - 1) = -1 := rfl
   rw [hxe, hcl]
   simp [run55, c55, c55_m0, c55_b0, loopH_succ, hxr, w1, w2, compDS_f, atomDS_f, frz_argV]
  ·cases hv
 ·split at hv
  ·rename_i us t hu ht
   split at hv
   ·rename_i hl
    cases hv
    rw [decTm_eq ht, decTms_eq hu]
    refine prim_of (n := us.length + 5) (h' := h0) (envOf_ok (ss := [atomDS, compDS]) (by simp [atomDS_ok, compDS_ok])) ?_ (Tm.enc_refs _) (by simp [AV.refsL, AV.refs, Tm.enc_refs, encs_refs])
    have hxe := Tm.enc_eq t
    have hcl := Tm.cells_is t
    have hxr := argV_refs t
    have h5 := encs_refs us
    have w1 : IntKind.i64.wrap ((us.length : Int) - 1) = (us.length : Int) - 1 := wrap_i64 (by omega) (by omega)
    obtain ⟨md, lp⟩ := c55_loop (us.length + 3) us hl us.length (us.length + 4) t (Nat.le_refl _) (by omega)
    rw [List.take_length] at lp
    have hre : (listT us t).enc = .agg (listT us t).cells := Tm.enc_eq _
    have hrr := argV_refs (listT us t)
    rw [hre]
    simp only [c55_m0, zT, hcl, Tm.cells] at lp
    generalize listT us t = z at lp hrr ⊢
    rw [hxe, hcl]
    simp [run55, c55, c55_m0, hxr, h5, w1, lp, hrr, compDS_f, atomDS_f, frz_argV, Tm.cells]
   ·cases hv
  ·cases hv
 ·cases hv
theorem c77_loop (C : Nat → List AV → Heap → Option (AV × Heap)) (n : Nat) : ∀ (k : Nat) (t : Tm) (acc : List Tm) (m : Nat), t.size ≤ k → acc ≠ [] → acc.length + t.size ≤ 1000000000 → k < m →
 ∃ md, aft 2 0 (loopH (evCode C n c77_b0) c77_m0 2 m (c77_f0 (.ptr 0 0) (.ptr 1 0) (.vec 2 0 acc.length 4 acc.length)) ⟨3, [.row (flatT acc), .row zT, .row t.cells], 2, 0⟩) =
   some (.exit 0, FM 32 [(1, .ptr 0 0), (3, .ptr 1 0), (4, .vec 2 0 (acc ++ (itemsT t).1).length 4 (acc ++ (itemsT t).1).length)], ⟨3, [.row (flatT (acc ++ (itemsT t).1)), .row zT, .row (itemsT t).2.cells], 0, md⟩)
 | 0, t, acc, m, h, _, _, _ => by have := size_args t; omega
 | k + 1, t, acc, m + 1, h, hne, hs, hm => by
   have hf := flatT_refs acc
   rw [loopH_succ]
   cases hd : isDot t with
   | false =>
     rw [items_end hd]
     cases t with
     | nl kk nn ss =>
       have hc : (Tm.nl kk nn ss).cells = [.int .i64 kk, .int .i64 nn, .str ss, .nils] := rfl
       by_cases h1 : kk = 2
       ·subst h1
        cases h2 : (ss == [46]) with
        | false => exact ⟨0, by simp [c77_b0, c77_m0, hc, h2, hf]⟩
        | true => exact ⟨0, by simp [c77_b0, c77_m0, hc, h2, hf]⟩
       ·exact ⟨0, by simp [c77_b0, c77_m0, hc, h1, hf]⟩
     | mk kk nn ss us =>
       have hc : (Tm.mk kk nn ss us).cells = [.int .i64 kk, .int .i64 nn, .str ss, .sl (us.map Tm.enc)] := rfl
       have hr := encs_refs us
       by_cases h1 : kk = 2
       ·subst h1
        cases h2 : (ss == [46]) with
        | false => exact ⟨0, by simp [c77_b0, c77_m0, hc, h2, hf, hr]⟩
        | true =>
          have h3 : ((us.length : Int) = 2) = False := eq_false fun e => by
           have h2' := eq_of_beq h2
           simp [isDot, Tm.kind, Tm.name, Tm.args, h2'] at hd
           exact of_decide_eq_false hd (by omega)
          exact ⟨0, by simp [c77_b0, c77_m0, hc, h2, h3, hf, hr]⟩
       ·exact ⟨0, by simp [c77_b0, c77_m0, hc, h1, hf, hr]⟩
   | true =>
     obtain ⟨x, r, ha, e⟩ := items_isDot hd
     have hsz := size_args t
     rw [ha] at hsz
     simp only [Tm.sizeL] at hsz
     cases t with
     | nl kk nn ss => cases ha
     | mk kk nn ss us =>
       simp only [Tm.args] at ha
       subst ha
       simp only [isDot, Bool.and_eq_true] at hd
       obtain ⟨⟨hd1, hd2⟩, _⟩ := hd
       obtain rfl : kk = 2 := of_decide_eq_true hd1
       obtain rfl : ss = [46] := of_decide_eq_true hd2
       obtain ⟨md, ih⟩ := c77_loop C n k r (acc ++ [x]) m (by omega) (by simp) (by simp; omega) (by omega)
       refine ⟨md, ?_⟩
       rw [e]
       have hc : (Tm.mk 2 nn [46] [x, r]).cells = [.int .i64 2, .int .i64 nn, .str [46], .sl [x.enc, r.enc]] := rfl
       have hxe := Tm.enc_eq x
       have hxc := Tm.cells_is x
       have hxr := argV_refs x
       have hre := Tm.enc_eq r
       have hrc := Tm.cells_is r
       have hrr := argV_refs r
       have hf2 : AV.refsL (flatT acc ++ x.cells) = 0 := by rw [← flatT_snoc]; exact flatT_refs _
       rw [hxc] at hf2
       have h8 : (acc.length + 1) * 56 ≤ 140737488355328 := by omega
       have h9 : acc.length + 1 < 9223372036854775808 := by omega
       have h10 : (flatT acc).take (acc.length * 4) = flatT acc := by rw [List.take_of_length_le]; rw [flatT_len]; exact Nat.le_refl _
       have h11 := flatT_len acc
       simp only [flatT_snoc, List.length_append, List.length_cons, List.length_nil, Nat.zero_add, hrc, hxc] at ih
       simp [c77_b0, c77_m0, hc, hxe, hxc, hxr, hre, hrc, hrr, hf, hf2, h8, h9, h10, h11, elemsA]
       refine Eq.trans ih ?_
       simp [flatT, hxc, Nat.add_comm, Nat.add_left_comm, Nat.add_assoc]
theorem c77_loop0 (C : Nat → List AV → Heap → Option (AV × Heap)) (n : Nat) (t : Tm) (m : Nat) (hs : t.size ≤ 999999999) (hm : t.size < m) :
 ∃ md, aft 2 0 (loopH (evCode C n c77_b0) c77_m0 2 m (c77_f0 (.ptr 0 0) (.ptr 1 0) .nils) ⟨2, [.row zT, .row t.cells], 2, 0⟩) =
   some (.exit 0, FM 32 [(1, .ptr 0 0), (3, .ptr 1 0), (4, vT 2 (itemsT t).1)], ⟨(hT (itemsT t).1 [.row zT, .row (itemsT t).2.cells]).length, hT (itemsT t).1 [.row zT, .row (itemsT t).2.cells], 0, md⟩) := by
 cases m with
 | zero => omega
 | succ m =>
   rw [loopH_succ]
   cases hd : isDot t with
   | false =>
     rw [items_end hd]
     cases t with
     | nl kk nn ss =>
       have hc : (Tm.nl kk nn ss).cells = [.int .i64 kk, .int .i64 nn, .str ss, .nils] := rfl
       by_cases h1 : kk = 2
       ·subst h1
        cases h2 : (ss == [46]) with
        | false => exact ⟨0, by simp [c77_b0, c77_m0, hc, h2, vT, hT]⟩
        | true => exact ⟨0, by simp [c77_b0, c77_m0, hc, h2, vT, hT]⟩
       ·exact ⟨0, by simp [c77_b0, c77_m0, hc, h1, vT, hT]⟩
     | mk kk nn ss us =>
       have hc : (Tm.mk kk nn ss us).cells = [.int .i64 kk, .int .i64 nn, .str ss, .sl (us.map Tm.enc)] := rfl
       have hr := encs_refs us
       by_cases h1 : kk = 2
       ·subst h1
        cases h2 : (ss == [46]) with
        | false => exact ⟨0, by simp [c77_b0, c77_m0, hc, h2, hr, vT, hT]⟩
        | true =>
          have h3 : ((us.length : Int) = 2) = False := eq_false fun e => by
           have h2' := eq_of_beq h2
           simp [isDot, Tm.kind, Tm.name, Tm.args, h2'] at hd
           exact of_decide_eq_false hd (by omega)
          exact ⟨0, by simp [c77_b0, c77_m0, hc, h2, h3, hr, vT, hT]⟩
       ·exact ⟨0, by simp [c77_b0, c77_m0, hc, h1, hr, vT, hT]⟩
   | true =>
     obtain ⟨x, r, ha, e⟩ := items_isDot hd
     have hsz := size_args t
     rw [ha] at hsz
     simp only [Tm.sizeL] at hsz
     cases t with
     | nl kk nn ss => cases ha
     | mk kk nn ss us =>
       simp only [Tm.args] at ha
       subst ha
       simp only [isDot, Bool.and_eq_true] at hd
       obtain ⟨⟨hd1, hd2⟩, _⟩ := hd
       obtain rfl : kk = 2 := of_decide_eq_true hd1
       obtain rfl : ss = [46] := of_decide_eq_true hd2
       obtain ⟨md, ih⟩ := c77_loop C n r.size r [x] m (Nat.le_refl _) (by simp) (by simp; omega) (by omega)
       refine ⟨md, ?_⟩
       rw [e]
       have hc : (Tm.mk 2 nn [46] [x, r]).cells = [.int .i64 2, .int .i64 nn, .str [46], .sl [x.enc, r.enc]] := rfl
       have hxe := Tm.enc_eq x
       have hxc := Tm.cells_is x
       have hxr := argV_refs x
       have hre := Tm.enc_eq r
       have hrc := Tm.cells_is r
       have hrr := argV_refs r
       simp only [flatT, List.flatMap_cons, List.flatMap_nil, List.append_nil, List.length_append, List.length_cons, List.length_nil, Nat.zero_add, hrc, hxc] at ih
       simp [c77_b0, c77_m0, hc, hxe, hxc, hxr, hre, hrc, hrr, elemsA]
       refine Eq.trans ih ?_
       simp [vT, hT, flatT, hxc, Nat.add_comm, Nat.add_left_comm, Nat.add_assoc]
def ditemsS : KSpec := ⟨77, fun | [v] => (match decTm v with | some t => if t.bulk < 1000000000 then some (.tuple [slT (itemsT t).1, (itemsT t).2.enc]) else none | none => none) | _ => none⟩
theorem ditemsS_f : ditemsS.f = 77 := (rfl)
theorem ditemsS_at (t : Tm) (h : t.bulk < 1000000000) : ditemsS.S [t.enc] = some (.tuple [slT (itemsT t).1, (itemsT t).2.enc]) := by
 simp only [ditemsS, decTm_enc, if_pos h]
theorem ditemsS_ok : KSpecOK Tryz.prog ditemsS := fun args v hv => by
 unfold ditemsS at hv ⊢
 dsimp only at hv ⊢
 split at hv
 ·rename_i x
  split at hv
  ·rename_i t ht
   split at hv
   ·rename_i hl
    cases hv
    rw [decTm_eq ht]
    refine prim_of (n := t.size + 5) (h' := h0) (envOf_ok (ss := []) (by simp)) ?_ (by simp [AV.refs, AV.refsL, slT_refs, Tm.enc_refs]) (by simp [AV.refsL, Tm.enc_refs])
    have hsb := size_bulk t
    have hxe := Tm.enc_eq t
    have hcl := Tm.cells_is t
    have hxr := argV_refs t
    obtain ⟨md, eq⟩ := c77_loop0 (evCall (envOf []) (t.size + 4)) (t.size + 4) t (t.size + 4) (by omega) (by omega)
    generalize itemsT t = p at eq
    obtain ⟨us, tl⟩ := p
    dsimp only at eq ⊢
    rw [hxe, hcl]
    rw [hcl] at eq
    simp only [c77_m0, zT] at eq
    have htl := Tm.enc_eq tl
    have htc := Tm.cells_is tl
    have htr := argV_refs tl
    rw [htl, htc]
    rw [htc] at eq
    cases us with
    | nil =>
      simp only [vT, hT, zT, List.length_cons, List.length_nil] at eq
      simp [run77, c77, c77_m0, hxr, htr, frz_argV, slT, eq]
    | cons y r =>
      simp only [vT, hT, zT, List.length_cons, List.length_nil] at eq
      have hf2 := flatT_refs (y :: r)
      have hf : ∀ (A B : AObj) (wl md d : Nat), frz ⟨3, [.row (flatT (y :: r)), A, B], wl, md⟩ 0 (d + 2) (.vec 2 0 (r.length + 1) 4 (r.length + 1)) = some (.sl ((y :: r).map Tm.enc), [2]) := fun A B wl md d => frz_T y r (by omega) rfl
      simp only [List.map_cons] at hf
      simp [run77, c77, c77_m0, hxr, htr, hf2, frz_argV, slT, eq, hf]
   ·cases hv
  ·cases hv
 ·cases hv
theorem oneK_kind {t : Tm} (h : oneK t = true) : t.kind = 0 ∨ t.kind = 1 ∨ t.kind = 2 := by
 unfold oneK at h
 split at h
 ·exact .inl (by assumption)
 ·split at h
  ·exact .inr (.inl (by assumption))
  ·split at h
   ·exact .inr (.inr (by assumption))
   ·cases h
theorem items_tail : ∀ (k : Nat) (t : Tm), t.size ≤ k → t.allT oneK = true → (itemsT t).2.allT oneK = true ∧ Tm.allL oneK (itemsT t).1 = true
 | 0, t, h, _ => by have := size_args t; omega
 | k + 1, t, h, hg => by
   cases hd : isDot t with
   | false =>
     rw [items_end hd]
     exact ⟨hg, rfl⟩
   | true =>
     obtain ⟨x, r, ha, e⟩ := items_isDot hd
     have hs := size_args t
     rw [ha] at hs
     simp only [Tm.sizeL] at hs
     rw [allT_args, ha] at hg
     simp only [Tm.allL, Bool.and_eq_true, Bool.and_true] at hg
     rw [e]
     have := items_tail k r (by omega) hg.2.2
     exact ⟨this.1, by simp only [Tm.allL, hg.2.1, this.2, Bool.and_true]⟩
theorem endD_tail {t : Tm} (h : oneK t = true) : endD t = tailE t := by
 unfold endD tailE isK
 rcases oneK_kind h with e | e | e <;> rw [e]
 ·simp
 ·simp
 ·by_cases c1 : t.name = [91, 93]
  ·by_cases c2 : t.args.length = 0
   ·simp [c1, c2]
   ·have c3 : ((t.args.length : Int) = 0) = False := eq_false (by omega)
    have c4 : 0 < t.args.length := by omega
    have c5 : t.args ≠ [] := fun h => c2 (by rw [h]; rfl)
    simp [c1, c2, c3, c4, c5]
  ·simp [c1]
def mkT (k n : Int) (s : List UInt8) : List Tm → Tm
 | [] => .nl k n s
 | x :: r => .mk k n s (x :: r)
mutual
def ownT : Tm → Tm
 | .nl k n s => .nl k n s
 | .mk k n s us => mkT k n s (ownL us)
def ownL : List Tm → List Tm
 | [] => []
 | t :: r => ownT t :: ownL r
end
theorem ownL_map : ∀ us : List Tm, ownL us = us.map ownT
 | [] => rfl
 | x :: r => by simp [ownL, ownL_map r]
theorem ownT_eq (t : Tm) : ownT t = mkT t.kind t.num t.name (t.args.map ownT) := by
 cases t with
 | nl k n s => rfl
 | mk k n s us => rw [ownT, ownL_map]; rfl
def downKS (N : Nat) : KSpec := ⟨28, fun | [v] => (match decTm v with | some t => if t.size < N then some (ownT t).enc else none | none => none) | _ => none⟩
theorem downKS_f (N : Nat) : (downKS N).f = 28 := (rfl)
theorem downKS_at (N : Nat) (x : Tm) (h : x.size < N) : (downKS N).S [x.enc] = some (ownT x).enc := by
 simp only [downKS, decTm_enc, if_pos h]
theorem downKS_no (N : Nat) (x : Tm) (h : N ≤ x.size) : (downKS N).S [x.enc] = none := by
 simp only [downKS, decTm_enc]
 rw [if_neg (by omega)]
theorem c28_loop (n N : Nat) (us : List Tm) (hN : N ≤ 1000000000) (h1 : Tm.sizeL us < N) (K M : Int) (s : List UInt8) : ∀ (post pre acc : List Tm) (k : Nat), us = pre ++ post → acc.length = pre.length → acc ≠ [] → post.length < k →
 ∃ md, aft 3 0 (loopH (evCode (evCall (envOf [downKS N]) (n + 1)) (n + 1) c28_b0) c28_m0 3 k (c28_f0 (.ptr 0 0) (.ptr 1 0) (.ptr 2 0) (.int .i64 pre.length)) ⟨4, [.row (flatT acc), .row [.int .i64 K, .int .i64 M, .str s, .vec 3 0 acc.length 4 acc.length], .row zT, .row [.int .i64 K, .int .i64 M, .str s, .sl (us.map Tm.enc)]], 2, 0⟩) =
   some (.exit 0, FM 31 [(2, .ptr 1 0), (3, .ptr 2 0)], ⟨4, [.row (flatT (acc ++ post.map ownT)), .row [.int .i64 K, .int .i64 M, .str s, .vec 3 0 (acc ++ post.map ownT).length 4 (acc ++ post.map ownT).length], .row zT, .row [.int .i64 K, .int .i64 M, .str s, .sl (us.map Tm.enc)]], 0, md⟩)
 | [], pre, acc, k + 1, e, ea, _, _ => by
   simp at e
   subst e
   have h5 : AV.refsL (us.map Tm.enc) = 0 := encs_refs _
   have hf := flatT_refs acc
   exact ⟨0, by simp [loopH_succ, c28_b0, h5, hf, zT]⟩
 | x :: post, pre, acc, k + 1, e, ea, hne, hk => by
   have hlu := len_sizeL us
   have g1 : us[pre.length]? = some x := by rw [e]; simp
   have h5 : AV.refsL (us.map Tm.enc) = 0 := encs_refs _
   have hf := flatT_refs acc
   have hpl : pre.length < us.length := by rw [e]; simp
   have h6 : ((pre.length : Int) < (us.length : Int)) = True := eq_true (by omega)
   have h3 : IntKind.i64.wrap ((pre.length : Int) + 1) = (pre.length : Int) + 1 := wrap_i64 (by omega) (by omega)
   have hxe := Tm.enc_eq x
   have hxc := Tm.cells_is x
   have hxr := argV_refs x
   have hx : x ∈ us := by rw [e]; simp
   have hs := downKS_at N x (by have := sizeL_mem hx; omega)
   obtain ⟨md, ih⟩ := c28_loop n N us hN h1 K M s post (pre ++ [x]) (acc ++ [ownT x]) k (by simp [e]) (by simp [ea]) (by simp) (by rw [List.length_cons] at hk; omega)
   refine ⟨md, ?_⟩
   have hye : (ownT x).enc = .agg (ownT x).cells := Tm.enc_eq _
   have hyr := argV_refs (ownT x)
   have hf2 : AV.refsL (flatT acc ++ (ownT x).cells) = 0 := by rw [← flatT_snoc]; exact flatT_refs _
   rw [hxe, hxc] at hs
   have em : (x :: post).map ownT = ownT x :: post.map ownT := rfl
   rw [em]
   generalize ownT x = y at *
   have hyc := Tm.cells_is y
   rw [hyc] at hf2
   have h8 : (acc.length + 1) * 56 ≤ 140737488355328 := by omega
   have h9 : acc.length + 1 < 9223372036854775808 := by omega
   have h10 : (flatT acc).take (acc.length * 4) = flatT acc := by rw [List.take_of_length_le]; rw [flatT_len]; exact Nat.le_refl _
   have h11 := flatT_len acc
   simp only [List.length_append, List.length_cons, List.length_nil, Nat.zero_add, flatT_snoc, hyc, List.append_assoc] at ih
   rw [show ((pre.length + 1 : Nat) : Int) = (pre.length : Int) + 1 by omega] at ih
   rw [loopH_succ]
   simp [c28_b0, c28_m0, g1, h3, h5, h6, hf, hf2, h8, h9, h10, h11, hxe, hxc, hxr, hye, hyc, hyr, hs, frz_argV, downKS_f, elemsA, zT]
   simp only [zT] at ih
   refine Eq.trans ih ?_
   simp [flatT, hyc, Nat.add_comm, Nat.add_left_comm, Nat.add_assoc]
theorem c28_loop0n (C : Nat → List AV → Heap → Option (AV × Heap)) (n k : Nat) (K M : Int) (s : List UInt8) (A : AV) (hA : A = .nils ∨ A = .sl []) :
 aft 3 0 (loopH (evCode C n c28_b0) c28_m0 3 (k + 1) (c28_f0 (.ptr 0 0) (.ptr 1 0) (.ptr 2 0) (.int .i64 0)) ⟨3, [.row [.int .i64 K, .int .i64 M, .str s, .nils], .row zT, .row [.int .i64 K, .int .i64 M, .str s, A]], 3, 0⟩) =
  some (.exit 0, FM 31 [(2, .ptr 1 0), (3, .ptr 2 0)], ⟨3, [.row [.int .i64 K, .int .i64 M, .str s, .nils], .row zT, .row [.int .i64 K, .int .i64 M, .str s, A]], 0, 0⟩) := by
 rcases hA with rfl | rfl <;> simp [loopH_succ, c28_b0, zT]
theorem c28_loop0 (n N : Nat) (x : Tm) (r : List Tm) (hN : N ≤ 1000000000) (h1 : Tm.sizeL (x :: r) < N) (K M : Int) (s : List UInt8) (k : Nat) (hk : r.length + 1 < k) :
 ∃ md, aft 3 0 (loopH (evCode (evCall (envOf [downKS N]) (n + 1)) (n + 1) c28_b0) c28_m0 3 k (c28_f0 (.ptr 0 0) (.ptr 1 0) (.ptr 2 0) (.int .i64 0)) ⟨3, [.row [.int .i64 K, .int .i64 M, .str s, .nils], .row zT, .row [.int .i64 K, .int .i64 M, .str s, .sl ((x :: r).map Tm.enc)]], 3, 0⟩) =
   some (.exit 0, FM 31 [(2, .ptr 1 0), (3, .ptr 2 0)], ⟨4, [.row (flatT ((x :: r).map ownT)), .row [.int .i64 K, .int .i64 M, .str s, .vec 3 0 (r.length + 1) 4 (r.length + 1)], .row zT, .row [.int .i64 K, .int .i64 M, .str s, .sl ((x :: r).map Tm.enc)]], 0, md⟩) := by
 obtain ⟨k, rfl⟩ : ∃ k', k = k' + 1 := ⟨k - 1, by omega⟩
 have h5 : AV.refsL (r.map Tm.enc) = 0 := encs_refs _
 have h6 : ((0 : Int) < (r.length : Int) + 1) = True := eq_true (by omega)
 have h3 : IntKind.i64.wrap (0 + 1) = 1 := rfl
 have h3' : IntKind.i64.wrap 1 = 1 := rfl
 have hxe := Tm.enc_eq x
 have hxc := Tm.cells_is x
 have hxr := argV_refs x
 have hs := downKS_at N x (by simp only [Tm.sizeL] at h1; omega)
 obtain ⟨md, ih⟩ := c28_loop n N (x :: r) hN h1 K M s r [x] [ownT x] k rfl rfl (by simp) (by omega)
 refine ⟨md, ?_⟩
 have hye : (ownT x).enc = .agg (ownT x).cells := Tm.enc_eq _
 have hyr := argV_refs (ownT x)
 rw [hxe, hxc] at hs
 have em : (x :: r).map ownT = ownT x :: r.map ownT := rfl
 rw [em]
 generalize ownT x = y at *
 have hyc := Tm.cells_is y
 simp only [List.length_append, List.length_cons, List.length_nil, Nat.zero_add, hyc, zT, flatT, List.flatMap_cons, List.flatMap_nil, List.append_nil, List.map_cons, hxe, hxc] at ih
 rw [loopH_succ]
 simp [c28_b0, c28_m0, h3, h3', h5, h6, hxe, hxc, hxr, hye, hyc, hyr, hs, frz_argV, downKS_f, elemsA, zT]
 refine Eq.trans ih ?_
 simp [flatT, hyc, Nat.add_comm, Nat.add_left_comm, Nat.add_assoc]
theorem downKS_step (N : Nat) (hN : N ≤ 1000000000) (hp : KSpecOK Tryz.prog (downKS N)) : KSpecOK Tryz.prog (downKS (N + 1)) := fun args v hv => by
 unfold downKS at hv
 dsimp only at hv
 split at hv
 ·rename_i a
  split at hv
  ·rename_i x ha
   split at hv
   ·rename_i hc
    rcases Nat.lt_or_ge x.size N with hlt | hge
    ·refine hp _ _ ?_
     rw [decTm_eq ha, downKS_at N x hlt]
     exact hv
    cases hv
    rw [downKS_f, decTm_eq ha]
    have hno := downKS_no N x hge
    have s1 := size_args x
    have hla := len_sizeL x.args
    refine prim_of (n := x.size + 5) (h' := h0) (envOf_ok (ss := [downKS N]) (by simp [hp])) ?_ (Tm.enc_refs _) (by simp [AV.refsL, AV.refs, Tm.enc_refs])
    have hxe := Tm.enc_eq x
    have hxc := Tm.cells_is x
    rw [ownT_eq]
    rw [hxe, hxc] at hno ⊢
    by_cases hne : x.args = []
    ·have a1 : x.argV = .nils ∨ x.argV = .sl [] := by
      cases x with
      | nl k n s => exact .inl rfl
      | mk k n s us => simp only [Tm.args] at hne; subst hne; exact .inr rfl
     have lp := c28_loop0n (evCall (envOf [downKS N]) (x.size + 4)) (x.size + 4) (x.size + 3) x.kind x.num x.name x.argV a1
     simp only [c28_m0, zT] at lp
     rw [hne]
     have em : (mkT x.kind x.num x.name (List.map ownT [])).enc = .agg [.int .i64 x.kind, .int .i64 x.num, .str x.name, .nils] := rfl
     rw [em]
     rcases a1 with a1 | a1 <;> rw [a1] at hno lp ⊢ <;> simp [run28, c28, c28_m0, hno, downKS_f, lp]
    ·obtain ⟨y, r, ha⟩ : ∃ y r, x.args = y :: r := by
      cases h : x.args with
      | nil => exact absurd h hne
      | cons y r => exact ⟨y, r, rfl⟩
     have a1 : x.argV = .sl (x.args.map Tm.enc) := by
      cases x with
      | nl k n s => exact absurd rfl hne
      | mk k n s us => rfl
     have h5 := encs_refs x.args
     rw [ha] at s1 hla h5
     obtain ⟨md, lp⟩ := c28_loop0 (x.size + 3) N y r hN (by omega) x.kind x.num x.name (x.size + 4) (by simp at hla; omega)
     simp only [c28_m0, zT] at lp
     have hf2 := flatT_refs ((y :: r).map ownT)
     have em : (mkT x.kind x.num x.name ((y :: r).map ownT)).enc = .agg [.int .i64 x.kind, .int .i64 x.num, .str x.name, .sl (((y :: r).map ownT).map Tm.enc)] := by simp [mkT, Tm.enc, encL_map, Tm.encL]
     have hf : ∀ (A B C : AObj) (wl md d : Nat), frz ⟨4, [.row (flatT ((y :: r).map ownT)), A, B, C], wl, md⟩ 0 (d + 2) (.vec 3 0 (r.length + 1) 4 (r.length + 1)) = some (.sl (((y :: r).map ownT).map Tm.enc), [3]) := fun A B C wl md d => by
      have := frz_T (h := ⟨4, [.row (flatT ((y :: r).map ownT)), A, B, C], wl, md⟩) (n0 := 0) (d := d) (id := 3) (ownT y) (r.map ownT) (by omega) rfl
      simpa using this
     rw [a1] at hno ⊢
     rw [ha, em]
     rw [ha] at hno
     generalize (y :: r).map ownT = Z at *
     generalize (y :: r).map Tm.enc = E at *
     simp [run28, c28, c28_m0, hno, h5, hf2, hf, lp, downKS_f, finish_keep]
   ·cases hv
  ·cases hv
 ·cases hv
theorem downKS_zero : KSpecOK Tryz.prog (downKS 0) := fun args v hv => by
 unfold downKS at hv
 dsimp only at hv
 split at hv
 ·split at hv
  ·split at hv
   ·rename_i hc
    omega
   ·cases hv
  ·cases hv
 ·cases hv
theorem downKS_all : ∀ N, N ≤ 1000000001 → KSpecOK Tryz.prog (downKS N)
 | 0, _ => downKS_zero
 | N + 1, h => downKS_step N (by omega) (downKS_all N (by omega))
mutual
theorem sameT_refl : ∀ t : Tm, sameT t t = true
 | .nl k n s => by simp [sameT, Tm.kind, Tm.num, Tm.name, Tm.args]
 | .mk k n s us => by simp [sameT, Tm.kind, Tm.num, Tm.name, Tm.args, sameL_refl us]
theorem sameL_refl : ∀ l : List Tm, sameL l l = true
 | [] => by simp [sameL]
 | t :: r => by simp [sameL, sameT_refl t, sameL_refl r]
end
theorem mkT_flds (k n : Int) (s : List UInt8) (us : List Tm) : (mkT k n s us).kind = k ∧ (mkT k n s us).num = n ∧ (mkT k n s us).name = s ∧ (mkT k n s us).args = us := by
 cases us <;> exact ⟨rfl, rfl, rfl, rfl⟩
theorem own_kind (t : Tm) : (ownT t).kind = t.kind := by rw [ownT_eq]; exact (mkT_flds _ _ _ _).1
theorem own_num (t : Tm) : (ownT t).num = t.num := by rw [ownT_eq]; exact (mkT_flds _ _ _ _).2.1
theorem own_name (t : Tm) : (ownT t).name = t.name := by rw [ownT_eq]; exact (mkT_flds _ _ _ _).2.2.1
theorem own_args (t : Tm) : (ownT t).args = t.args.map ownT := by rw [ownT_eq]; exact (mkT_flds _ _ _ _).2.2.2
theorem own_len (t : Tm) : (ownT t).args.length = t.args.length := by rw [own_args, List.length_map]
mutual
theorem own_size : ∀ t : Tm, (ownT t).size = t.size
 | .nl .. => rfl
 | .mk k n s us => by
   rw [size_args (ownT _), own_args, Tm.args, ownL_size us, Tm.size]
theorem ownL_size : ∀ l : List Tm, Tm.sizeL (l.map ownT) = Tm.sizeL l
 | [] => rfl
 | t :: r => by simp only [List.map_cons, Tm.sizeL, own_size t, ownL_size r]
end
mutual
theorem own_bulk : ∀ t : Tm, (ownT t).bulk = t.bulk
 | .nl .. => rfl
 | .mk k n s us => by
   rw [bulk_args (ownT _), own_args, own_name, Tm.args, Tm.name, ownL_bulk us, Tm.bulk]
theorem ownL_bulk : ∀ l : List Tm, Tm.bulkL (l.map ownT) = Tm.bulkL l
 | [] => rfl
 | t :: r => by simp only [List.map_cons, Tm.bulkL, own_bulk t, ownL_bulk r]
end
mutual
theorem own_depth : ∀ t : Tm, (ownT t).depth = t.depth
 | .nl .. => rfl
 | .mk k n s us => by
   rw [depth_args (ownT _), own_args, Tm.args, ownL_depth us, Tm.depth]
theorem ownL_depth : ∀ l : List Tm, Tm.depthL (l.map ownT) = Tm.depthL l
 | [] => rfl
 | t :: r => by simp only [List.map_cons, Tm.depthL, own_depth t, ownL_depth r]
end
theorem own_one (t : Tm) : oneK (ownT t) = oneK t := by
 unfold oneK
 rw [own_kind, own_num, own_name, own_len]
mutual
theorem own_all : ∀ t : Tm, (ownT t).allT oneK = t.allT oneK
 | .nl .. => rfl
 | .mk k n s us => by
   rw [allT_args (p := oneK) (ownT _), own_one, own_args, Tm.args, ownL_all us, Tm.allT]
theorem ownL_all : ∀ l : List Tm, Tm.allL oneK (l.map ownT) = Tm.allL oneK l
 | [] => rfl
 | t :: r => by simp only [List.map_cons, Tm.allL, own_all t, ownL_all r]
end
theorem own_good (t : Tm) : goodT (ownT t) = goodT t := by
 unfold goodT
 rw [own_size, own_depth, own_all]
theorem own_dot (t : Tm) : isDot (ownT t) = isDot t := by
 unfold isDot
 rw [own_kind, own_name, own_len]
theorem own_items : ∀ (k : Nat) (t : Tm), t.size ≤ k → itemsT (ownT t) = ((itemsT t).1.map ownT, ownT (itemsT t).2)
 | 0, t, h => by have := size_args t; omega
 | k + 1, t, h => by
   cases hd : isDot t with
   | false =>
     rw [items_end hd, items_end (by rw [own_dot]; exact hd)]
     rfl
   | true =>
     obtain ⟨x, r, ha, e⟩ := items_isDot hd
     obtain ⟨x', r', ha', e'⟩ := items_isDot (t := ownT t) (by rw [own_dot]; exact hd)
     have hs := size_args t
     rw [ha] at hs
     simp only [Tm.sizeL] at hs
     rw [own_args, ha] at ha'
     simp only [List.map_cons, List.map_nil, List.cons.injEq, and_true] at ha'
     obtain ⟨rfl, rfl⟩ := ha'
     rw [e, e', own_items k r (by omega)]
     rfl
theorem own_tail (t : Tm) : tailE (ownT t) = tailE t := by
 unfold tailE
 rw [own_kind, own_name, own_len]theorem own_list : ∀ us : List Tm, ownT (listT us nilT) = listT (us.map ownT) nilT
 | [] => rfl
 | x :: r => by
   rw [ownT_eq]
   simp only [listT, Tm.kind, Tm.num, Tm.name, Tm.args, List.map_cons, List.map_nil, own_list r]
   rfl
def anyD (p : Tm → Bool) : List Tm → Bool
 | [] => false
 | x :: r => if p x then true else anyD p r
def deepT : Nat → Tm → Bool
 | 0, _ => true
 | n + 1, t => if 12 < t.args.length then true else anyD (deepT n) t.args
def deepKS (m : Nat) : KSpec := ⟨27, fun | [v, .int .i64 n] => (match decTm v with | some t => if n = m then some (.bool (deepT m t)) else none | none => none) | _ => none⟩
theorem deepKS_f (m : Nat) : (deepKS m).f = 27 := (rfl)
theorem deepKS_at (m : Nat) (t : Tm) : (deepKS m).S [t.enc, .int .i64 (m : Nat)] = some (.bool (deepT m t)) := by
 simp only [deepKS, decTm_enc, if_true]
theorem deepKS_no (m k : Nat) (v : AV) (h : k ≠ m) : (deepKS m).S [v, .int .i64 (k : Nat)] = none := by
 simp only [deepKS]
 split
 ·rw [if_neg (by omega)]
 ·rfl
theorem c27_loop (n m : Nat) (hm : m ≤ 100) (hm1 : 1 ≤ m) (K N : Int) (s : List UInt8) (us : List Tm) (hs : us.length ≤ 12) : ∀ (post pre : List Tm) (k : Nat), us = pre ++ post → post.length < k →
 ∃ md, aft 1 0 (loopH (evCode (evCall (envOf [deepKS (m - 1)]) (n + 1)) (n + 1) c27_b0) c27_m0 1 k (c27_f0 (.int .i64 m) (.ptr 0 0) (.int .i64 pre.length)) ⟨1, [.row [.int .i64 K, .int .i64 N, .str s, .sl (us.map Tm.enc)]], 1, 0⟩) =
   some (if anyD (deepT (m - 1)) post then .ret else .exit 0, if anyD (deepT (m - 1)) post then FM 29 [(4, .bool true)] else FM 29 [], ⟨1, [.row [.int .i64 K, .int .i64 N, .str s, .sl (us.map Tm.enc)]], 0, md⟩)
 | [], pre, k + 1, e, _ => by
   simp at e
   subst e
   have h5 : AV.refsL (us.map Tm.enc) = 0 := encs_refs _
   exact ⟨0, by simp [loopH_succ, c27_b0, h5, anyD]⟩
 | x :: post, pre, k + 1, e, hk => by
   have h1 : us[pre.length]? = some x := by rw [e]; simp
   have h5 : AV.refsL (us.map Tm.enc) = 0 := encs_refs _
   have hpl : pre.length < us.length := by rw [e]; simp
   have h6 : ((pre.length : Int) < (us.length : Int)) = True := eq_true (by omega)
   have h3 : IntKind.i64.wrap ((pre.length : Int) + 1) = (pre.length : Int) + 1 := wrap_i64 (by omega) (by omega)
   have hxe := Tm.enc_eq x
   have hcl := Tm.cells_is x
   have hxr := argV_refs x
   have w1 : IntKind.i64.wrap ((m : Int) - 1) = ((m - 1 : Nat) : Int) := by rw [wrap_i64 (by omega) (by omega)]; omega
   have hc := deepKS_at (m - 1) x
   rw [hxe, hcl] at hc
   obtain ⟨md, ih⟩ := c27_loop n m hm hm1 K N s us hs post (pre ++ [x]) k (by simp [e]) (by rw [List.length_cons] at hk; omega)
   simp only [List.length_append, List.length_cons, List.length_nil, Nat.zero_add] at ih
   rw [show ((pre.length + 1 : Nat) : Int) = (pre.length : Int) + 1 by omega] at ih
   rw [loopH_succ]
   cases hd : deepT (m - 1) x with
   | true =>
     rw [hd] at hc
     refine ⟨0, ?_⟩
     simp [c27_b0, c27_m0, h1, h3, h5, h6, hxe, hcl, hxr, w1, hc, frz_argV, deepKS_f, anyD, hd]
   | false =>
     rw [hd] at hc
     refine ⟨md, ?_⟩
     simp [c27_b0, c27_m0, h1, h3, h5, h6, hxe, hcl, hxr, w1, hc, frz_argV, deepKS_f, anyD, hd]
     exact ih
theorem deepKS_step (m : Nat) (hm1 : 1 ≤ m) (hm : m ≤ 100) (hp : KSpecOK Tryz.prog (deepKS (m - 1))) : KSpecOK Tryz.prog (deepKS m) := fun args v hv => by
 have hv0 := hv
 unfold deepKS at hv
 dsimp only at hv
 split at hv
 ·rename_i x n
  split at hv
  ·rename_i t ht
   split at hv
   ·rename_i hc
    subst hc
    cases hv
    rw [decTm_eq ht]
    have hno := deepKS_no (m - 1) m t.enc (by omega)
    refine prim_of (n := 20) (h' := h0) (envOf_ok (ss := [deepKS (m - 1)]) (by simp [hp])) ?_ rfl (by simp [AV.refsL, AV.refs, Tm.enc_refs])
    rw [deepKS_f]
    have hxe := Tm.enc_eq t
    obtain ⟨q, rfl⟩ : ∃ q, m = q + 1 := ⟨m - 1, by omega⟩
    have t1 : ((((q + 1 : Nat) : Int)) < 1) = False := eq_false (by omega)
    have t1' : ((q : Int) + 1 < 1) = False := eq_false (by omega)
    rw [Nat.add_sub_cancel] at hno
    cases t with
    | nl kk nn ss =>
      have hcl : (Tm.nl kk nn ss).cells = [.int .i64 kk, .int .i64 nn, .str ss, .nils] := rfl
      rw [hxe, hcl] at hno ⊢
      have hd : deepT (q + 1) (Tm.nl kk nn ss) = false := rfl
      rw [hd]
      simp only [Int.natCast_add, Int.natCast_one] at hno
      simp [run27, c27, c27_m0, c27_b0, loopH_succ, hno, deepKS_f, t1']
    | mk kk nn ss us =>
      have hcl : (Tm.mk kk nn ss us).cells = [.int .i64 kk, .int .i64 nn, .str ss, .sl (us.map Tm.enc)] := rfl
      have h5 : AV.refsL (us.map Tm.enc) = 0 := encs_refs _
      rw [hxe, hcl] at hno ⊢
      have hd : deepT (q + 1) (Tm.mk kk nn ss us) = if 12 < us.length then true else anyD (deepT q) us := rfl
      rw [hd]
      by_cases hl : 12 < us.length
      ·have t2 : ((12 : Int) < (us.length : Int)) = True := eq_true (by omega)
       simp only [Int.natCast_add, Int.natCast_one] at hno
       simp [run27, c27, hno, deepKS_f, t1', t2, h5, hl]
      ·have t2 : ((12 : Int) < (us.length : Int)) = False := eq_false (by omega)
       obtain ⟨md, lp⟩ := c27_loop 18 (q + 1) hm hm1 kk nn ss us (by omega) us [] 19 rfl (by omega)
       simp only [List.length_nil, Int.natCast_zero, Nat.add_sub_cancel, Int.natCast_add, Int.natCast_one, c27_m0] at lp
       simp only [Int.natCast_add, Int.natCast_one] at hno
       rw [if_neg hl]
       cases ha : anyD (deepT q) us with
       | true =>
         rw [ha] at lp
         simp only [if_true] at lp
         simp [run27, c27, c27_m0, hno, deepKS_f, t1', t2, h5, hl, lp]
       | false =>
         rw [ha] at lp
         simp only [Bool.false_eq_true, if_false] at lp
         simp [run27, c27, c27_m0, hno, deepKS_f, t1', t2, h5, hl, lp]
   ·cases hv
  ·cases hv
 ·cases hv
theorem deepKS_zero : KSpecOK Tryz.prog (deepKS 0) := fun args v hv => by
 unfold deepKS at hv
 dsimp only at hv
 split at hv
 ·rename_i x n
  split at hv
  ·rename_i t ht
   split at hv
   ·rename_i hc
    subst hc
    cases hv
    rw [decTm_eq ht]
    refine prim_of (n := 5) (h' := h0) (envOf_ok (ss := []) (by simp)) ?_ rfl (by simp [AV.refsL, AV.refs, Tm.enc_refs])
    rw [deepKS_f]
    have hxe := Tm.enc_eq t
    have hcl := Tm.cells_is t
    have hxr := argV_refs t
    have hd : deepT 0 t = true := rfl
    rw [hxe, hcl, hd]
    simp [run27, c27, hxr]
   ·cases hv
  ·cases hv
 ·cases hv
theorem deepKS_all : ∀ m, m ≤ 100 → KSpecOK Tryz.prog (deepKS m)
 | 0, _ => deepKS_zero
 | m + 1, h => deepKS_step (m + 1) (by omega) h (deepKS_all m (by omega))
end Go.Proofs.YtleeinkdkllcdaaGreatDoor
