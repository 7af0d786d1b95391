import Derived.Test.YtleeinkdkllcdaaGreatDoorLs
import Derived.Test.YtleeinkdkllcdaaGreatDoorAt
import Derived.Test.YtleeinkdkllcdaaGreatDoorShelf
import Derived.Test.YtleeinkdkllcdaaGreatDoorFast
import Derived.Lib.ItoaNum
import Derived.LaidSub
import Derived.MakeChecks
import Derived.Shelf.Strings.SlTrimAscii
set_option linter.unusedVariables false
set_option linter.unusedSimpArgs false
set_option linter.unusedSectionVars false
set_option maxHeartbeats 16000000
set_option maxRecDepth 100000

namespace Go.Proofs.YtleeinkdkllcdaaGreatDoor
open Go Sz
theorem size_list : ∀ (us : List Tm) (t : Tm), (listT us t).size = us.length + Tm.sizeL us + t.size
 | [], t => by simp [listT, Tm.sizeL]
 | x :: r, t => by
   have := size_list r t
   simp [listT, Tm.size, Tm.sizeL, this]
   omega
theorem bulk_list : ∀ (us : List Tm) (t : Tm), (listT us t).bulk = 2 * us.length + Tm.bulkL us + t.bulk
 | [], t => by simp [listT, Tm.bulkL]
 | x :: r, t => by
   have := bulk_list r t
   simp [listT, Tm.bulk, Tm.bulkL, this]
   omega
theorem depth_list : ∀ (us : List Tm) (t : Tm), (∀ u ∈ us, u.depth = 1) → 1 ≤ t.depth → (listT us t).depth = us.length + t.depth
 | [], t, _, _ => by simp [listT]
 | x :: r, t, h, ht => by
   have := depth_list r t (fun u hu => h u (by simp [hu])) ht
   have hx := h x (by simp)
   simp [listT, Tm.depth, Tm.depthL, this, hx]
   omega
theorem dot_good : goodNm [46] = true := by decide
theorem allT_list : ∀ (us : List Tm) (t : Tm), (listT us t).allT oneK = (Tm.allL oneK us && t.allT oneK)
 | [], t => by simp [listT, Tm.allL]
 | x :: r, t => by
   have := allT_list r t
   have e : oneK (.mk 2 0 [46] [x, listT r t]) = true := by simp [oneK, Tm.kind, Tm.num, Tm.name, Tm.args, dot_good]
   simp [listT, Tm.allT, Tm.allL, this, e, Bool.and_assoc]
def itemsF : Nat → Tm → List Tm × Tm
 | 0, t => ([], t)
 | n + 1, t => match t.args with
   | [x, r] => if t.kind = 2 ∧ t.name = [46] then (x :: (itemsF n r).1, (itemsF n r).2) else ([], t)
   | _ => ([], t)
def itemsT (t : Tm) : List Tm × Tm := itemsF t.size t
theorem itemsF_more : ∀ (n : Nat) (t : Tm), t.size ≤ n → itemsF n t = itemsT t := by
 have key : ∀ (n m : Nat) (t : Tm), t.size ≤ n → t.size ≤ m → itemsF n t = itemsF m t := by
  intro n
  induction n with
  | zero => intro m t h; have := size_args t; omega
  | succ n ih =>
    intro m t h1 h2
    cases m with
    | zero => have := size_args t; omega
    | succ m =>
      have hs := size_args t
      unfold itemsF
      split
      ·rename_i x r he
       rw [he] at hs
       simp [Tm.sizeL] at hs
       rw [ih m r (by omega) (by omega)]
      ·rfl
 exact fun n t h => key n t.size t h (Nat.le_refl _)
def isDot (t : Tm) : Bool := decide (t.kind = 2) && decide (t.name = [46]) && decide (t.args.length = 2)
theorem items_end {t : Tm} (h : isDot t = false) : itemsT t = ([], t) := by
 unfold itemsT
 cases hs : t.size with
 | zero => rfl
 | succ n =>
   unfold itemsF
   split
   ·rename_i x r he
    rw [if_neg]
    intro hk
    simp [isDot, he, hk] at h
   ·rfl
theorem items_isDot {t : Tm} (h : isDot t = true) : ∃ x r, t.args = [x, r] ∧ itemsT t = (x :: (itemsT r).1, (itemsT r).2) := by
 simp only [isDot, Bool.and_eq_true, decide_eq_true_eq] at h
 obtain ⟨⟨h1, h2⟩, h3⟩ := h
 match ha : t.args, h3 with
 | [x, r], _ =>
   refine ⟨x, r, rfl, ?_⟩
   have e : itemsT t = itemsF (t.size - 1 + 1) t := by
    have := size_args t
    unfold itemsT
    congr 1
    omega
   rw [e]
   unfold itemsF
   rw [ha]
   simp only [h1, h2, and_self, if_true]
   have hs := size_args t
   rw [ha] at hs
   simp [Tm.sizeL] at hs
   rw [itemsF_more _ r (by omega)]
theorem items_len : ∀ (n : Nat) (t : Tm), t.size ≤ n → (itemsT t).1.length < t.size
 | 0, t, h => by have := size_args t; omega
 | n + 1, t, h => by
   have hs := size_args t
   cases hd : isDot t with
   | false => rw [items_end hd]; simp; omega
   | true =>
     obtain ⟨x, r, ha, e⟩ := items_isDot hd
     rw [e]
     rw [ha] at hs
     simp [Tm.sizeL] at hs
     have := items_len n r (by omega)
     simp
     omega
def slT : List Tm → AV
 | [] => .nils
 | x :: r => .sl ((x :: r).map Tm.enc)
theorem flatT_snoc (us : List Tm) (x : Tm) : flatT (us ++ [x]) = flatT us ++ x.cells := by simp [flatT]
theorem c18_loop (C : Nat → List AV → Heap → Option (AV × Heap)) (n : Nat) : ∀ (k : Nat) (t : Tm) (acc : List Tm) (m : Nat), t.size ≤ k → acc ≠ [] → acc.length + t.size ≤ 1000000000 → k < m →
 ∃ md, aft 2 0 (loopH (evCode C n c18_b0) c18_m0 2 m (c18_f0 (.ptr 0 0) (.vec 2 0 acc.length 4 acc.length) (.ptr 1 0)) ⟨3, [.row (flatT acc), .row zT, .row t.cells], 2, 0⟩) =
   some (.exit 0, FM 35 [(1, .ptr 0 0), (2, .vec 2 0 (acc ++ (itemsT t).1).length 4 (acc ++ (itemsT t).1).length), (3, .ptr 1 0)], ⟨3, [.row (flatT (acc ++ (itemsT t).1)), .row zT, .row (itemsT t).2.cells], 0, md⟩)
 | 0, t, acc, m, h, _, _, _ => by have := size_args t; omega
 | k + 1, t, acc, m + 1, h, hne, hs, hm => by
   have hf := flatT_refs acc
   rw [loopH_succ]
   cases hd : isDot t with
   | false =>
     rw [items_end hd]
     cases t with
     | nl kk nn ss =>
       have hc : (Tm.nl kk nn ss).cells = [.int .i64 kk, .int .i64 nn, .str ss, .nils] := rfl
       by_cases h1 : kk = 2
       ·subst h1
        cases h2 : (ss == [46]) with
        | false => exact ⟨0, by simp [c18_b0, c18_m0, hc, h2, hf]⟩
        | true => exact ⟨0, by simp [c18_b0, c18_m0, hc, h2, hf]⟩
       ·exact ⟨0, by simp [c18_b0, c18_m0, hc, h1, hf]⟩
     | mk kk nn ss us =>
       have hc : (Tm.mk kk nn ss us).cells = [.int .i64 kk, .int .i64 nn, .str ss, .sl (us.map Tm.enc)] := rfl
       have hr := encs_refs us
       by_cases h1 : kk = 2
       ·subst h1
        cases h2 : (ss == [46]) with
        | false => exact ⟨0, by simp [c18_b0, c18_m0, hc, h2, hf, hr]⟩
        | true =>
          have h3 : ((us.length : Int) = 2) = False := eq_false fun e => by
           have h2' := eq_of_beq h2
           simp [isDot, Tm.kind, Tm.name, Tm.args, h2'] at hd
           exact of_decide_eq_false hd (by omega)
          exact ⟨0, by simp [c18_b0, c18_m0, hc, h2, h3, hf, hr]⟩
       ·exact ⟨0, by simp [c18_b0, c18_m0, hc, h1, hf, hr]⟩
   | true =>
     obtain ⟨x, r, ha, e⟩ := items_isDot hd
     have hsz := size_args t
     rw [ha] at hsz
     simp only [Tm.sizeL] at hsz
     cases t with
     | nl kk nn ss => cases ha
     | mk kk nn ss us =>
       simp only [Tm.args] at ha
       subst ha
       simp only [isDot, Bool.and_eq_true] at hd
       obtain ⟨⟨hd1, hd2⟩, _⟩ := hd
       obtain rfl : kk = 2 := of_decide_eq_true hd1
       obtain rfl : ss = [46] := of_decide_eq_true hd2
       obtain ⟨md, ih⟩ := c18_loop C n k r (acc ++ [x]) m (by omega) (by simp) (by simp; omega) (by omega)
       refine ⟨md, ?_⟩
       rw [e]
       have hc : (Tm.mk 2 nn [46] [x, r]).cells = [.int .i64 2, .int .i64 nn, .str [46], .sl [x.enc, r.enc]] := rfl
       have hxe := Tm.enc_eq x
       have hxc := Tm.cells_is x
       have hxr := argV_refs x
       have hre := Tm.enc_eq r
       have hrc := Tm.cells_is r
       have hrr := argV_refs r
       have hf2 : AV.refsL (flatT acc ++ x.cells) = 0 := by rw [← flatT_snoc]; exact flatT_refs _
       rw [hxc] at hf2
       have h8 : (acc.length + 1) * 56 ≤ 140737488355328 := by omega
       have h9 : acc.length + 1 < 9223372036854775808 := by omega
       have h10 : (flatT acc).take (acc.length * 4) = flatT acc := by rw [List.take_of_length_le]; rw [flatT_len]; exact Nat.le_refl _
       have h11 := flatT_len acc
       simp only [flatT_snoc, List.length_append, List.length_cons, List.length_nil, Nat.zero_add, hrc, hxc] at ih
       simp [c18_b0, c18_m0, hc, hxe, hxc, hxr, hre, hrc, hrr, hf, hf2, h8, h9, h10, h11, elemsA]
       refine Eq.trans ih ?_
       simp [flatT, hxc, Nat.add_comm, Nat.add_left_comm, Nat.add_assoc]
def vT (id : Nat) : List Tm → AV
 | [] => .nils
 | x :: r => .vec id 0 (r.length + 1) 4 (r.length + 1)
def hT (us : List Tm) (B : List AObj) : List AObj := match us with
 | [] => B
 | x :: r => .row (flatT (x :: r)) :: B
theorem frz_T {h : Heap} {n0 d id : Nat} (x : Tm) (r : List Tm) (hid : n0 ≤ id) (hg : h.get id = some (.row (flatT (x :: r)))) :
 frz h n0 (d + 2) (.vec id 0 (r.length + 1) 4 (r.length + 1)) = some (.sl ((x :: r).map Tm.enc), [id]) :=
 frz_vec hid hg (by omega) (encs_elem (x :: r)) (by simp) (by rw [flatT_len]; simp) (by rw [flatT_eq, List.take_of_length_le]; rw [flatT_len]; simp)
theorem c18_loop0 (C : Nat → List AV → Heap → Option (AV × Heap)) (n : Nat) (t : Tm) (m : Nat) (hs : t.size ≤ 999999999) (hm : t.size < m) :
 ∃ md, aft 2 0 (loopH (evCode C n c18_b0) c18_m0 2 m (c18_f0 (.ptr 0 0) .nils (.ptr 1 0)) ⟨2, [.row zT, .row t.cells], 2, 0⟩) =
   some (.exit 0, FM 35 [(1, .ptr 0 0), (2, vT 2 (itemsT t).1), (3, .ptr 1 0)], ⟨(hT (itemsT t).1 [.row zT, .row (itemsT t).2.cells]).length, hT (itemsT t).1 [.row zT, .row (itemsT t).2.cells], 0, md⟩) := by
 cases m with
 | zero => omega
 | succ m =>
   rw [loopH_succ]
   cases hd : isDot t with
   | false =>
     rw [items_end hd]
     cases t with
     | nl kk nn ss =>
       have hc : (Tm.nl kk nn ss).cells = [.int .i64 kk, .int .i64 nn, .str ss, .nils] := rfl
       by_cases h1 : kk = 2
       ·subst h1
        cases h2 : (ss == [46]) with
        | false => exact ⟨0, by simp [c18_b0, c18_m0, hc, h2, vT, hT]⟩
        | true => exact ⟨0, by simp [c18_b0, c18_m0, hc, h2, vT, hT]⟩
       ·exact ⟨0, by simp [c18_b0, c18_m0, hc, h1, vT, hT]⟩
     | mk kk nn ss us =>
       have hc : (Tm.mk kk nn ss us).cells = [.int .i64 kk, .int .i64 nn, .str ss, .sl (us.map Tm.enc)] := rfl
       have hr := encs_refs us
       by_cases h1 : kk = 2
       ·subst h1
        cases h2 : (ss == [46]) with
        | false => exact ⟨0, by simp [c18_b0, c18_m0, hc, h2, hr, vT, hT]⟩
        | true =>
          have h3 : ((us.length : Int) = 2) = False := eq_false fun e => by
           have h2' := eq_of_beq h2
           simp [isDot, Tm.kind, Tm.name, Tm.args, h2'] at hd
           exact of_decide_eq_false hd (by omega)
          exact ⟨0, by simp [c18_b0, c18_m0, hc, h2, h3, hr, vT, hT]⟩
       ·exact ⟨0, by simp [c18_b0, c18_m0, hc, h1, hr, vT, hT]⟩
   | true =>
     obtain ⟨x, r, ha, e⟩ := items_isDot hd
     have hsz := size_args t
     rw [ha] at hsz
     simp only [Tm.sizeL] at hsz
     cases t with
     | nl kk nn ss => cases ha
     | mk kk nn ss us =>
       simp only [Tm.args] at ha
       subst ha
       simp only [isDot, Bool.and_eq_true] at hd
       obtain ⟨⟨hd1, hd2⟩, _⟩ := hd
       obtain rfl : kk = 2 := of_decide_eq_true hd1
       obtain rfl : ss = [46] := of_decide_eq_true hd2
       obtain ⟨md, ih⟩ := c18_loop C n r.size r [x] m (Nat.le_refl _) (by simp) (by simp; omega) (by omega)
       refine ⟨md, ?_⟩
       rw [e]
       have hc : (Tm.mk 2 nn [46] [x, r]).cells = [.int .i64 2, .int .i64 nn, .str [46], .sl [x.enc, r.enc]] := rfl
       have hxe := Tm.enc_eq x
       have hxc := Tm.cells_is x
       have hxr := argV_refs x
       have hre := Tm.enc_eq r
       have hrc := Tm.cells_is r
       have hrr := argV_refs r
       simp only [flatT, List.flatMap_cons, List.flatMap_nil, List.append_nil, List.length_append, List.length_cons, List.length_nil, Nat.zero_add, hrc, hxc] at ih
       simp [c18_b0, c18_m0, hc, hxe, hxc, hxr, hre, hrc, hrr, elemsA]
       refine Eq.trans ih ?_
       simp [vT, hT, flatT, hxc, Nat.add_comm, Nat.add_left_comm, Nat.add_assoc]
def itemsG (t : Tm) : List Tm × Tm := if goodT t then itemsT t else ([], t)
def itemsS : KSpec := ⟨18, fun | [v] => (match decTm v with | some t => if t.bulk < 1000000000 then some (.tuple [slT (itemsG t).1, (itemsG t).2.enc]) else none | none => none) | _ => none⟩
theorem itemsS_f : itemsS.f = 18 := (rfl)
theorem itemsS_at (t : Tm) (h : t.bulk < 1000000000) : itemsS.S [t.enc] = some (.tuple [slT (itemsG t).1, (itemsG t).2.enc]) := by
 simp only [itemsS, decTm_enc, if_pos h]
theorem slT_refs (us : List Tm) : (slT us).refs = 0 := by cases us <;> simp [slT, AV.refs]
theorem itemsS_ok : KSpecOK Tryz.prog itemsS := fun args v hv => by
 unfold itemsS at hv ⊢
 dsimp only at hv ⊢
 split at hv
 ·rename_i x
  split at hv
  ·rename_i t ht
   split at hv
   ·rename_i hl
    cases hv
    rw [decTm_eq ht]
    refine prim_of (n := t.size + 5) (h' := h0) (envOf_ok (ss := [goodTS]) (by simp [goodTS_ok])) ?_ (by simp [AV.refs, AV.refsL, slT_refs, Tm.enc_refs]) (by simp [AV.refsL, Tm.enc_refs])
    have hsb := size_bulk t
    have c1 := goodTS_at t (by omega)
    have hxe := Tm.enc_eq t
    have hcl := Tm.cells_is t
    have hxr := argV_refs t
    obtain ⟨md, eq⟩ := c18_loop0 (evCall (envOf [goodTS]) (t.size + 4)) (t.size + 4) t (t.size + 4) (by omega) (by omega)
    unfold itemsG
    cases hg : goodT t with
    | false =>
      rw [hg] at c1
      rw [hxe, hcl] at c1 ⊢
      simp [run18, c18, c1, hxr, frz_argV, goodTS_f, slT]
      rw [hxe, hcl]
    | true =>
      rw [hg] at c1
      generalize itemsT t = p at eq
      obtain ⟨us, tl⟩ := p
      dsimp only at eq ⊢
      simp only [if_true]
      rw [hxe, hcl] at c1 ⊢
      rw [hcl] at eq
      simp only [c18_m0, zT] at eq
      have htl := Tm.enc_eq tl
      have htc := Tm.cells_is tl
      have htr := argV_refs tl
      rw [htl, htc]
      rw [htc] at eq
      cases us with
      | nil =>
        simp only [vT, hT, zT, List.length_cons, List.length_nil] at eq
        simp [run18, c18, c18_m0, c1, hxr, htr, frz_argV, goodTS_f, slT, eq]
      | cons y r =>
        simp only [vT, hT, zT, List.length_cons, List.length_nil] at eq
        have hf2 := flatT_refs (y :: r)
        have hf : ∀ (A B : AObj) (wl md d : Nat), frz ⟨3, [.row (flatT (y :: r)), A, B], wl, md⟩ 0 (d + 2) (.vec 2 0 (r.length + 1) 4 (r.length + 1)) = some (.sl ((y :: r).map Tm.enc), [2]) := fun A B wl md d => frz_T y r (by omega) rfl
        simp only [List.map_cons] at hf
        simp [run18, c18, c18_m0, c1, hxr, htr, hf2, frz_argV, goodTS_f, slT, eq, hf]
   ·cases hv
  ·cases hv
 ·cases hv
end Go.Proofs.YtleeinkdkllcdaaGreatDoor

namespace Go.Proofs.YtleeinkdkllcdaaGreatDoor
open Go Sz Go.RowKit
theorem below_eq {w w' : World} (h : w' = w) : Below w.heap.size w w' := h ▸ Below.refl _ _
def trimPrefixS : KSpec := ⟨66, fun | [.str s, .str p] => some (.str (Lib.trimPrefix s p)) | _ => none⟩
theorem trimPrefixS_f : trimPrefixS.f = 66 := (rfl)
theorem trimPrefixS_at (s p : List UInt8) : trimPrefixS.S [.str s, .str p] = some (.str (Lib.trimPrefix s p)) := rfl
theorem trimPrefixS_ok : KSpecOK Tryz.prog trimPrefixS := fun args v hv => by
 unfold trimPrefixS at hv ⊢
 dsimp only at hv ⊢
 split at hv
 ·rename_i s p
  cases hv
  exact prim_str2 (enters 66 Tryz.func66 rfl rfl) fun w _ => (Tryz.strings_TrimPrefix ⟨s.toArray⟩ ⟨p.toArray⟩ w).mono fun e w' ⟨h1, h2⟩ => ⟨by simpa using h1, below_eq h2⟩
 ·cases hv
def hasPrefixS : KSpec := ⟨148, fun | [.str s, .str p] => some (.bool (Lib.hasPrefix s p)) | _ => none⟩
theorem hasPrefixS_ok : KSpecOK Tryz.prog hasPrefixS := fun args v hv => by
 unfold hasPrefixS at hv ⊢
 dsimp only at hv ⊢
 split at hv
 ·rename_i s p
  cases hv
  exact prim_strB (enters 148 Tryz.func148 rfl rfl) fun w _ => (Tryz.strings_HasPrefix ⟨s.toArray⟩ ⟨p.toArray⟩ w).mono fun e w' ⟨h1, h2⟩ => ⟨by simpa using h1, below_eq h2⟩
 ·cases hv
def idxB (c : Nat) : List UInt8 → Int
 | [] => -1
 | b :: r => if Nat.beq b.toNat c then 0 else match idxB c r with | .ofNat n => .ofNat (n + 1) | .negSucc _ => -1
theorem idxB_eq (c : UInt8) : ∀ l, Lib.indexByte l c = idxB c.toNat l
 | [] => rfl
 | b :: r => by
   unfold Lib.indexByte idxB
   rw [idxB_eq c r]
   have e : Nat.beq b.toNat c.toNat = (b == c) := by
    by_cases h : b = c
    ·subst h; simp [Nat.beq_refl]
    ·have h2 : (b == c) = false := by simpa using h
     rw [h2]
     cases h3 : Nat.beq b.toNat c.toNat with
     | false => rfl
     | true => exact absurd (UInt8.toNat_inj.1 (Nat.eq_of_beq_eq_true h3)) h
   rw [e]
   cases hb : b == c with
   | true => rfl
   | false =>
     simp only [Bool.false_eq_true, if_false]
     cases h : idxB c.toNat r with
     | ofNat n =>
       have : ((Int.ofNat n) == -1) = false := by simp
       rw [this]
       rfl
     | negSucc n =>
       have hn : n = 0 := by
        have : ∀ l k, idxB c.toNat l = .negSucc k → k = 0 := fun l => by
         induction l with
         | nil => intro k hk; cases hk; rfl
         | cons b r ih =>
           intro k hk
           unfold idxB at hk
           split at hk
           ·cases hk
           ·split at hk
            ·cases hk
            ·cases hk; rfl
        exact this r n h
       subst hn
       rfl
def indexByteS : KSpec := ⟨137, fun | [.str s, .int .u8 c] => if 0 ≤ c ∧ c < 256 then some (.int .i64 (idxB c.toNat s)) else none | _ => none⟩
theorem indexByteS_ok : KSpecOK Tryz.prog indexByteS := fun args v hv => by
 unfold indexByteS at hv ⊢
 dsimp only at hv ⊢
 split at hv
 ·rename_i s c
  split at hv
  ·rename_i hc
   cases hv
   refine prim_below (enters 137 Tryz.func137 rfl rfl) fun φ h w cargs hr hG ha => ?_
   obtain ⟨cx, cy, rfl, h1, h2⟩ := args_two ha
   rw [str_inv h1, int_eq h2]
   refine (Tryz.strings_IndexByte ⟨s.toArray⟩ c w).mono fun e w' ⟨he, hw⟩ => ?_
   refine ⟨below_eq hw, _, he, ?_⟩
   have e1 : c.toNat.toUInt8.toNat = c.toNat := by
    show (UInt8.ofNat c.toNat).toNat = _
    rw [UInt8.toNat_ofNat']
    omega
   rw [idxB_eq, e1]
   exact .int _ _
  ·cases hv
 ·cases hv
def digF : Nat → Nat → List UInt8
 | 0, _ => []
 | f + 1, u => if u < 10 then [UInt8.ofNat (48 + u)] else digF f (u / 10) ++ [UInt8.ofNat (48 + u % 10)]
theorem digF_eq' : ∀ (f u : Nat), u < 10 ^ (f + 1) → digF (f + 1) u = Lib.decDigits u
 | 0, u, h => by
   have : u < 10 := by simpa using h
   rw [Lib.decDigits, dif_pos this]
   simp [digF, this]
 | f + 1, u, h => by
   rw [Lib.decDigits]
   unfold digF
   by_cases h1 : u < 10
   ·rw [if_pos h1, dif_pos h1]
   ·rw [if_neg h1, dif_neg h1, digF_eq' f (u / 10) (by rw [Nat.pow_succ] at h; omega)]
def itoaK (n : Int) : List UInt8 := if n < 0 then 45 :: digF 20 n.natAbs else digF 20 n.toNat
theorem itoaK_eq (n : Int) (h1 : -9223372036854775808 ≤ n) (h2 : n < 9223372036854775808) : itoaK n = Lib.itoa n := by
 unfold itoaK Lib.itoa
 rw [digF_eq' 19 _ (by omega), digF_eq' 19 _ (by omega)]
def TabX (w : World) : Prop := Lib.TabIs Tryz.prog w "internal/strconv.uint64pow10" .u64 Lib.pow10Tab ∧ ∃ te pe, w.cell? ⟨1, 0, none⟩ = some (.iface te pe)
theorem iface_of_head {P : Program} {W : World} {name nm : String} {d : DataW Unit} {rest : List (String × DataW Unit)} {g t : Nat} {ms : Array (String × TypeId)}
 (hg : P.globalNamed name = some g) (hty : (P.globals[g]?).map (·.type) = some t) (ht : P.underlying t = some (.interface ms))
 (h : laidMet P ((name, .iface nm d) :: rest) W) : ∃ te pe, W.cell? ⟨g, 0, none⟩ = some (.iface te pe) := by
 obtain ⟨ps, ⟨g', t', cs, fuel, p, q, hg', ht', hvar, hd, _, _⟩, _⟩ := h
 obtain rfl := Option.some.inj (hg.symm.trans hg')
 obtain rfl := Option.some.inj (hty.symm.trans ht')
 cases fuel with
 | zero => simp [DataW.trod] at hd
 | succ fuel =>
   have hc := World.var?_cell hg hvar 0
   match hcs : cs.toList with
   | [] => rw [hcs] at hd; simp [DataW.trod, ht] at hd
   | [v] =>
     have h0 : cs[0]? = some v := by rw [← Array.getElem?_toList, hcs]; rfl
     rw [h0] at hc
     rw [hcs] at hd
     cases v with
     | iface u v => exact ⟨u, v, hc⟩
     | _ => simp [DataW.trod, ht] at hd
   | v :: v' :: r => rw [hcs] at hd; simp [DataW.trod, ht] at hd
theorem glob_err {φ : Phi} {h : Heap} {w : World} (hG : Glob Tryz.prog TabX φ h w) : ∃ te pe, w.cell? ⟨1, 0, none⟩ = some (.iface te pe) := by
 obtain ⟨w1, h1, h2⟩ := hG
 obtain ⟨te, pe, hc⟩ := h1.2.2
 refine ⟨te, pe, ?_⟩
 have hlt : 1 < w1.heap.size := by
  unfold World.cell? at hc
  split at hc
  ·rename_i hb; exact (Array.getElem?_eq_some_iff.1 hb).1
  ·cases hc
 rw [cell?_of_block (h2 1 hlt).2.2]
 exact hc
def formatS : KSpec := ⟨81, fun | [.int .i64 n, .int .i64 b] => if b = 10 ∧ -9223372036854775808 ≤ n ∧ n < 9223372036854775808 then some (.str (itoaK n)) else none | _ => none⟩
theorem formatS_f : formatS.f = 81 := (rfl)
theorem formatS_at (n : Int) (h : -9223372036854775808 ≤ n ∧ n < 9223372036854775808) : formatS.S [.int .i64 n, .int .i64 10] = some (.str (itoaK n)) := if_pos ⟨rfl, h⟩
theorem formatS_ok : KSpecOKX Tryz.prog TabX formatS := fun args v hv => by
 unfold formatS at hv ⊢
 dsimp only at hv ⊢
 split at hv
 ·rename_i n b
  split at hv
  ·rename_i hn
   obtain ⟨rfl, hn⟩ := hn
   cases hv
   rw [itoaK_eq n hn.1 hn.2]
   refine prim_below (enters 81 Tryz.func81 rfl rfl) fun φ h w cargs hr hG ha => ?_
   obtain ⟨cx, cy, rfl, h1, h2⟩ := args_two ha
   rw [int_eq h1, int_eq h2]
   refine (Tryz.strconv_FormatInt_10 n hn.1 (by omega) w (hG.tab fun w h => h.1)).mono fun e w' ⟨he, k, os, hw⟩ => ?_
   subst hw
   exact ⟨below_grow _ _ _, _, he, .str' _⟩
  ·cases hv
 ·cases hv
theorem args_three {φ : Phi} {h : Heap} {w : World} {x y z : AV} {cargs : Array Value} (ha : ArgsR φ h w [x, y, z] cargs) : ∃ cx cy cz, cargs = #[cx, cy, cz] ∧ RVh φ h w x cx ∧ RVh φ h w y cy ∧ RVh φ h w z cz := by
 obtain ⟨h1, h2⟩ := argsL ha
 obtain ⟨l⟩ := cargs
 match l, h1 with
 | [cx, cy, cz], _ => exact ⟨cx, cy, cz, rfl, h2 0 (by simp), h2 1 (by simp), h2 2 (by simp)⟩
def parseV (s : List UInt8) : Option AV := match Lib.parseIntB 64 s with
 | .ok v => some (.tuple [.int .i64 v, .nili])
 | .range => some (.tuple [.int .i64 (Lib.intSat 64 s), .iface 136 .undef])
 | _ => none
def parseS : KSpec := ⟨68, fun | [.str s, .int .i64 b, .int .i64 c] => if b = 10 ∧ c = 64 ∧ s.length < 281474976710656 then parseV s else none | _ => none⟩
theorem parseS_f : parseS.f = 68 := (rfl)
theorem parseS_at (s : List UInt8) (h : s.length < 281474976710656) : parseS.S [.str s, .int .i64 10, .int .i64 64] = parseV s := if_pos ⟨rfl, rfl, h⟩
theorem parseS_ok : KSpecOKX Tryz.prog TabX parseS := fun args v hv => by
 unfold parseS at hv ⊢
 dsimp only at hv ⊢
 split at hv
 ·rename_i s b c
  split at hv
  ·rename_i hn
   obtain ⟨rfl, rfl, hn⟩ := hn
   unfold parseV at hv
   split at hv
   ·rename_i v' hp
    cases hv
    refine prim_below (enters 68 Tryz.func68 rfl rfl) fun φ h w cargs hr hG ha => ?_
    obtain ⟨cx, cy, cz, rfl, h1, h2, h3⟩ := args_three ha
    rw [str_inv h1, int_eq h2, int_eq h3]
    refine (Tryz.strconv_ParseInt_10_at64_ok ⟨s.toArray⟩ (by rw [Lib.size_eq]; simp; omega) v' (by simpa using hp) w).mono fun e w' ⟨he, hw⟩ => ?_
    refine ⟨?_, _, he, ?_⟩
    ·rcases hw with rfl | ⟨t, rfl⟩
     ·exact Below.refl _ _
     ·exact Lib.bytesWorld_below _ _ _
    ·refine .tuple _ _ rfl fun j hj => ?_
     match j, hj with
     | 0, _ => exact .int _ _
     | 1, _ => exact .nili
   ·rename_i hp
    cases hv
    refine prim_below (enters 68 Tryz.func68 rfl rfl) fun φ h w cargs hr hG ha => ?_
    obtain ⟨cx, cy, cz, rfl, h1, h2, h3⟩ := args_three ha
    rw [str_inv h1, int_eq h2, int_eq h3]
    obtain ⟨te, pe, hev⟩ := glob_err hG
    refine (Tryz.strconv_ParseInt_10_at64_range ⟨s.toArray⟩ (by rw [Lib.size_eq]; simp; omega) (by simpa using hp) _ w hev (.inr ⟨te, pe, rfl⟩)).mono fun e w' ⟨N, he, _, _, hw⟩ => ?_
    refine ⟨hw, _, he, ?_⟩
    refine .tuple _ _ rfl fun j hj => ?_
    match j, hj with
    | 0, _ => simpa using (RV.int (φ := φ) (nx := h.next) (pr := Pr φ h w') (w := w') .i64 (Lib.intSat 64 s))
    | 1, _ => exact .iface _ _ _ (.undef _)
   ·cases hv
  ·cases hv
 ·cases hv
def digits : List UInt8 := [48, 49, 50, 51, 52, 53, 54, 55, 56, 57]
def trimD (s : List UInt8) : List UInt8 := (s.reverse.dropWhile (digits.contains ·)).reverse.dropWhile (digits.contains ·)
def trimS : KSpec := ⟨67, fun | [.str s, .str c] => if s.length < 9223372036854775807 ∧ c = digits then some (.str (trimD s)) else none | _ => none⟩
theorem trimS_f : trimS.f = 67 := (rfl)
theorem trimS_at (s : List UInt8) (h : s.length < 9223372036854775807) : trimS.S [.str s, .str digits] = some (.str (trimD s)) := if_pos ⟨h, rfl⟩
theorem trimS_ok : KSpecOK Tryz.prog trimS := fun args v hv => by
 unfold trimS at hv ⊢
 dsimp only at hv ⊢
 split at hv
 ·rename_i s c
  split at hv
  ·rename_i hl
   obtain ⟨hl, rfl⟩ := hl
   cases hv
   refine prim_str2 (enters 67 Tryz.func67 rfl rfl) fun w _ => (Any.strings_Trim_laid Tryz.lays160 (by kernel_rfl) ⟨s.toArray⟩ ⟨digits.toArray⟩ w (by rw [Lib.size_eq]; simp; omega) (by decide) (ascii_of_all (by decide))).mono fun e w' ⟨h1, h2⟩ => ⟨?_, h2⟩
   rw [h1]
   rfl
  ·cases hv
 ·cases hv
end Go.Proofs.YtleeinkdkllcdaaGreatDoor

namespace Go.Proofs.YtleeinkdkllcdaaGreatDoor
open Go Sz
structure Opr where
 n : List UInt8
 k : List UInt8
 l : Int
def Opr.cells (o : Opr) : List AV := [.str o.n, .str o.k, .int .i64 o.l]
def Opr.enc (o : Opr) : AV := .agg o.cells
def decOpr : AV → Option Opr
 | .agg [.str a, .str b, .int .i64 l] => some ⟨a, b, l⟩
 | _ => none
def decOprs : List AV → Option (List Opr)
 | [] => some []
 | v :: r => match decOpr v, decOprs r with
   | some o, some os => some (o :: os)
   | _, _ => none
theorem decOpr_enc (o : Opr) : decOpr o.enc = some o := rfl
theorem decOprs_enc : ∀ l : List Opr, decOprs (l.map Opr.enc) = some l
 | [] => rfl
 | o :: r => by
   show (match decOpr o.enc, decOprs (r.map Opr.enc) with | some o, some os => some (o :: os) | _, _ => none) = _
   rw [decOpr_enc, decOprs_enc r]
theorem decOpr_eq {v : AV} {o : Opr} (h : decOpr v = some o) : v = o.enc := by
 unfold decOpr at h
 split at h
 ·cases h; rfl
 ·cases h
theorem decOprs_eq : ∀ {vs : List AV} {l : List Opr}, decOprs vs = some l → vs = l.map Opr.enc
 | [], l, h => by cases h; rfl
 | v :: r, l, h => by
   unfold decOprs at h
   split at h
   ·rename_i o os h1 h2
    cases h
    rw [decOpr_eq h1, decOprs_eq h2]
    rfl
   ·cases h
theorem oprs_refs : ∀ l : List Opr, AV.refsL (l.map Opr.enc) = 0
 | [] => rfl
 | o :: r => by simp [AV.refsL, oprs_refs r, Opr.enc, Opr.cells, AV.refs]
theorem oprs_elem (l : List Opr) : ∀ x ∈ l.map Opr.enc, Elem 3 x := by
 intro x hx
 obtain ⟨o, _, rfl⟩ := List.mem_map.1 hx
 exact ⟨rfl, rfl, (fun h => by cases h), fun _ => rfl, rfl⟩
def aheadK (b : List UInt8) : Bool := b == [102, 121] || b == [102, 120]
def betweenK (b : List UInt8) : Bool := b == [120, 102, 120] || b == [120, 102, 121] || b == [121, 102, 120]
def aheadS : KSpec := ⟨133, fun | [v] => (decOpr v).map fun o => .bool (aheadK o.k) | _ => none⟩
theorem aheadS_f : aheadS.f = 133 := (rfl)
theorem aheadS_at (a b : List UInt8) (l : Int) : aheadS.S [.agg [.str a, .str b, .int .i64 l]] = some (.bool (aheadK b)) := (rfl)
theorem aheadS_ok : KSpecOK Tryz.prog aheadS := fun args v hv => by
 unfold aheadS at hv ⊢
 dsimp only at hv ⊢
 split at hv
 ·rename_i x
  obtain ⟨o, ho, rfl⟩ := Option.map_eq_some_iff.1 hv
  rw [decOpr_eq ho]
  refine prim_of (n := 5) (h' := h0) (envOf_ok (ss := []) (by simp)) ?_ rfl (by simp [AV.refsL, AV.refs, Opr.enc, Opr.cells])
  obtain ⟨a, b, l⟩ := o
  cases e1 : b == [102, 121] <;> cases e2 : b == [102, 120] <;> simp [run133, c133, aheadK, Opr.enc, Opr.cells, e1, e2]
 ·cases hv
def betweenS : KSpec := ⟨135, fun | [v] => (decOpr v).map fun o => .bool (betweenK o.k) | _ => none⟩
theorem betweenS_f : betweenS.f = 135 := (rfl)
theorem betweenS_at (a b : List UInt8) (l : Int) : betweenS.S [.agg [.str a, .str b, .int .i64 l]] = some (.bool (betweenK b)) := (rfl)
theorem betweenS_ok : KSpecOK Tryz.prog betweenS := fun args v hv => by
 unfold betweenS at hv ⊢
 dsimp only at hv ⊢
 split at hv
 ·rename_i x
  obtain ⟨o, ho, rfl⟩ := Option.map_eq_some_iff.1 hv
  rw [decOpr_eq ho]
  refine prim_of (n := 5) (h' := h0) (envOf_ok (ss := []) (by simp)) ?_ rfl (by simp [AV.refsL, AV.refs, Opr.enc, Opr.cells])
  obtain ⟨a, b, l⟩ := o
  cases e1 : b == [120, 102, 120] <;> cases e2 : b == [120, 102, 121] <;> cases e3 : b == [121, 102, 120] <;> simp [run135, c135, betweenK, Opr.enc, Opr.cells, e1, e2, e3]
 ·cases hv
def mayK (a b : List UInt8) (l : Int) : Bool :=
 if a == [44] then b == [120, 102, 121] && decide (l = 1000)
 else if a == [] then false else if decide (64 < a.length) then false else if a == [124] then false else if a == [91, 93] then false else if a == [123, 125] then false
 else (betweenK b || aheadK b) && decide (1 ≤ l) && decide (l ≤ 1200)
def mayS : KSpec := ⟨114, fun | [v] => (decOpr v).map fun o => .bool (mayK o.n o.k o.l) | _ => none⟩
theorem mayS_f : mayS.f = 114 := (rfl)
theorem mayS_at (a b : List UInt8) (l : Int) : mayS.S [.agg [.str a, .str b, .int .i64 l]] = some (.bool (mayK a b l)) := (rfl)
theorem mayS_ok : KSpecOK Tryz.prog mayS := fun args v hv => by
 unfold mayS at hv ⊢
 dsimp only at hv ⊢
 split at hv
 ·rename_i x
  obtain ⟨o, ho, rfl⟩ := Option.map_eq_some_iff.1 hv
  rw [decOpr_eq ho]
  refine prim_of (n := 20) (h' := h0) (envOf_ok (ss := [aheadS, betweenS]) (by simp [aheadS_ok, betweenS_ok])) ?_ rfl (by simp [AV.refsL, AV.refs, Opr.enc, Opr.cells])
  obtain ⟨a, b, l⟩ := o
  have hA := aheadS_at a b l
  have hB := betweenS_at a b l
  have hl : decide ((64 : Int) < (a.length : Int)) = decide (64 < a.length) := by
   congr 1
   exact propext ⟨fun h => by omega, fun h => by omega⟩
  cases e1 : a == [44] with
  | true => cases e2 : b == [120, 102, 121] <;> simp [aheadS_f, betweenS_f, run114, c114, mayK, Opr.enc, Opr.cells, e1, e2]
  | false =>
  cases e2 : a == [] with
  | true => simp [aheadS_f, betweenS_f, run114, c114, mayK, Opr.enc, Opr.cells, e1, e2]
  | false =>
  cases e3 : decide (64 < a.length) with
  | true => simp [aheadS_f, betweenS_f, run114, c114, mayK, Opr.enc, Opr.cells, e1, e2, e3, hl]
  | false =>
  cases e4 : a == [124] with
  | true => simp [aheadS_f, betweenS_f, run114, c114, mayK, Opr.enc, Opr.cells, e1, e2, e3, hl, e4, run134, run165, c134, c165, c165_m0, c165_b0, loopH_succ]
  | false =>
  cases e5 : a == [91, 93] with
  | true => simp [aheadS_f, betweenS_f, run114, c114, mayK, Opr.enc, Opr.cells, e1, e2, e3, hl, e4, e5, run134, run165, c134, c165, c165_m0, c165_b0, loopH_succ, IntKind.wrap, IntKind.signed, IntKind.bits]
  | false =>
  cases e6 : a == [123, 125] with
  | true => simp [aheadS_f, betweenS_f, run114, c114, mayK, Opr.enc, Opr.cells, e1, e2, e3, hl, e4, e5, e6, run134, run165, c134, c165, c165_m0, c165_b0, loopH_succ, IntKind.wrap, IntKind.signed, IntKind.bits]
  | false =>
  cases e7 : betweenK b <;> cases e8 : aheadK b <;> cases e9 : decide (1 ≤ l) <;> simp only [e7, e8] at hA hB <;>
   simp [aheadS_f, betweenS_f, run114, c114, mayK, Opr.enc, Opr.cells, e1, e2, e3, hl, e4, e5, e6, e7, e8, e9, hA, hB, aheadS_f, betweenS_f, run134, run165, c134, c165, c165_m0, c165_b0, loopH_succ, IntKind.wrap, IntKind.signed, IntKind.bits]
 ·cases hv
def find1 {α : Type} (p : α → Bool) : List α → Option Nat
 | [] => none
 | x :: r => if p x then some 0 else (find1 p r).map (· + 1)
theorem find1_lt {α : Type} {p : α → Bool} : ∀ {l : List α} {i : Nat}, find1 p l = some i → i < l.length
 | [], i, h => by cases h
 | x :: r, i, h => by
   simp only [find1] at h
   split at h
   ·cases h; simp
   ·obtain ⟨j, hj, rfl⟩ := Option.map_eq_some_iff.1 h
    have := find1_lt hj
    simp; omega
def alikeK (a b : Opr) : Bool := a.n == b.n && aheadK a.k == aheadK b.k
def alikeS : KSpec := ⟨113, fun | [v, w] => (match decOpr v, decOpr w with | some a, some b => some (.bool (alikeK a b)) | _, _ => none) | _ => none⟩
theorem alikeS_f : alikeS.f = 113 := (rfl)
theorem alikeS_at (a b : List UInt8) (l : Int) (a' b' : List UInt8) (l' : Int) : alikeS.S [.agg [.str a, .str b, .int .i64 l], .agg [.str a', .str b', .int .i64 l']] = some (.bool (alikeK ⟨a, b, l⟩ ⟨a', b', l'⟩)) := (rfl)
theorem alikeS_ok : KSpecOK Tryz.prog alikeS := fun args v hv => by
 unfold alikeS at hv ⊢
 dsimp only at hv ⊢
 split at hv
 ·rename_i x y
  split at hv
  ·rename_i o p h1 h2
   cases hv
   rw [decOpr_eq h1, decOpr_eq h2]
   refine prim_of (n := 5) (h' := h0) (envOf_ok (ss := [aheadS]) (by simp [aheadS_ok])) ?_ rfl (by simp [AV.refsL, AV.refs, Opr.enc, Opr.cells])
   obtain ⟨a, b, l⟩ := o
   obtain ⟨a', b', l'⟩ := p
   have hA := aheadS_at a b l
   have hB := aheadS_at a' b' l'
   cases e1 : a == a' <;> simp [run113, c113, Opr.enc, Opr.cells, alikeK, e1, hA, hB, aheadS_f]
  ·cases hv
 ·cases hv
theorem c136_loop (C : Nat → List AV → Heap → Option (AV × Heap)) (n : Nat) (l : List Opr) (g : Nat) (caps : List AV) (hn : Nat) (os : List AObj) (p : Opr → Bool) (hcap : AV.refsL caps ≤ hn) (hl : l.length < 4611686018427387904)
 (hg : ∀ o ∈ l, C g (.agg [.str o.n, .str o.k, .int .i64 o.l] :: caps) ⟨hn, os, hn, hn⟩ = some (.bool (p o), ⟨hn, os, hn, hn⟩)) : ∀ post pre m, l = pre ++ post → post.length < m →
 loopH (evCode C n c136_b0) c136_m0 hn m (c136_f0 (.sl (l.map Opr.enc)) (.fn g caps) (.int .i64 l.length) (.int .i64 pre.length)) ⟨hn, os, hn, hn⟩ =
  match find1 p post with
  | some i => some (.ret, FM 19 [(4, .int .i64 (pre.length + i : Nat))], ⟨hn, os, hn, hn⟩)
  | none => some (.exit 0, FM 19 [], ⟨hn, os, hn, hn⟩)
 | [], pre, m + 1, e, _ => by
   subst e
   have h5 : AV.refsL (pre.map Opr.enc) = 0 := oprs_refs _
   simp [find1, loopH_succ, c136_b0, h5]
 | o :: post, pre, m + 1, e, hm => by
   have ho := hg o (by simp [e])
   have ih := c136_loop C n l g caps hn os p hcap hl hg post (pre ++ [o]) m (by simp [e]) (by rw [List.length_cons] at hm; omega)
   have h1 : l[pre.length]? = some o := by rw [e]; simp
   have h3 : IntKind.i64.wrap ((pre.length : Int) + 1) = (pre.length : Int) + 1 := by
    rw [wrap_succ (by rw [e] at hl; simp at hl; omega)]; simp
   have h4 : o.enc = .agg [.str o.n, .str o.k, .int .i64 o.l] := rfl
   have h5 : AV.refsL (l.map Opr.enc) = 0 := oprs_refs l
   have h6 : ((pre.length : Int) < (l.length : Int)) = True := eq_true (by rw [e, List.length_append, List.length_cons]; omega)
   simp only [List.length_append, List.length_cons, List.length_nil, Nat.zero_add, Int.natCast_add, Int.natCast_one] at ih
   rw [loopH_succ]
   cases hp : p o with
   | true =>
     rw [hp] at ho
     simp [find1, c136_b0, c136_m0, ho, h1, h3, h4, h5, h6, hp, hcap]
   | false =>
     rw [hp] at ho
     simp [find1, c136_b0, c136_m0, ho, h1, h3, h4, h5, h6, hp, hcap]
     refine Eq.trans ih ?_
     cases find1 p post with
     | none => rfl
     | some i =>
       show some (Ex.ret, FM 19 [(4, AV.int .i64 ((pre.length + 1 + i : Nat) : Int))], _) = some (Ex.ret, FM 19 [(4, AV.int .i64 ((pre.length + (i + 1) : Nat) : Int))], _)
       rw [show pre.length + (i + 1) = pre.length + 1 + i by omega]
def idxI : Option Nat → Int
 | some i => i
 | none => -1
theorem indexFunc_run (ss : List KSpec) (n : Nat) (l : List Opr) (g : Nat) (caps : List AV) (hn : Nat) (os : List AObj) (wl md : Nat) (p : Opr → Bool) (hcap : AV.refsL caps ≤ hn) (hl : l.length < 4611686018427387904) (hm : l.length < n)
 (hg : ∀ o ∈ l, evCall (envOf ss) n g (.agg [.str o.n, .str o.k, .int .i64 o.l] :: caps) ⟨hn, os, hn, hn⟩ = some (.bool (p o), ⟨hn, os, hn, hn⟩)) :
 evFn ss n 136 [.sl (l.map Opr.enc), .fn g caps] ⟨hn, os, wl, md⟩ = some (.int .i64 (idxI (find1 p l)), ⟨hn, os, wl, md⟩) := by
 have h := c136_loop (evCall (envOf ss) n) n l g caps hn os p hcap hl hg l [] n rfl hm
 simp only [List.length_nil, c136_m0, Int.natCast_zero] at h
 have h5 : AV.refsL (l.map Opr.enc) = 0 := oprs_refs l
 cases hf : find1 p l with
 | none =>
   rw [hf] at h
   simp [run136, c136, c136_m0, h5, hcap, h, idxI]
 | some i =>
   rw [hf] at h
   simp only [Nat.zero_add] at h
   simp [run136, c136, c136_m0, h5, hcap, h, idxI]
def goodA : List Opr → List Opr → Bool
 | _, [] => true
 | pre, o :: post => if !mayK o.n o.k o.l then false else if (find1 (fun x => alikeK x o) pre).isSome then false else goodA (pre ++ [o]) post
def goodOp (l : List Opr) : Bool := decide (l.length ≤ 128) && goodA [] l
theorem c92_loop (l : List Opr) (n : Nat) (hl : l.length < 4611686018427387904) (hn : l.length < n) : ∀ post pre m, l = pre ++ post → post.length < m →
 ∃ md, aft 1 0 (loopH (evCode (evCall (envOf [mayS, alikeS]) (n + 10)) (n + 10) c92_b0) c92_m0 1 m (c92_f0 (.ptr 0 0) (.sl (l.map Opr.enc)) (.int .i64 l.length) (.int .i64 pre.length)) ⟨1, [.row [.sl (l.map Opr.enc)]], 1, 0⟩) =
   some (if goodA pre post then .exit 0 else .ret, if goodA pre post then FM 31 [] else FM 31 [(2, .bool false)], ⟨1, [.row [.sl (l.map Opr.enc)]], 0, md⟩)
 | [], pre, m + 1, e, _ => by
   subst e
   exact ⟨0, by simp [goodA, loopH_succ, c92_b0]⟩
 | o :: post, pre, m + 1, e, hm => by
   obtain ⟨md, ih⟩ := c92_loop l n hl hn post (pre ++ [o]) m (by simp [e]) (by rw [List.length_cons] at hm; omega)
   refine ⟨if !mayK o.n o.k o.l then 0 else if (find1 (fun x => alikeK x o) pre).isSome then 0 else md, ?_⟩
   have h1 : l[pre.length]? = some o := by rw [e]; simp
   have h3 : IntKind.i64.wrap ((pre.length : Int) + 1) = (pre.length : Int) + 1 := by
    rw [wrap_succ (by rw [e] at hl; simp at hl; omega)]; simp
   have h4 : o.enc = .agg [.str o.n, .str o.k, .int .i64 o.l] := rfl
   have h5 : AV.refsL (l.map Opr.enc) = 0 := oprs_refs l
   have h6 : ((pre.length : Int) < (l.length : Int)) = True := eq_true (by rw [e, List.length_append, List.length_cons]; omega)
   have h7 : l.take pre.length = pre := by rw [e]; simp
   have h8 := elem_all (oprs_elem l)
   have h9 : pre.length ≤ l.length := by rw [e]; simp
   have hM := mayS_at o.n o.k o.l
   have hf := indexFunc_run [mayS, alikeS] (n + 8) pre 112 [.ptr 1 0] 2 [.row [.str o.n, .str o.k, .int .i64 o.l], .row [.sl (l.map Opr.enc)]] 2 2 (fun x => alikeK x o) (by simp [AV.refsL, AV.refs]) (by omega) (by omega)
    (fun x hx => by
     have hA := alikeS_at x.n x.k x.l o.n o.k o.l
     simp [run112, c112, hA, alikeS_f, mayS_f])
   simp only [List.length_append, List.length_cons, List.length_nil, Nat.zero_add, Int.natCast_add, Int.natCast_one] at ih
   rw [loopH_succ]
   cases hm : mayK o.n o.k o.l with
   | false =>
     rw [hm] at hM
     simp [goodA, c92_b0, c92_m0, h1, h3, h4, h5, h6, hm, hM, mayS_f, alikeS_f]
   | true =>
     rw [hm] at hM
     cases hs : find1 (fun x => alikeK x o) pre with
     | none =>
       rw [hs] at hf
       simp [goodA, c92_b0, c92_m0, h1, h3, h4, h5, h6, hm, hM, hs, h8, h9, h7, hf, idxI, mayS_f, alikeS_f, sliceC, sliceB, run115, c115, ← List.map_take]
       exact ih
     | some i =>
       rw [hs] at hf
       simp [goodA, c92_b0, c92_m0, h1, h3, h4, h5, h6, hm, hM, hs, h8, h9, h7, hf, idxI, mayS_f, alikeS_f, sliceC, sliceB, run115, c115, ← List.map_take]
def goodOpS : KSpec := ⟨92, fun | [.agg [.sl xs]] => (match decOprs xs with | some l => if l.length < 4611686018427387904 then some (.bool (goodOp l)) else none | none => none) | _ => none⟩
theorem goodOpS_f : goodOpS.f = 92 := (rfl)
theorem goodOpS_at (l : List Opr) (h : l.length < 4611686018427387904) : goodOpS.S [.agg [.sl (l.map Opr.enc)]] = some (.bool (goodOp l)) := by
 simp only [goodOpS, decOprs_enc, if_pos h]
theorem goodOpS_ok : KSpecOK Tryz.prog goodOpS := fun args v hv => by
 unfold goodOpS at hv ⊢
 dsimp only at hv ⊢
 split at hv
 ·rename_i xs
  split at hv
  ·rename_i l hd
   split at hv
   ·rename_i hl
    cases hv
    rw [decOprs_eq hd]
    refine prim_of (n := l.length + 12) (h' := h0) (envOf_ok (ss := [mayS, alikeS]) (by simp [mayS_ok, alikeS_ok])) ?_ rfl (by simp [AV.refsL, AV.refs, oprs_refs])
    have h5 : AV.refsL (l.map Opr.enc) = 0 := oprs_refs l
    by_cases h : l.length ≤ 128
    ·obtain ⟨md, e⟩ := c92_loop l (l.length + 1) hl (by omega) l [] (l.length + 11) rfl (by omega)
     simp only [List.length_nil, c92_m0, c92_f0, Int.natCast_zero] at e
     have hd : ((128 : Int) < (l.length : Int)) = False := eq_false (by omega)
     cases hg : goodA [] l with
     | true =>
       rw [hg] at e
       simp only [if_true] at e
       simp [run92, c92, c92_m0, h5, e, goodOp, h, hd, hg, mayS_f, alikeS_f]
     | false =>
       rw [hg] at e
       simp only [Bool.false_eq_true, if_false] at e
       simp [run92, c92, c92_m0, h5, e, goodOp, h, hd, hg, mayS_f, alikeS_f]
    ·have hd : ((128 : Int) < (l.length : Int)) = True := eq_true (by omega)
     simp [run92, c92, goodOp, h, hd, mayS_f, alikeS_f]
   ·cases hv
  ·cases hv
 ·cases hv
def zeroO : Opr := ⟨[], [], 0⟩
def findK (l : List Opr) (name : List UInt8) (ahead : Bool) : Opr × Bool :=
 match find1 (fun o => o.n == name && aheadK o.k == ahead) l with
 | none => (zeroO, false)
 | some i => if goodOp l then (l.getD i zeroO, true) else (zeroO, false)
def findS : KSpec := ⟨169, fun | [.agg [.sl xs], .str s, .bool b] => (match decOprs xs with | some l => if l.length < 4611686018427387904 then some (.tuple [(findK l s b).1.enc, .bool (findK l s b).2]) else none | none => none) | _ => none⟩
theorem findS_ok : KSpecOK Tryz.prog findS := fun args v hv => by
 unfold findS at hv ⊢
 dsimp only at hv ⊢
 split at hv
 ·rename_i xs s b
  split at hv
  ·rename_i l hd
   split at hv
   ·rename_i hl
    cases hv
    rw [decOprs_eq hd]
    refine prim_of (n := l.length + 12) (h' := h0) (envOf_ok (ss := [aheadS, goodOpS]) (by simp [aheadS_ok, goodOpS_ok])) ?_ (by simp [AV.refs, AV.refsL, Opr.enc, Opr.cells]) (by simp [AV.refsL, AV.refs, oprs_refs])
    have h5 : AV.refsL (l.map Opr.enc) = 0 := oprs_refs l
    have hf := indexFunc_run [aheadS, goodOpS] (l.length + 10) l 173 [.ptr 1 0, .ptr 2 0] 4 [.row [.str [], .str [], .int .i64 0], .row [.bool b], .row [.str s], .row [.sl (l.map Opr.enc)]] 0 0 (fun o => o.n == s && aheadK o.k == b) (by simp [AV.refsL, AV.refs]) hl (by omega)
     (fun x hx => by
      have hA := aheadS_at x.n x.k x.l
      cases e1 : x.n == s <;> simp [run173, c173, e1, hA, aheadS_f, goodOpS_f])
    have hg := goodOpS_at l hl
    cases hs : find1 (fun o => o.n == s && aheadK o.k == b) l with
    | none =>
      rw [hs] at hf
      simp [run169, c169, hf, findK, hs, Opr.enc, Opr.cells, zeroO, idxI, aheadS_f, goodOpS_f]
    | some i =>
      rw [hs] at hf
      have hi := find1_lt hs
      have h1 : l[i]? = some l[i] := List.getElem?_eq_getElem hi
      have h4 : l[i].enc = .agg [.str l[i].n, .str l[i].k, .int .i64 l[i].l] := rfl
      have hne : ((i : Int) < 0) = False := eq_false (by omega)
      have hgd : l.getD i zeroO = l[i] := by simp [List.getD, h1]
      cases hgk : goodOp l with
      | false =>
        rw [hgk] at hg
        simp [run169, c169, hf, findK, hs, Opr.enc, Opr.cells, zeroO, hg, hgk, hne, idxI, aheadS_f, goodOpS_f]
      | true =>
        rw [hgk] at hg
        simp [run169, c169, hf, findK, hs, hg, hgk, h1, h4, hne, hgd, idxI, aheadS_f, goodOpS_f]
   ·cases hv
  ·cases hv
 ·cases hv
end Go.Proofs.YtleeinkdkllcdaaGreatDoor
