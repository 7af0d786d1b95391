import Derived.Test.YtlakiipofcibhaaGreatDoorDb
import Derived.Test.YtlakiipofcibhaaGreatDoorSk
import Derived.Test.YtlakiipofcibhaaGreatDoorSu
import Derived.Test.YtlakiipofcibhaaGreatDoorAt
import Derived.Test.YtlakiipofcibhaaGreatDoorTy
set_option linter.unusedVariables false
set_option linter.unusedSimpArgs false
set_option linter.unusedSectionVars false
set_option maxHeartbeats 16000000
set_option maxRecDepth 100000

namespace Go.Proofs.YtlakiipofcibhaaGreatDoor
open Go Sz Srt
mutual
theorem sameT_refl : ∀ t : Tm, sameT t t = true
 | .nl k n s => by simp [sameT, Tm.kind, Tm.num, Tm.name, Tm.args]
 | .mk k n s us => by simp [sameT, Tm.kind, Tm.num, Tm.name, Tm.args, sameL_refl us]
theorem sameL_refl : ∀ l : List Tm, sameL l l = true
 | [] => by simp [sameL]
 | t :: r => by simp [sameL, sameT_refl t, sameL_refl r]
end
theorem mkT_flds (k n : Int) (s : List UInt8) (us : List Tm) : (mkT k n s us).kind = k ∧ (mkT k n s us).num = n ∧ (mkT k n s us).name = s ∧ (mkT k n s us).args = us := by
 cases us <;> exact ⟨rfl, rfl, rfl, rfl⟩
theorem own_kind (t : Tm) : (ownT t).kind = t.kind := by rw [ownT_eq]; exact (mkT_flds _ _ _ _).1
theorem own_num (t : Tm) : (ownT t).num = t.num := by rw [ownT_eq]; exact (mkT_flds _ _ _ _).2.1
theorem own_name (t : Tm) : (ownT t).name = t.name := by rw [ownT_eq]; exact (mkT_flds _ _ _ _).2.2.1
theorem own_args (t : Tm) : (ownT t).args = t.args.map ownT := by rw [ownT_eq]; exact (mkT_flds _ _ _ _).2.2.2
theorem own_len (t : Tm) : (ownT t).args.length = t.args.length := by rw [own_args, List.length_map]
mutual
theorem own_size : ∀ t : Tm, (ownT t).size = t.size
 | .nl .. => rfl
 | .mk k n s us => by
   rw [size_args (ownT _), own_args, Tm.args, ownL_size us, Tm.size]
theorem ownL_size : ∀ l : List Tm, Tm.sizeL (l.map ownT) = Tm.sizeL l
 | [] => rfl
 | t :: r => by simp only [List.map_cons, Tm.sizeL, own_size t, ownL_size r]
end
mutual
theorem own_bulk : ∀ t : Tm, (ownT t).bulk = t.bulk
 | .nl .. => rfl
 | .mk k n s us => by
   rw [bulk_args (ownT _), own_args, own_name, Tm.args, Tm.name, ownL_bulk us, Tm.bulk]
theorem ownL_bulk : ∀ l : List Tm, Tm.bulkL (l.map ownT) = Tm.bulkL l
 | [] => rfl
 | t :: r => by simp only [List.map_cons, Tm.bulkL, own_bulk t, ownL_bulk r]
end
mutual
theorem own_depth : ∀ t : Tm, (ownT t).depth = t.depth
 | .nl .. => rfl
 | .mk k n s us => by
   rw [depth_args (ownT _), own_args, Tm.args, ownL_depth us, Tm.depth]
theorem ownL_depth : ∀ l : List Tm, Tm.depthL (l.map ownT) = Tm.depthL l
 | [] => rfl
 | t :: r => by simp only [List.map_cons, Tm.depthL, own_depth t, ownL_depth r]
end
theorem own_one (t : Tm) : oneK (ownT t) = oneK t := by
 unfold oneK
 rw [own_kind, own_num, own_name, own_len]
mutual
theorem own_all : ∀ t : Tm, (ownT t).allT oneK = t.allT oneK
 | .nl .. => rfl
 | .mk k n s us => by
   rw [allT_args (p := oneK) (ownT _), own_one, own_args, Tm.args, ownL_all us, Tm.allT]
theorem ownL_all : ∀ l : List Tm, Tm.allL oneK (l.map ownT) = Tm.allL oneK l
 | [] => rfl
 | t :: r => by simp only [List.map_cons, Tm.allL, own_all t, ownL_all r]
end
theorem own_good (t : Tm) : goodT (ownT t) = goodT t := by
 unfold goodT
 rw [own_size, own_depth, own_all]
theorem own_place (t : Tm) : placeK (ownT t) = placeK t := by
 unfold placeK
 rw [own_kind, own_len]
theorem own_head (a b : Tm) : headC (ownT a) (ownT b) = headC a b := by
 unfold headC
 rw [own_place, own_place, own_num, own_num, own_name, own_name, own_len, own_len]
theorem own_cmp : ∀ (k : Nat) (a b : Tm), a.size ≤ k → cmpT (ownT a) (ownT b) = cmpT a b
 | 0, a, b, h => by have := size_args a; omega
 | k + 1, a, b, h => by
   rw [cmpT_eq, cmpT_eq a b, own_head, own_args, own_args]
   have hs := size_args a
   have key : ∀ us ws : List Tm, Tm.sizeL us ≤ k → cmpL (us.map ownT) (ws.map ownT) = cmpL us ws := by
    intro us
    induction us with
    | nil => intro ws _; cases ws <;> simp [cmpL]
    | cons x r ih =>
      intro ws hu
      simp only [Tm.sizeL] at hu
      cases ws with
      | nil => simp [cmpL]
      | cons y q =>
        simp only [List.map_cons, cmpL_cons]
        rw [own_cmp k x y (by omega), ih q (by omega)]
   rw [key a.args b.args (by omega)]
theorem cmp_own (a b : Tm) : cmpT (ownT a) (ownT b) = cmpT a b := own_cmp a.size a b (Nat.le_refl _)
theorem own_dot (t : Tm) : isDot (ownT t) = isDot t := by
 unfold isDot
 rw [own_kind, own_name, own_len]
theorem own_items : ∀ (k : Nat) (t : Tm), t.size ≤ k → itemsT (ownT t) = ((itemsT t).1.map ownT, ownT (itemsT t).2)
 | 0, t, h => by have := size_args t; omega
 | k + 1, t, h => by
   cases hd : isDot t with
   | false =>
     rw [items_end hd, items_end (by rw [own_dot]; exact hd)]
     rfl
   | true =>
     obtain ⟨x, r, ha, e⟩ := items_isDot hd
     obtain ⟨x', r', ha', e'⟩ := items_isDot (t := ownT t) (by rw [own_dot]; exact hd)
     have hs := size_args t
     rw [ha] at hs
     simp only [Tm.sizeL] at hs
     rw [own_args, ha] at ha'
     simp only [List.map_cons, List.map_nil, List.cons.injEq, and_true] at ha'
     obtain ⟨rfl, rfl⟩ := ha'
     rw [e, e', own_items k r (by omega)]
     rfl
theorem own_tail (t : Tm) : tailE (ownT t) = tailE t := by
 unfold tailE
 rw [own_kind, own_name, own_len]
theorem own_sItems (t : Tm) : sItems (ownT t) = ((sItems t).1.map ownT, (sItems t).2) := by
 unfold sItems
 rw [own_good, own_items t.size t (Nat.le_refl _)]
 dsimp only
 rw [own_tail]
 split
 ·split <;> rfl
 ·rfl
theorem own_list : ∀ us : List Tm, ownT (listT us emptyT) = listT (us.map ownT) emptyT
 | [] => rfl
 | x :: r => by
   rw [ownT_eq]
   simp only [listT, Tm.kind, Tm.num, Tm.name, Tm.args, List.map_cons, List.map_nil, own_list r]
   rfl
theorem insR_map2 {c d : Tm → Tm → Int} (f : Tm → Tm) (x : Tm) : ∀ q : List Tm, (∀ y ∈ q, c (f x) (f y) = d x y) → insR c (f x) (q.map f) = (insR d x q).map f
 | [], _ => rfl
 | y :: q, h => by
   rw [List.map_cons, insR_cons, insR_cons, h y (by simp), insR_map2 f x q (fun z hz => h z (by simp [hz]))]
   split <;> simp
theorem insAll_map2 {c d : Tm → Tm → Int} (f : Tm → Tm) : ∀ (t s : List Tm), (∀ x ∈ s ++ t, ∀ y ∈ s ++ t, c (f x) (f y) = d x y) → insAll c (s.map f) (t.map f) = (insAll d s t).map f
 | [], s, _ => rfl
 | x :: t, s, h => by
   show insAll c (insR c (f x) (s.map f).reverse) (t.map f) = (insAll d (insR d x s.reverse) t).map f
   rw [← List.map_reverse, insR_map2 (d := d) f x s.reverse (fun y hy => h x (by simp) y (by simp at hy; simp [hy])), insAll_map2 f t _ (fun a ha b hb => ?_)]
   have key : ∀ z ∈ insR d x s.reverse ++ t, z ∈ s ++ x :: t := fun z hz => by
    rcases List.mem_append.1 hz with hz | hz
    ·rcases insR_mem' d x s z hz with hz | hz
     ·simp [hz]
     ·simp [hz]
    ·simp [hz]
   exact h a (key a ha) b (key b hb)
theorem isort_all (c : Tm → Tm → Int) : ∀ us : List Tm, isort c us = insAll c [] us
 | [] => rfl
 | x :: t => rfl
theorem own_keyOf (ks : Bool) (t : Tm) : keyOf ks (ownT t) = ownT (keyOf ks t) := by
 unfold keyOf
 cases ks with
 | false => rfl
 | true =>
   rw [own_args]
   cases t.args <;> rfl
theorem own_cK (ks : Bool) (x y : Tm) : cK ks (ownT x) (ownT y) = cK ks x y := by
 unfold cK
 rw [own_keyOf, own_keyOf, cmp_own]
theorem own_dgo : ∀ (r : List Tm) (p : Tm), dgo (ownT p) (r.map ownT) = (dgo p r).map ownT
 | [], p => rfl
 | y :: r, p => by
   rw [List.map_cons, dgo_cons, dgo_cons, cmp_own, own_dgo r p, own_dgo r y]
   split <;> simp
theorem dgo_congr : ∀ (r : List Tm) (p y : Tm), cmpT p y = 0 → dgo p r = dgo y r
 | [], p, y, _ => rfl
 | z :: r, p, y, h => by
   have o := cmpT_ord
   have hz := o.zero h
   rw [dgo_cons, dgo_cons]
   by_cases h1 : cmpT p z = 0
   ·have h2 : cmpT y z = 0 := by
     have a := o.trans y p z (by omega) (by omega)
     have b := o.trans z p y (by have := o.zero h1; omega) (by omega)
     have := o.anti y z
     have := o.anti z y
     omega
    rw [if_pos h1, if_pos h2, dgo_congr r p y h]
   ·have h2 : ¬ cmpT y z = 0 := fun h2 => h1 (by
     have a := o.trans p y z (by omega) (by omega)
     have b := o.trans z y p (by have := o.zero h2; omega) (by omega)
     have := o.anti p z
     have := o.anti z p
     omega)
    rw [if_neg h1, if_neg h2]
theorem dgo_cgo : ∀ (r : List Tm) (p : Tm), (∀ x ∈ p :: r, goodT x = true) → dgo p r = cgo sameT p r
 | [], p, _ => rfl
 | y :: r, p, h => by
   have e := same_cmp (h y (by simp)) (h p (by simp))
   rw [dgo_cons, cgo_cons]
   have ih := dgo_cgo r y (fun x hx => h x (by simp at hx ⊢; rcases hx with h | h; exact .inr (.inl h); exact .inr (.inr h)))
   by_cases hc : cmpT p y = 0
   ·have hs : sameT y p = true := e.2 (cmpT_ord.zero hc)
    rw [if_pos hc, if_pos hs, dgo_congr r p y hc, ih]
   ·have hs : ¬ sameT y p = true := fun hs => hc (cmpT_ord.zero (e.1 hs))
    rw [if_neg hc, if_neg hs, ih]
theorem badK_key : ∀ us : List Tm, (∀ x ∈ us, oneK x = true) → badK us = keyE us
 | [], _ => rfl
 | x :: r, h => by
   have ih := badK_key r (fun y hy => h y (by simp [hy]))
   rw [keyE_cons]
   unfold badK keyE1 isK
   rcases oneK_kind (h x (by simp)) with e | e | e <;> rw [e]
   ·simp
   ·simp
   ·by_cases h1 : x.name = [45]
    ·by_cases h2 : x.args.length = 2
     ·have h3 : ((x.args.length : Int) = 2) = True := eq_true (by omega)
      simp [h1, h2, h3, ih]
     ·have h3 : ((x.args.length : Int) = 2) = False := eq_false (by omega)
      simp [h1, h2, h3]
    ·simp [h1]
theorem own_badK : ∀ us : List Tm, badK (us.map ownT) = badK us
 | [] => rfl
 | x :: r => by
   rw [List.map_cons]
   unfold badK isK
   rw [own_kind, own_name, own_len, own_badK r]
theorem items_good {t : Tm} (hb : t.bulk < 1000000000) (h : (sItems t).2 = 0) : ∀ x ∈ (sItems t).1, goodT x = true := by
 have hgood : goodT t = true := by
  unfold sItems at h
  split at h
  ·assumption
  ·exact absurd h (by decide)
 have hus : (sItems t).1 = (itemsT t).1 := by
  unfold sItems at h ⊢
  rw [if_pos hgood] at h ⊢
  split at h
  ·rename_i h0; rw [if_pos h0]
  ·rename_i h0; exact absurd h h0
 have him := items_mem hb hgood
 intro x hx
 rw [hus] at hx
 exact (him.1 x hx).1
theorem cK_false : cK false = cmpT := rfl
theorem own_sorted {t : Tm} (hb : t.bulk < 1000000000) :
 sortD false false (ownT t) = (ownT (sortAll t), (sItems t).2) ∧ sortD true false (ownT t) = (ownT (sortSet t), (sItems t).2) ∧ sortD false true (ownT t) = (ownT (sortKeys t), keysE t) := by
 have o := cmpT_ord
 have hi := items_good hb
 unfold sortD sortAll sortSet sortKeys keysE
 rw [own_sItems]
 dsimp only
 generalize (sItems t).1 = us at *
 generalize (sItems t).2 = e at *
 by_cases he : e = 0
 ·subst he
  have hg := hi rfl
  have h1 : ∀ x ∈ us, oneK x = true := fun x hx => by
   have := hg x hx
   simp only [goodT, Bool.and_eq_true] at this
   exact (allT_one this.2).1
  have bf : badB false (us.map ownT) = 0 := rfl
  have bt : badB true (us.map ownT) = keyE us := by
   show badK _ = _
   rw [own_badK, badK_key us h1]
  have im : ∀ ks, insAll (cK ks) [] (us.map ownT) = (insAll (cK ks) [] us).map ownT := fun ks =>
   insAll_map2 (c := cK ks) (d := cK ks) ownT us [] (fun x _ y _ => own_cK ks x y)
  have hm : ∀ x ∈ insAll (cK false) [] us, goodT x = true := fun x hx => by
   rcases insAll_mem _ _ _ x hx with h | h
   ·cases h
   ·exact hg x h
  simp only [if_true, bf, bt]
  refine ⟨?_, ?_, ?_⟩
  ·rw [own_list, sortT_eq o, isort_all]
   simp only [sortDL, Bool.false_eq_true, if_false, im]
   rfl
  ·rw [own_list, sortT_eq o, isort_all, ← cK_false]
   simp only [sortDL, if_true, im]
   generalize insAll (cK false) [] us = S at hm ⊢
   cases S with
   | nil => rfl
   | cons p r =>
     have : onceL ((p :: r).map ownT) = (cmpct sameT (p :: r)).map ownT := by
      show ownT p :: dgo (ownT p) (r.map ownT) = (p :: cgo sameT p r).map ownT
      rw [own_dgo, dgo_cgo r p hm]
      rfl
     rw [this]
  ·by_cases hk : keyE us = 0
   ·rw [if_pos hk, if_pos hk, own_list, sortT_eq (ordK_ord o), isort_all]
    simp only [sortDL, Bool.false_eq_true, if_false, im]
    have e2 : insAll (cK true) [] us = insAll ordK [] us := by
     have := insAll_map2 (c := cK true) (d := ordK) id us [] (fun x hx y hy => by
      have a1 := keyE1_zero (keyE_zero hk x (by simpa using hx))
      have a2 := keyE1_zero (keyE_zero hk y (by simpa using hy))
      obtain ⟨k, m, s, a, b, rfl⟩ := a1
      obtain ⟨k2, m2, s2, a2, b2, rfl⟩ := a2
      rfl)
     simpa using this
    rw [e2, hk]
   ·rw [if_neg hk, if_neg hk]
    rfl
 ·simp only [if_neg he]
  exact ⟨rfl, rfl, rfl⟩
noncomputable def ssW : List KSpec := [awake25S, deepKS 70, downKS 1000000000, setS, allS, keysS, lenS, sItemsS, dsortS, dsItemsS, dsameKS 1000000000]
theorem ssW_ok : ∀ s ∈ ssW, KSpecOKX Tryz.prog TabX s := by
 simp [ssW, awake25S_ok, (deepKS_all 70 (by omega)).lift, (downKS_all 1000000000 (by omega)).lift, setS_ok.lift, allS_ok.lift, keysS_ok.lift, lenS_ok.lift, sItemsS_ok.lift, dsortS_ok.lift, dsItemsS_ok.lift, (dsameKS_all 1000000000 (by omega)).lift]
theorem lw25 : lookF (ssW ++ clones) 25 = [awake25S] := by rfl
theorem lw26 : lookF (ssW ++ clones) 26 = [deepKS 70] := by rfl
theorem lw36 : lookF (ssW ++ clones) 36 = [downKS 1000000000] := by rfl
theorem lw29 : lookF (ssW ++ clones) 29 = [setS] := by rfl
theorem lw28 : lookF (ssW ++ clones) 28 = [allS] := by rfl
theorem lw32 : lookF (ssW ++ clones) 32 = [keysS] := by rfl
theorem lw33 : lookF (ssW ++ clones) 33 = [lenS] := by rfl
theorem lw30 : lookF (ssW ++ clones) 30 = [sItemsS] := by rfl
theorem lw37 : lookF (ssW ++ clones) 37 = [dsortS] := by rfl
theorem lw38 : lookF (ssW ++ clones) 38 = [dsItemsS] := by rfl
theorem lw39 : lookF (ssW ++ clones) 39 = [dsameKS 1000000000] := by rfl
theorem lw9 : lookF (ssW ++ clones) 9 = [] := by rfl
theorem c9_loop (n : Nat) (os : List AObj) (us : List Tm) (hu : ∀ x ∈ us, x.size < 1000000000) (hl : us.length < 1000000000) (e5 e7 e9 e11 e13 e15 : Int) : ∀ (post pre : List Tm) (m : Nat), us = pre ++ post → post.length < m →
 aft 8 0 (loopH (evCode (evCall (envOf ssW) (n + 1)) (n + 1) c9_b0) c9_m0 8 m (c9_f0 (.ptr 2 0) (.int .i64 e5) (.ptr 3 0) (.int .i64 e7) (.ptr 4 0) (.int .i64 e9) (.ptr 5 0) (.int .i64 e11) (.ptr 6 0) (.int .i64 e13) (.ptr 7 0) (.int .i64 e15) (.sl ((us.map ownT).map Tm.enc)) (.sl (us.map Tm.enc)) (.int .i64 pre.length)) ⟨8, os, 8, 0⟩) =
  some (.exit 0, FM 147 [(4, .ptr 2 0), (5, .int .i64 e5), (6, .ptr 3 0), (7, .int .i64 e7), (8, .ptr 4 0), (9, .int .i64 e9), (10, .ptr 5 0), (11, .int .i64 e11), (12, .ptr 6 0), (13, .int .i64 e13), (14, .ptr 7 0), (15, .int .i64 e15)], ⟨8, os, 0, 0⟩)
 | [], pre, m + 1, e, _ => by
   have h5 := encs_refs us
   have h6 := encs_refs (us.map ownT)
   simp at e
   subst e
   generalize (us.map ownT).map Tm.enc = E at *
   simp [loopH_succ, c9_b0, h5, h6]
 | x :: post, pre, m + 1, e, hm => by
   have h5 := encs_refs us
   have h6 := encs_refs (us.map ownT)
   have g1 : us[pre.length]? = some x := by rw [e]; simp
   have g2 : (us.map ownT)[pre.length]? = some (ownT x) := by rw [List.getElem?_map, g1]; rfl
   have hpl : pre.length < us.length := by rw [e]; simp
   have hlt : ((pre.length : Int) < (us.length : Int)) = True := eq_true (by omega)
   have h3 : IntKind.i64.wrap ((pre.length : Int) + 1) = (pre.length : Int) + 1 := wrap_i64 (by omega) (by omega)
   have ih := c9_loop n os us hu hl e5 e7 e9 e11 e13 e15 post (pre ++ [x]) m (by simp [e]) (by simp at hm; omega)
   simp only [c9_m0, List.length_append, List.length_cons, List.length_nil, Nat.zero_add, Int.natCast_add, Int.natCast_one] at ih
   have hx : x ∈ us := by rw [e]; simp
   have hxs := hu x hx
   have q1 := downKS_at 1000000000 x hxs
   have q2 := dsameKS_at 1000000000 (ownT x) (ownT x) ⟨by rw [own_size]; exact hxs, by rw [own_size]; exact hxs⟩
   rw [sameT_refl] at q2
   have hxe := enc_kind x
   have hxr := argV_refs x
   have hye := enc_kind (ownT x)
   have hyr := argV_refs (ownT x)
   rw [hxe] at q1
   rw [hye] at q1 q2
   have f1 := fun (h : Heap) (n0 d : Nat) => frz_argV h n0 d x
   have f2 := fun (h : Heap) (n0 d : Nat) => frz_argV h n0 d (ownT x)
   generalize us.map ownT = ws at *
   generalize ownT x = y at *
   rw [loopH_succ]
   simp [c9_b0, c9_m0, g1, g2, h3, h5, h6, hlt, hxe, hxr, hye, hyr, q1, q2, f1, f2, downKS_f, dsameKS_f, lw36, lw39, -lookF_cons, -clones]
   exact ih
theorem sizeL_le {B : Nat} : ∀ {us : List Tm}, (∀ x ∈ us, x.size ≤ B) → Tm.sizeL us ≤ us.length * B
 | [], _ => by simp [Tm.sizeL]
 | x :: r, h => by
   have h1 := h x (by simp)
   have h2 := sizeL_le (us := r) (fun y hy => h y (by simp [hy]))
   simp only [Tm.sizeL, List.length_cons, Nat.add_mul, Nat.one_mul]
   omega
theorem list_small {us S : List Tm} (hl : us.length ≤ 2000) (hs : ∀ x ∈ us, x.size ≤ 2000) (h1 : ∀ x ∈ S, x ∈ us) (h2 : S.length ≤ us.length) : (listT S emptyT).size < 1000000000 := by
 rw [size_list]
 have h3 := sizeL_le (B := 2000) (us := S) (fun x hx => hs x (h1 x hx))
 have h4 : S.length * 2000 ≤ 2000 * 2000 := Nat.mul_le_mul_right _ (by omega)
 have h5 : emptyT.size = 1 := rfl
 omega
theorem items_small {t : Tm} (hb : t.bulk < 1000000000) (h : (sItems t).2 = 0) : (sItems t).1.length ≤ 2000 ∧ ∀ x ∈ (sItems t).1, x.size ≤ 2000 := by
 have hgood : goodT t = true := by
  unfold sItems at h
  split at h
  ·assumption
  ·exact absurd h (by decide)
 have hus : (sItems t).1 = (itemsT t).1 := by
  unfold sItems at h ⊢
  rw [if_pos hgood] at h ⊢
  split at h
  ·rename_i h0; rw [if_pos h0]
  ·rename_i h0; exact absurd h h0
 have him := items_mem hb hgood
 refine ⟨by rw [hus]; omega, fun x hx => ?_⟩
 have := items_good hb h x hx
 simp only [goodT, Bool.and_eq_true, decide_eq_true_eq] at this
 exact this.1.1
theorem items_none {t : Tm} (h : ¬ (sItems t).2 = 0) : (sItems t).1 = [] := by
 unfold sItems at h ⊢
 split
 ·rename_i hg
  rw [if_pos hg] at h
  split
  ·rename_i h0; rw [if_pos h0] at h; exact absurd rfl h
  ·rfl
 ·rfl
theorem sorted_small {t : Tm} (hb : t.bulk < 1000000000) : (sortSet t).size < 1000000000 ∧ (sortAll t).size < 1000000000 ∧ (sortKeys t).size < 1000000000 := by
 have o := cmpT_ord
 have hz : zeroT.size < 1000000000 := by decide
 unfold sortSet sortAll sortKeys keysE
 by_cases he : (sItems t).2 = 0
 ·obtain ⟨h1, h2⟩ := items_small hb he
  rw [if_pos he, if_pos he, if_pos he]
  generalize (sItems t).1 = us at *
  have p1 := isort_perm o us
  have p2 := isort_perm (ordK_ord o) us
  rw [sortT_eq o, sortT_eq (ordK_ord o)]
  refine ⟨?_, ?_, ?_⟩
  ·have hsub := cmpct_sub sameT (isort cmpT us)
   exact list_small h1 h2 (fun x hx => p1.mem_iff.1 (hsub.subset hx)) (by have := hsub.length_le; rw [p1.length_eq] at this; exact this)
  ·exact list_small h1 h2 (fun x hx => p1.mem_iff.1 hx) (by rw [p1.length_eq]; exact Nat.le_refl _)
  ·split
   ·exact list_small h1 h2 (fun x hx => p2.mem_iff.1 hx) (by rw [p2.length_eq]; exact Nat.le_refl _)
   ·exact hz
 ·rw [if_neg he, if_neg he, if_neg he]
  refine ⟨hz, hz, ?_⟩
  rw [if_neg he]
  exact hz
theorem says_run (t : Tm) (hb : t.bulk < 100000000) : ∃ h', evCall (envOf ssW) (t.size + 10) 9 [t.enc] h0 = some (.bool true, h') := by
 have o := cmpT_ord
 have hb' : t.bulk < 1000000000 := by omega
 have hsb := size_bulk t
 have hxe := enc_kind t
 have hxr := argV_refs t
 have f1 := fun (h : Heap) (n0 d : Nat) => frz_argV h n0 d t
 have q26 := deepKS_at 70 t
 rw [show ((70 : Nat) : Int) = 70 from rfl] at q26
 rw [hxe] at q26 ⊢
 cases hd : deepT 70 t with
 | true =>
   rw [hd] at q26
   refine ⟨h0, ?_⟩
   simp [run9, c9, hxr, awake25S_f, awake25S_at, q26, f1, deepKS_f, lw9, lw25, lw26, -lookF_cons, -clones]
 | false =>
   rw [hd] at q26
   have q36 := downKS_at 1000000000 t (by omega)
   have q29 := setS_at t hb' o
   have q28 := allS_at t hb' o
   have q32 := keysS_at t hb' o
   have q33 := lenS_at t hb'
   have q30 := sItemsS_at t hb'
   have hwb : (ownT t).bulk < 1000000000 := by rw [own_bulk]; exact hb'
   have r1 := dsortS_at true false (ownT t) hwb
   have r2 := dsortS_at false false (ownT t) hwb
   have r3 := dsortS_at false true (ownT t) hwb
   have r4 := dsItemsS_at (ownT t) hwb
   obtain ⟨s1, s2, s3⟩ := own_sorted hb'
   rw [s2] at r1
   rw [s1] at r2
   rw [s3] at r3
   rw [own_sItems] at r4
   obtain ⟨z1, z2, z3⟩ := sorted_small hb'
   have hit : (sItems t).1.length < 1000000000 ∧ ∀ x ∈ (sItems t).1, x.size < 1000000000 := by
    by_cases he : (sItems t).2 = 0
    ·obtain ⟨h1, h2⟩ := items_small hb' he
     exact ⟨by omega, fun x hx => by have := h2 x hx; omega⟩
    ·rw [items_none he]
     exact ⟨by simp, fun x hx => by cases hx⟩
   have hlt : (sItems t).1.length ≤ t.size := by
    by_cases he : (sItems t).2 = 0
    ·have hgood : goodT t = true := by
      unfold sItems at he
      split at he
      ·assumption
      ·exact absurd he (by decide)
     have hus : (sItems t).1 = (itemsT t).1 := by
      unfold sItems at he ⊢
      rw [if_pos hgood] at he ⊢
      split at he
      ·rename_i h0; rw [if_pos h0]
      ·rename_i h0; exact absurd he h0
     rw [hus]
     exact (items_mem hb' hgood).2.1
    ·rw [items_none he]
     simp
   have a1 := downKS_at 1000000000 (sortSet t) z1
   have a2 := downKS_at 1000000000 (sortAll t) z2
   have a3 := downKS_at 1000000000 (sortKeys t) z3
   have b1 := dsameKS_at 1000000000 (ownT (sortSet t)) (ownT (sortSet t)) ⟨by rw [own_size]; exact z1, by rw [own_size]; exact z1⟩
   have b2 := dsameKS_at 1000000000 (ownT (sortAll t)) (ownT (sortAll t)) ⟨by rw [own_size]; exact z2, by rw [own_size]; exact z2⟩
   have b3 := dsameKS_at 1000000000 (ownT (sortKeys t)) (ownT (sortKeys t)) ⟨by rw [own_size]; exact z3, by rw [own_size]; exact z3⟩
   rw [sameT_refl] at b1 b2 b3
   dsimp only at r1 r2 r3 r4
   generalize (sItems t).1 = us at *
   generalize (sItems t).2 = e at *
   generalize keysE t = ek at *
   have e1 := enc_kind (ownT t)
   have e2 := enc_kind (sortSet t)
   have e3 := enc_kind (sortAll t)
   have e4 := enc_kind (sortKeys t)
   have e5 := enc_kind (ownT (sortSet t))
   have e6 := enc_kind (ownT (sortAll t))
   have e7 := enc_kind (ownT (sortKeys t))
   have h1 := argV_refs (ownT t)
   have h2 := argV_refs (sortSet t)
   have h3 := argV_refs (sortAll t)
   have h4 := argV_refs (sortKeys t)
   have h5 := argV_refs (ownT (sortSet t))
   have h6 := argV_refs (ownT (sortAll t))
   have h7 := argV_refs (ownT (sortKeys t))
   have g1 := fun (h : Heap) (n0 d : Nat) => frz_argV h n0 d (ownT t)
   have g2 := fun (h : Heap) (n0 d : Nat) => frz_argV h n0 d (sortSet t)
   have g3 := fun (h : Heap) (n0 d : Nat) => frz_argV h n0 d (sortAll t)
   have g4 := fun (h : Heap) (n0 d : Nat) => frz_argV h n0 d (sortKeys t)
   have g5 := fun (h : Heap) (n0 d : Nat) => frz_argV h n0 d (ownT (sortSet t))
   have g6 := fun (h : Heap) (n0 d : Nat) => frz_argV h n0 d (ownT (sortAll t))
   have g7 := fun (h : Heap) (n0 d : Nat) => frz_argV h n0 d (ownT (sortKeys t))
   rw [hxe] at q36 q29 q28 q32 q33 q30
   rw [e1] at q36 r1 r2 r3 r4
   rw [e2] at q29 a1
   rw [e3] at q28 a2
   rw [e4] at q32 a3
   rw [e5] at r1 a1 b1
   rw [e6] at r2 a2 b2
   rw [e7] at r3 a3 b3
   generalize ownT (sortSet t) = A' at *
   generalize ownT (sortAll t) = B' at *
   generalize ownT (sortKeys t) = C' at *
   generalize sortSet t = A at *
   generalize sortAll t = B at *
   generalize sortKeys t = C at *
   generalize ownT t = W at *
   refine ⟨h0, ?_⟩
   by_cases hne : us = []
   ·subst hne
    rw [slT0] at q30
    rw [List.map_nil, slT0] at r4
    simp only [List.length_nil, show ((0 : Nat) : Int) = 0 from rfl] at q33
    by_cases he : e = 0
    ·subst he
     simp [run9, c9, c9_m0, hxr, awake25S_f, awake25S_at, f1, deepKS_f, downKS_f, setS_f, allS_f, keysS_f, lenS_f, sItemsS_f, dsortS_f, dsItemsS_f, dsameKS_f, lw9, lw25, lw26, lw36, lw29, lw28, lw32, lw33, lw30, lw37, lw38, lw39, -lookF_cons, -clones,
      q26, q36, q29, q28, q32, q33, q30, r1, r2, r3, r4, a1, a2, a3, b1, b2, b3, h1, h2, h3, h4, h5, h6, h7, g1, g2, g3, g4, g5, g6, g7, c9_b0, loopH_succ]
    ·simp [run9, c9, c9_m0, hxr, awake25S_f, awake25S_at, f1, deepKS_f, downKS_f, setS_f, allS_f, keysS_f, lenS_f, sItemsS_f, dsortS_f, dsItemsS_f, dsameKS_f, lw9, lw25, lw26, lw36, lw29, lw28, lw32, lw33, lw30, lw37, lw38, lw39, -lookF_cons, -clones,
      q26, q36, q29, q28, q32, q33, q30, r1, r2, r3, r4, a1, a2, a3, b1, b2, b3, h1, h2, h3, h4, h5, h6, h7, g1, g2, g3, g4, g5, g6, g7, c9_b0, loopH_succ, he]
   ·have hne2 : us.map ownT ≠ [] := fun h => hne (by simpa using h)
    have lp := c9_loop (t.size + 8) [.row C'.cells, .row C.cells, .row B'.cells, .row B.cells, .row A'.cells, .row A.cells, .row W.cells, .row t.cells] us hit.2 hit.1 e e e e ek ek us [] (t.size + 9) rfl (by omega)
    simp only [c9_m0, Tm.cells, List.length_nil, show ((0 : Nat) : Int) = 0 from rfl] at lp
    rw [slT_cons hne] at q30
    rw [slT_cons hne2] at r4
    have k1 := encs_refs us
    have k2 := encs_refs (us.map ownT)
    have k3 : (us.map ownT).length = us.length := List.length_map _
    generalize us.map ownT = ws at *
    by_cases he : e = 0
    ·subst he
     simp [run9, c9, c9_m0, hxr, awake25S_f, awake25S_at, f1, deepKS_f, downKS_f, setS_f, allS_f, keysS_f, lenS_f, sItemsS_f, dsortS_f, dsItemsS_f, dsameKS_f, lw9, lw25, lw26, lw36, lw29, lw28, lw32, lw33, lw30, lw37, lw38, lw39, -lookF_cons, -clones,
      q26, q36, q29, q28, q32, q33, q30, r1, r2, r3, r4, a1, a2, a3, b1, b2, b3, h1, h2, h3, h4, h5, h6, h7, g1, g2, g3, g4, g5, g6, g7, k1, k2, k3, lp]
    ·simp [run9, c9, c9_m0, hxr, awake25S_f, awake25S_at, f1, deepKS_f, downKS_f, setS_f, allS_f, keysS_f, lenS_f, sItemsS_f, dsortS_f, dsItemsS_f, dsameKS_f, lw9, lw25, lw26, lw36, lw29, lw28, lw32, lw33, lw30, lw37, lw38, lw39, -lookF_cons, -clones,
      q26, q36, q29, q28, q32, q33, q30, r1, r2, r3, r4, a1, a2, a3, b1, b2, b3, h1, h2, h3, h4, h5, h6, h7, g1, g2, g3, g4, g5, g6, g7, k1, k2, k3, lp, he]
theorem says_prim (t : Tm) (hb : t.bulk < 100000000) : PrimOKX Tryz.prog TabX 9 [t.enc] (.bool true) := by
 obtain ⟨h', e⟩ := says_run t hb
 exact prim_of (envOf_okX ssW_ok) e rfl (by simp [AV.refsL, Tm.enc_refs])
theorem sortSays_lawX {H : Type} (ds : List (DataW H)) (h : HasTys Tryz.prog Tryz.f9.params.toList (ds.map avOf)) (_ : (DataW.weightsEach Tryz.prog Tryz.f9.params.toList ds).all (· ≤ reachBytes) = true) (hk : Rows.uptoSmall H ds = true) : PrimOKX Tryz.prog TabX 9 (ds.map avOf) (.bool true) := by
 have hb := upto_le hk
 generalize ds.map avOf = avs at h hb
 rw [Tryz.params9] at h
 cases h with
 | cons h1 r1 =>
   cases r1
   obtain ⟨t, rfl, _⟩ := tm_of h1
   have := bulk_vb t
   simp only [vbL] at hb
   exact says_prim t (by omega)
end Go.Proofs.YtlakiipofcibhaaGreatDoor
