import Derived.Test.YtlakiipofcibhaaGreatDoorSe
import Derived.Test.YtlakiipofcibhaaGreatDoorTy
set_option linter.unusedVariables false
set_option linter.unusedSimpArgs false
set_option linter.unusedSectionVars false

namespace Go.Proofs.YtlakiipofcibhaaGreatDoor
open Go Sz Srt
set_option linter.unusedSimpArgs false
theorem anyD_false {p : Tm → Bool} : ∀ {l : List Tm}, anyD p l = false → ∀ x ∈ l, p x = false
  | y :: r, h, x, hx => by
    unfold anyD at h
    split at h
    · cases h
    · rename_i hy
      rcases List.mem_cons.1 hx with rfl | hx
      · simpa using hy
      · exact anyD_false h x hx
structure SortedOf (us S Z : List Tm) : Prop where
  hS : S.Perm us
  srt : S.Pairwise fun x y => cmpT x y ≤ 0
  str : Z.Pairwise fun x y => cmpT x y < 0
  sub : Z.Sublist S
  all : ∀ x ∈ us, Z.any (fun z => sameT z x) = true
  gS : goodT (listT S emptyT) = true
  gZ : goodT (listT Z emptyT) = true
  again : cmpct sameT (sortT cmpT S) = Z
theorem sortedOf {us : List Tm} (N : Nat) (hg : goodT (listT us emptyT) = true) (hd : ∀ x ∈ us, x.depth ≤ N) (hN : us.length + N + 1 ≤ 64) : SortedOf us (sortT cmpT us) (cmpct sameT (sortT cmpT us)) := by
  have o := cmpT_ord
  rw [sortT_eq o]
  have hp := isort_perm o us
  have hs := isort_sorted o us
  have gi := good_item hg
  have gS : ∀ x ∈ isort cmpT us, goodT x = true := fun x hx => gi x (hp.mem_iff.1 hx)
  obtain ⟨h1, h2⟩ := cmpct_strict gS hs
  have hsub := cmpct_sub sameT (isort cmpT us)
  refine ⟨hp, hs, h1, hsub, fun x hx => ?_, ?_, ?_, ?_⟩
  · obtain ⟨y, hy, e⟩ := h2 x (hp.mem_iff.2 hx)
    rw [List.any_eq_true]
    exact ⟨y, hy, (same_cmp (gS y (hsub.subset hy)) (gi x hx)).2 e⟩
  · exact good_list N hg (by rw [sizeL_perm hp]; exact Nat.le_refl _) (by rw [hp.length_eq]; exact Nat.le_refl _) (fun x hx => hp.mem_iff.1 hx) hd hN
  · refine good_list N hg (Nat.le_trans (sizeL_sub hsub) (by rw [sizeL_perm hp]; exact Nat.le_refl _)) (Nat.le_trans hsub.length_le (by rw [hp.length_eq]; exact Nat.le_refl _)) (fun x hx => hp.mem_iff.1 (hsub.subset hx)) hd hN
  · rw [sortT_eq o, isort_id o hs]
theorem bulk_perm {us ws : List Tm} (h : ws.Perm us) : Tm.bulkL ws = Tm.bulkL us := by
  induction h with
  | nil => rfl
  | cons a _ ih => simp only [Tm.bulkL]; omega
  | swap a b l => simp only [Tm.bulkL]; omega
  | trans _ _ h1 h2 => omega
theorem bulkL_sub {us ws : List Tm} (h : ws.Sublist us) : Tm.bulkL ws ≤ Tm.bulkL us := by
  induction h with
  | slnil => exact Nat.le_refl _
  | cons a _ ih => simp only [Tm.bulkL]; omega
  | cons_cons a _ ih => simp only [Tm.bulkL]; omega
theorem items_empty : sItems emptyT = ([], 0) := by rfl
theorem sort_nil : sortT cmpT [] = [] := by rw [sortT_eq cmpT_ord]; rfl
theorem all_empty : sortAll emptyT = emptyT := by
  unfold sortAll
  rw [items_empty]
  simp only [if_true, sort_nil]
  rfl
theorem set_empty : sortSet emptyT = emptyT := by
  unfold sortSet
  rw [items_empty]
  simp only [if_true, sort_nil]
  rfl
theorem list0 : listS.S [.sl [], emptyT.enc] = some emptyT.enc := listS_at [] emptyT (by simp)
theorem tms_of {v : AV} (h : HasTy Tryz.prog 25 v) : ∃ us : List Tm, v = .sl (us.map Tm.enc) ∧ ∀ u ∈ us, -9223372036854775808 ≤ u.num ∧ u.num < 9223372036854775808 := by
  obtain ⟨xs, rfl, _, hx⟩ := ty_sl Tryz.underlying25 h
  have key : ∀ l : List AV, (∀ x ∈ l, HasTy Tryz.prog 27 x) → ∃ us : List Tm, l = us.map Tm.enc ∧ ∀ u ∈ us, -9223372036854775808 ≤ u.num ∧ u.num < 9223372036854775808 := by
    intro l
    induction l with
    | nil => intro _; exact ⟨[], rfl, fun u h => by cases h⟩
    | cons x r ih =>
      intro h
      obtain ⟨t, e, _, h1, h2⟩ := tm_of (h x (by simp))
      obtain ⟨us, e2, h3⟩ := ih fun y hy => h y (by simp [hy])
      refine ⟨t :: us, by rw [e, e2]; rfl, fun u hu => ?_⟩
      rcases List.mem_cons.1 hu with rfl | hu
      · exact ⟨h1, h2⟩
      · exact h3 u hu
  obtain ⟨us, rfl, h3⟩ := key xs hx
  exact ⟨us, rfl, h3⟩
end Go.Proofs.YtlakiipofcibhaaGreatDoor
