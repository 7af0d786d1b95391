import Derived.Test.YtlakiipofcibhaaGreatDoorAt
import Derived.Test.YtlakiipofcibhaaGreatDoorTm
import Derived.Test.YtlakiipofcibhaaGreatDoorKa
set_option linter.unusedVariables false
set_option linter.unusedSimpArgs false
set_option linter.unusedSectionVars false
set_option maxHeartbeats 16000000
set_option maxRecDepth 100000

/- Stable sorting: plain laws. No program here. -/
namespace Srt
structure Ord {α : Type} (c : α → α → Int) : Prop where
 anti : ∀ x y, c x y < 0 ↔ 0 < c y x
 trans : ∀ x y z, c x y ≤ 0 → c y z ≤ 0 → c x z ≤ 0
variable {α : Type} {c : α → α → Int}
theorem Ord.refl0 (o : Ord c) (x : α) : c x x = 0 := by
 have := o.anti x x
 omega
theorem Ord.zero (o : Ord c) {x y : α} (h : c x y = 0) : c y x = 0 := by
 have h1 := o.anti x y
 have h2 := o.anti y x
 omega
theorem Ord.tlt (o : Ord c) {x y z : α} (h1 : c x y < 0) (h2 : c y z ≤ 0) : c x z < 0 := by
 have a := o.anti x z
 have b := o.anti x y
 refine Classical.byContradiction fun hn => ?_
 have h3 : c z x ≤ 0 := by
  have := o.anti z x
  omega
 have h4 := o.trans y z x h2 h3
 omega
theorem Ord.tle (o : Ord c) {x y z : α} (h1 : c x y ≤ 0) (h2 : c y z < 0) : c x z < 0 := by
 have b := o.anti y z
 refine Classical.byContradiction fun hn => ?_
 have h3 : c z x ≤ 0 := by
  have := o.anti z x
  have := o.anti x z
  omega
 have h4 := o.trans z x y h3 h1
 omega
def Lt (c : α → α → Int) (a b : α × Nat) : Prop := c a.1 b.1 < 0 ∨ (c a.1 b.1 = 0 ∧ a.2 < b.2)
theorem Lt.le {a b : α × Nat} (h : Lt c a b) : c a.1 b.1 ≤ 0 := by
 rcases h with h | ⟨h, _⟩ <;> omega
theorem Lt.irr (o : Ord c) {a b : α × Nat} (h : Lt c a b) : ¬ Lt c b a := by
 have h1 := o.anti a.1 b.1
 have h2 := o.anti b.1 a.1
 unfold Lt at *
 omega
theorem Lt.trans (o : Ord c) {x y z : α × Nat} (h1 : Lt c x y) (h2 : Lt c y z) : Lt c x z := by
 rcases h1 with h1 | ⟨h1, g1⟩
 ·exact .inl (o.tlt h1 h2.le)
 ·rcases h2 with h2 | ⟨h2, g2⟩
  ·exact .inl (o.tle (by omega) h2)
  ·refine .inr ⟨?_, by omega⟩
   have a := o.trans x.1 y.1 z.1 (by omega) (by omega)
   have b := o.trans z.1 y.1 x.1 (by have := o.zero h2; omega) (by have := o.zero h1; omega)
   have := o.anti x.1 z.1
   have := o.anti z.1 x.1
   omega
def Sd (c : α → α → Int) (l : List (α × Nat)) : Prop := l.Pairwise (Lt c)
theorem Sd.perm_eq (o : Ord c) {l m : List (α × Nat)} (h1 : Sd c l) (h2 : Sd c m) (hp : l.Perm m) : l = m :=
 List.Perm.eq_of_pairwise (le := fun a b => a = b ∨ Lt c a b) (fun a b _ _ h3 h4 => by
  rcases h3 with rfl | h3
  ·rfl
  ·rcases h4 with h4 | h4
   ·exact h4.symm
   ·exact absurd h4 (h3.irr o)) (h1.imp fun h => .inr h) (h2.imp fun h => .inr h) hp
theorem cut_sd (o : Ord c) {u1 u2 v1 v2 : List (α × Nat)} (hu : Sd c (u1 ++ u2)) (hv : Sd c (v1 ++ v2)) (ht : ∀ x ∈ u1 ++ u2, ∀ y ∈ v1 ++ v2, x.2 < y.2)
 (h1 : ∀ x y, u1.getLast? = some x → v2.head? = some y → c x.1 y.1 ≤ 0) (h2 : ∀ x y, u2.head? = some x → v1.getLast? = some y → c y.1 x.1 < 0) :
 ∀ x ∈ u1 ++ v1, ∀ y ∈ u2 ++ v2, Lt c x y := by
 have hu' := List.pairwise_append.1 hu
 have hv' := List.pairwise_append.1 hv
 have last : ∀ (l : List (α × Nat)) (x : α × Nat), Sd c l → x ∈ l → ∃ z, l.getLast? = some z ∧ (x = z ∨ Lt c x z) := by
  intro l x hs hx
  obtain ⟨l', z, rfl⟩ : ∃ l' z, l = l' ++ [z] := by
   rcases List.eq_nil_or_concat l with rfl | ⟨l', z, rfl⟩
   ·cases hx
   ·exact ⟨l', z, by simp⟩
  refine ⟨z, by simp, ?_⟩
  rcases List.mem_append.1 hx with h | h
  ·exact .inr ((List.pairwise_append.1 hs).2.2 x h z (by simp))
  ·exact .inl (by simpa using h)
 have first : ∀ (l : List (α × Nat)) (x : α × Nat), Sd c l → x ∈ l → ∃ z, l.head? = some z ∧ (x = z ∨ Lt c z x) := by
  intro l x hs hx
  cases l with
  | nil => cases hx
  | cons z r =>
    refine ⟨z, rfl, ?_⟩
    rcases List.mem_cons.1 hx with h | h
    ·exact .inl h
    ·exact .inr ((List.pairwise_cons.1 hs).1 x h)
 have le0 : ∀ {x z : α × Nat}, (x = z ∨ Lt c x z) → c x.1 z.1 ≤ 0 := by
  intro x z h
  rcases h with rfl | h
  ·rw [o.refl0]; exact Int.le_refl _
  ·exact h.le
 intro x hx y hy
 rcases List.mem_append.1 hx with hx | hx <;> rcases List.mem_append.1 hy with hy | hy
 ·exact hu'.2.2 x hx y hy
 ·obtain ⟨z, hz, hxz⟩ := last u1 x hu'.1 hx
  obtain ⟨w, hw, hyw⟩ := first v2 y hv'.2.1 hy
  have ha := h1 z w hz hw
  have hb : c w.1 y.1 ≤ 0 := by
   rcases hyw with rfl | h
   ·rw [o.refl0]; exact Int.le_refl _
   ·exact h.le
  have hc := o.trans _ _ _ (o.trans _ _ _ (le0 hxz) ha) hb
  have hn := ht x (by simp [hx]) y (by simp [hy])
  unfold Lt
  omega
 ·obtain ⟨z, hz, hyz⟩ := last v1 x hv'.1 hx
  obtain ⟨w, hw, hxw⟩ := first u2 y hu'.2.1 hy
  have ha := h2 w z hw hz
  have hb : c w.1 y.1 ≤ 0 := by
   rcases hxw with rfl | h
   ·rw [o.refl0]; exact Int.le_refl _
   ·exact h.le
  exact .inl (o.tlt (o.tle (le0 hyz) ha) hb)
 ·exact hv'.2.2 x hx y hy
noncomputable def srt (c : α → α → Int) (l : List (α × Nat)) : List (α × Nat) := by
 classical
 exact if h : ∃ m : List (α × Nat), m.Perm l ∧ Sd c m then h.choose else l
theorem srt_eq (o : Ord c) {l m : List (α × Nat)} (hp : m.Perm l) (hs : Sd c m) : srt c l = m := by
 have h : ∃ m : List (α × Nat), m.Perm l ∧ Sd c m := ⟨m, hp, hs⟩
 unfold srt
 rw [dif_pos h]
 exact Sd.perm_eq o h.choose_spec.2 hs (h.choose_spec.1.trans hp.symm)
def insR (c : α → α → Int) (x : α) : List α → List α
 | [] => [x]
 | y :: q => if c x y < 0 then insR c x q ++ [y] else q.reverse ++ [y, x]
theorem insR_cons (x y : α) (q : List α) : insR c x (y :: q) = if c x y < 0 then insR c x q ++ [y] else q.reverse ++ [y, x] := rfl
def insAll (c : α → α → Int) : List α → List α → List α
 | s, [] => s
 | s, x :: t => insAll c (insR c x s.reverse) t
def isort (c : α → α → Int) : List α → List α
 | [] => []
 | x :: t => insAll c [x] t
theorem insR_len (x : α) : ∀ q : List α, (insR c x q).length = q.length + 1
 | [] => rfl
 | y :: q => by
   unfold insR
   split
   ·rw [List.length_append, insR_len x q]; simp
   ·simp
theorem insR_mem (x z : α) : ∀ q : List α, z ∈ insR c x q ↔ z = x ∨ z ∈ q
 | [] => by simp [insR]
 | y :: q => by
   unfold insR
   split
   ·rw [List.mem_append, insR_mem x z q]
    simp only [List.mem_cons, List.not_mem_nil, or_false, or_assoc]
    exact ⟨fun h => by rcases h with h | h | h <;> simp [h], fun h => by rcases h with h | h | h <;> simp [h]⟩
   ·simp only [List.mem_append, List.mem_reverse, List.mem_cons, List.not_mem_nil, or_false]
    exact ⟨fun h => by rcases h with h | h | h <;> simp [h], fun h => by rcases h with h | h | h <;> simp [h]⟩
abbrev cT (c : α → α → Int) : α × Nat → α × Nat → Int := fun a b => c a.1 b.1
theorem insR_map (x : α × Nat) : ∀ q : List (α × Nat), (insR (cT c) x q).map (·.1) = insR c x.1 (q.map (·.1))
 | [] => rfl
 | y :: q => by
   have ih := insR_map x q
   simp only [insR, List.map_cons]
   split
   ·rw [List.map_append, ih]; rfl
   ·rw [List.map_append, List.map_reverse]; rfl
theorem insR_perm (x : α) : ∀ q : List α, (insR c x q).Perm (q.reverse ++ [x])
 | [] => List.Perm.refl _
 | y :: q => by
   unfold insR
   split
   ·refine ((insR_perm x q).append_right [y]).trans ?_
    rw [List.reverse_cons, List.append_assoc, List.append_assoc]
    exact List.Perm.append_left _ (List.Perm.swap _ _ [])
   ·rw [List.reverse_cons, List.append_assoc]
    exact List.Perm.refl _
theorem insR_sd (o : Ord c) (x : α × Nat) : ∀ q : List (α × Nat), Sd c q.reverse → (∀ y ∈ q, y.2 < x.2) → Sd c (insR (cT c) x q)
 | [], _, _ => by simp [insR, Sd]
 | y :: q, hs, ht => by
   have hs' := hs
   unfold Sd at hs'
   rw [List.reverse_cons, List.pairwise_append] at hs'
   unfold insR
   split
   ·rename_i hc
    have ih := insR_sd o x q hs'.1 fun z hz => ht z (by simp [hz])
    refine List.pairwise_append.2 ⟨ih, by simp, fun a ha b hb => ?_⟩
    simp only [List.mem_cons, List.not_mem_nil, or_false] at hb
    subst hb
    rcases (insR_mem x a q).1 ha with rfl | ha
    ·exact .inl hc
    ·exact hs'.2.2 a (by simp [ha]) b (by simp)
   ·rename_i hc
    have hyx : Lt c y x := by
     have h1 := o.anti y.1 x.1
     have h2 := o.anti x.1 y.1
     have h3 := ht y (by simp)
     have h4 : ¬ c x.1 y.1 < 0 := hc
     unfold Lt
     omega
    refine List.pairwise_append.2 ⟨hs'.1, by simp [hyx], fun a ha b hb => ?_⟩
    have hay := hs'.2.2 a ha y (by simp)
    simp only [List.mem_cons, List.not_mem_nil, or_false] at hb
    rcases hb with rfl | rfl
    ·exact hay
    ·exact hay.trans o hyx
theorem insAll_len : ∀ (t s : List α), (insAll c s t).length = s.length + t.length
 | [], s => rfl
 | x :: t, s => by
   unfold insAll
   rw [insAll_len t, insR_len, List.length_reverse, List.length_cons]
   omega
theorem insAll_map : ∀ (t s : List (α × Nat)), (insAll (cT c) s t).map (·.1) = insAll c (s.map (·.1)) (t.map (·.1))
 | [], s => rfl
 | x :: t, s => by
   show (insAll (cT c) (insR (cT c) x s.reverse) t).map (·.1) = insAll c (insR c x.1 (s.map (·.1)).reverse) (t.map (·.1))
   rw [insAll_map t, insR_map, List.map_reverse]
theorem insAll_ok (o : Ord c) : ∀ (t s : List (α × Nat)), Sd c s → (s ++ t).Pairwise (fun a b => a.2 < b.2) ∨ (∀ x ∈ s, ∀ y ∈ t, x.2 < y.2) ∧ t.Pairwise (fun a b => a.2 < b.2) →
 Sd c (insAll (cT c) s t) ∧ (insAll (cT c) s t).Perm (s ++ t)
 | [], s, hs, _ => ⟨hs, by simp [insAll]⟩
 | x :: t, s, hs, ht => by
   have ht' : (∀ y ∈ s, ∀ z ∈ x :: t, y.2 < z.2) ∧ (x :: t).Pairwise (fun a b => a.2 < b.2) := by
    rcases ht with ht | ht
    ·rw [List.pairwise_append] at ht
     exact ⟨ht.2.2, ht.2.1⟩
    ·exact ht
   have hp := insR_perm (c := cT c) x s.reverse
   rw [List.reverse_reverse] at hp
   have ih := insAll_ok o t (insR (cT c) x s.reverse) (insR_sd o x s.reverse (by rw [List.reverse_reverse]; exact hs) fun y hy => ht'.1 y (by simpa using hy) x (by simp)) (.inr ⟨fun y hy z hz => by
    rcases (insR_mem x y _).1 hy with rfl | hy
    ·exact (List.pairwise_cons.1 ht'.2).1 z hz
    ·exact ht'.1 y (by simpa using hy) z (by simp [hz]), (List.pairwise_cons.1 ht'.2).2⟩)
   refine ⟨ih.1, ih.2.trans ?_⟩
   refine (hp.append_right t).trans ?_
   rw [List.append_assoc]
   exact List.Perm.refl _
theorem isort_map (l : List (α × Nat)) : (isort (cT c) l).map (·.1) = isort c (l.map (·.1)) := by
 cases l with
 | nil => rfl
 | cons x t => exact insAll_map t [x]
theorem isort_len (l : List α) : (isort c l).length = l.length := by
 cases l with
 | nil => rfl
 | cons x t => exact (insAll_len t [x]).trans (by simp; omega)
theorem isort_srt (o : Ord c) (l : List (α × Nat)) (h : l.Pairwise fun a b => a.2 < b.2) : Sd c (isort (cT c) l) ∧ (isort (cT c) l).Perm l := by
 cases l with
 | nil => exact ⟨List.Pairwise.nil, List.Perm.refl _⟩
 | cons x t => exact insAll_ok o t [x] (by simp [Sd]) (.inl h)
theorem last_take {β : Type} {l : List β} {k : Nat} {x : β} (h : (l.take k).getLast? = some x) (hk : k ≤ l.length) : 0 < k ∧ l[k - 1]? = some x := by
 rw [List.getLast?_eq_getElem?, List.length_take, Nat.min_eq_left hk] at h
 have h0 : 0 < k := by
  refine Nat.pos_of_ne_zero fun e => ?_
  subst e
  simp at h
 rw [List.getElem?_take] at h
 split at h
 ·exact ⟨h0, h⟩
 ·cases h
theorem head_drop {β : Type} {l : List β} {k : Nat} {x : β} (h : (l.drop k).head? = some x) : l[k]? = some x := by
 rwa [List.head?_drop] at h
theorem search_ok (o : Ord c) {u v : List (α × Nat)} {a m b mid s : Nat} (g : Nat → α) (hm : m = a + u.length) (hb : b = m + v.length) (hgu : ∀ k x, u[k]? = some x → g (a + k) = x.1) (hgv : ∀ k y, v[k]? = some y → g (m + k) = y.1)
 (hu : Sd c u) (hv : Sd c v) (ht : ∀ x ∈ u, ∀ y ∈ v, x.2 < y.2) (h3 : 2 * mid ≤ a + b) (h4 : a + b < 2 * mid + 2) {i j : Nat} (hi : i = if mid < m then mid + m - b else a) (hj : j = if mid < m then mid else m)
 (his : i ≤ s) (hsj : s ≤ j) (q1 : s = i ∨ ¬ c (g (mid + m - 1 - (s - 1))) (g (s - 1)) < 0) (q2 : s = j ∨ ¬ ¬ c (g (mid + m - 1 - s)) (g s) < 0) :
 a ≤ s ∧ s ≤ m ∧ m ≤ mid + m - s ∧ mid + m - s ≤ b ∧ ∀ x ∈ u.take (s - a) ++ v.take (mid + m - s - m), ∀ y ∈ u.drop (s - a) ++ v.drop (mid + m - s - m), Lt c x y := by
 have hl : a ≤ s ∧ s ≤ m ∧ m ≤ mid + m - s ∧ mid + m - s ≤ b := by
  split at hi
  ·rename_i h
   rw [if_pos h] at hj
   omega
  ·rename_i h
   rw [if_neg h] at hj
   omega
 refine ⟨hl.1, hl.2.1, hl.2.2.1, hl.2.2.2, ?_⟩
 refine cut_sd o (by rwa [List.take_append_drop]) (by rwa [List.take_append_drop]) (by rwa [List.take_append_drop, List.take_append_drop]) ?_ ?_
 ·intro x y hx hy
  obtain ⟨k0, hx⟩ := last_take hx (by omega)
  have hy := head_drop hy
  have gx := hgu _ _ hx
  have gy := hgv _ _ hy
  have hy2 := (List.getElem?_eq_some_iff.1 hy).1
  rw [show a + (s - a - 1) = s - 1 by omega] at gx
  rw [show m + (mid + m - s - m) = mid + m - 1 - (s - 1) by omega] at gy
  rcases q1 with q1 | q1
  ·exfalso
   split at hi <;> omega
  ·rw [gx, gy] at q1
   have := o.anti y.1 x.1
   have := o.anti x.1 y.1
   omega
 ·intro x y hx hy
  have hx := head_drop hx
  obtain ⟨k0, hy⟩ := last_take hy (by omega)
  have gx := hgu _ _ hx
  have gy := hgv _ _ hy
  have hx2 := (List.getElem?_eq_some_iff.1 hx).1
  rw [show a + (s - a) = s by omega] at gx
  rw [show m + (mid + m - s - m - 1) = mid + m - 1 - s by omega] at gy
  rcases q2 with q2 | q2
  ·exfalso
   split at hj <;> omega
  ·rw [gx, gy] at q2
   exact Classical.not_not.1 q2
theorem one_left (o : Ord c) {x : α × Nat} {v1 v2 : List (α × Nat)} (hv : Sd c (v1 ++ v2)) (ht : ∀ y ∈ v1 ++ v2, x.2 < y.2) (h1 : ∀ y, v2.head? = some y → c x.1 y.1 ≤ 0) (h2 : ∀ y, v1.getLast? = some y → c y.1 x.1 < 0) : Sd c (v1 ++ x :: v2) := by
 have hA := cut_sd o (u1 := []) (u2 := [x]) (v1 := v1) (v2 := v2) (by simp [Sd]) hv (by simpa using ht) (by simp) (fun a b ha hb => by simp at ha; subst ha; exact h2 b hb)
 have hB := cut_sd o (u1 := [x]) (u2 := []) (v1 := []) (v2 := v2) (by simp [Sd]) (List.pairwise_append.1 hv).2.1 (by intro a ha y hy; simp at ha; subst ha; exact ht y (by simp at hy; simp [hy])) (fun a b ha hb => by simp at ha; subst ha; exact h1 b hb) (by simp)
 have hv' := List.pairwise_append.1 hv
 refine List.pairwise_append.2 ⟨hv'.1, List.pairwise_cons.2 ⟨fun y hy => hB x (by simp) y (by simpa using hy), hv'.2.1⟩, fun a ha y hy => hA a (by simpa using ha) y (by simpa using hy)⟩
theorem one_right (o : Ord c) {x : α × Nat} {u1 u2 : List (α × Nat)} (hu : Sd c (u1 ++ u2)) (ht : ∀ y ∈ u1 ++ u2, y.2 < x.2) (h1 : ∀ y, u1.getLast? = some y → c y.1 x.1 ≤ 0) (h2 : ∀ y, u2.head? = some y → c x.1 y.1 < 0) : Sd c (u1 ++ x :: u2) := by
 have hA := cut_sd o (u1 := u1) (u2 := u2) (v1 := [x]) (v2 := []) hu (by simp [Sd]) (by intro a ha y hy; simp at hy; subst hy; exact ht a ha) (by simp) (fun a b ha hb => by simp at hb; subst hb; exact h2 a ha)
 have hB := cut_sd o (u1 := u1) (u2 := []) (v1 := []) (v2 := [x]) (by rw [List.append_nil]; exact (List.pairwise_append.1 hu).1) (by simp [Sd]) (by intro a ha y hy; simp at hy ha; subst hy; exact ht a (by simp [ha])) (fun a b ha hb => by simp at hb; subst hb; exact h1 a ha) (by simp)
 have hu' := List.pairwise_append.1 hu
 refine List.pairwise_append.2 ⟨hu'.1, List.pairwise_cons.2 ⟨fun y hy => hA x (by simp) y (by simp [hy]), hu'.2.1⟩, fun a ha y hy => ?_⟩
 rcases List.mem_cons.1 hy with rfl | hy
 ·exact hB a (by simp [ha]) y (by simp)
 ·exact hu'.2.2 a ha y hy
inductive Blk (c : α → α → Int) (bs : Nat) : List (α × Nat) → List (α × Nat) → Prop
 | last {T W : List (α × Nat)} : T.length ≤ bs → Sd c W → W.Perm T → Blk c bs T W
 | more {T1 T2 W1 W2 : List (α × Nat)} : T1.length = bs → Sd c W1 → W1.Perm T1 → Blk c bs T2 W2 → Blk c bs (T1 ++ T2) (W1 ++ W2)
theorem Blk.perm {bs : Nat} {T W : List (α × Nat)} (h : Blk c bs T W) : W.Perm T := by
 induction h with
 | last _ _ h => exact h
 | more _ _ h _ ih => exact h.append ih
theorem Blk.len {bs : Nat} {T W : List (α × Nat)} (h : Blk c bs T W) : W.length = T.length := h.perm.length_eq
theorem Blk.small {bs : Nat} {T W : List (α × Nat)} (h : Blk c bs T W) (hl : T.length ≤ bs) : Sd c W := by
 cases h with
 | last _ h _ => exact h
 | more h1 h2 h3 h4 =>
   rename_i T1 T2 W1 W2
   have : T2 = [] := List.eq_nil_of_length_eq_zero (by rw [List.length_append] at hl; omega)
   have e := h4.len
   rw [this] at e
   have : W2 = [] := List.eq_nil_of_length_eq_zero (by simpa using e)
   rw [this, List.append_nil]
   exact h2
theorem Blk.split1 {bs : Nat} {T W : List (α × Nat)} (h : Blk c bs T W) (hl : bs < T.length) : ∃ T1 T2 W1 W2, T = T1 ++ T2 ∧ W = W1 ++ W2 ∧ T1.length = bs ∧ Sd c W1 ∧ W1.Perm T1 ∧ Blk c bs T2 W2 := by
 cases h with
 | last h _ _ => omega
 | more h1 h2 h3 h4 => exact ⟨_, _, _, _, rfl, rfl, h1, h2, h3, h4⟩
inductive Ful (c : α → α → Int) (bs : Nat) : List (α × Nat) → List (α × Nat) → Prop
 | nil : Ful c bs [] []
 | more {T1 T2 W1 W2 : List (α × Nat)} : T1.length = bs → Sd c W1 → W1.Perm T1 → Ful c bs T2 W2 → Ful c bs (T1 ++ T2) (W1 ++ W2)
theorem Ful.blk {bs : Nat} {T W T3 X : List (α × Nat)} (h : Ful c bs T W) (hx : Blk c bs T3 X) : Blk c bs (T ++ T3) (W ++ X) := by
 induction h with
 | nil => exact hx
 | more h1 h2 h3 _ ih =>
   rw [List.append_assoc, List.append_assoc]
   exact .more h1 h2 h3 ih
theorem Ful.len {bs : Nat} {T W : List (α × Nat)} (h : Ful c bs T W) : W.length = T.length := by
 induction h with
 | nil => rfl
 | more _ _ h _ ih => rw [List.length_append, List.length_append, ih, h.length_eq]
theorem Ful.perm {bs : Nat} {T W : List (α × Nat)} (h : Ful c bs T W) : W.Perm T := by
 induction h with
 | nil => exact List.Perm.refl _
 | more _ _ h _ ih => exact h.append ih
end Srt

namespace Go.Proofs.YtlakiipofcibhaaGreatDoor
open Go Sz
def Row (os : List AObj) (k : Nat) (l : List Tm) : List AObj := os.set k (.row (flatT l))
def stA (h : Heap) (n : Nat) (p v : AV) : Option (AV × Heap) := match p, v.cells? with
 | .ptr id off, some vs => match h.row id with
   | some cs => if vs.length = n ∧ off + n ≤ cs.length then some (.undef, (h.set id (.row (putAt cs off vs))).mark id v) else none
   | none => none
 | _, _ => none
theorem evOp_stA (fr : List AV) (h : Heap) (n : Nat) (x v : Opd) : evOp fr h (.st n x v) = stA h n (x.ev fr) (v.ev fr) := rfl
theorem flatT_append (a b : List Tm) : flatT (a ++ b) = flatT a ++ flatT b := by simp [flatT]
theorem cells_len (x : Tm) : x.cells.length = 4 := rfl
theorem cells_take (x : Tm) (r : List AV) : (x.cells ++ r).take 4 = x.cells := rfl
theorem cells_drop (x : Tm) (r : List AV) : (x.cells ++ r).drop 4 = r := rfl
theorem drop_past (a : List AV) (x : Tm) (r : List AV) : (a ++ (x.cells ++ r)).drop (a.length + 4) = r := by
 rw [← List.drop_drop, List.drop_left, cells_drop]
theorem flatT_set (l : List Tm) (j : Nat) (y : Tm) (hj : j < l.length) : putAt (flatT l) (j * 4) y.cells = flatT (l.set j y) := by
 have h1 : l = l.take j ++ l[j] :: l.drop (j + 1) := by simp
 have h2 : l.set j y = l.take j ++ y :: l.drop (j + 1) := List.set_eq_take_append_cons_drop.trans (by rw [if_pos hj])
 have hl : (flatT (l.take j)).length = j * 4 := by rw [flatT_len, List.length_take, Nat.min_eq_left (by omega)]
 rw [h2, flatT_append]
 conv => lhs; rw [h1, flatT_append]
 have e1 : flatT (l[j] :: l.drop (j + 1)) = l[j].cells ++ flatT (l.drop (j + 1)) := rfl
 have e2 : flatT (y :: l.drop (j + 1)) = y.cells ++ flatT (l.drop (j + 1)) := rfl
 rw [e1, e2, ← hl, putAt_eq _ _ _ (by simp [cells_len])]
 rw [List.take_left, cells_len, drop_past, List.append_assoc]
theorem flatT_get (l : List Tm) (j : Nat) : (if j * 4 + 4 ≤ (flatT l).length then some (AV.agg (((flatT l).drop (j * 4)).take 4)) else none) = (l[j]?).map Tm.enc := by
 rw [flatT_len]
 by_cases hj : j < l.length
 ·have h1 : l = l.take j ++ l[j] :: l.drop (j + 1) := by simp
  have hl : (flatT (l.take j)).length = j * 4 := by rw [flatT_len, List.length_take, Nat.min_eq_left (by omega)]
  rw [if_pos (by omega), List.getElem?_eq_getElem hj]
  conv => lhs; rw [h1, flatT_append]
  have e1 : flatT (l[j] :: l.drop (j + 1)) = l[j].cells ++ flatT (l.drop (j + 1)) := rfl
  rw [e1, ← hl]
  rw [List.drop_left, cells_take]
  simp [Tm.enc_eq]
 ·rw [if_neg (by omega), List.getElem?_eq_none (by omega)]
  rfl
section
variable {nx V : Nat} {os : List AObj}
theorem Row_get (hV : V < nx) (hos : nx - 1 - V < os.length) (l : List Tm) (wl md : Nat) : Heap.get ⟨nx, Row os (nx - 1 - V) l, wl, md⟩ V = some (.row (flatT l)) := by
 simp [Heap.get, hV, Row, hos]
theorem ldA_row (hV : V < nx) (hos : nx - 1 - V < os.length) (l : List Tm) (j wl md : Nat) : ldA ⟨nx, Row os (nx - 1 - V) l, wl, md⟩ (some 4) (.ptr V (j * 4)) = (l[j]?).map Tm.enc := by
 simp only [ldA, Heap.row, Row_get hV hos]
 exact flatT_get l j
theorem Row_set (l l' : List Tm) (k : Nat) : (Row os k l).set k (.row (flatT l')) = Row os k l' := by simp [Row]
theorem stA_row (hV : V < nx) (hos : nx - 1 - V < os.length) (l : List Tm) (j wl md : Nat) (y : Tm) (hj : j < l.length) :
 stA ⟨nx, Row os (nx - 1 - V) l, wl, md⟩ 4 (.ptr V (j * 4)) y.enc = some (.undef, ⟨nx, Row os (nx - 1 - V) (l.set j y), wl, min md V⟩) := by
 have hc : y.enc.cells? = some y.cells := by rw [Tm.enc_eq]; rfl
 have hle : j * 4 + 4 ≤ (flatT l).length := by rw [flatT_len]; omega
 have hr : y.enc.refs = 0 := Tm.enc_refs y
 simp only [stA, hc, Heap.row, Row_get hV hos, cells_len, hle, and_self, if_true, flatT_set l j y hj]
 simp [Heap.set, Heap.mark, hV, Row_set, hr]
end
end Go.Proofs.YtlakiipofcibhaaGreatDoor

namespace Go.Proofs.YtlakiipofcibhaaGreatDoor
open Go Sz Srt
attribute [local simp] evCall_specK callS_nilK callS_oneFK spK_sK spK_nK frK_sK frK_nK evB_fmK
def CmpAt (C : Nat → List AV → Heap → Option (AV × Heap)) (f : Nat) (c : Tm → Tm → Int) (p : Tm → Prop) (nx V : Nat) (os : List AObj) : Prop :=
 ∀ x y, p x → p y → ∀ l wl md, C f [x.enc, y.enc] ⟨nx, Row os (nx - 1 - V) l, wl, md⟩ = some (.int .i64 (c x y), ⟨nx, Row os (nx - 1 - V) l, wl, md⟩)
theorem c117_in (C : Nat → List AV → Heap → Option (AV × Heap)) (n f : Nat) (c : Tm → Tm → Int) (p : Tm → Prop) (nx V : Nat) (os : List AObj) (hV : V < nx) (hos : nx - 1 - V < os.length) (hC : CmpAt C f c p nx V os)
 (N lb : Nat) (hN : N < 1000000000) (b i : Int) : ∀ (Q : List Tm) (x : Tm) (P B L : List Tm) (m md : Nat), L = P ++ (Q.reverse ++ x :: B) → L.length = N → p x → (∀ y ∈ Q, p y) → Q.length < m →
 ∃ md', aft nx nx (loopH (evCode C n c117_b0) c117_m0 nx m (c117_f0 (.vec V 0 N 4 lb) (.int .i64 P.length) (.int .i64 b) (.fn f []) (.int .i64 i) (.int .i64 (P.length + Q.length : Nat))) ⟨nx, Row os (nx - 1 - V) L, nx, md⟩) =
   some (.exit 2, FM 53 [(0, .vec V 0 N 4 lb), (1, .int .i64 P.length), (2, .int .i64 b), (3, .fn f []), (8, .int .i64 i)], ⟨nx, Row os (nx - 1 - V) (P ++ insR c x Q ++ B), nx, md'⟩)
 | [], x, P, B, L, m + 1, md, e, hl, hx, hq, hm => by
   have e1 : L = P ++ insR c x [] ++ B := by simp [e, insR]
   refine ⟨md, ?_⟩
   rw [← e1]
   have hv : (V + 1 ≤ nx) = True := eq_true (by omega)
   have hv' : (nx ≤ V) = False := eq_false (by omega)
   simp [-ldA, loopH_succ, c117_b0, hv, hv', hV]
 | y :: Q, x, P, B, L, m + 1, md, e, hl, hx, hq, hm => by
   have hv : (V + 1 ≤ nx) = True := eq_true (by omega)
   have hv' : (nx ≤ V) = False := eq_false (by omega)
   have hlen : P.length + (Q.length + 1) < N := by rw [← hl, e]; simp
   have e2 : L = (P ++ Q.reverse) ++ y :: x :: B := by simp [e]
   have gx : L[P.length + (Q.length + 1)]? = some x := by
    rw [e2, List.getElem?_append_right (by simp)]
    simp [show P.length + (Q.length + 1) - (P.length + Q.length) = 1 by omega]
   have gy : L[P.length + Q.length]? = some y := by
    rw [e2, List.getElem?_append_right (by simp)]
    simp
   have hc := hC x y hx (hq y (by simp))
   have hld := fun (wl md : Nat) => ldA_row hV hos L (P.length + (Q.length + 1)) wl md
   have hld2 := fun (wl md : Nat) => ldA_row hV hos L (P.length + Q.length) wl md
   have c1 : ((P.length : Int) < (P.length : Int) + ((Q.length : Int) + 1)) = True := eq_true (by omega)
   have c2 : ((P.length : Int) + ((Q.length : Int) + 1) < (N : Int)) = True := eq_true (by omega)
   have c3 : (0 ≤ (P.length : Int) + ((Q.length : Int) + 1)) = True := eq_true (by omega)
   have c4 : ((P.length : Int) + ((Q.length : Int) + 1)).toNat = P.length + (Q.length + 1) := by omega
   have c5 : IntKind.i64.wrap ((P.length : Int) + ((Q.length : Int) + 1) - 1) = (P.length : Int) + (Q.length : Int) := by rw [wrap_i64 (by omega) (by omega)]; omega
   have c6 : ((P.length : Int) + (Q.length : Int) < (N : Int)) = True := eq_true (by omega)
   have c7 : (0 ≤ (P.length : Int) + (Q.length : Int)) = True := eq_true (by omega)
   have c8 : ((P.length : Int) + (Q.length : Int)).toNat = P.length + Q.length := by omega
   rw [loopH_succ]
   by_cases hxy : c x y < 0
   ·have hxy' : (c x y < 0) = True := eq_true hxy
    have e3 : (L.set (P.length + (Q.length + 1)) y).set (P.length + Q.length) x = P ++ (Q.reverse ++ x :: (y :: B)) := by
     rw [e2, List.set_append_right _ _ (by simp)]
     simp only [List.length_append, List.length_reverse, show P.length + (Q.length + 1) - (P.length + Q.length) = 1 by omega]
     rw [List.set_append_right _ _ (by simp)]
     simp
    obtain ⟨md', ih⟩ := c117_in C n f c p nx V os hV hos hC N lb hN b i Q x P (y :: B) _ m (min (min md V) V) e3 (by simp [hl]) hx (fun z hz => hq z (by simp [hz])) (by simp at hm; omega)
    refine ⟨md', ?_⟩
    have hst := fun (wl md : Nat) => stA_row hV hos L (P.length + (Q.length + 1)) wl md y (by omega)
    have hst2 := fun (wl md : Nat) => stA_row hV hos (L.set (P.length + (Q.length + 1)) y) (P.length + Q.length) wl md x (by simp; omega)
    have eP : P ++ insR c x (y :: Q) ++ B = P ++ insR c x Q ++ y :: B := by rw [insR_cons, if_pos hxy]; simp
    rw [eP]
    simp [-ldA, -evOp_st, evOp_stA, c117_b0, c117_m0, hv, hv', hV, hld, hld2, gx, gy, c1, c2, c3, c4, c5, c6, c7, c8, hc, hxy', hst, hst2]
    rw [Int.natCast_add, show min (min md V) V = min md V by omega] at ih
    simp only [List.append_assoc] at ih
    exact ih
   ·have hxy' : (c x y < 0) = False := eq_false hxy
    refine ⟨md, ?_⟩
    have e1 : L = P ++ insR c x (y :: Q) ++ B := by rw [insR_cons, if_neg hxy, e]; simp
    rw [← e1]
    simp [-ldA, -evOp_st, evOp_stA, c117_b0, hv, hv', hV, hld, hld2, gx, gy, c1, c2, c3, c4, c5, c6, c7, c8, hc, hxy']
theorem c117_out (C : Nat → List AV → Heap → Option (AV × Heap)) (n f : Nat) (c : Tm → Tm → Int) (p : Tm → Prop) (nx V : Nat) (os : List AObj) (hV : V < nx) (hos : nx - 1 - V < os.length) (hC : CmpAt C f c p nx V os)
 (N lb : Nat) (hN : N < 1000000000) (hn : N < n) (P B : List Tm) : ∀ (T S L : List Tm) (m md : Nat), L = P ++ (S ++ (T ++ B)) → L.length = N → S ≠ [] → (∀ y ∈ S, p y) → (∀ y ∈ T, p y) → T.length < m →
 ∃ md', aft nx nx (loopH (evCode C n c117_b1) c117_m1 nx m (c117_f1 (.vec V 0 N 4 lb) (.int .i64 P.length) (.int .i64 (P.length + S.length + T.length : Nat)) (.fn f []) (.int .i64 (P.length + S.length : Nat))) ⟨nx, Row os (nx - 1 - V) L, nx, md⟩) =
   some (.exit 0, FM 53 [], ⟨nx, Row os (nx - 1 - V) (P ++ (insAll c S T ++ B)), nx, md'⟩)
 | [], S, L, m + 1, md, e, hl, hs, hp1, hp2, hm => by
   refine ⟨md, ?_⟩
   have hv : (V + 1 ≤ nx) = True := eq_true (by omega)
   have e1 : L = P ++ (insAll c S [] ++ B) := by simp [e, insAll]
   rw [← e1]
   simp [-ldA, loopH_succ, c117_b1, hv, hV]
 | x :: T, S, L, m + 1, md, e, hl, hs, hp1, hp2, hm => by
   have hv : (V + 1 ≤ nx) = True := eq_true (by omega)
   have hv' : (nx ≤ V) = False := eq_false (by omega)
   obtain ⟨md1, hin⟩ := c117_in C n f c p nx V os hV hos hC N lb hN (P.length + S.length + (x :: T).length : Nat) (P.length + S.length : Nat) S.reverse x P (T ++ B) L n md (by simp [e]) hl (hp2 x (by simp)) (fun z hz => hp1 z (by simpa using hz)) (by
    have : L.length = P.length + (S.length + (T.length + 1 + B.length)) := by rw [e]; simp; omega
    simp; omega)
   obtain ⟨md2, ih⟩ := c117_out C n f c p nx V os hV hos hC N lb hN hn P B T (insR c x S.reverse) _ m md1 rfl (by rw [← hl, e]; simp [insR_len]; omega) (fun h => by have := insR_len (c := c) x S.reverse; rw [h] at this; simp at this) (fun z hz => by
    rcases (insR_mem x z _).1 hz with rfl | hz
    ·exact hp2 z (by simp)
    ·exact hp1 z (by simpa using hz)) (fun z hz => hp2 z (by simp [hz])) (by simp at hm; omega)
   refine ⟨md2, ?_⟩
   have hL : P.length + (S.length + (T.length + 1 + B.length)) = N := by rw [← hl, e]; simp; omega
   simp only [c117_m0, insR_len, List.length_reverse, List.length_cons, Int.natCast_add, List.append_assoc] at hin ih
   simp at hin ih
   have c1 : ((P.length : Int) + (S.length : Int) < (P.length : Int) + (S.length : Int) + ((T.length : Int) + 1)) = True := eq_true (by omega)
   have c5 : IntKind.i64.wrap ((P.length : Int) + (S.length : Int) + 1) = (P.length : Int) + (S.length : Int) + 1 := wrap_i64 (by omega) (by omega)
   rw [loopH_succ]
   simp [-ldA, c117_b1, c117_m1, c117_m0, hv, hv', hV, c1, c5, hin]
   rw [show insAll c S (x :: T) = insAll c (insR c x S.reverse) T from rfl]
   rw [show (P.length : Int) + ((S.length : Int) + 1) + (T.length : Int) = (P.length : Int) + (S.length : Int) + ((T.length : Int) + 1) by omega, show (P.length : Int) + ((S.length : Int) + 1) = (P.length : Int) + (S.length : Int) + 1 by omega] at ih
   exact ih
def InsAt (C : Nat → List AV → Heap → Option (AV × Heap)) (f : Nat) (c : Tm → Tm → Int) (p : Tm → Prop) (nx V : Nat) (os : List AObj) (N lb : Nat) : Prop :=
 ∀ (P T B : List Tm) (wl md : Nat), (P ++ (T ++ B)).length = N → (∀ y ∈ T, p y) →
   ∃ md', C 117 [.vec V 0 N 4 lb, .int .i64 P.length, .int .i64 (P.length + T.length : Nat), .fn f []] ⟨nx, Row os (nx - 1 - V) (P ++ (T ++ B)), wl, md⟩ = some (.tuple [], ⟨nx, Row os (nx - 1 - V) (P ++ (isort c T ++ B)), wl, md'⟩)
theorem c117_ok (ss : List KSpec) (n f : Nat) (c : Tm → Tm → Int) (p : Tm → Prop) (nx V : Nat) (os : List AObj) (hV : V < nx) (hos : nx - 1 - V < os.length) (h117 : lookF (ss ++ clones) 117 = []) (hC : CmpAt (evCall (envK ss) n) f c p nx V os)
 (N lb : Nat) (hN : N < 1000000000) (hn : N < n) : InsAt (evCall (envK ss) (n + 1)) f c p nx V os N lb := fun P T B wl md hl hp => by
 have hv : (V + 1 ≤ nx) = True := eq_true (by omega)
 have hv' : (nx ≤ V) = False := eq_false (by omega)
 have hPN : P.length + (T.length + B.length) = N := by rw [← hl]; simp
 have c5 : IntKind.i64.wrap ((P.length : Int) + 1) = (P.length : Int) + 1 := wrap_i64 (by omega) (by omega)
 match T with
 | [] =>
   obtain ⟨m, hm⟩ : ∃ m, n = m + 1 := ⟨n - 1, by omega⟩
   subst hm
   refine ⟨md, ?_⟩
   have c1 : ((P.length : Int) + 1 < (P.length : Int)) = False := eq_false (by omega)
   simp [-ldA, run117K, c117, c117_m1, hv, hv', hV, c5, isort, loopH_succ, c117_b1, c1, h117, -lookF_cons, -clones]
 | x :: T =>
   obtain ⟨md1, hlp⟩ := c117_out (evCall (envK ss) n) n f c p nx V os hV hos hC N lb hN hn P B T [x] (P ++ (x :: T ++ B)) n nx (by simp) hl (by simp) (fun y hy => hp y (by simp at hy; simp [hy])) (fun y hy => hp y (by simp [hy])) (by simp at hPN; omega)
   simp only [c117_m1, List.length_cons, List.length_nil, Int.natCast_add, List.append_assoc] at hlp
   simp at hlp
   rw [show (P.length : Int) + 1 + (T.length : Int) = (P.length : Int) + ((T.length : Int) + 1) by omega] at hlp
   refine ⟨if md1 < nx then min md md1 else md, ?_⟩
   simp [-ldA, run117K, c117, c117_m1, hv, hv', hV, c5, isort, h117, -lookF_cons, -clones, hlp]
theorem c165_loop (C : Nat → List AV → Heap → Option (AV × Heap)) (n : Nat) (nx V : Nat) (os : List AObj) (hV : V < nx) (hos : nx - 1 - V < os.length)
 (N lb : Nat) (hN : N < 1000000000) (a b k : Int) (ha0 : 0 ≤ a) (hb0 : 0 ≤ b) : ∀ (U W P M B L : List Tm) (m md : Nat) (i : Int), 0 ≤ i → L = P ++ (U ++ (M ++ (W ++ B))) → L.length = N → U.length = W.length → a + i = P.length → b + i = (P.length + U.length + M.length : Nat) → i + U.length = k → U.length < m →
 ∃ md', aft nx nx (loopH (evCode C n c165_b0) c165_m0 nx m (c165_f0 (.vec V 0 N 4 lb) (.int .i64 a) (.int .i64 b) (.int .i64 k) (.int .i64 i)) ⟨nx, Row os (nx - 1 - V) L, nx, md⟩) =
   some (.exit 0, FM 38 [], ⟨nx, Row os (nx - 1 - V) (P ++ (W ++ (M ++ (U ++ B)))), nx, md'⟩)
 | [], [], P, M, B, L, m + 1, md, i, hi0, e, hl, hw, ha, hb, hk, hm => by
   refine ⟨md, ?_⟩
   have hv : (V + 1 ≤ nx) = True := eq_true (by omega)
   have e1 : P ++ ([] ++ (M ++ ([] ++ B))) = L := by simp [e]
   have c1 : (i < k) = False := eq_false (by simp at hk; omega)
   rw [e1]
   simp [-ldA, loopH_succ, c165_b0, hv, hV, c1]
 | [], y :: W, P, M, B, L, m, md, i, hi0, e, hl, hw, ha, hb, hk, hm => by simp at hw
 | x :: U, [], P, M, B, L, m, md, i, hi0, e, hl, hw, ha, hb, hk, hm => by simp at hw
 | x :: U, y :: W, P, M, B, L, m + 1, md, i, hi0, e, hl, hw, ha, hb, hk, hm => by
   have hv : (V + 1 ≤ nx) = True := eq_true (by omega)
   have hv' : (nx ≤ V) = False := eq_false (by omega)
   have hlen : P.length + (U.length + 1 + (M.length + (W.length + 1 + B.length))) = N := by rw [← hl, e]; simp; omega
   simp only [List.length_cons] at hw hb hk hm
   generalize hp : P.length = pl at *
   generalize hq : pl + (U.length + 1) + M.length = ql at *
   have gx : L[pl]? = some x := by
    rw [e, List.getElem?_append_right (by omega)]
    simp [hp]
   have gy : L[ql]? = some y := by
    rw [e, ← List.append_assoc, ← List.append_assoc, List.getElem?_append_right (by simp; omega)]
    have : ql - (P ++ x :: U ++ M).length = 0 := by simp; omega
    rw [this]
    rfl
   have e3 : (L.set pl y).set ql x = (P ++ [y]) ++ (U ++ ((M ++ [x]) ++ (W ++ B))) := by
    rw [e, List.set_append_right _ _ (by omega), hp, Nat.sub_self]
    simp only [List.cons_append, List.set_cons_zero]
    rw [List.set_append_right _ _ (by omega), show ql - P.length = (U.length + M.length) + 1 by omega, List.set_cons_succ, List.set_append_right _ _ (by omega), List.set_append_right _ _ (by omega)]
    simp [show U.length + M.length - U.length - M.length = 0 by omega]
   obtain ⟨md', ih⟩ := c165_loop C n nx V os hV hos N lb hN a b k ha0 hb0 U W (P ++ [y]) (M ++ [x]) B _ m (min (min md V) V) (i + 1) (by omega) e3 (by simp [hl]) (by omega) (by simp; omega) (by simp; omega) (by omega) (by omega)
   refine ⟨md', ?_⟩
   have hld := fun (wl md : Nat) => ldA_row hV hos L pl wl md
   have hld2 := fun (wl md : Nat) => ldA_row hV hos L ql wl md
   have hst := fun (wl md : Nat) => stA_row hV hos L pl wl md y (by omega)
   have hst2 := fun (wl md : Nat) => stA_row hV hos (L.set pl y) ql wl md x (by simp; omega)
   have c1 : (i < k) = True := eq_true (by omega)
   have c2 : IntKind.i64.wrap (a + i) = (pl : Int) := by rw [wrap_i64 (by omega) (by omega)]; omega
   have c3 : IntKind.i64.wrap (b + i) = (ql : Int) := by rw [wrap_i64 (by omega) (by omega)]; omega
   have c4 : ((pl : Int) < (N : Int)) = True := eq_true (by omega)
   have c5 : ((ql : Int) < (N : Int)) = True := eq_true (by omega)
   have c6 : IntKind.i64.wrap (i + 1) = i + 1 := wrap_i64 (by omega) (by omega)
   rw [loopH_succ]
   simp [-ldA, -evOp_st, evOp_stA, c165_b0, c165_m0, hv, hv', hV, hld, hld2, gx, gy, c1, c2, c3, c4, c5, c6, hst, hst2]
   rw [show min (min md V) V = min md V by omega] at ih
   simp only [List.append_assoc, List.singleton_append] at ih
   exact ih
def SwapAt (C : Nat → List AV → Heap → Option (AV × Heap)) (nx V : Nat) (os : List AObj) (N lb f : Nat) : Prop :=
 ∀ (P U M W B : List Tm) (wl md : Nat) (a b k : Int), (P ++ (U ++ (M ++ (W ++ B)))).length = N → U.length = W.length → a = P.length → b = (P.length + U.length + M.length : Nat) → k = U.length →
   ∃ md', C 165 [.vec V 0 N 4 lb, .int .i64 a, .int .i64 b, .int .i64 k, .fn f []] ⟨nx, Row os (nx - 1 - V) (P ++ (U ++ (M ++ (W ++ B)))), wl, md⟩ = some (.tuple [], ⟨nx, Row os (nx - 1 - V) (P ++ (W ++ (M ++ (U ++ B)))), wl, md'⟩)
theorem c165_ok (ss : List KSpec) (n : Nat) (nx V : Nat) (os : List AObj) (hV : V < nx) (hos : nx - 1 - V < os.length) (h165 : lookF (ss ++ clones) 165 = [])
 (N lb f : Nat) (hN : N < 1000000000) (hn : N < n) : SwapAt (evCall (envK ss) (n + 1)) nx V os N lb f := fun P U M W B wl md a b k hl hw ha hb hk => by
 have hv : (V + 1 ≤ nx) = True := eq_true (by omega)
 have hv' : (nx ≤ V) = False := eq_false (by omega)
 have hUN : U.length ≤ N := by rw [← hl]; simp; omega
 obtain ⟨md1, hlp⟩ := c165_loop (evCall (envK ss) n) n nx V os hV hos N lb hN a b k (by omega) (by omega) U W P M B _ n nx 0 (by omega) rfl hl hw (by omega) (by omega) (by omega) (by omega)
 simp only [c165_m0] at hlp
 refine ⟨if md1 < nx then min md md1 else md, ?_⟩
 simp [-ldA, run165K, c165, c165_m0, hv, hv', hV, h165, -lookF_cons, -clones, hlp]
theorem c151_loop (C : Nat → List AV → Heap → Option (AV × Heap)) (n f : Nat) (nx V : Nat) (os : List AObj) (hV : V < nx) (hos : nx - 1 - V < os.length)
 (N lb : Nat) (hN : N < 1000000000) (hC : SwapAt C nx V os N lb f) (mm : Int) : ∀ (m : Nat) (P u v B L : List Tm) (md : Nat) (i j : Int), L = P ++ (u ++ (v ++ B)) → L.length = N → u ≠ [] → v ≠ [] → i = u.length → j = v.length → mm = (P.length + u.length : Nat) → u.length + v.length < m →
 ∃ md' P2 u2 v2 B2 i2, aft nx nx (loopH (evCode C n c151_b0) c151_m0 nx m (c151_f0 (.vec V 0 N 4 lb) (.int .i64 mm) (.fn f []) (.int .i64 i) (.int .i64 j)) ⟨nx, Row os (nx - 1 - V) L, nx, md⟩) =
   some (.exit 0, FM 58 [(0, .vec V 0 N 4 lb), (2, .int .i64 mm), (4, .fn f []), (10, .int .i64 i2)], ⟨nx, Row os (nx - 1 - V) (P2 ++ (u2 ++ (v2 ++ B2))), nx, md'⟩) ∧ i2 = u2.length ∧ u2.length = v2.length ∧ mm = (P2.length + u2.length : Nat) ∧ P2 ++ (v2 ++ (u2 ++ B2)) = P ++ (v ++ (u ++ B)) := by
 intro m
 induction m with
 | zero => intro P u v B L md i j e hl hu hv0 hi hj hm hf; omega
 | succ m ih =>
   intro P u v B L md i j e hl hu hv0 hi hj hm hf
   have hv : (V + 1 ≤ nx) = True := eq_true (by omega)
   have hv' : (nx ≤ V) = False := eq_false (by omega)
   have hlen : P.length + (u.length + (v.length + B.length)) = N := by rw [← hl, e]; simp
   have hu1 : 0 < u.length := List.length_pos_iff.2 hu
   have hv1 : 0 < v.length := List.length_pos_iff.2 hv0
   by_cases h1 : i = j
   ·refine ⟨md, P, u, v, B, i, ?_, hi, by omega, hm, rfl⟩
    subst h1
    rw [loopH_succ, ← e]
    simp [-ldA, c151_b0, hv, hv', hV]
   ·have hne : (i = j) = False := eq_false h1
    have hne' : (decide (i = j)) = false := decide_eq_false h1
    have q1 : IntKind.i64.wrap (mm - i) = mm - i := wrap_i64 (by omega) (by omega)
    by_cases h2 : j < i
    ·have eu : u = u.take v.length ++ u.drop v.length := (List.take_append_drop _ _).symm
     have l1 : (u.take v.length).length = v.length := by simp; omega
     have l2 : (u.drop v.length).length = u.length - v.length := by simp
     have eL : L = P ++ (u.take v.length ++ (u.drop v.length ++ (v ++ B))) := by rw [e, ← List.append_assoc (u.take v.length), ← eu]
     obtain ⟨md1, hsw⟩ := hC P (u.take v.length) (u.drop v.length) v B nx md (mm - i) mm j (by rw [← eL]; exact hl) l1 (by omega) (by omega) (by omega)
     obtain ⟨md', P2, u2, v2, B2, i2, ih1, ih2, ih3, ih4, ih5⟩ := ih (P ++ v) (u.drop v.length) (u.take v.length) B (P ++ (v ++ (u.drop v.length ++ (u.take v.length ++ B)))) md1 (i - j) j (by simp) (by rw [eL] at hl; simp at hl ⊢; omega) (fun h => by rw [h] at l2; simp at l2; omega) (fun h => by rw [h] at l1; simp at l1; omega) (by omega) (by omega) (by simp; omega) (by omega)
     refine ⟨md', P2, u2, v2, B2, i2, ?_, ih2, ih3, ih4, ?_⟩
     ·have h2' : (j < i) = True := eq_true h2
      have q2 : IntKind.i64.wrap (i - j) = i - j := wrap_i64 (by omega) (by omega)
      rw [← eL] at hsw
      rw [loopH_succ]
      simp only [c151_m0] at ih1
      simp [-ldA, c151_b0, c151_m0, hv, hv', hV, hne, hne', h2', q1, q2, hsw]
      exact ih1
     ·rw [ih5]
      simp only [List.append_assoc]
      rw [← List.append_assoc (u.take v.length), ← eu]
    ·have ev : v = v.take (v.length - u.length) ++ v.drop (v.length - u.length) := (List.take_append_drop _ _).symm
     have l1 : (v.take (v.length - u.length)).length = v.length - u.length := by simp
     have l2 : (v.drop (v.length - u.length)).length = u.length := by simp; omega
     have eL : L = P ++ (u ++ (v.take (v.length - u.length) ++ (v.drop (v.length - u.length) ++ B))) := by rw [e, ← List.append_assoc (v.take _), ← ev]
     obtain ⟨md1, hsw⟩ := hC P u (v.take (v.length - u.length)) (v.drop (v.length - u.length)) B nx md (mm - i) (mm + j - i) i (by rw [← eL]; exact hl) l2.symm (by omega) (by omega) (by omega)
     obtain ⟨md', P2, u2, v2, B2, i2, ih1, ih2, ih3, ih4, ih5⟩ := ih P (v.drop (v.length - u.length)) (v.take (v.length - u.length)) (u ++ B) _ md1 i (j - i) rfl (by rw [eL] at hl; simp at hl ⊢; omega) (fun h => by rw [h] at l2; simp at l2; omega) (fun h => by rw [h] at l1; simp at l1; omega) (by omega) (by omega) (by omega) (by omega)
     refine ⟨md', P2, u2, v2, B2, i2, ?_, ih2, ih3, ih4, ?_⟩
     ·have h2' : (j < i) = False := eq_false h2
      have q2 : IntKind.i64.wrap (j - i) = j - i := wrap_i64 (by omega) (by omega)
      have q3 : IntKind.i64.wrap (mm + j) = mm + j := wrap_i64 (by omega) (by omega)
      have q4 : IntKind.i64.wrap (mm + j - i) = mm + j - i := wrap_i64 (by omega) (by omega)
      rw [← eL] at hsw
      rw [loopH_succ]
      simp only [c151_m0] at ih1
      simp [-ldA, c151_b0, c151_m0, hv, hv', hV, hne, hne', h2', q1, q2, q3, q4, hsw]
      exact ih1
     ·rw [ih5]
      rw [← List.append_assoc (v.take _), ← ev]
def RotAt (C : Nat → List AV → Heap → Option (AV × Heap)) (nx V : Nat) (os : List AObj) (N lb f : Nat) : Prop :=
 ∀ (P u v B : List Tm) (wl md : Nat) (a m b : Int), (P ++ (u ++ (v ++ B))).length = N → u ≠ [] → v ≠ [] → a = P.length → m = (P.length + u.length : Nat) → b = (P.length + u.length + v.length : Nat) →
   ∃ md', C 151 [.vec V 0 N 4 lb, .int .i64 a, .int .i64 m, .int .i64 b, .fn f []] ⟨nx, Row os (nx - 1 - V) (P ++ (u ++ (v ++ B))), wl, md⟩ = some (.tuple [], ⟨nx, Row os (nx - 1 - V) (P ++ (v ++ (u ++ B))), wl, md'⟩)
theorem c151_ok (ss : List KSpec) (n : Nat) (nx V : Nat) (os : List AObj) (hV : V < nx) (hos : nx - 1 - V < os.length) (h151 : lookF (ss ++ clones) 151 = [])
 (N lb f : Nat) (hN : N < 1000000000) (hn : N < n) (hC : SwapAt (evCall (envK ss) n) nx V os N lb f) : RotAt (evCall (envK ss) (n + 1)) nx V os N lb f := fun P u v B wl md a m b hl hu hv0 ha hm hb => by
 have hv : (V + 1 ≤ nx) = True := eq_true (by omega)
 have hv' : (nx ≤ V) = False := eq_false (by omega)
 have hlen : P.length + (u.length + (v.length + B.length)) = N := by rw [← hl]; simp
 obtain ⟨md1, P2, u2, v2, B2, i2, lp, e2, e3, e4, e5⟩ := c151_loop (evCall (envK ss) n) n f nx V os hV hos N lb hN hC m n P u v B _ nx (m - a) (b - m) rfl hl hu hv0 (by omega) (by omega) hm (by omega)
 have hlen2 : (P2 ++ (v2 ++ (u2 ++ B2))).length = N := by rw [e5, ← hl]; simp; omega
 have hlen3 : (P2 ++ (u2 ++ ([] ++ (v2 ++ B2)))).length = N := by rw [← hlen2]; simp; omega
 obtain ⟨md2, hsw⟩ := hC P2 u2 [] v2 B2 nx md1 (m - i2) m i2 hlen3 e3 (by omega) (by simp; omega) (by omega)
 simp only [List.nil_append] at hsw
 have hlen4 : P2.length + (u2.length + (v2.length + B2.length)) = N := by rw [← hlen2]; simp; omega
 have q1 : IntKind.i64.wrap (m - a) = m - a := wrap_i64 (by omega) (by omega)
 have q2 : IntKind.i64.wrap (b - m) = b - m := wrap_i64 (by omega) (by omega)
 have q3 : IntKind.i64.wrap (m - i2) = m - i2 := wrap_i64 (by omega) (by omega)
 simp only [c151_m0] at lp
 refine ⟨if md2 < nx then min md md2 else md, ?_⟩
 rw [← e5]
 simp [-ldA, run151K, c151, c151_m0, hv, hv', hV, h151, -lookF_cons, -clones, q1, q2, q3, lp, hsw]
end Go.Proofs.YtlakiipofcibhaaGreatDoor

namespace Go.Proofs.YtlakiipofcibhaaGreatDoor
open Go Sz Srt
theorem half_i {x : Int} {q : Nat} (h0 : 0 ≤ x) (h : x < 4000000000) (h1 : 2 * (q : Int) ≤ x) (h2 : x < 2 * (q : Int) + 2) : IntKind.i64.wrap ((IntKind.u64.wrap (IntKind.i64.wrap x)).fdiv (2 ^ min 1 IntKind.u64.bits)) = (q : Int) := by
 rw [wrap_i64 (n := x) (by omega) (by omega)]
 have e1 : IntKind.u64.wrap x = x := by
  show x % (2 ^ 64 : Int) = x
  omega
 have e2 : min 1 IntKind.u64.bits = 1 := rfl
 have e3 : x.fdiv 2 = (q : Int) := by
  rw [Int.fdiv_eq_ediv_of_nonneg _ (by omega)]
  omega
 rw [e1, e2, Int.pow_one, e3]
 exact wrap_i64 (by omega) (by omega)
section
variable (C : Nat → List AV → Heap → Option (AV × Heap)) (n f : Nat) (c : Tm → Tm → Int) (p : Tm → Prop) (nx V : Nat) (os : List AObj) (hV : V < nx) (hos : nx - 1 - V < os.length) (hC : CmpAt C f c p nx V os)
 (N lb : Nat) (hN : N < 1000000000) (L : List Tm) (g : Nat → Tm) (hg : ∀ h, h < N → L[h]? = some (g h)) (hp : ∀ h, h < N → p (g h))
include hV hos hC hN hg hp
theorem c118_l0 (a : Nat) (ha : a < N) (md : Nat) : ∀ (m i j : Nat), i ≤ j → j ≤ N → j - i < m →
 ∃ r, i ≤ r ∧ r ≤ j ∧ (r = i ∨ c (g (r - 1)) (g a) < 0) ∧ (r = j ∨ ¬ c (g r) (g a) < 0) ∧
   aft nx nx (loopH (evCode C n c118_b0) c118_m0 nx m (c118_f0 (.vec V 0 N 4 lb) (.int .i64 a) (.fn f []) (.int .i64 i) (.int .i64 j)) ⟨nx, Row os (nx - 1 - V) L, nx, md⟩) =
   some (.exit 0, FM 220 [(0, .vec V 0 N 4 lb), (1, .int .i64 a), (10, .int .i64 r)], ⟨nx, Row os (nx - 1 - V) L, nx, md⟩) := by
 intro m
 induction m with
 | zero => intros; omega
 | succ m ih =>
   intro i j h1 h2 h3
   have hv : (V + 1 ≤ nx) = True := eq_true (by omega)
   have hv' : (nx ≤ V) = False := eq_false (by omega)
   by_cases hij : i < j
   ·obtain ⟨q, q1, q2⟩ : ∃ q : Nat, 2 * q ≤ i + j ∧ i + j < 2 * q + 2 := ⟨(i + j) / 2, by omega, by omega⟩
    have hij' : ((i : Int) < (j : Int)) = True := eq_true (by omega)
    have hld := fun (h wl md : Nat) => ldA_row hV hos L h wl md
    have hh := half_i (x := (i : Int) + (j : Int)) (q := q) (by omega) (by omega) (by omega) (by omega)
    have w1 : IntKind.i64.wrap ((q : Int) + 1) = (q : Int) + 1 := wrap_i64 (by omega) (by omega)
    have b1 : ((q : Int) < (N : Int)) = True := eq_true (by omega)
    have gh := hg q (by omega)
    have ga := hg a ha
    have a1 : ((a : Int) < (N : Int)) = True := eq_true (by omega)
    have hc := hC (g q) (g a) (hp _ (by omega)) (hp _ ha) L
    by_cases hq : c (g q) (g a) < 0
    ·obtain ⟨r, r1, r2, r3, r4, r5⟩ := ih (q + 1) j (by omega) (by omega) (by omega)
     refine ⟨r, by omega, r2, ?_, r4, ?_⟩
     ·rcases r3 with rfl | r3
      ·exact .inr hq
      ·exact .inr r3
     ·have hq' : (c (g q) (g a) < 0) = True := eq_true hq
      rw [loopH_succ]
      simp [-ldA, c118_b0, c118_m0, hv, hv', hV, hij', hld, hh, gh, hc, hq', w1, b1, ga, a1]
      exact r5
    ·obtain ⟨r, r1, r2, r3, r4, r5⟩ := ih i q (by omega) (by omega) (by omega)
     refine ⟨r, r1, by omega, r3, ?_, ?_⟩
     ·rcases r4 with rfl | r4
      ·exact .inr hq
      ·exact .inr r4
     ·have hq' : (c (g q) (g a) < 0) = False := eq_false hq
      rw [loopH_succ]
      simp [-ldA, c118_b0, c118_m0, hv, hv', hV, hij', hld, hh, gh, hc, hq', w1, b1, ga, a1]
      exact r5
   ·have e : i = j := by omega
    subst e
    refine ⟨i, by omega, by omega, .inl rfl, .inl rfl, ?_⟩
    rw [loopH_succ]
    simp [-ldA, c118_b0, hv, hv', hV]
theorem c118_l2 (a : Nat) (ha : a < N) (md : Nat) : ∀ (m i j : Nat), i ≤ j → j ≤ N → j - i < m →
 ∃ r, i ≤ r ∧ r ≤ j ∧ (r = i ∨ (¬ c (g a) (g (r - 1)) < 0)) ∧ (r = j ∨ ¬ (¬ c (g a) (g r) < 0)) ∧
   aft nx nx (loopH (evCode C n c118_b2) c118_m2 nx m (c118_f2 (.vec V 0 N 4 lb) (.int .i64 a) (.fn f []) (.int .i64 i) (.int .i64 j)) ⟨nx, Row os (nx - 1 - V) L, nx, md⟩) =
   some (.exit 4, FM 220 [(0, .vec V 0 N 4 lb), (2, .int .i64 a), (14, .int .i64 r)], ⟨nx, Row os (nx - 1 - V) L, nx, md⟩) := by
 intro m
 induction m with
 | zero => intros; omega
 | succ m ih =>
   intro i j h1 h2 h3
   have hv : (V + 1 ≤ nx) = True := eq_true (by omega)
   have hv' : (nx ≤ V) = False := eq_false (by omega)
   by_cases hij : i < j
   ·obtain ⟨q, q1, q2⟩ : ∃ q : Nat, 2 * q ≤ i + j ∧ i + j < 2 * q + 2 := ⟨(i + j) / 2, by omega, by omega⟩
    have hij' : ((i : Int) < (j : Int)) = True := eq_true (by omega)
    have hld := fun (h wl md : Nat) => ldA_row hV hos L h wl md
    have hh := half_i (x := (i : Int) + (j : Int)) (q := q) (by omega) (by omega) (by omega) (by omega)
    have w1 : IntKind.i64.wrap ((q : Int) + 1) = (q : Int) + 1 := wrap_i64 (by omega) (by omega)
    have b1 : ((q : Int) < (N : Int)) = True := eq_true (by omega)
    have gh := hg q (by omega)
    have ga := hg a ha
    have a1 : ((a : Int) < (N : Int)) = True := eq_true (by omega)
    have hc := hC (g a) (g q) (hp _ ha) (hp _ (by omega)) L
    by_cases hq : (¬ c (g a) (g q) < 0)
    ·obtain ⟨r, r1, r2, r3, r4, r5⟩ := ih (q + 1) j (by omega) (by omega) (by omega)
     refine ⟨r, by omega, r2, ?_, r4, ?_⟩
     ·rcases r3 with rfl | r3
      ·exact .inr hq
      ·exact .inr r3
     ·have hq' : (c (g a) (g q) < 0) = False := eq_false hq
      rw [loopH_succ]
      simp [-ldA, c118_b2, c118_m2, hv, hv', hV, hij', hld, hh, gh, hc, hq', w1, b1, ga, a1]
      exact r5
    ·obtain ⟨r, r1, r2, r3, r4, r5⟩ := ih i q (by omega) (by omega) (by omega)
     refine ⟨r, r1, by omega, r3, ?_, ?_⟩
     ·rcases r4 with rfl | r4
      ·exact .inr hq
      ·exact .inr r4
     ·have hq' : (c (g a) (g q) < 0) = True := eq_true (Classical.not_not.1 hq)
      rw [loopH_succ]
      simp [-ldA, c118_b2, c118_m2, hv, hv', hV, hij', hld, hh, gh, hc, hq', w1, b1, ga, a1]
      exact r5
   ·have e : i = j := by omega
    subst e
    refine ⟨i, by omega, by omega, .inl rfl, .inl rfl, ?_⟩
    rw [loopH_succ]
    simp [-ldA, c118_b2, hv, hv', hV]
theorem c118_l4 (a mm b mid n2 : Int) (pp : Nat) (md : Nat) : ∀ (m i j : Nat), i ≤ j → (j ≤ pp + 1 ∧ pp < N + i) → j ≤ N → j - i < m →
 ∃ r, i ≤ r ∧ r ≤ j ∧ (r = i ∨ (¬ c (g (pp - (r - 1))) (g (r - 1)) < 0)) ∧ (r = j ∨ ¬ (¬ c (g (pp - r)) (g r) < 0)) ∧
   aft nx nx (loopH (evCode C n c118_b4) c118_m4 nx m (c118_f4 (.vec V 0 N 4 lb) (.int .i64 a) (.int .i64 mm) (.int .i64 b) (.fn f []) (.int .i64 mid) (.int .i64 n2) (.int .i64 i) (.int .i64 j) (.int .i64 pp)) ⟨nx, Row os (nx - 1 - V) L, nx, md⟩) =
   some (.exit 8, FM 220 [(0, .vec V 0 N 4 lb), (1, .int .i64 a), (2, .int .i64 mm), (3, .int .i64 b), (4, .fn f []), (18, .int .i64 mid), (19, .int .i64 n2), (20, .int .i64 r)], ⟨nx, Row os (nx - 1 - V) L, nx, md⟩) := by
 intro m
 induction m with
 | zero => intros; omega
 | succ m ih =>
   intro i j h1 h4 h2 h3
   have hv : (V + 1 ≤ nx) = True := eq_true (by omega)
   have hv' : (nx ≤ V) = False := eq_false (by omega)
   by_cases hij : i < j
   ·obtain ⟨q, q1, q2⟩ : ∃ q : Nat, 2 * q ≤ i + j ∧ i + j < 2 * q + 2 := ⟨(i + j) / 2, by omega, by omega⟩
    have hij' : ((i : Int) < (j : Int)) = True := eq_true (by omega)
    have hld := fun (h wl md : Nat) => ldA_row hV hos L h wl md
    have hh := half_i (x := (i : Int) + (j : Int)) (q := q) (by omega) (by omega) (by omega) (by omega)
    have w1 : IntKind.i64.wrap ((q : Int) + 1) = (q : Int) + 1 := wrap_i64 (by omega) (by omega)
    have b1 : ((q : Int) < (N : Int)) = True := eq_true (by omega)
    have gh := hg q (by omega)
    have ga := hg (pp - q) (by omega)
    have a1 : ((pp : Int) - (q : Int) < (N : Int)) = True := eq_true (by omega)
    have a2 : (q ≤ pp) = True := eq_true (by omega)
    have a3 : IntKind.i64.wrap ((pp : Int) - (q : Int)) = (pp : Int) - (q : Int) := wrap_i64 (by omega) (by omega)
    have a4 : ((pp : Int) - (q : Int)).toNat = pp - q := by omega
    have hc := hC (g (pp - q)) (g q) (hp _ (by omega)) (hp _ (by omega)) L
    by_cases hq : (¬ c (g (pp - q)) (g q) < 0)
    ·obtain ⟨r, r1, r2, r3, r4, r5⟩ := ih (q + 1) j (by omega) (by omega) (by omega) (by omega)
     refine ⟨r, by omega, r2, ?_, r4, ?_⟩
     ·rcases r3 with rfl | r3
      ·exact .inr hq
      ·exact .inr r3
     ·have hq' : (c (g (pp - q)) (g q) < 0) = False := eq_false hq
      rw [loopH_succ]
      simp [-ldA, c118_b4, c118_m4, hv, hv', hV, hij', hld, hh, gh, hc, hq', w1, b1, ga, a1, a2, a3, a4]
      exact r5
    ·obtain ⟨r, r1, r2, r3, r4, r5⟩ := ih i q (by omega) (by omega) (by omega) (by omega)
     refine ⟨r, r1, by omega, r3, ?_, ?_⟩
     ·rcases r4 with rfl | r4
      ·exact .inr hq
      ·exact .inr r4
     ·have hq' : (c (g (pp - q)) (g q) < 0) = True := eq_true (Classical.not_not.1 hq)
      rw [loopH_succ]
      simp [-ldA, c118_b4, c118_m4, hv, hv', hV, hij', hld, hh, gh, hc, hq', w1, b1, ga, a1, a2, a3, a4]
      exact r5
   ·have e : i = j := by omega
    subst e
    refine ⟨i, by omega, by omega, .inl rfl, .inl rfl, ?_⟩
    rw [loopH_succ]
    simp [-ldA, c118_b4, hv, hv', hV]
end
theorem c118_s1 (C : Nat → List AV → Heap → Option (AV × Heap)) (n : Nat) (nx V : Nat) (os : List AObj) (hV : V < nx) (hos : nx - 1 - V < os.length)
 (N lb : Nat) (hN : N < 1000000000) (i : Int) (x : Tm) : ∀ (v P B L : List Tm) (m md : Nat) (k : Int), L = P ++ (x :: (v ++ B)) → L.length = N → k = P.length → i - 1 = (P.length + v.length : Nat) → v.length < m →
 ∃ md', aft nx nx (loopH (evCode C n c118_b1) c118_m1 nx m (c118_f1 (.vec V 0 N 4 lb) (.int .i64 i) (.int .i64 k)) ⟨nx, Row os (nx - 1 - V) L, nx, md⟩) =
   some (.exit 2, FM 220 [], ⟨nx, Row os (nx - 1 - V) (P ++ (v ++ (x :: B))), nx, md'⟩)
 | [], P, B, L, m + 1, md, k, e, hl, hk, hi, hm => by
   have hlen : P.length + (1 + B.length) = N := by rw [← hl, e]; simp; omega
   simp only [List.length_nil] at hi
   refine ⟨md, ?_⟩
   have hv : (V + 1 ≤ nx) = True := eq_true (by omega)
   have e1 : P ++ ([] ++ (x :: B)) = L := by simp [e]
   have c2 : IntKind.i64.wrap (i - 1) = i - 1 := wrap_i64 (by omega) (by omega)
   have c1 : (k < i - 1) = False := eq_false (by omega)
   rw [e1]
   simp [-ldA, loopH_succ, c118_b1, hv, hV, c1, c2]
 | y :: v, P, B, L, m + 1, md, k, e, hl, hk, hi, hm => by
   have hlen : P.length + (v.length + 2 + B.length) = N := by rw [← hl, e]; simp; omega
   simp only [List.length_cons] at hi hm
   generalize hp : P.length = pl at *
   have hv : (V + 1 ≤ nx) = True := eq_true (by omega)
   have hv' : (nx ≤ V) = False := eq_false (by omega)
   have gx : L[pl]? = some x := by
    rw [e, List.getElem?_append_right (by omega)]
    simp [hp]
   have gy : L[pl + 1]? = some y := by
    rw [e, List.getElem?_append_right (by omega), show pl + 1 - P.length = 1 by omega]
    rfl
   have e3 : (L.set pl y).set (pl + 1) x = (P ++ [y]) ++ (x :: (v ++ B)) := by
    rw [e, List.set_append_right _ _ (by omega), hp, Nat.sub_self, List.set_append_right _ _ (by omega), show pl + 1 - P.length = 1 by omega]
    simp
   obtain ⟨md', ih⟩ := c118_s1 C n nx V os hV hos N lb hN i x v (P ++ [y]) B _ m (min (min md V) V) (k + 1) e3 (by simp [hl]) (by simp; omega) (by simp; omega) (by omega)
   refine ⟨md', ?_⟩
   have hld := fun (wl md : Nat) => ldA_row hV hos L pl wl md
   have hld2 := fun (wl md : Nat) => ldA_row hV hos L (pl + 1) wl md
   have hst := fun (wl md : Nat) => stA_row hV hos L pl wl md y (by omega)
   have hst2 := fun (wl md : Nat) => stA_row hV hos (L.set pl y) (pl + 1) wl md x (by simp; omega)
   subst hk
   have c2 : IntKind.i64.wrap (i - 1) = i - 1 := wrap_i64 (by omega) (by omega)
   have c1 : ((pl : Int) < i - 1) = True := eq_true (by omega)
   have c3 : IntKind.i64.wrap ((pl : Int) + 1) = (pl : Int) + 1 := wrap_i64 (by omega) (by omega)
   have c4 : ((pl : Int) < (N : Int)) = True := eq_true (by omega)
   have c5 : ((pl : Int) + 1 < (N : Int)) = True := eq_true (by omega)
   have c6 : (0 ≤ (pl : Int) + 1) = True := eq_true (by omega)
   have c7 : ((pl : Int) + 1).toNat = pl + 1 := by omega
   rw [loopH_succ]
   simp [-ldA, -evOp_st, evOp_stA, c118_b1, c118_m1, hv, hv', hV, hld, hld2, gx, gy, c1, c2, c3, c4, c5, c6, c7, hst, hst2]
   rw [show min (min md V) V = min md V by omega] at ih
   simp only [List.append_assoc, List.singleton_append] at ih
   exact ih
theorem c118_s3 (C : Nat → List AV → Heap → Option (AV × Heap)) (n : Nat) (nx V : Nat) (os : List AObj) (hV : V < nx) (hos : nx - 1 - V < os.length)
 (N lb : Nat) (hN : N < 1000000000) (i : Int) (x : Tm) : ∀ (Q P B L : List Tm) (m md : Nat) (k : Int), L = P ++ (Q.reverse ++ (x :: B)) → L.length = N → i = P.length → k = (P.length + Q.length : Nat) → Q.length < m →
 ∃ md', aft nx nx (loopH (evCode C n c118_b3) c118_m3 nx m (c118_f3 (.vec V 0 N 4 lb) (.int .i64 i) (.int .i64 k)) ⟨nx, Row os (nx - 1 - V) L, nx, md⟩) =
   some (.exit 6, FM 220 [], ⟨nx, Row os (nx - 1 - V) (P ++ (x :: (Q.reverse ++ B))), nx, md'⟩)
 | [], P, B, L, m + 1, md, k, e, hl, hi, hk, hm => by
   simp only [List.length_nil] at hk
   refine ⟨md, ?_⟩
   have hv : (V + 1 ≤ nx) = True := eq_true (by omega)
   have e1 : P ++ (x :: ([].reverse ++ B)) = L := by simp [e]
   have c1 : (i < k) = False := eq_false (by omega)
   rw [e1]
   simp [-ldA, loopH_succ, c118_b3, hv, hV, c1]
 | y :: Q, P, B, L, m + 1, md, k, e, hl, hi, hk, hm => by
   have hlen : P.length + (Q.length + 2 + B.length) = N := by rw [← hl, e]; simp; omega
   simp only [List.length_cons] at hk hm
   have e2 : L = (P ++ Q.reverse) ++ (y :: x :: B) := by simp [e]
   have hpl : (P ++ Q.reverse).length = P.length + Q.length := by simp
   have hk2 : k = ((P.length + Q.length : Nat) : Int) + 1 := by omega
   have hik : i < ((P.length + Q.length : Nat) : Int) + 1 := by omega
   generalize hp : P.length + Q.length = pl at *
   have hv : (V + 1 ≤ nx) = True := eq_true (by omega)
   have hv' : (nx ≤ V) = False := eq_false (by omega)
   have gx : L[pl + 1]? = some x := by
    rw [e2, List.getElem?_append_right (by omega), show pl + 1 - (P ++ Q.reverse).length = 1 by omega]
    rfl
   have gy : L[pl]? = some y := by
    rw [e2, List.getElem?_append_right (by omega), show pl - (P ++ Q.reverse).length = 0 by omega]
    rfl
   have e3 : (L.set (pl + 1) y).set pl x = P ++ (Q.reverse ++ (x :: (y :: B))) := by
    rw [e2, List.set_append_right _ _ (by omega), show pl + 1 - (P ++ Q.reverse).length = 1 by omega, List.set_append_right _ _ (by omega), show pl - (P ++ Q.reverse).length = 0 by omega]
    simp
   obtain ⟨md', ih⟩ := c118_s3 C n nx V os hV hos N lb hN i x Q P (y :: B) _ m (min (min md V) V) (pl : Int) e3 (by simp [hl]) hi (by omega) (by omega)
   refine ⟨md', ?_⟩
   have hld := fun (wl md : Nat) => ldA_row hV hos L pl wl md
   have hld2 := fun (wl md : Nat) => ldA_row hV hos L (pl + 1) wl md
   have hst := fun (wl md : Nat) => stA_row hV hos L (pl + 1) wl md y (by omega)
   have hst2 := fun (wl md : Nat) => stA_row hV hos (L.set (pl + 1) y) pl wl md x (by simp; omega)
   subst hk2
   have c1 : (i < (pl : Int) + 1) = True := eq_true (by omega)
   have c3 : IntKind.i64.wrap ((pl : Int) + 1 - 1) = (pl : Int) := by rw [wrap_i64 (by omega) (by omega)]; omega
   have c3' : IntKind.i64.wrap (pl : Int) = (pl : Int) := wrap_i64 (by omega) (by omega)
   have c4 : ((pl : Int) < (N : Int)) = True := eq_true (by omega)
   have c5 : ((pl : Int) + 1 < (N : Int)) = True := eq_true (by omega)
   have c6 : (0 ≤ (pl : Int) + 1) = True := eq_true (by omega)
   have c7 : ((pl : Int) + 1).toNat = pl + 1 := by omega
   rw [loopH_succ]
   simp [-ldA, -evOp_st, evOp_stA, c118_b3, c118_m3, hv, hv', hV, hld, hld2, gx, gy, c1, c3, c3', c4, c5, c6, c7, hst, hst2]
   rw [show min (min md V) V = min md V by omega] at ih
   exact ih
end Go.Proofs.YtlakiipofcibhaaGreatDoor
