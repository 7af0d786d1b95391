import Derived.Test.YtlofbalilhohmaaSz2
set_option linter.unusedVariables false
set_option linter.unusedSimpArgs false
set_option linter.unusedSectionVars false

/- Small lemmas for runs over lists. No program is named here. -/
namespace Sz
open Go

theorem wrap_i64 {n : Int} (h1 : -9223372036854775808 ≤ n) (h2 : n < 9223372036854775808) : IntKind.i64.wrap n = n := by
  rw [IntKind.wrap_i64]; omega
theorem wrap_succ {k : Nat} (h : k < 4611686018427387904) : IntKind.i64.wrap ((k : Int) + 1) = ((k + 1 : Nat) : Int) := by
  rw [wrap_i64 (by omega) (by omega)]; rfl
theorem get_mid {α β : Type} (f : α → β) (pre : List α) (o : α) (post : List α) : ((pre ++ o :: post).map f)[pre.length]? = some (f o) := by simp
theorem lt_mid {α : Type} (pre : List α) (o : α) (post : List α) : decide ((pre.length : Int) < ((pre ++ o :: post).length : Int)) = true := by simp; omega
theorem lt_end {α : Type} (pre : List α) : decide ((pre.length : Int) < ((pre ++ []).length : Int)) = false := by simp

/-- Where the first is that fits. -/
def find1 {α : Type} (p : α → Bool) : List α → Option Nat
  | [] => none
  | x :: r => if p x then some 0 else (find1 p r).map (· + 1)


/-- A cell that refers to no object. -/
def basic : AV → Bool
  | .bool _ | .int .. | .str _ | .nilp | .nils | .sl _ | .ip _ | .nilm | .nilfn | .nili => true
  | _ => false
theorem basic_frz {h : Heap} {n0 d : Nat} {v : AV} (hv : basic v = true) : frz h n0 (d + 1) v = some (v, []) := by cases v <;> first | rfl | cases hv
theorem basic_refs {v : AV} (hv : basic v = true) : v.refs = 0 := by cases v <;> first | rfl | cases hv
theorem basic_cells {v : AV} (hv : basic v = true) : v.cells? = some [v] := by cases v <;> first | rfl | cases hv
theorem frzL_basic {h : Heap} {n0 d : Nat} : ∀ {cs : List AV}, cs.all basic = true → frzL (frz h n0 (d + 1)) cs = some (cs, [])
  | [], _ => rfl
  | v :: r, hb => by
    simp only [List.all_cons, Bool.and_eq_true] at hb
    simp only [frzL, basic_frz hb.1, frzL_basic hb.2, List.append_nil]
theorem refsL_basic : ∀ {cs : List AV}, cs.all basic = true → AV.refsL cs = 0
  | [], _ => rfl
  | v :: r, hb => by
    simp only [List.all_cons, Bool.and_eq_true] at hb
    simp only [AV.refsL, basic_refs hb.1, refsL_basic hb.2]
    rfl
theorem all_basic1 : ∀ {cs : List AV}, cs.all basic = true → (cs.all fun c => c.cells?.map List.length == some 1) = true
  | [], _ => rfl
  | v :: r, hb => by
    simp only [List.all_cons, Bool.and_eq_true] at hb ⊢
    exact ⟨by rw [basic_cells hb.1]; rfl, all_basic1 hb.2⟩
/-- Elements of sz basic cells each. -/
def Elem (sz : Nat) (v : AV) : Prop := v.cells.length = sz ∧ v.cells.all basic = true ∧ (sz = 1 → v.cells = [v]) ∧ (sz ≠ 1 → v = .agg v.cells) ∧ v.cells? = some v.cells
theorem flat_all {sz : Nat} {xs : List AV} (h : ∀ x ∈ xs, Elem sz x) : (xs.flatMap AV.cells).all basic = true := by
  rw [List.all_eq_true]
  intro v hv
  obtain ⟨x, hx, hv⟩ := List.mem_flatMap.1 hv
  exact List.all_eq_true.1 (h x hx).2.1 v hv
theorem flat_len {sz : Nat} : ∀ {xs : List AV}, (∀ x ∈ xs, Elem sz x) → (xs.flatMap AV.cells).length = xs.length * sz
  | [], _ => by simp
  | x :: r, h => by
    have := flat_len (xs := r) fun y hy => h y (by simp [hy])
    simp only [List.flatMap_cons, List.length_append, List.length_cons, this, (h x (by simp)).1, Nat.add_mul]
    omega
theorem chunk_flat {sz : Nat} : ∀ {xs : List AV}, (∀ x ∈ xs, Elem sz x) → chunk sz xs.length (xs.flatMap AV.cells) = xs
  | [], _ => rfl
  | x :: r, h => by
    have hx := h x (by simp)
    have ih := chunk_flat (xs := r) fun y hy => h y (by simp [hy])
    simp only [List.length_cons, List.flatMap_cons, chunk]
    have hd : (x.cells ++ r.flatMap AV.cells).drop sz = r.flatMap AV.cells := by rw [← hx.1]; simp
    rw [hd, ih]
    congr 1
    split
    · rename_i h1
      rw [hx.2.2.1 h1]; rfl
    · rename_i h1
      have ht : (x.cells ++ r.flatMap AV.cells).take sz = x.cells := by rw [← hx.1]; simp
      rw [ht]
      exact (hx.2.2.2.1 h1).symm
theorem elem_all {sz : Nat} {xs : List AV} (h : ∀ x ∈ xs, Elem sz x) : (xs.all fun x => (x.cells?.map List.length) == some sz) = true := by
  rw [List.all_eq_true]
  intro x hx
  have := h x hx
  rw [this.2.2.2.2]
  simp [this.1]
theorem putAt_eq (vs : List AV) : ∀ (cs : List AV) (k : Nat), k + vs.length ≤ cs.length → putAt cs k vs = cs.take k ++ vs ++ cs.drop (k + vs.length) := by
  induction vs with
  | nil => intro cs k _; simp [putAt]
  | cons v r ih =>
    intro cs k h
    simp only [List.length_cons] at h
    rw [putAt, ih _ _ (by simp; omega)]
    have hk : k < cs.length := by omega
    have e1 : (cs.set k v).take (k + 1) = cs.take k ++ [v] := by
      rw [List.take_set, List.take_succ_eq_append_getElem hk, List.set_append_right _ _ (by simp; omega)]
      simp [Nat.min_eq_left (Nat.le_of_lt hk)]
    have e2 : (cs.set k v).drop (k + 1 + r.length) = cs.drop (k + (r.length + 1)) := by
      rw [List.drop_set_of_lt (by omega)]
      congr 1
      omega
    rw [e1, e2]
    simp
theorem flat_take {sz : Nat} : ∀ {xs : List AV} (k : Nat), (∀ x ∈ xs, Elem sz x) → k ≤ xs.length → (xs.flatMap AV.cells).take (k * sz) = (xs.take k).flatMap AV.cells
  | [], k, _, hk => by simp
  | x :: r, 0, _, _ => by simp
  | x :: r, k + 1, h, hk => by
    have hx := h x (by simp)
    simp only [List.flatMap_cons, List.take_succ_cons]
    rw [List.take_append, hx.1, List.take_of_length_le (by rw [hx.1, Nat.add_mul]; omega), show (k + 1) * sz - sz = k * sz by rw [Nat.add_mul]; omega, flat_take k (fun y hy => h y (by simp [hy])) (by simpa using hk)]
theorem flat_drop {sz : Nat} : ∀ {xs : List AV} (k : Nat), (∀ x ∈ xs, Elem sz x) → k ≤ xs.length → (xs.flatMap AV.cells).drop (k * sz) = (xs.drop k).flatMap AV.cells
  | [], k, _, hk => by simp
  | x :: r, 0, _, _ => by simp
  | x :: r, k + 1, h, hk => by
    have hx := h x (by simp)
    simp only [List.flatMap_cons, List.drop_succ_cons]
    rw [List.drop_append, hx.1, List.drop_of_length_le (by rw [hx.1, Nat.add_mul]; omega), show (k + 1) * sz - sz = k * sz by rw [Nat.add_mul]; omega, flat_drop k (fun y hy => h y (by simp [hy])) (by simpa using hk)]
    rfl
/-- A new slice, laid down. -/
theorem frz_vec {h : Heap} {n0 d id len sz lb : Nat} {xs : List AV} {cs : List AV} (hid : n0 ≤ id) (hg : h.get id = some (.row cs)) (hsz : sz ≠ 0) (hx : ∀ x ∈ xs, Elem sz x) (hl : xs.length = len) (hle : len * sz ≤ cs.length) (hc : cs.take (len * sz) = xs.flatMap AV.cells) :
    frz h n0 (d + 2) (.vec id 0 len sz lb) = some (.sl xs, [id]) := by
  subst hl
  have hb := flat_all hx
  have e : frz h n0 (d + 2) (.vec id 0 xs.length sz lb) = if id < n0 then some (.vec id 0 xs.length sz lb, []) else match h.row id with
      | some cs => if 0 + xs.length * sz ≤ cs.length ∧ sz ≠ 0 then
          (match frzL (frz h n0 (d + 1)) ((cs.drop 0).take (xs.length * sz)) with
          | some (cs', ids) => if AV.refsL cs' = 0 ∧ (cs'.all fun c => c.cells?.map List.length == some 1) then some (.sl (chunk sz xs.length cs'), id :: ids) else none
          | none => none) else none
      | none => none := rfl
  rw [e, if_neg (by omega), row_mk, hg]
  dsimp only
  rw [if_pos ⟨by omega, hsz⟩, List.drop_zero, hc, frzL_basic hb]
  dsimp only
  rw [if_pos ⟨refsL_basic hb, all_basic1 hb⟩, chunk_flat hx]

theorem putAt_take (vs : List AV) {cs : List AV} {k : Nat} (h : k + vs.length ≤ cs.length) : (putAt cs k vs).take k = cs.take k := by
  rw [putAt_eq vs cs k h, List.append_assoc, List.take_append_of_le_length (by simp; omega)]
  rw [List.take_take, Nat.min_self]
theorem putAt_takeTo (vs : List AV) {cs : List AV} {k : Nat} (h : k + vs.length ≤ cs.length) : (putAt cs k vs).take (k + vs.length) = cs.take k ++ vs := by
  rw [putAt_eq vs cs k h]
  exact List.take_left' (by simp; omega)
theorem succ_le_f (n : Nat) : (n + 1 ≤ n) = False := eq_false (by omega)

end Sz

/- Frames by what is set in them. No program is named here. -/
namespace Sz
open Go

/-- What a slot holds: the last that was set. -/
def lk : List (Nat × AV) → Nat → AV
  | [], _ => .undef
  | (k, v) :: m, t => if k = t then v else lk m t
/-- A frame of n slots. -/
def FM (n : Nat) (m : List (Nat × AV)) : List AV := (List.range n).map (lk m)
/-- Those slots alone. -/
def mk (n : Nat) (ks : List Nat) : List Bool := (List.range n).map fun t => ks.contains t
def pick (m : List (Nat × AV)) : List Nat → List (Nat × AV)
  | [] => []
  | k :: ks => (k, lk m k) :: pick m ks
def enumA : Nat → List AV → List (Nat × AV)
  | _, [] => []
  | k, a :: r => (k, a) :: enumA (k + 1) r
/-- The slots rise. -/
def incK (n : Nat) : Nat → List (Nat × AV) → Bool
  | _, [] => true
  | lo, (k, _) :: r => decide (lo ≤ k) && decide (k < n) && incK n (k + 1) r
def snds : List (Nat × AV) → List AV
  | [] => []
  | (_, v) :: r => v :: snds r
def renM (n0 : Nat) (ks : List Nat) : List (Nat × AV) → List (Nat × AV)
  | [] => []
  | (k, v) :: r => (k, ren n0 ks v) :: renM n0 ks r

theorem lk_hit (t : Nat) (v : AV) (m : List (Nat × AV)) : lk ((t, v) :: m) t = v := if_pos rfl
theorem lk_miss {k t : Nat} (v : AV) (m : List (Nat × AV)) (h : (k == t) = false) : lk ((k, v) :: m) t = lk m t := if_neg (by simpa using h)
theorem lk_nil (t : Nat) : lk [] t = .undef := rfl

theorem FM_length (n : Nat) (m : List (Nat × AV)) : (FM n m).length = n := by simp [FM]
theorem FM_get {n t : Nat} (m : List (Nat × AV)) (h : t < n) : (FM n m)[t]? = some (lk m t) := by simp [FM, h]
theorem FM_getD {n t : Nat} (m : List (Nat × AV)) (h : t < n) : (FM n m).getD t .undef = lk m t := by
  rw [List.getD_eq_getElem?_getD, FM_get m h]; rfl
theorem FM_set (n : Nat) (m : List (Nat × AV)) (t : Nat) (v : AV) : (FM n m).set t v = FM n ((t, v) :: m) := by
  apply List.ext_getElem?
  intro i
  rw [List.getElem?_set, FM_length]
  by_cases hi : i < n
  · rw [FM_get _ hi, FM_get _ hi]
    by_cases e : t = i
    · subst e; simp [hi, lk]
    · simp [e, lk]
  · have h1 : (FM n m)[i]? = none := List.getElem?_eq_none (by rw [FM_length]; omega)
    have h2 : (FM n ((t, v) :: m))[i]? = none := List.getElem?_eq_none (by rw [FM_length]; omega)
    rw [h1, h2]
    split
    · split
      · omega
      · rfl
    · rfl

theorem FM_ev {n t : Nat} (m : List (Nat × AV)) (h : t < n) : Opd.ev (FM n m) (.tmp t) = lk m t := FM_getD m h
theorem ev_const (fr : List AV) (v : AV) : Opd.ev fr (.const v) = v := rfl
theorem FM_put (n : Nat) (m : List (Nat × AV)) (d : Nat) (v : AV) : putA (FM n m) (some d) v = FM n ((d, v) :: m) := FM_set n m d v
theorem put_none (fr : List AV) (v : AV) : putA fr none v = fr := rfl
theorem FM_unwanted {n t : Nat} (m : List (Nat × AV)) (want : Bool) (h : t < n) : unwanted (FM n m) (some (t, want)) = match lk m t with
    | .bool b => some (b != want)
    | .tuple [] => some true
    | _ => none := by
  simp only [unwanted, FM_get m h]
  cases lk m t with
  | tuple vs => cases vs <;> rfl
  | _ => rfl
theorem FM_resT {n t : Nat} (m : List (Nat × AV)) (hp : Heap) (h : t < n) : resA (FM n m) hp (.tmp t) = some (lk m t) := by
  simp only [resA, FM_getD m h]
theorem FM_resC {n t : Nat} (m : List (Nat × AV)) (hp : Heap) (k : Option Nat) (h : t < n) : resA (FM n m) hp (.cell t k) = ldA hp k (lk m t) := by
  simp only [resA, FM_getD m h]

theorem lk_pick (m : List (Nat × AV)) (t : Nat) : ∀ ks : List Nat, lk (pick m ks) t = if ks.contains t then lk m t else .undef
  | [] => by simp [pick, lk]
  | k :: ks => by
    simp only [pick, lk, lk_pick m t ks, List.contains_cons]
    by_cases e : k = t
    · subst e; simp
    · have e' : ¬ t = k := fun h => e h.symm
      simp [e, e']

theorem clear_get : ∀ (bs : List Bool) (fr : List AV) (t : Nat), bs.length = fr.length → (clear bs fr)[t]? = (fr[t]?).map fun v => if bs.getD t false then v else .undef
  | [], [], t, _ => by simp [clear]
  | b :: bs, v :: fr, 0, _ => by simp [clear]
  | b :: bs, v :: fr, t + 1, h => by
    simp only [clear, List.getElem?_cons_succ, List.getD_cons_succ]
    exact clear_get bs fr t (by simpa using h)

theorem FM_clear (n : Nat) (m : List (Nat × AV)) (ks : List Nat) : clear (mk n ks) (FM n m) = FM n (pick m ks) := by
  apply List.ext_getElem?
  intro t
  rw [clear_get _ _ _ (by simp [mk, FM])]
  by_cases ht : t < n
  · rw [FM_get _ ht, FM_get _ ht, lk_pick]
    have : (mk n ks).getD t false = ks.contains t := by
      rw [List.getD_eq_getElem?_getD]; simp [mk, ht]
    simp only [this, Option.map_some]
  · have h1 : (FM n m)[t]? = none := List.getElem?_eq_none (by rw [FM_length]; omega)
    have h2 : (FM n (pick m ks))[t]? = none := List.getElem?_eq_none (by rw [FM_length]; omega)
    rw [h1, h2]; rfl

/-- The true ones' places. -/
def trues : Nat → List Bool → List Nat
  | _, [] => []
  | k, true :: r => k :: trues (k + 1) r
  | k, false :: r => trues (k + 1) r
theorem mem_trues : ∀ (bs : List Bool) (k t : Nat), (trues k bs).contains t = (decide (k ≤ t) && bs.getD (t - k) false)
  | [], k, t => by simp [trues]
  | true :: r, k, t => by
    rw [trues, List.contains_cons, mem_trues r (k + 1) t]
    by_cases e : t = k
    · subst e; simp
    · by_cases hl : k ≤ t
      · have : t - k = (t - (k + 1)) + 1 := by omega
        have h2 : k + 1 ≤ t := by omega
        simp [e, hl, this, h2]
      · have h2 : ¬ k + 1 ≤ t := by omega
        simp [e, hl, h2]
  | false :: r, k, t => by
    rw [trues, mem_trues r (k + 1) t]
    by_cases e : t = k
    · subst e
      have h2 : ¬ t + 1 ≤ t := by omega
      simp only [h2, decide_false, Bool.false_and, Nat.sub_self, List.getD_cons_zero, Bool.and_false]
    · by_cases hl : k ≤ t
      · have : t - k = (t - (k + 1)) + 1 := by omega
        have h2 : k + 1 ≤ t := by omega
        simp [hl, this, h2]
      · have h2 : ¬ k + 1 ≤ t := by omega
        simp [hl, h2]
theorem FM_clearB {n : Nat} (m : List (Nat × AV)) (bs : List Bool) (h : bs.length = n) : clear bs (FM n m) = FM n (pick m (trues 0 bs)) := by
  rw [← FM_clear]
  congr 1
  apply List.ext_getElem?
  intro t
  by_cases ht : t < n
  · have : t < bs.length := by omega
    simp only [mk, List.getElem?_map, List.getElem?_range ht, Option.map_some, mem_trues]
    simp [List.getD_eq_getElem?_getD, this]
  · rw [List.getElem?_eq_none (by omega), List.getElem?_eq_none (by simp [mk]; omega)]

theorem lk_enumA : ∀ (as : List AV) (k t : Nat), lk (enumA k as) t = if k ≤ t then as.getD (t - k) .undef else .undef
  | [], k, t => by simp [enumA, lk]
  | a :: r, k, t => by
    simp only [enumA, lk, lk_enumA r (k + 1) t]
    by_cases e : k = t
    · subst e; simp
    · by_cases hl : k ≤ t
      · have : t - k = (t - (k + 1)) + 1 := by omega
        have h2 : k + 1 ≤ t := by omega
        simp [e, hl, this, h2]
      · have h2 : ¬ k + 1 ≤ t := by omega
        simp [e, hl, h2]
theorem FM_args {n : Nat} (as : List AV) (h : as.length ≤ n) : as ++ List.replicate (n - as.length) .undef = FM n (enumA 0 as) := by
  apply List.ext_getElem?
  intro t
  by_cases ht : t < n
  · rw [FM_get _ ht, lk_enumA]
    simp only [Nat.zero_le, if_true, Nat.sub_zero]
    by_cases h2 : t < as.length
    · rw [List.getElem?_append_left h2, List.getD_eq_getElem?_getD, List.getElem?_eq_getElem h2]; rfl
    · rw [List.getElem?_append_right (by omega), List.getElem?_replicate, if_pos (by omega), List.getD_eq_getElem?_getD, List.getElem?_eq_none (by omega)]; rfl
  · rw [List.getElem?_eq_none (by simp; omega), List.getElem?_eq_none (by rw [FM_length]; omega)]

/-- A rising row as slots from lo on. -/
theorem keeps_FM (n0 : Nat) : ∀ (len lo : Nat) (m : List (Nat × AV)) (acc : List Nat), incK (lo + len) lo m = true → keeps n0 ((List.range' lo len).map (lk m)) acc = keeps n0 (snds m) acc
  | 0, lo, [], acc, _ => rfl
  | 0, lo, (k, v) :: m, acc, h => by
    simp only [incK, Bool.and_eq_true, decide_eq_true_eq] at h
    omega
  | len + 1, lo, m, acc, h => by
    rw [List.range'_succ, List.map_cons]
    cases m with
    | nil =>
      have := keeps_FM n0 len (lo + 1) [] acc rfl
      simp only [lk, keeps, AV.top]
      exact this
    | cons p r =>
      obtain ⟨k, v⟩ := p
      simp only [incK, Bool.and_eq_true, decide_eq_true_eq] at h
      obtain ⟨⟨h1, h2⟩, h3⟩ := h
      by_cases e : k = lo
      · subst e
        have tl : (List.range' (k + 1) len).map (lk ((k, v) :: r)) = (List.range' (k + 1) len).map (lk r) := by
          apply List.map_congr_left
          intro t ht
          have := List.mem_range'_1.1 ht
          simp only [lk]
          rw [if_neg (by omega)]
        have ih := fun acc => keeps_FM n0 len (k + 1) r acc (by rw [show k + 1 + len = k + (len + 1) by omega]; exact h3)
        rw [tl]
        have e0 : lk ((k, v) :: r) k = v := if_pos rfl
        rw [e0]
        simp only [snds]
        unfold keeps
        cases v.top with
        | none => dsimp only; exact ih acc
        | some id => dsimp only; split <;> exact ih _
      · have ih := keeps_FM n0 len (lo + 1) ((k, v) :: r) acc (by
          simp only [incK, Bool.and_eq_true, decide_eq_true_eq]
          rw [show lo + 1 + len = lo + (len + 1) by omega]
          exact ⟨⟨by omega, h2⟩, h3⟩)
        have hz : lk ((k, v) :: r) lo = .undef := by
          have : ∀ (m : List (Nat × AV)) (a t : Nat), incK (lo + (len + 1)) a m = true → t < a → lk m t = .undef := by
            intro m
            induction m with
            | nil => intro a t _ _; rfl
            | cons p r ih =>
              obtain ⟨k, v⟩ := p
              intro a t h ht
              simp only [incK, Bool.and_eq_true, decide_eq_true_eq] at h
              simp only [lk]
              rw [if_neg (by omega)]
              exact ih (k + 1) t h.2 (by omega)
          simp only [lk]
          rw [if_neg e]
          exact this r (k + 1) lo h3 (by omega)
        rw [hz]
        simp only [keeps, AV.top]
        exact ih

theorem lk_renM (n0 : Nat) (ks : List Nat) (t : Nat) : ∀ m : List (Nat × AV), lk (renM n0 ks m) t = ren n0 ks (lk m t)
  | [] => rfl
  | (k, v) :: m => by
    simp only [renM, lk]
    split
    · rfl
    · exact lk_renM n0 ks t m
theorem FM_ren (n n0 : Nat) (ks : List Nat) (m : List (Nat × AV)) : (FM n m).map (ren n0 ks) = FM n (renM n0 ks m) := by
  unfold FM
  rw [List.map_map]
  apply List.map_congr_left
  intro t _
  exact (lk_renM n0 ks t m).symm

def allM (n0 : Nat) : List (Nat × AV) → Bool
  | [] => true
  | (_, v) :: r => (v.top.isSome || decide (v.refs ≤ n0)) && allM n0 r
theorem lk_mem {m : List (Nat × AV)} {n lo t : Nat} : incK n lo m = true → lk m t = .undef ∨ ∃ p ∈ m, p.2 = lk m t := by
  induction m generalizing lo with
  | nil => exact fun _ => .inl rfl
  | cons p r ih =>
    obtain ⟨k, v⟩ := p
    intro h
    simp only [incK, Bool.and_eq_true, decide_eq_true_eq] at h
    simp only [lk]
    split
    · exact .inr ⟨_, List.mem_cons_self, rfl⟩
    · rcases ih h.2 with h | ⟨p, hp, e⟩
      · exact .inl h
      · exact .inr ⟨p, List.mem_cons_of_mem _ hp, e⟩
theorem lk_of_mem {m : List (Nat × AV)} {n lo : Nat} : incK n lo m = true → ∀ p ∈ m, p.1 < n ∧ lk m p.1 = p.2 := by
  induction m generalizing lo with
  | nil => intro _ p hp; cases hp
  | cons q r ih =>
    obtain ⟨k, v⟩ := q
    intro h p hp
    simp only [incK, Bool.and_eq_true, decide_eq_true_eq] at h
    have low : ∀ (r : List (Nat × AV)) (a : Nat), incK n a r = true → ∀ p ∈ r, a ≤ p.1 := by
      intro r
      induction r with
      | nil => intro a _ p hp; cases hp
      | cons q r ih =>
        obtain ⟨k, v⟩ := q
        intro a h p hp
        simp only [incK, Bool.and_eq_true, decide_eq_true_eq] at h
        cases hp with
        | head => exact h.1.1
        | tail _ hp => have := ih (k + 1) h.2 p hp; omega
    cases hp with
    | head => exact ⟨h.1.2, if_pos rfl⟩
    | tail _ hp =>
      obtain ⟨g1, g2⟩ := ih h.2 p hp
      have := low r (k + 1) h.2 p hp
      refine ⟨g1, ?_⟩
      simp only [lk]
      rw [if_neg (by omega)]
      exact g2
theorem FM_all {n : Nat} {m : List (Nat × AV)} (n0 : Nat) (h : incK n 0 m = true) : ((FM n m).all fun v => v.top.isSome || decide (v.refs ≤ n0)) = allM n0 m := by
  have e : allM n0 m = m.all fun p => p.2.top.isSome || decide (p.2.refs ≤ n0) := by
    clear h
    induction m with
    | nil => rfl
    | cons p r ih => obtain ⟨k, v⟩ := p; simp [allM, ih]
  rw [e, Bool.eq_iff_iff, List.all_eq_true, List.all_eq_true]
  constructor
  · intro H p hp
    obtain ⟨h1, h2⟩ := lk_of_mem h p hp
    rw [← h2]
    exact H _ (List.mem_map.2 ⟨p.1, by simpa using h1, rfl⟩)
  · intro H v hv
    obtain ⟨t, _, rfl⟩ := List.mem_map.1 hv
    rcases lk_mem (t := t) h with e | ⟨p, hp, e⟩
    · rw [e]; simp [AV.refs]
    · rw [← e]; exact H p hp

theorem gc_FM (n0 : Nat) {n : Nat} {m : List (Nat × AV)} (nx : Nat) (os : List AObj) (wl md : Nat) (hs : incK n 0 m = true) : gc n0 (FM n m) ⟨nx, os, wl, md⟩ =
    match objsAt ⟨nx, os, wl, md⟩ n0 (keeps n0 (snds m) []) with
    | some ks => if n0 ≤ wl ∧ n0 ≤ nx ∧ allM n0 m = true then
        (FM n (renM n0 (keeps n0 (snds m) []) m), ⟨n0 + ks.length, ks.reverse ++ os.drop (nx - n0), wl, md⟩) else (FM n m, ⟨nx, os, wl, md⟩)
    | none => (FM n m, ⟨nx, os, wl, md⟩) := by
  have hk : keeps n0 (FM n m) [] = keeps n0 (snds m) [] := by
    have := keeps_FM n0 n 0 m [] (by rw [Nat.zero_add]; exact hs)
    rw [← List.range_eq_range'] at this
    exact this
  unfold gc
  rw [hk, FM_all n0 hs, FM_ren]
  rfl

theorem gc_FM0 (n0 n nx : Nat) (os : List AObj) (wl md : Nat) : gc n0 (FM n []) ⟨nx, os, wl, md⟩ = if n0 ≤ wl ∧ n0 ≤ nx then (FM n [], ⟨n0, os.drop (nx - n0), wl, md⟩) else (FM n [], ⟨nx, os, wl, md⟩) := by
  rw [gc_FM (m := []) n0 nx os wl md rfl]
  simp [keeps, snds, objsAt, allM, renM]

end Sz
