import Derived.Test.YtmbccebjkenofaaGreatDoorSz1
import Derived.Laws.IdiomStrings
import Derived.LoopN
import Derived.Orders
set_option linter.unusedVariables false
set_option linter.unusedSimpArgs false
set_option linter.unusedSectionVars false

/- append, clear, make. No program is named here. -/
namespace Sz
open Go
section
variable {P : Program} {φ : Phi} {h : Heap} {w : World} {fr : List AV} {a : Act}
theorem flat_get {α β : Type} (f : α → List β) (sz : Nat) : ∀ (xs : List α), (∀ x ∈ xs, (f x).length = sz) → (xs.flatMap f).length = xs.length * sz ∧
    ∀ i j (hi : i < xs.length), j < sz → (xs.flatMap f)[i * sz + j]? = (f xs[i])[j]?
  | [], _ => ⟨by simp, fun i j hi => by simp at hi⟩
  | x :: xs, hx => by
    have h1 := hx x (by simp)
    obtain ⟨g1, g2⟩ := flat_get f sz xs fun y hy => hx y (by simp [hy])
    refine ⟨by simp [g1, h1, Nat.add_mul]; omega, fun i j hi hj => ?_⟩
    rw [List.flatMap_cons]
    cases i with
    | zero =>
      rw [List.getElem?_append_left (by omega)]
      simp
    | succ i =>
      rw [List.getElem?_append_right (by rw [Nat.add_mul]; omega)]
      have := g2 i j (by simpa using hi) hj
      rw [show (i + 1) * sz + j - (f x).length = i * sz + j by rw [Nat.add_mul]; omega, this]
      simp
theorem elemsA_ok {sz n : Nat} {y : AV} {cy : Value} {news : List AV} (he : elemsA h sz y = some (n, news)) (hy : RVh φ h w y cy) (hr : HR φ h w) (hpos : 0 < sz) :
    news.length = n * sz ∧ ∃ f : Nat → Value, (∀ j, j < n * sz → RVh φ h w (news.getD j .undef) (f j) ∧ (f j).oneCell' = true) ∧ (∀ w', (Builtin.lenOf cy).run P w' = .ok n w') ∧
      ∀ w' : World, w'.heap = w.heap → (Builtin.firstCells sz n cy).run P w' = .ok ((List.range (n * sz)).map f).toArray w' := by
  have nilcase : ∀ ad cap, (Builtin.firstCells sz 0 (.slice ad 0 cap)).run P w = .ok #[] w := fun ad cap => by
    cases ad <;> simp [Builtin.firstCells, loadCells, loadCellsFrom]
  have nilcase' : ∀ ad cap (w' : World), (Builtin.firstCells sz 0 (.slice ad 0 cap)).run P w' = .ok #[] w' := fun ad cap w' => by
    cases ad <;> simp [Builtin.firstCells, loadCells, loadCellsFrom]
  unfold elemsA at he
  split at he
  · cases he
    obtain ⟨ad, rfl⟩ := hy.nils_inv
    exact ⟨by simp, fun _ => default, fun j hj => by simp at hj, fun w' => by simp [Builtin.lenOf], fun w' _ => by simpa using nilcase' ad 0 w'⟩
  · rename_i xs
    split at he
    · rename_i hall
      cases he
      have hlen : ∀ x ∈ xs, x.cells.length = sz := fun x hx => by
        have := List.all_eq_true.1 hall x hx
        cases x <;> simp [AV.cells?] at this <;> simp [AV.cells, this]
      obtain ⟨g1, g2⟩ := flat_get AV.cells sz xs hlen
      refine ⟨g1, ?_⟩
      rcases hy.sl_inv with ⟨ad, cap, rfl, rfl⟩ | ⟨b, o, cap, sz', vs, rfl, hpr, hcap, hrf, h1, hsz, hc, hv⟩
      · exact ⟨fun _ => default, fun j hj => by simp at hj, fun w' => by simp [Builtin.lenOf], fun w' _ => by simpa using nilcase' ad cap w'⟩
      · rcases Nat.eq_zero_or_pos xs.length with h0 | h0
        · have hn : xs = [] := List.eq_nil_of_length_eq_zero h0
          subst hn
          exact ⟨fun _ => default, fun j hj => by simp at hj, fun w' => by simp [Builtin.lenOf], fun w' _ => by simpa using nilcase' _ cap w'⟩
        · have hss : sz' = sz := by
            have q1 := hsz 0 h0
            have q2 := List.all_eq_true.1 hall xs[0] (List.getElem_mem h0)
            rw [q1] at q2
            simpa using q2
          subst hss
          have hdm : ∀ j, j < xs.length * sz' → j / sz' < xs.length ∧ j % sz' < sz' ∧ j / sz' * sz' + j % sz' = j := fun j hj => by
            refine ⟨Nat.div_lt_of_lt_mul (by rw [Nat.mul_comm]; exact hj), Nat.mod_lt _ hpos, ?_⟩
            rw [Nat.mul_comm]; exact Nat.div_add_mod j sz'
          refine ⟨fun j => vs (j / sz') (j % sz'), fun j hj => ⟨?_, h1 _ _⟩, fun w' => by simp [Builtin.lenOf], fun w' hw' => ?_⟩
          · obtain ⟨d1, d2, d3⟩ := hdm j hj
            have e1 := g2 (j / sz') (j % sz') d1 d2
            rw [d3] at e1
            have d4 : j % sz' < (xs[j / sz']).cells.length := by rw [hlen _ (List.getElem_mem d1)]; exact d2
            rw [List.getElem?_eq_getElem d4] at e1
            rw [List.getD_eq_getElem?_getD, e1]
            exact hv _ d1 _ d4
          · simp only [Builtin.firstCells]
            refine run_loadCells w' _ _ _ fun j hj => ?_
            obtain ⟨d1, d2, d3⟩ := hdm j hj
            have := hc _ _ d1 d2
            rw [Nat.add_assoc, d3] at this
            rw [Addr.add_lit, ← this]
            unfold World.cell?
            rw [hw']
    · cases he
  · rename_i id off len s lb
    split at he
    · rename_i cs hrow
      have hg := row_some hrow
      split at he
      · rename_i hc
        obtain ⟨rfl, hle⟩ := hc
        cases he
        obtain ⟨cap, ad, rfl, hid, hl, hlb, hroom, ha⟩ := hy.vec_inv
        refine ⟨by simp; omega, ?_⟩
        rcases Nat.eq_zero_or_pos n with h0 | h0
        · subst h0
          exact ⟨fun _ => default, fun j hj => by simp at hj, fun w' => by simp [Builtin.lenOf], fun w' _ => by simpa using nilcase' ad cap w'⟩
        · rw [ha (by omega)]
          have hcell : ∀ j, j < n * s → ∃ v, w.cell? ⟨(φ id).blk, (φ id).base + (off + j), none⟩ = some v ∧ RVh φ h w (cs.getD (off + j) .undef) v ∧ v.oneCell' = true := fun j hj => by
            obtain ⟨v, c1, c2, c3⟩ := row_cell hr hg (off + j) (by omega)
            have hlt : off + j < cs.length := by omega
            exact ⟨v, c1, by simpa [List.getD, hlt] using c2, c3⟩
          refine ⟨fun j => (w.cell? ⟨(φ id).blk, (φ id).base + (off + j), none⟩).getD default, fun j hj => ?_, fun w' => by simp [Builtin.lenOf], fun w' hw' => ?_⟩
          · obtain ⟨v, c1, c2, c3⟩ := hcell j hj
            dsimp only
            rw [c1]
            have hlt : off + j < cs.length := by omega
            have hlt' : j < ((cs.drop off).take (n * s)).length := by simp; omega
            refine ⟨?_, c3⟩
            rw [List.getD_eq_getElem?_getD, List.getElem?_take, if_pos hj, List.getElem?_drop]
            rw [List.getD_eq_getElem?_getD] at c2
            exact c2
          · simp only [Builtin.firstCells]
            refine run_loadCells w' _ _ _ fun j hj => ?_
            obtain ⟨v, c1, c2, c3⟩ := hcell j hj
            have e : w'.cell? ⟨(φ id).blk, (φ id).base + (off + j), none⟩ = w.cell? ⟨(φ id).blk, (φ id).base + (off + j), none⟩ := by unfold World.cell?; rw [hw']
            rw [Addr.add_lit, Nat.add_assoc, e, c1]
            rfl
      · cases he
    · cases he
  · rename_i s
    split at he
    · rename_i hs
      subst hs
      cases he
      obtain ⟨b, rfl, rfl⟩ := hy.str_inv
      have hbl : b.data.toList.length = b.size := Array.length_toList
      refine ⟨by simp, fun j => .int .u8 ((b.data.toList.getD j 0).toNat), fun j hj => ⟨?_, rfl⟩, fun w' => by rw [hbl]; rfl, fun w' _ => ?_⟩
      · have hj' : j < b.data.toList.length := by omega
        simp only [List.getD_eq_getElem?_getD, List.getElem?_map, List.getElem?_eq_getElem hj', Option.map_some, Option.getD_some]
        exact .int _ _
      · simp only [Builtin.firstCells, Sem.run_pure, Nat.mul_one]
        congr 1
        apply Array.ext'
        rw [hbl]
        have : (b.extract 0 b.size) = b := by simp
        rw [this]
        apply List.ext_getElem?
        intro j
        by_cases hj : j < b.data.toList.length
        · have hj2 : j < b.data.size := by simpa using hj
          have hj3 : j < b.size := hj2
          simp [hj3]
        · have hj2 : ¬ j < b.data.size := by simpa using hj
          have hj3 : ¬ j < b.size := hj2
          simp [hj3]
    · cases he
  · cases he
theorem madeSize {z : Array Value} {n : Nat} : (Builtin.zeroCells z n).size = n * z.size := by simp [Builtin.zeroCells]
theorem zeroCells_one {z : Array Value} (hz : ∀ j, (z.getD j default).oneCell' = true) (n j : Nat) : ((Builtin.zeroCells z n).getD j default).oneCell' = true := by
  unfold Builtin.zeroCells
  by_cases hj : j < n * z.size
  · have hpos : 0 < z.size := Nat.pos_of_ne_zero fun e => by simp [e] at hj
    have hm : j % z.size < z.size := Nat.mod_lt _ hpos
    have := hz (j % z.size)
    simpa [Array.getD, hj, hm] using this
  · simp [Array.getD, hj]; rfl
theorem op_app_new {s : Sem Next} {h1 : Heap} {φ1 : Phi} (hr1 : HR φ1 h1 w) (hx1 : Ext φ h w φ1 h1 w) {el : TypeId} {m n cap sz : Nat} {cs : List AV} (f : Nat → Value) {rest : Array Value} {w' : World}
    (hcs : cs.length = m) (hf : ∀ j, j < m → RVh φ1 h1 w (cs.getD j .undef) (f j) ∧ (f j).oneCell' = true) (hrest : ∀ j, (rest.getD j default).oneCell' = true)
    (hh : w'.heap = w.heap.push (.cells (((List.range m).map f).toArray ++ rest) el)) (ho : w'.os = w.os) (ht : w'.tape = w.tape) (hout : w'.output = w.output)
    (hs : s.run P w = .ok (.value (.slice (some ⟨w.heap.size, 0, none⟩) n cap)) w') (hn : n ≤ cap) (hroom : cap * sz ≤ m + rest.size) :
    OpOK P s φ h w (.vec h1.next 0 n sz n) (h1.alloc (.row cs)) := by
  have hsz : (((List.range m).map f).toArray ++ rest).size = m + rest.size := by simp
  have hget : ∀ j, j < m → (((List.range m).map f).toArray ++ rest).getD j default = f j := fun j hj => by
    have : j < m + rest.size := by omega
    simp [Array.getD, this, hj]
  have k1 : ∀ j, j < (((List.range m).map f).toArray ++ rest).size → ((((List.range m).map f).toArray ++ rest).getD j default).oneCell' = true := fun j hj => by
    by_cases hjm : j < m
    · rw [hget j hjm]; exact (hf j hjm).2
    · have := hrest (j - m)
      rw [hsz] at hj
      have h3 : j - m < rest.size := by omega
      simp only [Array.getD, h3, dif_pos] at this
      have h4 : j < m + rest.size := hj
      simpa [Array.getD, h4, Array.getElem_append, hjm] using this
  have k2 : ∀ j (hj : j < cs.length), RVh φ1 h1 w cs[j] ((((List.range m).map f).toArray ++ rest).getD j default) := fun j hj => by
    have hjm : j < m := by omega
    rw [hget j hjm]
    have := (hf j hjm).1
    simpa [List.getD, hj] using this
  obtain ⟨g1, g2⟩ := new_row (w' := w') (c := ((List.range m).map f).toArray ++ rest) (el := el) (fz := (0, 0)) (cs := cs) hr1 hh ho ht hout (by simp) k1 (by rw [hsz]; omega) k2
  exact ⟨_, w', _, .inl hs, vec_new (.row cs) w.heap.size _ n sz n cap hn hn (by rw [hsz]; exact hroom), g1, hx1.trans g2⟩
theorem run_append_room {t u e : TypeId} {ty : TypeId} {i : TypeInfo} (ht : P.underlying t = some (.slice e)) {du : TypeDesc} (hu : P.underlying u = some du) (hdu : ∀ k, du ≠ .int k) (hi : P.info? e = some i)
    {ad : Option Addr} {sLen sCap n : Nat} {y : Value} {news : Array Value} {w1 : World} (hl : (Builtin.lenOf y).run P w = .ok n w) (hfit : sLen + n ≤ sCap) (hn : (Builtin.firstCells i.size n y).run P w = .ok news w)
    (hst : (match ad with | some a => storeCells (a.add (sLen * i.size)) news.toList | none => Pure.pure ()).run P w = .ok () w1) :
    (Builtin.append_ #[t, u] ty #[.slice ad sLen sCap, y]).run P w = .ok (.slice ad (sLen + n) sCap) w1 := by
  cases ad with
  | none =>
    simp only [Sem.run_pure, Result.ok.injEq, true_and] at hst
    subst hst
    simp [Builtin.append_, run_underlying ht, run_underlying hu, run_sz hi, hl, hfit, hn]
  | some ad =>
    simp at hst
    simp [Builtin.append_, run_underlying ht, run_underlying hu, run_sz hi, hl, hfit, hn, hst]
theorem run_append_over {t u e : TypeId} {ty : TypeId} {i : TypeInfo} {z : Value} (ht : P.underlying t = some (.slice e)) {du : TypeDesc} (hu : P.underlying u = some du) (hdu : ∀ k, du ≠ .int k) (hi : P.info? e = some i) (hz0 : i.zero = some z)
    {ad : Option Addr} {sLen sCap n : Nat} {y : Value} {olds news : Array Value} (hl : (Builtin.lenOf y).run P w = .ok n w) (hover : sCap < sLen + n) (h63 : sLen + n < 2 ^ 63) (hbytes : (sLen + n) * i.bytes ≤ 140737488355328)
    (ho : (Builtin.firstCells i.size sLen (.slice ad sLen sCap)).run P w.drew = .ok olds w.drew) (hn : (Builtin.firstCells i.size n y).run P w.drew = .ok news w.drew) :
    (Builtin.append_ #[t, u] ty #[.slice ad sLen sCap, y]).run P w = .ok (.slice (some ⟨w.heap.size, 0, none⟩) (sLen + n) (grownCap w (sLen + n) sCap e))
      (w.drew.alloc (.cells (olds ++ news ++ Builtin.zeroCells z.cells (grownCap w (sLen + n) sCap e - (sLen + n))) e)) := by
  have h1 : ¬ (sLen + n ≤ sCap) := by omega
  have h2 : ¬ (9223372036854775807 < (sLen : Int) + (n : Int)) := by omega
  have h3 : ¬ (281474976710656 < Builtin.nextslicecap (sLen + n) sCap * i.bytes) := by
    have := growslice_fits hover hbytes
    omega
  simp [Builtin.append_, run_underlying ht, run_underlying hu, run_sz hi, hl, h1, h2, h3, typeInfo, hi, zeroValue, hz0, Question.forced, ho, hn, newRow, grownCap]
theorem range_append {f g : Nat → Value} (m n : Nat) : ((List.range m).map f).toArray ++ ((List.range n).map g).toArray = ((List.range (m + n)).map fun j => if j < m then f j else g (j - m)).toArray := by
  apply Array.ext'
  simp only [Array.toList_append]
  rw [List.range_add, List.map_append]
  congr 1
  · apply List.map_congr_left
    intro j hj
    rw [if_pos (by simpa using hj)]
  · rw [List.map_map]
    apply List.map_congr_left
    intro j _
    simp only [Function.comp]
    rw [if_neg (by omega), Nat.add_sub_cancel_left]
theorem le_grownCap (w : World) (need old : Nat) (e : TypeId) : need ≤ grownCap w need old e := Nat.le_add_right _ _
theorem grow_in_place (hr : HR φ h w) {id off k : Nat} {cs news : List AV} {cvs : List Value} (hg : h.get id = some (.row cs)) (hle : off + k ≤ cs.length) (room : Nat) (hroom : off + room ≤ (φ id).room) (hfit : k + news.length ≤ room)
    (hlen : news.length = cvs.length) (hv : ∀ j (h1 : j < news.length) (h2 : j < cvs.length), RVh φ h w news[j] cvs[j] ∧ cvs[j].oneCell' = true) :
    ∃ w', (storeCells ⟨(φ id).blk, (φ id).base + off + k, none⟩ cvs).run P w = .ok () w' ∧
      HR (addPE φ h.next ⟨(φ id).blk, (φ id).base + off, room⟩) ((h.set id .dead).alloc (.row ((cs.drop off).take k ++ news))) w' ∧
      Ext φ h w (addPE φ h.next ⟨(φ id).blk, (φ id).base + off, room⟩) ((h.set id .dead).alloc (.row ((cs.drop off).take k ++ news))) w' := by
  obtain ⟨c, el, fz, h1, h2, h3, h4, h5, h6⟩ := hr.rows id cs hg
  have hlive : live h id := ⟨_, hg, fun e => by cases e⟩
  obtain ⟨w', e1, e2, e3, e4, e5, e6, e7⟩ := run_storeCells (P := P) cvs c ((φ id).base + off + k) 0 w h1 (by omega) h4 (fun v hvm => by
    obtain ⟨j, hj, rfl⟩ := List.getElem_of_mem hvm
    exact (hv j (by omega) hj).2)
  have hnx : (h.set id .dead).next = h.next := by simp
  have lv : ∀ i, live ((h.set id .dead).alloc (.row ((cs.drop off).take k ++ news))) i → i = h.next ∨ (live h i ∧ i ≠ id ∧ i < h.next) := fun i hi => by
    rcases live_alloc hi with e | ⟨hl, hlt⟩
    · exact .inl (by rw [e, hnx])
    · obtain ⟨q1, q2⟩ := live_kill1 hl
      exact .inr ⟨q1, q2, by rw [← hnx]; exact hlt⟩
  have hφn : ∀ i, i < h.next → addPE φ h.next ⟨(φ id).blk, (φ id).base + off, room⟩ i = φ i := fun i hi => by simp [addPE, Nat.ne_of_lt hi]
  have hφe : addPE φ h.next ⟨(φ id).blk, (φ id).base + off, room⟩ h.next = ⟨(φ id).blk, (φ id).base + off, room⟩ := by simp [addPE]
  have ext : Ext φ h w (addPE φ h.next ⟨(φ id).blk, (φ id).base + off, room⟩) ((h.set id .dead).alloc (.row ((cs.drop off).take k ++ news))) w' := by
    refine ⟨e5, e6, e7, by omega, by simp, hφn, fun b hb => ?_, rfl, fun b hb => e4 b fun e => (hr.gh b hb).2 id hlive e.symm⟩
    have hne : b ≠ (φ id).blk := fun e => hb.2.1 id hlive e.symm
    refine ⟨⟨by rw [e3]; exact hb.1, fun i hi => ?_, hb.2.2⟩, e4 b hne⟩
    rcases lv i hi with rfl | ⟨q1, q2, q3⟩
    · rw [hφe]
      exact Ne.symm hne
    · rw [hφn i q3]
      exact hb.2.1 i q1
  refine ⟨w', e1, ⟨Heap.wf_alloc _ (Heap.wf_set _ _ hr.wf), fun i cs' hi => ?_, fun i es hi => ?_, fun i j hi hj hij => ?_, fun b hb => ⟨by rw [e3]; exact (hr.gh b hb).1, fun i hi => ?_⟩⟩, ext⟩
  · rcases lv i ⟨_, hi, fun e => by cases e⟩ with rfl | ⟨q1, q2, q3⟩
    · rw [← hnx, Heap.get_alloc_new] at hi
      cases hi
      have hlen2 : ((cs.drop off).take k ++ news).length = k + news.length := by simp; omega
      refine ⟨_, el, fz, by rw [hφe]; exact e2, by rw [hφe, setAll_size]; dsimp only; omega, by rw [hφe, hlen2]; exact hfit, by rw [setAll_size]; exact h4, fun j hj => ?_, fun j hj => ?_⟩
      · rw [hφe] at hj ⊢
        dsimp only at hj ⊢
        rw [setAll_get _ _ _ _ (by omega)]
        split
        · rename_i hin
          have hlt : (φ id).base + off + j - ((φ id).base + off + k + 0) < cvs.length := by omega
          have := (hv _ (by omega) hlt).2
          rw [List.getD_eq_getElem?_getD, List.getElem?_eq_getElem hlt]
          exact this
        · have := h5 (off + j) (by omega)
          rw [Nat.add_assoc]
          exact this
      · rw [hφe]
        dsimp only
        rw [setAll_get _ _ _ _ (by omega)]
        by_cases hjk : j < k
        · rw [if_neg (by omega)]
          have q : off + j < cs.length := by omega
          have := (h6 (off + j) q).ext ext
          rw [Nat.add_assoc]
          have hjt : j < ((cs.drop off).take k).length := by simp; omega
          rw [List.getElem_append_left hjt]
          simpa using this
        · rw [if_pos (by omega)]
          have q1 : j - k < news.length := by omega
          have q2 : (φ id).base + off + j - ((φ id).base + off + k + 0) = j - k := by omega
          have q3 : j - k < cvs.length := by omega
          have := ((hv _ q1 q3).1).ext ext
          rw [q2, List.getD_eq_getElem?_getD, List.getElem?_eq_getElem q3]
          have hjt : ((cs.drop off).take k).length = k := by simp; omega
          rw [List.getElem_append_right (by omega)]
          simpa [hjt] using this
    · rw [Heap.get_alloc_old (by rw [hnx]; exact q3), Heap.get_set_other (Ne.symm q2)] at hi
      exact (hr.rows i cs' hi).ext ext q3 (e4 _ fun e => q2 (hr.inj i id q1 hlive e))
  · rcases lv i ⟨_, hi, fun e => by cases e⟩ with rfl | ⟨q1, q2, q3⟩
    · rw [← hnx, Heap.get_alloc_new] at hi
      cases hi
    · rw [Heap.get_alloc_old (by rw [hnx]; exact q3), Heap.get_set_other (Ne.symm q2)] at hi
      exact (hr.maps i es hi).ext ext q3 (e4 _ fun e => q2 (hr.inj i id q1 hlive e))
  · rcases lv i hi with rfl | ⟨q1, q2, q3⟩ <;> rcases lv j hj with rfl | ⟨r1, r2, r3⟩
    · rfl
    · rw [hφe, hφn j r3] at hij
      exact absurd (hr.inj id j hlive r1 hij).symm r2
    · rw [hφe, hφn i q3] at hij
      exact absurd (hr.inj i id q1 hlive hij) q2
    · rw [hφn i q3, hφn j r3] at hij
      exact hr.inj i j q1 r1 hij
  · rcases lv i hi with rfl | ⟨q1, q2, q3⟩
    · rw [hφe]
      exact (hr.gh b hb).2 id hlive
    · rw [hφn i q3]
      exact (hr.gh b hb).2 i q1
theorem op_app {t u e : TypeId} {x y : Operand} {o : Oper} (ho : o.op = .call { callee := .builtin .append, args := #[x, y], argTypes := #[t, u] }) {x' y' : Opd} (hx : opd x = some x') (hy : opd y = some y')
    (ht : P.underlying t = some (.slice e)) {du : TypeDesc} (hu : P.underlying u = some du) (hdu : ∀ k, du ≠ .int k) {i : TypeInfo} (hi : P.info? e = some i) {z : List AV} (hz : zeroC P e = some z) (hzl : z.length = i.size) (hpos : 0 < i.size)
    {n : Nat} {news : List AV} (hn : elemsA h i.size (y'.ev fr) = some (n, news)) {v : AV} {h' : Heap}
    (he : (match x'.ev fr with
      | .nils => if n = 0 then some (AV.nils, h) else
        if n * i.bytes ≤ 140737488355328 ∧ n < 2 ^ 63 then some (.vec h.next 0 n i.size n, h.alloc (.row news)) else none
      | .vec id off len s lb => match h.row id with
        | some cs => if s = i.size ∧ off + len * i.size ≤ cs.length then
            if n = 0 then some (.vec id off len s lb, h) else
            if len + n ≤ lb ∧ off + (len + n) * i.size ≤ cs.length then some (.vec id off (len + n) i.size lb, (h.set id (.row (putAt cs (off + len * i.size) news))).mark id (.agg news)) else
            if (len + n) * i.bytes ≤ 140737488355328 ∧ len + n < 2 ^ 63 then
              some (.vec h.next 0 (len + n) i.size (len + n), (h.set id .dead).alloc (.row ((cs.drop off).take (len * i.size) ++ news))) else none
          else none
        | none => none
      | _ => none) = some (v, h')) (hf : FR φ h w fr a.tmps) (hr : HR φ h w) : OpOK P (execOp a.eval o) φ h w v h' := by
  have g1 := opd_ok hx hf
  have g2 := opd_ok hy hf
  obtain ⟨n1, f, n2, n3, n4⟩ := elemsA_ok (P := P) hn g2 hr hpos
  obtain ⟨i', zv, hi', hzi, k1, k2, k3⟩ := zeroC_ok (φ := φ) hz
  obtain rfl : i = i' := by rw [hi] at hi'; exact Option.some.inj hi'
  have hex : ∀ r w1, (Builtin.append_ #[t, u] o.type #[a.eval x, a.eval y]).run P w = .ok r w1 → (execOp a.eval o).run P w = .ok (.value r) w1 := fun r w1 hrun => by
    unfold execOp
    simp [ho, resolve, invoke, builtin, hrun]
  have hzs : ∀ m, (Builtin.zeroCells zv.cells m).size = m * i.size := fun m => by rw [madeSize]; rw [k1, hzl]
  split at he
  · rename_i e1
    rw [e1] at g1
    obtain ⟨ad, hq⟩ := g1.nils_inv
    split at he
    · rename_i h0
      cases he
      subst h0
      have := run_append_room (P := P) (ty := o.type) (ad := ad) (sLen := 0) (sCap := 0) (w1 := w) ht hu hdu hi (n3 w) (Nat.le_refl _) (n4 w rfl) (by cases ad <;> simp [storeCells])
      rw [← hq] at this
      exact .pure hr (hex _ _ this) g1
    · rename_i h0
      split at he
      · rename_i hc
        cases he
        have hold : (Builtin.firstCells i.size 0 (.slice ad 0 0)).run P w.drew = .ok #[] w.drew := by cases ad <;> simp [Builtin.firstCells, loadCells, loadCellsFrom]
        have := run_append_over (P := P) (ty := o.type) ht hu hdu hi hzi (ad := ad) (sLen := 0) (sCap := 0) (n3 w) (by omega) (by omega) (by simpa using hc.1) hold (n4 w.drew rfl)
        rw [← hq, Nat.zero_add, Array.empty_append] at this
        have hcap := le_grownCap w n 0 e
        refine op_app_new (P := P) hr (.refl _ _ _) (el := e) (m := n * i.size) (cap := grownCap w n 0 e) (rest := Builtin.zeroCells zv.cells (grownCap w n 0 e - n)) f n1 n2 (zeroCells_one k2 _) (w' := w.drew.alloc _) rfl rfl rfl rfl (hex _ _ this) hcap ?_
        · rw [hzs, ← Nat.add_mul]
          exact Nat.mul_le_mul_right _ (by omega)
      · cases he
  · rename_i id off len s lb e1
    rw [e1] at g1
    obtain ⟨cap, ad, hq, hid, hl, hlb, hroom, ha⟩ := g1.vec_inv
    split at he
    · rename_i cs hrow
      have hg := row_some hrow
      split at he
      · rename_i hc
        obtain ⟨rfl, hle⟩ := hc
        split at he
        · rename_i h0
          cases he
          subst h0
          have := run_append_room (P := P) (ty := o.type) (ad := ad) (sLen := len) (sCap := cap) (w1 := w) ht hu hdu hi (n3 w) (by omega) (n4 w rfl) (by cases ad <;> simp [storeCells])
          rw [← hq] at this
          rw [Nat.add_zero, ← hq] at this
          exact .pure hr (hex _ _ this) g1
        · rename_i h0
          have hinplace : len + n ≤ cap → off + (len + n) * i.size ≤ cs.length → ∃ w', (Builtin.append_ #[t, u] o.type #[a.eval x, a.eval y]).run P w = .ok (.slice ad (len + n) cap) w' ∧
              HR φ (h.set id (.row (putAt cs (off + len * i.size) news))) w' ∧ Ext φ h w φ (h.set id (.row (putAt cs (off + len * i.size) news))) w' := fun hfit hcl => by
            have had := ha (by omega)
            have hcells : (off + len * i.size) + news.length ≤ cs.length := by rw [n1]; rw [Nat.add_mul] at hcl; omega
            obtain ⟨w', q1, q2, q3⟩ := write_row (P := P) (cvs := (List.range (n * i.size)).map f) hr hg hcells (by simp [n1]) fun j q1 q2 => by
              have hj : j < n * i.size := by omega
              have := n2 j hj
              rw [List.getD_eq_getElem?_getD, List.getElem?_eq_getElem q1] at this
              simpa using this
            refine ⟨w', ?_, q2, q3⟩
            have := run_append_room (P := P) (ty := o.type) (ad := ad) (sLen := len) (sCap := cap) (w1 := w') ht hu hdu hi (n3 w) hfit (n4 w rfl) (by
              rw [had]
              simp only [Addr.add_lit]
              rw [Nat.add_assoc]
              simpa using q1)
            rw [hq]
            exact this
          split at he
          · rename_i hc2
            cases he
            obtain ⟨w', q1, q2, q3⟩ := hinplace (by omega) hc2.2
            obtain ⟨m1, m2⟩ := q2.mark id (.agg news)
            refine ⟨_, w', φ, .inl (hex _ _ q1), ?_, m1, q3.trans m2⟩
            exact .vec _ _ _ _ _ _ _ (by simpa using hid) (by omega) hlb hroom ha
          · rename_i hc2
            split at he
            · rename_i hc3
              cases he
              by_cases hfit : len + n ≤ cap
              · have had := ha (by omega)
                obtain ⟨w', q1, q2, q3⟩ := grow_in_place (P := P) (cvs := (List.range (n * i.size)).map f) hr hg hle (cap * i.size) hroom (by rw [n1, ← Nat.add_mul]; exact Nat.mul_le_mul_right _ hfit) (by simp [n1]) fun j q1 q2 => by
                  have hj : j < n * i.size := by omega
                  have := n2 j hj
                  rw [List.getD_eq_getElem?_getD, List.getElem?_eq_getElem q1] at this
                  simpa using this
                have := run_append_room (P := P) (ty := o.type) (ad := ad) (sLen := len) (sCap := cap) (w1 := w') ht hu hdu hi (n3 w) hfit (n4 w rfl) (by
                  rw [had]
                  simp only [Addr.add_lit]
                  simpa using q1)
                rw [← hq] at this
                refine ⟨_, w', _, .inl (hex _ _ this), .vec _ _ _ _ _ _ _ (by simp) hfit hfit ?_ ?_, q2, q3⟩
                · simp [addPE]
                · intro _
                  rw [had]
                  simp [addPE]
              · have hover : cap < len + n := by omega
                obtain ⟨kr, kx⟩ := kill1 hr id
                have hcell : ∀ j, j < len * i.size → ∃ v, w.cell? ⟨(φ id).blk, (φ id).base + (off + j), none⟩ = some v ∧ RVh φ h w (cs.getD (off + j) .undef) v ∧ v.oneCell' = true := fun j hj => by
                  obtain ⟨v, c1, c2, c3⟩ := row_cell hr hg (off + j) (by omega)
                  have hlt : off + j < cs.length := by omega
                  exact ⟨v, c1, by simpa [List.getD, hlt] using c2, c3⟩
                let g : Nat → Value := fun j => (w.cell? ⟨(φ id).blk, (φ id).base + (off + j), none⟩).getD default
                have hold : (Builtin.firstCells i.size len (.slice ad len cap)).run P w.drew = .ok ((List.range (len * i.size)).map g).toArray w.drew := by
                  rcases Nat.eq_zero_or_pos len with h00 | h00
                  · subst h00
                    cases ad <;> simp [Builtin.firstCells, loadCells, loadCellsFrom]
                  · rw [ha (by omega)]
                    simp only [Builtin.firstCells]
                    refine run_loadCells w.drew _ _ _ fun j hj => ?_
                    obtain ⟨v, c1, c2, c3⟩ := hcell j hj
                    rw [Addr.add_lit, Nat.add_assoc, World.cell?_drew, c1]
                    simp [g, c1]
                have := run_append_over (P := P) (ty := o.type) ht hu hdu hi hzi (n3 w) hover hc3.2 hc3.1 hold (n4 w.drew rfl)
                rw [← hq, range_append] at this
                have hcap := le_grownCap w (len + n) cap e
                rw [show h.next = (h.set id .dead).next by simp]
                refine op_app_new (P := P) (h1 := h.set id .dead) kr kx (el := e) (m := len * i.size + n * i.size) (cap := grownCap w (len + n) cap e) (rest := Builtin.zeroCells zv.cells (grownCap w (len + n) cap e - (len + n))) _ ?_ (fun j hj => ?_) (zeroCells_one k2 _) (w' := w.drew.alloc _) rfl rfl rfl rfl (hex _ _ this) hcap ?_
                · simp [n1]; omega
                · by_cases hjk : j < len * i.size
                  · obtain ⟨v, c1, c2, c3⟩ := hcell j hjk
                    rw [if_pos hjk]
                    have hg1 : g j = v := by simp [g, c1]
                    rw [hg1]
                    refine ⟨?_, c3⟩
                    have hjt : j < ((cs.drop off).take (len * i.size)).length := by simp; omega
                    have := c2.ext kx
                    rw [List.getD_eq_getElem?_getD, List.getElem?_append_left hjt, List.getElem?_take, if_pos hjk, List.getElem?_drop]
                    rw [List.getD_eq_getElem?_getD] at this
                    exact this
                  · rw [if_neg hjk]
                    have hjn : j - len * i.size < n * i.size := by omega
                    obtain ⟨r1, r2⟩ := n2 _ hjn
                    refine ⟨?_, r2⟩
                    have hjt : ((cs.drop off).take (len * i.size)).length = len * i.size := by simp; omega
                    have := r1.ext kx
                    rw [List.getD_eq_getElem?_getD, List.getElem?_append_right (by omega), hjt]
                    rw [List.getD_eq_getElem?_getD] at this
                    exact this
                · rw [hzs, ← Nat.add_mul, ← Nat.add_mul]
                  exact Nat.mul_le_mul_right _ (by omega)
            · cases he
      · cases he
    · cases he
  · cases he
theorem replicate_flat (z : List AV) (n : Nat) : (List.replicate n z).flatten.length = n * z.length ∧ ∀ j, j < n * z.length → (List.replicate n z).flatten.getD j .undef = z.getD (j % z.length) .undef := by
  induction n with
  | zero => simp
  | succ n ih =>
    refine ⟨by simp, fun j hj => ?_⟩
    rw [List.replicate_succ, List.flatten_cons]
    by_cases hjz : j < z.length
    · rw [List.getD_eq_getElem?_getD, List.getElem?_append_left hjz, Nat.mod_eq_of_lt hjz, List.getD_eq_getElem?_getD]
    · rw [List.getD_eq_getElem?_getD, List.getElem?_append_right (by omega)]
      have h2 := ih.2 (j - z.length) (by rw [Nat.add_mul, Nat.one_mul] at hj; omega)
      rw [List.getD_eq_getElem?_getD] at h2
      have e := Nat.mod_eq_sub_mod (a := j) (b := z.length) (by omega)
      rw [h2, e]
theorem op_mks {t e : TypeId} {l c : Operand} {o : Oper} (ho : o.op = .makeSlice t l c) {l' c' : Opd} (hl : opd l = some l') (hc : opd c = some c') (ht : P.underlying t = some (.slice e)) {i : TypeInfo} (hi : P.info? e = some i)
    {z : List AV} (hz : zeroC P e = some z) (hzl : z.length = i.size) {m n : Int} (h1 : l'.ev fr = .int .i64 m) (h2 : c'.ev fr = .int .i64 n) (hb : 0 ≤ m ∧ m ≤ n ∧ n * i.bytes ≤ 140737488355328 ∧ n < 2 ^ 63)
    (hf : FR φ h w fr a.tmps) (hr : HR φ h w) : OpOK P (execOp a.eval o) φ h w (.vec h.next 0 m.toNat z.length n.toNat) (h.alloc (.row (List.replicate n.toNat z).flatten)) := by
  obtain ⟨i', zv, hi', hzi, k1, k2, k3⟩ := zeroC_ok (φ := φ) hz
  obtain rfl : i = i' := by rw [hi] at hi'; exact Option.some.inj hi'
  have g1 := opd_ok hl hf
  have g2 := opd_ok hc hf
  rw [h1] at g1
  rw [h2] at g2
  obtain ⟨b0, b1, b2, b3⟩ := hb
  obtain ⟨n', rfl⟩ := Int.eq_ofNat_of_zero_le (by omega : 0 ≤ n)
  obtain ⟨m', rfl⟩ := Int.eq_ofNat_of_zero_le b0
  have hbn : n' * i.bytes ≤ 140737488355328 := by
    have : ((n' * i.bytes : Nat) : Int) ≤ 140737488355328 := by rw [Int.natCast_mul]; exact b2
    omega
  simp only [Int.toNat_natCast]
  obtain ⟨r1, r2⟩ := replicate_flat z n'
  let zz : Array Value := if n' * i.size = 0 then #[] else zv.cells
  let cells : Array Value := (Array.range (n' * i.size)).map (zz[· % zz.size]!)
  have hzz : n' * i.size ≠ 0 → zz = zv.cells := fun h0 => if_neg h0
  have hcs : cells.size = n' * i.size := by simp [cells]
  have q1 : ∀ j, j < cells.size → (cells.getD j default).oneCell' = true := fun j hj => by
    rw [hcs] at hj
    have hpos : 0 < i.size := Nat.pos_of_ne_zero fun e => by simp [e] at hj
    have hm : j % i.size < i.size := Nat.mod_lt _ hpos
    have := k2 (j % i.size)
    have hz' := hzz (by omega)
    simp only [cells, hz', k1, hzl]
    simpa [Array.getD, hj, k1, hzl, hm] using this
  have q2 : ∀ j (hj : j < (List.replicate n' z).flatten.length), RVh φ h w (List.replicate n' z).flatten[j] (cells.getD j default) := fun j hj => by
    have hj' : j < n' * i.size := by rw [r1, hzl] at hj; exact hj
    have hpos : 0 < i.size := Nat.pos_of_ne_zero fun e => by simp [e] at hj'
    have hm : j % i.size < i.size := Nat.mod_lt _ hpos
    have hm' : j % i.size < z.length := by omega
    have := k3 h.next (Pr φ h w) w (j % i.size) hm'
    have hz' := hzz (by omega)
    have e := r2 j (by rw [hzl]; exact hj')
    rw [List.getD_eq_getElem?_getD, List.getElem?_eq_getElem hj, Option.getD_some] at e
    rw [e, hzl]
    simp only [cells, hz', k1, hzl]
    simpa [Array.getD, hj', k1, hzl, hm, hm', List.getD] using this
  obtain ⟨n1, n2⟩ := new_row (w' := w.alloc (.cells cells e)) hr rfl rfl rfl rfl (by simp) q1 (by rw [hcs, r1, hzl]; exact Nat.le_refl _) q2
  refine ⟨_, _, _, .inl ?_, vec_new _ w.heap.size cells.size m' z.length n' n' (by omega) (Nat.le_refl _) (by rw [hcs, hzl]; exact Nat.le_refl _), n1, n2⟩
  unfold execOp
  have w1 : IntKind.i64.wrap (m' : Int) = m' := by rw [IntKind.wrap_i64]; omega
  have w2 : IntKind.i64.wrap (n' : Int) = n' := by rw [IntKind.wrap_i64]; omega
  have t1 : ¬ ((n' : Int) < 0) := by omega
  have t2 : ¬ (281474976710656 < (i.bytes : Int) * (n' : Int)) := by
    rw [Int.mul_comm]
    omega
  have t3 : ¬ ((m' : Int) < 0) := by omega
  have t4 : ¬ (n' < m') := by omega
  by_cases h0 : n' * i.size = 0
  · have hc0 : cells = #[] := by apply Array.eq_empty_of_size_eq_zero; rw [hcs]; exact h0
    rw [hc0]
    simp [ho, g1.int_inv, g2.int_inv, Instr.makeSlice, run_underlying ht, asInt, asIntOf, typeInfo, hi, w1, w2, t1, t2, t3, t4, run_sz hi, h0, newRow, Array.range_zero']
  · have hc0 : cells = (Array.range (n' * i.size)).map (zv.cells[· % zv.cells.size]!) := by simp only [cells, hzz h0]
    rw [hc0]
    simp [ho, g1.int_inv, g2.int_inv, Instr.makeSlice, run_underlying ht, asInt, asIntOf, typeInfo, hi, w1, w2, t1, t2, t3, t4, run_sz hi, h0, newRow, zeroValue, hzi]
theorem op_clr {t e : TypeId} {x : Operand} {o : Oper} (ho : o.op = .call { callee := .builtin .clear, args := #[x], argTypes := #[t] }) {x' : Opd} (hx : opd x = some x') (ht : P.underlying t = some (.slice e)) {i : TypeInfo} (hi : P.info? e = some i)
    {z : List AV} (hz : zeroC P e = some z) (hzl : z.length = i.size) {v : AV} {h' : Heap}
    (he : (match x'.ev fr with
    | .nils => some (AV.tuple [], h)
    | .vec id off len s _ => match h.row id with
      | some cs => if s = z.length ∧ off + len * s ≤ cs.length then some (.tuple [], (h.set id (.row (putAt cs off (List.replicate len z).flatten))).mark id (.agg z)) else none
      | none => none
    | _ => none) = some (v, h')) (hf : FR φ h w fr a.tmps) (hr : HR φ h w) : OpOK P (execOp a.eval o) φ h w v h' := by
  obtain ⟨i', zv, hi', hzi, k1, k2, k3⟩ := zeroC_ok (φ := φ) hz
  obtain rfl : i = i' := by rw [hi] at hi'; exact Option.some.inj hi'
  have g := opd_ok hx hf
  have htup : ∀ φ h w, RVh φ h w (.tuple []) (.tuple #[]) := fun φ h w => .tuple [] #[] rfl fun j hj => by simp at hj
  split at he
  · rename_i e1
    cases he
    rw [e1] at g
    obtain ⟨ad, hq⟩ := g.nils_inv
    refine .pure (cv := .tuple #[]) hr ?_ (htup _ _ _)
    unfold execOp
    cases ad <;> simp [ho, resolve, invoke, builtin, hq, Builtin.clear_, run_underlying ht]
  · rename_i id off len s lb e1
    rw [e1] at g
    obtain ⟨cap, ad, hq, hid, hl, hlb, hroom, ha⟩ := g.vec_inv
    split at he
    · rename_i cs hrow
      have hg := row_some hrow
      split at he
      · rename_i hc
        obtain ⟨rfl, hle⟩ := hc
        cases he
        obtain ⟨r1, r2⟩ := replicate_flat z len
        rcases Nat.eq_zero_or_pos len with h0 | h0
        · subst h0
          have e2 : (h.set id (.row (putAt cs off (List.replicate 0 z).flatten))) = { h with wl := h.wl, md := min h.md id } := by
            simp only [List.replicate_zero, List.flatten_nil, putAt]
            unfold Heap.set
            have hlt := Heap.get_lt hg
            rw [if_pos hlt]
            have hgg := hg
            unfold Heap.get at hgg
            rw [if_pos hlt] at hgg
            obtain ⟨q1, q2⟩ := List.getElem?_eq_some_iff.1 hgg
            rw [← q2, List.set_getElem_self]
          rw [e2]
          obtain ⟨s1, s2⟩ := hr.setwl h.wl (min h.md id)
          obtain ⟨m1, m2⟩ := s1.mark id (.agg z)
          refine ⟨.tuple #[], w, φ, .inl ?_, htup _ _ _, m1, s2.trans m2⟩
          unfold execOp
          cases ad <;> simp [ho, resolve, invoke, builtin, hq, Builtin.clear_, run_underlying ht]
        · have had := ha (by omega)
          let cvs := (Builtin.zeroCells zv.cells len).toList
          have hcl : cvs.length = len * z.length := by simp only [cvs, Array.length_toList]; rw [madeSize, k1]
          obtain ⟨w', e1, e2, e3⟩ := write_row (P := P) (cvs := cvs) (vs := (List.replicate len z).flatten) hr hg (by rw [r1]; exact hle) (by rw [r1, hcl]) fun j q1 q2 => by
            have hj : j < len * z.length := by omega
            have hpos : 0 < z.length := Nat.pos_of_ne_zero fun e => by simp [e] at hj
            have hm : j % z.length < z.length := Nat.mod_lt _ hpos
            have t1 := k3 h.next (Pr φ h w) w _ hm
            have t2 := k2 (j % z.length)
            have e := r2 j hj
            rw [List.getD_eq_getElem?_getD, List.getElem?_eq_getElem q1, Option.getD_some] at e
            have hm2 : j % z.length < zv.cells.size := by omega
            have e4 : cvs[j] = zv.cells.getD (j % z.length) default := by
              simp only [cvs, Builtin.zeroCells, Array.getElem_toList, Array.getElem_map, Array.getElem_range, k1]
              simp [Array.getD, hm2]
            rw [e, e4]
            exact ⟨by simpa [List.getD, hm] using t1, t2⟩
          obtain ⟨m1, m2⟩ := e2.mark id (.agg z)
          refine ⟨.tuple #[], w', φ, .inl ?_, htup _ _ _, m1, e3.trans m2⟩
          unfold execOp
          obtain ⟨len', rfl⟩ : ∃ l', len = l' + 1 := ⟨len - 1, by omega⟩
          simp [ho, resolve, invoke, builtin, hq, had, Builtin.clear_, run_underlying ht, zeroValue, typeInfo, hi, hzi]
          rw [show (Builtin.zeroCells zv.cells (len' + 1)).toList = cvs from rfl, e1]
          rfl
      · cases he
    · cases he
  · cases he
end
end Sz

/- Slices held against nil; empty ones built. No program is named here. -/
namespace Sz
open Go
section
variable {P : Program} {φ : Phi} {h : Heap} {w : World} {fr : List AV} {a : Act}
theorem run_equal_slice_nil {t e : TypeId} (ht : P.underlying t = some (.slice e)) (ad : Option Addr) (n c : Nat) (w : World) : (Op.equal t (.slice ad n c) (.slice none 0 0)).run P w = .ok ad.isNone w := by
  have h : ∀ d : Nat, (Op.equalIn (d + 1) t (.slice ad n c) (.slice none 0 0)).run P w = .ok ad.isNone w := fun d => by
    cases ad <;> simp [Op.equalIn, run_underlying ht]
  exact h 9999
theorem run_snil {neg : Bool} {t e ty : TypeId} {x : Operand} {o : Oper} (ho : o.op = .binOp (if neg then .neq else .eql) t x (.const (.slice none 0 0)) ty) (ht : P.underlying t = some (.slice e)) {ad : Option Addr} {n c : Nat} (hx : a.eval x = .slice ad n c) (w : World) :
    (execOp a.eval o).run P w = .ok (.value (.bool (if neg then !ad.isNone else ad.isNone))) w := by
  have k1 := run_equal_slice_nil ht ad n c w
  have hy : a.eval (.const (.slice none 0 0)) = .slice none 0 0 := rfl
  have k2 : eqGuard (if neg then .neq else .eql) t x (.const (.slice none 0 0)) (.slice ad n c) (.slice none 0 0) = Pure.pure () := by cases neg <;> rfl
  have k3 : ∀ op, op = .eql ∨ op = .neq → (binOp op t (.slice ad n c) (.slice none 0 0)) = if op = .eql then (do pure (.bool (← Op.equal t (.slice ad n c) (.slice none 0 0)))) else (do pure (.bool (!(← Op.equal t (.slice ad n c) (.slice none 0 0))))) := fun op hop => by
    rcases hop with rfl | rfl <;> rfl
  unfold execOp
  cases neg
  · simp only [Bool.false_eq_true, if_false] at ho k2 ⊢
    simp [ho, hx, hy, k2, k3 .eql (.inl rfl), k1]
  · simp only [if_true] at ho k2 ⊢
    have h3 := k3 .neq (.inr rfl)
    simp [ho, hx, hy, k2, h3, k1]
theorem op_snil {neg : Bool} {t e ty : TypeId} {x : Operand} {o : Oper} (ho : o.op = .binOp (if neg then .neq else .eql) t x (.const (.slice none 0 0)) ty) {x' : Opd} (hx : opd x = some x') (ht : P.underlying t = some (.slice e))
    {v : AV} {h' : Heap} (he : (match x'.ev fr with
      | .sl (_ :: _) => some (AV.bool neg, h)
      | .vec _ _ (_ + 1) _ _ => some (.bool neg, h)
      | _ => none) = some (v, h')) (hf : FR φ h w fr a.tmps) (hr : HR φ h w) : OpOK P (execOp a.eval o) φ h w v h' := by
  have g := opd_ok hx hf
  have fin : ∀ ad n c, a.eval x = .slice (some ad) n c → OpOK P (execOp a.eval o) φ h w (.bool neg) h := fun ad n c hq => by
    refine .pure (cv := .bool neg) hr ?_ (.bool _)
    rw [run_snil ho ht hq w]
    cases neg <;> rfl
  split at he
  · rename_i y ys e1
    simp only [Option.some.injEq, Prod.mk.injEq] at he
    obtain ⟨rfl, rfl⟩ := he
    rw [e1] at g
    rcases g.sl_inv with ⟨_, _, q, _⟩ | ⟨b, o', cap, sz, vs, q, _⟩
    · cases q
    · exact fin _ _ _ q
  · rename_i id off n sz lb e1
    simp only [Option.some.injEq, Prod.mk.injEq] at he
    obtain ⟨rfl, rfl⟩ := he
    rw [e1] at g
    obtain ⟨cap, ad, q, _, hl, _, _, ha⟩ := g.vec_inv
    rw [ha (by omega)] at q
    exact fin _ _ _ q
  · cases he
theorem ext_block {w' : World} {x : Obj} (hr : HR φ h w) (hh : w'.heap = w.heap.push x) (ho : w'.os = w.os) (ht : w'.tape = w.tape) (hout : w'.output = w.output) : HR φ h w' ∧ Ext φ h w φ h w' := by
  have e : Ext φ h w φ h w' := ⟨ho, ht, hout, by rw [hh]; simp, Nat.le_refl _, fun _ _ => rfl, fun b hb => ⟨⟨by rw [hh]; simp; have := hb.1; omega, hb.2⟩, by rw [hh]; exact getElem?_push_lt hb.1⟩, rfl,
    fun b hb => by rw [hh]; exact getElem?_push_lt (hr.gh b hb).1⟩
  refine ⟨⟨hr.wf, fun i cs hi => ?_, fun i es hi => ?_, fun i j hi hj => hr.inj i j hi hj, fun b hb => ⟨by rw [hh]; simp; have := (hr.gh b hb).1; omega, (hr.gh b hb).2⟩⟩, e⟩
  · have hb := hr.blk_lt ⟨_, hi, fun e => by cases e⟩
    exact (hr.rows i cs hi).ext e (Heap.get_lt hi) (by rw [hh]; exact getElem?_push_lt hb)
  · have hb := hr.blk_lt ⟨_, hi, fun e => by cases e⟩
    exact (hr.maps i es hi).ext e (Heap.get_lt hi) (by rw [hh]; exact getElem?_push_lt hb)
theorem op_bs0 {t e : TypeId} {parts : Array (Nat × Operand)} {o : Oper} (ho : o.op = .buildSlice t 0 parts) (hp : parts = #[]) (ht : P.underlying t = some (.slice e)) {i : TypeInfo} (hi : P.info? e = some i) (hr : HR φ h w) :
    OpOK P (execOp a.eval o) φ h w .nils h := by
  subst hp
  obtain ⟨r1, r2⟩ := ext_block (w' := w.alloc (.cells #[] e)) hr rfl rfl rfl rfl
  refine ⟨.slice (some ⟨w.heap.size, 0, none⟩) 0 0, w.alloc (.cells #[] e), φ, .inl ?_, .nils _, r1, r2⟩
  unfold execOp
  simp [ho, Instr.buildSlice, run_underlying ht, run_sz hi, newRow, Array.range_zero', Instr.fill]
end
end Sz

/- Maps looked up; strings and bytes. No program is named here. -/
namespace Sz
open Go
section
variable {P : Program} {φ : Phi} {h : Heap} {w : World} {fr : List AV} {a : Act}
theorem bytesOf_ok {nx : Nat} {pr : Nat → Prop} : ∀ (l : List AV) (s : List UInt8) (f : Nat → Value), bytesOf l = some s → (∀ j, j < l.length → RV φ nx pr w (l.getD j .undef) (f j)) →
    ∃ ns : List Int, (List.range l.length).map f = ns.map (Value.int .u8) ∧ ns.map (fun n => UInt8.ofNat n.toNat) = s := by
  intro l
  induction l with
  | nil =>
    intro s f hs _
    simp only [bytesOf, Option.some.injEq] at hs
    subst hs
    exact ⟨[], rfl, rfl⟩
  | cons x r ih =>
    intro s f hs hv
    have hx := hv 0 (by simp)
    cases x with
    | int k n =>
      cases k <;> simp only [bytesOf] at hs <;> first | (cases hs; done) | skip
      obtain ⟨s', h1, rfl⟩ := Option.map_eq_some_iff.1 hs
      obtain ⟨ns, e1, e2⟩ := ih s' (fun j => f (j + 1)) h1 fun j hj => by
        have := hv (j + 1) (by simpa using hj)
        simpa using this
      refine ⟨n :: ns, ?_, by simp [e2]⟩
      have h0 : f 0 = .int .u8 n := RV.int_inv (by simpa using hx)
      rw [List.length_cons, List.range_succ_eq_map, List.map_cons, List.map_map, h0, List.map_cons, ← e1]
      rfl
    | _ => simp [bytesOf] at hs
theorem foldl_pushes : ∀ (ns : List Int) (r : ByteArray), (ns.foldl (fun r n => r.push (UInt8.ofNat n.toNat)) r).data.toList = r.data.toList ++ ns.map fun n => UInt8.ofNat n.toNat
  | [], r => by simp
  | n :: ns, r => by
    rw [List.foldl_cons, foldl_pushes ns]
    simp [ByteArray.push]
theorem op_cvsb {s d e : TypeId} {x : Operand} {o : Oper} (ho : o.op = .convert s d x) {x' : Opd} (hx : opd x = some x') (hs : P.underlying s = some .string) (hd : P.underlying d = some (.slice e)) (he : P.underlying e = some (.int .u8))
    {b : List UInt8} (hv : x'.ev fr = .str b) (hf : FR φ h w fr a.tmps) (hr : HR φ h w) : OpOK P (execOp a.eval o) φ h w (.sl (b.map fun c => .int .u8 c.toNat)) h := by
  have g := opd_ok hx hf
  rw [hv] at g
  obtain ⟨c, q1, q2⟩ := g.str_inv
  have hrun := run_bytes_of_string (P := P) w s d e c hs hd he
  generalize hg : grownCap w c.size 0 e = cap at hrun
  have hcap : c.size ≤ cap := by rw [← hg]; exact le_grownCap _ _ _ _
  obtain ⟨r1, r2⟩ := ext_block (w' := w.drew.alloc (.cells (bytesRow c cap) e ((bytesRow c cap).size, (bytesRow c cap).size + 1))) hr rfl rfl rfl rfl
  refine ⟨.slice (some ⟨w.heap.size, 0, none⟩) c.size cap, w.drew.alloc (.cells (bytesRow c cap) e ((bytesRow c cap).size, (bytesRow c cap).size + 1)), φ, .inl ?_, ?_, r1, r2⟩
  · unfold execOp
    simp [ho, q1, hrun]
  · have hlen : (b.map fun c => AV.int .u8 c.toNat).length = c.size := by
      rw [List.length_map, ← q2]; simp
    rw [← hlen]
    have hsz : (bytesRow c cap).size = cap := by
      unfold bytesRow
      simp
      have : c.data.size = c.size := rfl
      omega
    have hc : ∀ i, i < b.length → (bytesRow c cap)[i]? = some (.int .u8 ((b.getD i 0).toNat : Int)) := fun i hi => by
      have hi' : i < c.data.size := by
        have h1 : c.data.toList.length = b.length := by rw [q2]
        rw [Array.length_toList] at h1
        omega
      unfold bytesRow
      rw [Array.getElem?_append_left (by simpa using hi')]
      have h2 : b.getD i 0 = c.data[i] := by
        rw [← q2, List.getD_eq_getElem?_getD, Array.getElem?_toList, Array.getElem?_eq_getElem hi', Option.getD_some]
      rw [h2, Array.getElem?_map, Array.getElem?_eq_getElem hi', Option.map_some]
    refine .sl _ w.heap.size 0 cap 1 (fun i _ => .int .u8 ((b.getD i 0).toNat : Int)) ⟨?_, ?_, ?_⟩ (by rw [hlen]; exact hcap) ?_ (fun _ _ => rfl) ?_ ?_ ?_
    · show w.heap.size < (w.heap.push _).size
      simp
    · intro id hl e
      have := hr.blk_lt hl
      omega
    · intro hgh
      have := (hr.gh _ hgh).1
      omega
    · have : ∀ l : List UInt8, AV.refsL (l.map fun c => AV.int .u8 c.toNat) = 0 := by
        intro l
        induction l with
        | nil => rfl
        | cons x r ih => simp [AV.refsL, AV.refs, ih]
      exact this b
    · intro i hi
      simp [AV.cells?]
    · intro i j hi hj
      have hj0 : j = 0 := by omega
      subst hj0
      have hi' : i < b.length := by simpa using hi
      have hb : (w.drew.alloc (.cells (bytesRow c cap) e ((bytesRow c cap).size, (bytesRow c cap).size + 1))).heap[w.heap.size]? = some (.cells (bytesRow c cap) e ((bytesRow c cap).size, (bytesRow c cap).size + 1)) := by
        show (w.heap.push _)[w.heap.size]? = _
        simp
      unfold World.cell?
      simp only [hb, Nat.zero_add, Nat.mul_one, Nat.add_zero]
      exact hc i hi'
    · intro i hi j hj
      have hi' : i < b.length := by simpa using hi
      simp only [List.getElem_map, AV.cells] at hj ⊢
      have hj0 : j = 0 := by simpa using hj
      subst hj0
      have : b.getD i 0 = b[i] := by simp [List.getD, hi']
      rw [this]
      exact .int _ _
theorem op_cvbs {s d e : TypeId} {x : Operand} {o : Oper} (ho : o.op = .convert s d x) {x' : Opd} (hx : opd x = some x') (hs : P.underlying s = some (.slice e)) (hd : P.underlying d = some .string) (he : P.underlying e = some (.int .u8))
    {n : Nat} {cs : List AV} (hv : elemsA h 1 (x'.ev fr) = some (n, cs)) (hns : ∀ s, x'.ev fr ≠ .str s) {b : List UInt8} (hb : bytesOf cs = some b) (hf : FR φ h w fr a.tmps) (hr : HR φ h w) : OpOK P (execOp a.eval o) φ h w (.str b) h := by
  have g := opd_ok hx hf
  have hsl : ∃ ad cap, a.eval x = .slice ad n cap := by
    cases hq : x'.ev fr with
    | nils =>
      rw [hq] at g hv
      obtain ⟨ad, q⟩ := g.nils_inv
      simp only [elemsA, Option.some.injEq, Prod.mk.injEq] at hv
      exact ⟨ad, 0, by rw [q, ← hv.1]⟩
    | sl xs =>
      rw [hq] at g hv
      have hn : xs.length = n := by
        simp only [elemsA] at hv
        split at hv
        · cases hv; rfl
        · cases hv
      rcases g.sl_inv with ⟨ad, cap, e1, q⟩ | ⟨b, o', cap, sz, vs, q, _⟩
      · subst e1
        exact ⟨ad, cap, by rw [q, ← hn]; rfl⟩
      · exact ⟨_, cap, by rw [q, hn]⟩
    | vec id off len sz lb =>
      rw [hq] at g hv
      obtain ⟨cap, ad, q, _⟩ := g.vec_inv
      have hn : len = n := by
        simp only [elemsA] at hv
        split at hv
        · split at hv
          · cases hv; rfl
          · cases hv
        · cases hv
      exact ⟨ad, cap, by rw [q, hn]⟩
    | str s => exact absurd hq (hns s)
    | _ => rw [hq] at hv; simp [elemsA] at hv
  obtain ⟨ad, cap, q⟩ := hsl
  obtain ⟨n1, f, n2, _, n4⟩ := elemsA_ok (P := P) hv g hr (by omega)
  rw [Nat.mul_one] at n1 n2 n4
  obtain ⟨ns, e1, e2⟩ := bytesOf_ok (φ := φ) (w := w) cs b f hb fun j hj => (n2 j (by omega)).1
  have hl := n4 w rfl
  rw [q] at hl
  rw [n1] at e1
  rw [e1] at hl
  have hcv := run_convert_bytes_string (P := P) w s d e ad n cap hs he hd
  cases ad with
  | none =>
    simp [Builtin.firstCells] at hl
    have hns0 : ns = [] := by
      cases ns with
      | nil => rfl
      | cons _ _ => simp at hl
    subst hns0
    refine .pure (cv := .string .empty) hr ?_ (.str_mk (by rw [← e2]; rfl))
    unfold execOp
    simp [ho, q, hcv, Conv.bytesToString]
  | some ad =>
    simp only [Builtin.firstCells, Nat.mul_one] at hl
    have hb2 := run_bytesToString (P := P) w ad n cap ns hl
    refine .pure (cv := .string (ns.foldl (fun r n => r.push (UInt8.ofNat n.toNat)) ByteArray.empty)) hr ?_ (.str_mk ?_)
    · unfold execOp
      simp [ho, q, hcv, hb2]
    · rw [foldl_pushes, e2]
      rfl
theorem findNow_ok {nx : Nat} {pr : Nat → Prop} {q q0 : IntKind} {n : Int} : ∀ (es : List (AV × AV)) (l : List MapEntry) (i : Nat), l.length = es.length →
    (∀ j (hj : j < es.length), RV φ nx pr w es[j].1 (l.getD j default).key ∧ RV φ nx pr w es[j].2 (l.getD j default).val) → ∀ r, lookA 1 (.int q0 n) es = some r →
    ∃ r', Instr.findNow (.int q) (.int q0 n) l i = some r' ∧ ((r = none ∧ r' = none) ∨ ∃ v j cv, r = some v ∧ r' = some (j, cv) ∧ RV φ nx pr w v cv)
  | [], l, i, hl, _, r, hr => by
    simp only [lookA, Option.some.injEq] at hr
    cases l with
    | nil => exact ⟨none, rfl, .inl ⟨hr.symm, rfl⟩⟩
    | cons _ _ => simp at hl
  | (k', v') :: es, [], i, hl, _, r, hr => by simp at hl
  | (k', v') :: es, e :: l, i, hl, hv, r, hr => by
    obtain ⟨g1, g2⟩ := hv 0 (by simp)
    simp only [List.getElem_cons_zero, List.getD_cons_zero] at g1 g2
    simp only [lookA] at hr
    cases k' with
    | int k b =>
      have hk := g1.int_inv
      by_cases e1 : q0 = k
      · subst e1
        by_cases e2 : n = b
        · subst e2
          simp only [eqCell, if_true, decide_true, Option.some.injEq] at hr
          refine ⟨some (i, e.val), by simp [Instr.findNow, Instr.sameNow, hk], .inr ⟨v', i, e.val, hr.symm, rfl, g2⟩⟩
        · simp only [eqCell, if_true, decide_eq_false e2] at hr
          obtain ⟨r', h1, h2⟩ := findNow_ok (q := q) es l (i + 1) (by simpa using hl) (fun j hj => by
            have := hv (j + 1) (by simpa using hj)
            simpa using this) r hr
          have e3 : (n == b) = false := by simpa using e2
          exact ⟨r', by simp [Instr.findNow, Instr.sameNow, hk, e3, h1], h2⟩
      · simp [eqCell, e1] at hr
    | _ => simp [eqCell] at hr
def lkpA (ok : Bool) (z : AV) : Option AV → AV
  | some v => if ok then .tuple [v, .bool true] else v
  | none => if ok then .tuple [z, .bool false] else z
theorem mapAt_get' {id : Nat} {es : List (AV × AV)} (h1 : h.mapAt id = some es) : h.get id = some (.map es) := by
  unfold Heap.mapAt at h1
  split at h1
  · rename_i h2
    cases h1
    exact h2
  · cases h1
theorem op_lkp {t kt e : TypeId} {q : IntKind} {m k : Operand} {ok : Bool} {o : Oper} (ho : o.op = .lookup t m k ok) {m' k' : Opd} (hm : opd m = some m') (hk : opd k = some k')
    (ht : P.underlying t = some (.map kt e)) (hq : P.underlying kt = some (.int q)) {z : AV} (hz : zeroV P e = some z) {es : List (AV × AV)} (hes : (m'.ev fr = .nilm ∧ es = []) ∨ ∃ id, m'.ev fr = .map id ∧ h.mapAt id = some es)
    {r : Option AV} (hl : lookA 1 (k'.ev fr) es = some r) (hkv : (∃ q0 n, k'.ev fr = .int q0 n) ∨ es = []) (hf : FR φ h w fr a.tmps) (hr : HR φ h w) :
    OpOK P (execOp a.eval o) φ h w (lkpA ok z r) h := by
  have g1 := opd_ok hm hf
  have g2 := opd_ok hk hf
  obtain ⟨zv, hz1, hz2⟩ := Option.bind_eq_some_iff.1 hz
  obtain ⟨inf, hi, hzi⟩ := Option.bind_eq_some_iff.1 hz1
  have hzr : RVh φ h w z zv := ofVal_ok hz2
  have pair : ∀ (v : AV) (cv : Value) (b : Bool), RVh φ h w v cv → RVh φ h w (if ok then .tuple [v, .bool b] else v) (if ok then .tuple #[cv, .bool b] else cv) := fun v cv b hv => by
    cases ok with
    | false => exact hv
    | true =>
      refine .tuple _ _ rfl fun j hj => ?_
      match j, hj with
      | 0, _ => exact hv
      | 1, _ => exact .bool b
  generalize hkc : a.eval k = kc at g2
  have hck : ∀ em, (Instr.checkKey em 10000 kt kc).run P w = .ok () w := fun em => by
    unfold Instr.checkKey
    simp [run_underlying hq]
  have hfind : ∀ l : List MapEntry, l.length = es.length → (∀ j (hj : j < es.length), RVh φ h w es[j].1 (l.getD j default).key ∧ RVh φ h w es[j].2 (l.getD j default).val) →
      ∃ r', Instr.findNow (.int q) kc l 0 = some r' ∧ ((r = none ∧ r' = none) ∨ ∃ v j cv, r = some v ∧ r' = some (j, cv) ∧ RVh φ h w v cv) := fun l hlen hent => by
    rcases hkv with ⟨q0, n, e1⟩ | rfl
    · rw [e1] at g2 hl
      rw [g2.int_inv]
      exact findNow_ok (q := q) es l 0 hlen hent r hl
    · simp only [lookA, Option.some.injEq] at hl
      cases l with
      | nil => exact ⟨none, rfl, .inl ⟨hl.symm, rfl⟩⟩
      | cons _ _ => simp at hlen
  have fin : ∀ (l : List MapEntry) (mo : Option Nat), a.eval m = .map mo → (∃ es0 : Array MapEntry, es0.toList = l ∧ (match mo with | none => es0 = #[] | some b => ∃ clk, w.heap[b]? = some (.map es0 clk))) → l.length = es.length →
      (∀ j (hj : j < es.length), RVh φ h w es[j].1 (l.getD j default).key ∧ RVh φ h w es[j].2 (l.getD j default).val) →
      OpOK P (execOp a.eval o) φ h w (lkpA ok z r) h := fun l mo hmo hblk hlen hent => by
    obtain ⟨r', f1, f2⟩ := hfind l hlen hent
    obtain ⟨es0, hes0, hblk⟩ := hblk
    have hfk : (Instr.findKey kt kc es0.toList).run P w = .ok r' w := by
      unfold Instr.findKey
      rw [hes0]
      simp [run_underlying hq, f1]
    rcases f2 with ⟨rfl, rfl⟩ | ⟨v, j, cv, rfl, rfl, hv⟩
    · refine .pure (cv := if ok then .tuple #[zv, .bool false] else zv) hr ?_ (by cases ok <;> exact pair z zv false hzr)
      unfold execOp
      cases mo with
      | none =>
        subst hblk
        simp [ho, hmo, hkc, Instr.lookup, run_underlying ht, hck, hfk, zeroValue, typeInfo, hi, hzi]
      | some b =>
        obtain ⟨clk, hb⟩ := hblk
        have hg : (getObj b).run P w = .ok (.map es0 clk) w := by simp [getObj, Sem.run, hb]
        simp [ho, hmo, hkc, Instr.lookup, run_underlying ht, hg, hck, hfk, zeroValue, typeInfo, hi, hzi]
    · refine .pure (cv := if ok then .tuple #[cv, .bool true] else cv) hr ?_ (by cases ok <;> exact pair v cv true hv)
      unfold execOp
      cases mo with
      | none =>
        subst hblk
        simp [ho, hmo, hkc, Instr.lookup, run_underlying ht, hck, hfk]
      | some b =>
        obtain ⟨clk, hb⟩ := hblk
        have hg : (getObj b).run P w = .ok (.map es0 clk) w := by simp [getObj, Sem.run, hb]
        simp [ho, hmo, hkc, Instr.lookup, run_underlying ht, hg, hck, hfk]
  rcases hes with ⟨e1, rfl⟩ | ⟨id, e1, e2⟩
  · rw [e1] at g1
    exact fin [] none g1.nilm_inv ⟨#[], rfl, rfl⟩ rfl fun j hj => by simp at hj
  · rw [e1] at g1
    obtain ⟨ents, clk, m1, m2, m3⟩ := hr.maps id es (mapAt_get' e2)
    refine fin ents.toList (some (φ id).blk) g1.map_inv.1 ⟨ents, rfl, clk, m1⟩ (by simpa using m2) fun j hj => ?_
    have := m3 j hj
    simpa [Array.getD_eq_getD_getElem?, List.getD] using this
end
end Sz

/- An integer as a string; a map's entry set. No program is named here. -/
namespace Sz
open Go
section
variable {P : Program} {φ : Phi} {h : Heap} {w : World} {fr : List AV} {a : Act}
theorem encode_small {n : Int} (h0 : 0 ≤ n) (h1 : n < 128) : Utf8.encode n = ⟨#[UInt8.ofNat n.toNat]⟩ := by
  have hv : Utf8.valid n = true := by
    unfold Utf8.valid
    simp
    omega
  unfold Utf8.encode
  simp only [hv, if_true]
  rw [if_pos (by omega)]
theorem op_cvis {s d : TypeId} {x : Operand} {o : Oper} (ho : o.op = .convert s d x) {x' : Opd} (hx : opd x = some x') {k0 : IntKind} (hs : P.underlying s = some (.int k0)) (hd : P.underlying d = some .string)
    {k' : IntKind} {n : Int} (hv : x'.ev fr = .int k' n) (h0 : 0 ≤ n) (h1 : n < 128) (hf : FR φ h w fr a.tmps) (hr : HR φ h w) : OpOK P (execOp a.eval o) φ h w (.str [UInt8.ofNat n.toNat]) h := by
  have g := opd_ok hx hf
  rw [hv] at g
  exact .pure (cv := .string (Utf8.encode n)) hr (by unfold execOp; simp [ho, g.int_inv, convert, run_underlying hs, run_underlying hd, Conv.intToString]) (.str_mk (by rw [encode_small h0 h1]))
def putO (w : World) (b : Nat) (o : Obj) : World := { w with heap := w.heap.setIfInBounds b o }
theorem putO_same {w : World} {b : Nat} {o : Obj} (hb : b < w.heap.size) : (putO w b o).heap[b]? = some o := by
  unfold putO
  simp [hb]
theorem putO_other {w : World} {b c : Nat} {o : Obj} (hb : c ≠ b) : (putO w b o).heap[c]? = w.heap[c]? := by
  unfold putO
  simp [Array.getElem?_setIfInBounds_ne (fun e => hb e.symm)]
theorem findMup {nx : Nat} {pr : Nat → Prop} {q : IntKind} {k v : AV} {kc : Value} (hk : RV φ nx pr w k kc) : ∀ (es : List (AV × AV)) (l : List MapEntry) (i : Nat), l.length = es.length →
    (∀ j (hj : j < es.length), RV φ nx pr w es[j].1 (l.getD j default).key) → ∀ es', mupA 1 k v es = some es' →
    (Instr.findNow (.int q) kc l i = some none ∧ es' = es ++ [(k, v)]) ∨
    ∃ j cv, Instr.findNow (.int q) kc l i = some (some (i + j, cv)) ∧ j < es.length ∧ (l.getD j default).key = kc ∧ (∃ q0 n, kc = .int q0 n) ∧ es' = es.set j (k, v)
  | [], l, i, hl, _, es', hr => by
    simp only [mupA, Option.some.injEq] at hr
    cases l with
    | nil => exact .inl ⟨rfl, hr.symm⟩
    | cons _ _ => simp at hl
  | (k', v') :: es, [], i, hl, _, es', hr => by simp at hl
  | (k', v') :: es, e :: l, i, hl, hv, es', hr => by
    have g1 := hv 0 (by simp)
    simp only [List.getElem_cons_zero, List.getD_cons_zero] at g1
    simp only [mupA] at hr
    cases k with
    | int q0 n =>
      have hkc := hk.int_inv
      cases k' with
      | int k1 b =>
        have hk1 := g1.int_inv
        by_cases e1 : q0 = k1
        · subst e1
          by_cases e2 : n = b
          · subst e2
            simp only [eqCell, if_true, decide_true, Option.some.injEq] at hr
            exact .inr ⟨0, e.val, by simp [Instr.findNow, Instr.sameNow, hk1, hkc], by simp, by simp [hk1, hkc], ⟨_, _, hkc⟩, by simp [← hr]⟩
          · simp only [eqCell, if_true, decide_eq_false e2] at hr
            obtain ⟨r, h1, rfl⟩ := Option.map_eq_some_iff.1 hr
            have e3 : (n == b) = false := by simpa using e2
            rcases findMup (q := q) hk es l (i + 1) (by simpa using hl) (fun j hj => by
              have := hv (j + 1) (by simpa using hj)
              simpa using this) r h1 with ⟨f1, rfl⟩ | ⟨j, cv, f1, f2, f3, f4, rfl⟩
            · exact .inl ⟨by subst hkc; simp [Instr.findNow, Instr.sameNow, hk1, e3, f1], rfl⟩
            · exact .inr ⟨j + 1, cv, by subst hkc; simp [Instr.findNow, Instr.sameNow, hk1, e3, f1]; omega, by simpa using f2, by simpa using f3, f4, by simp⟩
        · simp [eqCell, e1] at hr
      | _ => simp [eqCell] at hr
    | _ => cases k' <;> simp [eqCell] at hr
theorem op_mup {t kt e : TypeId} {q : IntKind} {m k v : Operand} {o : Oper} (ho : o.op = .mapUpdate t m k v) {m' k' v' : Opd} (hm : opd m = some m') (hk : opd k = some k') (hv : opd v = some v')
    (ht : P.underlying t = some (.map kt e)) (hq : P.underlying kt = some (.int q)) {id : Nat} (hid : m'.ev fr = .map id) {es es' : List (AV × AV)} (hes : h.mapAt id = some es)
    (hu : mupA 1 (k'.ev fr) (v'.ev fr) es = some es') (hf : FR φ h w fr a.tmps) (hr : HR φ h w) :
    OpOK P (execOp a.eval o) φ h w .undef (((h.set id (.map es')).mark id (v'.ev fr)).mark id (k'.ev fr)) := by
  have g0 := opd_ok hm hf
  have g1 := opd_ok hk hf
  have g2 := opd_ok hv hf
  rw [hid] at g0
  have hmv := g0.map_inv.1
  have hg := mapAt_get' hes
  obtain ⟨ents, clk, m1, m2, m3⟩ := hr.maps id es hg
  have hck : ∀ em, (Instr.checkKey em 10000 kt (a.eval k)).run P w = .ok () w := fun em => by
    unfold Instr.checkKey
    simp [run_underlying hq]
  have hgo : (getObj (φ id).blk).run P w = .ok (.map ents clk) w := by simp [getObj, Sem.run, m1]
  -- behind the write
  have fin : ∀ (ents' : Array MapEntry) (clk' : Nat), ents'.size = es'.length →
      (∀ j (hj : j < es'.length), RVh φ h w es'[j].1 (ents'.getD j default).key ∧ RVh φ h w es'[j].2 (ents'.getD j default).val) →
      (Instr.mapUpdate t (a.eval m) (a.eval k) (a.eval v)).run P w = .ok () (putO w (φ id).blk (.map ents' clk')) →
      OpOK P (execOp a.eval o) φ h w .undef (((h.set id (.map es')).mark id (v'.ev fr)).mark id (k'.ev fr)) := fun ents' clk' hlen hent hrun => by
    have hlt : (φ id).blk < w.heap.size := hr.blk_lt ⟨_, hg, fun e => by cases e⟩
    obtain ⟨t1, t2⟩ := turn_obj (w' := putO w (φ id).blk (.map ents' clk')) (o' := .map es') hr hg (fun e => by cases e) (by simp [putO]) (fun b hb => putO_other hb) rfl rfl rfl
    have hr2 := t2 (fun cs e => by cases e) fun es2 e => by
      cases e
      exact ⟨ents', clk', putO_same hlt, hlen, fun j hj => ⟨(hent j hj).1.ext t1, (hent j hj).2.ext t1⟩⟩
    obtain ⟨n1, n2⟩ := hr2.mark id (v'.ev fr)
    obtain ⟨n3, n4⟩ := n1.mark id (k'.ev fr)
    refine ⟨undef, _, φ, .inr ⟨?_, rfl⟩, .undef _, n3, (t1.trans n2).trans n4⟩
    unfold execOp
    simp [ho, hrun]
  rcases findMup (q := q) g1 es ents.toList 0 (by simpa using m2) (fun j hj => by
      have := (m3 j hj).1
      simpa [Array.getD_eq_getD_getElem?, List.getD] using this) es' hu with ⟨f1, rfl⟩ | ⟨j, cv, f1, f2, f3, ⟨q0, n, f4⟩, rfl⟩
  · refine fin (ents.push { key := a.eval k, val := a.eval v, born := clk }) (clk + 1) (by simp [m2]) (fun j hj => ?_) ?_
    · by_cases hl : j < es.length
      · have := m3 j hl
        have e1 : (ents.push { key := a.eval k, val := a.eval v, born := clk }).getD j default = ents.getD j default := by
          have : j < ents.size := by omega
          rw [Array.getD_eq_getD_getElem?, Array.getD_eq_getD_getElem?, Array.getElem?_push_lt this, Array.getElem?_eq_getElem this]
        rw [e1]
        simpa [hl] using this
      · have hj' : j = es.length := by simp at hj; omega
        subst hj'
        have e1 : (ents.push { key := a.eval k, val := a.eval v, born := clk }).getD es.length default = { key := a.eval k, val := a.eval v, born := clk } := by
          rw [Array.getD_eq_getD_getElem?, ← m2]
          simp
        rw [e1]
        simpa using ⟨g1, g2⟩
    · have hfk : (Instr.findKey kt (a.eval k) ents.toList).run P w = .ok none w := by
        unfold Instr.findKey
        simp [run_underlying hq, f1]
      simp [Instr.mapUpdate, run_underlying ht, hmv, hgo, hck, hfk, setObj, Sem.run]
      rw [show φ.at_ id = φ id from rfl, m1]
      rfl
  · have hjl : j < ents.size := by omega
    rw [Nat.zero_add] at f1
    have hkey : (ents[j]).key = a.eval k := by
      have := f3
      simpa [List.getD, hjl] using this
    refine fin (ents.modify j fun e => { e with key := a.eval k, val := a.eval v }) clk (by simp [m2]) (fun i hi => ?_) ?_
    · have hi' : i < es.length := by simpa using hi
      have hie : i < ents.size := by omega
      by_cases hij : i = j
      · subst hij
        have e1 : (ents.modify i fun e => { e with key := a.eval k, val := a.eval v }).getD i default = { ents[i] with key := a.eval k, val := a.eval v } := by
          rw [Array.getD_eq_getD_getElem?, Array.getElem?_eq_getElem (by simpa using hie), Array.getElem_modify_self]
          rfl
        rw [e1]
        simpa using ⟨g1, g2⟩
      · have e1 : (ents.modify j fun e => { e with key := a.eval k, val := a.eval v }).getD i default = ents.getD i default := by
          rw [Array.getD_eq_getD_getElem?, Array.getD_eq_getD_getElem?, Array.getElem?_eq_getElem (by simpa using hie), Array.getElem_modify_of_ne (fun e => hij e.symm), Array.getElem?_eq_getElem hie]
        rw [e1]
        have := m3 i hi'
        rw [List.getElem_set_ne (fun e => hij e.symm)]
        exact this
    · have hfk : (Instr.findKey kt (a.eval k) ents.toList).run P w = .ok (some (j, cv)) w := by
        unfold Instr.findKey
        simp [run_underlying hq, f1]
      have hst : (Instr.keyThatStays (a.eval k) (a.eval k)).run P w = .ok (a.eval k) w := by
        unfold Instr.keyThatStays
        rw [f4]
        simp [Instr.sameBits]
      simp [Instr.mapUpdate, run_underlying ht, hmv, hgo, hck, hfk, hjl, hkey, hst, setObj, Sem.run]
      rw [show φ.at_ id = φ id from rfl, m1]
      rfl
end
end Sz

/- A row of bytes by value, and its string. No program is named here. -/
namespace Sz
open Go
section
variable {P : Program} {φ : Phi} {h : Heap} {w : World} {fr : List AV} {a : Act}
theorem bytesOf_int : ∀ {l : List AV} {s : List UInt8}, bytesOf l = some s → ∀ i (hi : i < l.length), ∃ n, l[i] = .int .u8 n
  | [], _, _, i, hi => by simp at hi
  | x :: r, s, h, i, hi => by
    cases x with
    | int k n =>
      cases k <;> simp only [bytesOf] at h <;> first | (cases h; done) | skip
      obtain ⟨s', h1, rfl⟩ := Option.map_eq_some_iff.1 h
      cases i with
      | zero => exact ⟨n, rfl⟩
      | succ i => exact bytesOf_int h1 i (by simpa using hi)
    | _ => simp [bytesOf] at h
theorem op_fsl {t e : TypeId} {len : Nat} {parts : Array (Nat × Operand)} {o : Oper} (ho : o.op = .buildSlice t len parts) (ht : P.underlying t = some (.slice e)) {i : TypeInfo} (hi : P.info? e = some i)
    {z : List AV} (hz : zeroC P e = some z) {ps : List (Nat × Opd)} (hps : allSome (fun p : Nat × Operand => (opd p.2).map fun x => (p.1, x)) parts.toList = some ps) (h1 : i.size = 1) (hlen : len ≤ 2 ^ 24) (hzl : z.length = 1) {cs : List AV}
    (he : fillA ((List.range (len * 1)).map fun j => z.getD (j % 1) .undef) (ps.map fun p => (p.1 * 1, 1, p.2.ev fr)) = some cs) {b : List UInt8} (hb : bytesOf cs = some b) (hf : FR φ h w fr a.tmps) (hr : HR φ h w) :
    OpOK P (execOp a.eval o) φ h w (.sl cs) h := by
  obtain ⟨i', zv, hi', hzi, k1, k2, k3⟩ := zeroC_ok (φ := φ) hz
  obtain rfl : i = i' := by rw [hi] at hi'; exact Option.some.inj hi'
  have g1 := allSome_len hps
  rw [← h1] at he
  have hzl0 := hzl
  have hlen0 := hlen
  replace hzl : z.length = i.size := by omega
  replace hlen : len * i.size ≤ 2 ^ 24 := by rw [h1]; omega
  let zz : Array Value := if len * i.size = 0 then #[] else zv.cells
  have hinit : CellsR φ h.next (Pr φ h w) w ((List.range (len * i.size)).map fun j => z.getD (j % i.size) .undef) ((Array.range (len * i.size)).map (zz[· % zz.size]!)) := by
    refine ⟨by simp, fun j => ?_, fun j hj => ?_⟩
    · by_cases hj : j < len * i.size
      · have hpos : 0 < i.size := Nat.pos_of_ne_zero fun e => by simp [e] at hj
        have hzz : zz = zv.cells := if_neg (by omega)
        have hm : j % i.size < i.size := Nat.mod_lt _ hpos
        have := k2 (j % i.size)
        simp only [hzz, k1, hzl]
        simpa [Array.getD, hj, k1, hzl, hm] using this
      · simp [Array.getD, hj]; rfl
    · have hj' : j < len * i.size := by simpa using hj
      have hpos : 0 < i.size := Nat.pos_of_ne_zero fun e => by simp [e] at hj'
      have hzz : zz = zv.cells := if_neg (by omega)
      have hm : j % i.size < z.length := by rw [hzl]; exact Nat.mod_lt _ hpos
      have := k3 h.next (Pr φ h w) w (j % i.size) hm
      simp only [hzz, k1, hzl]
      have hm' : j % i.size < i.size := by omega
      simpa [Array.getD, hj', k1, hzl, hm, hm', List.getD] using this
  obtain ⟨c', e1, e2, e3, e4⟩ := fill_ok (φ := φ) (nx := h.next) (pr := Pr φ h w) (w := w) (fun k => some (k * i.size, i.size)) (ps.map fun p => (p.1 * i.size, i.size, p.2.ev fr)) ((parts.map fun (i, x) => (i, a.eval x)).toList) _ _ cs hinit
    (by simp [g1]) (fun j hj hj' => by
      have hj1 : j < ps.length := by simpa using hj
      have hj2 : j < parts.toList.length := by simpa using hj'
      have q := allSome_get hps j hj2 hj1
      obtain ⟨x', q1, q2⟩ := Option.map_eq_some_iff.1 q
      have q3 := opd_ok q1 hf
      have q4 : ps[j] = ((parts.toList[j]).1, x') := q2.symm
      exact ⟨by simp [q4], by simpa [q4] using q3⟩) he
  have hcl : cs.length = len := by
    have : c'.size = len * i.size := by
      have := Instr_fill_size _ _ _ _ e1
      simpa using this
    rw [h1, Nat.mul_one] at this
    omega
  obtain ⟨r1, r2⟩ := ext_block (w' := w.alloc (.cells c' e)) hr rfl rfl rfl rfl
  refine ⟨.slice (some ⟨w.heap.size, 0, none⟩) len len, w.alloc (.cells c' e), φ, .inl ?_, ?_, r1, r2⟩
  · unfold execOp
    have hbig : ¬ (len * i.size > 2 ^ 24) := by rw [h1]; omega
    by_cases h0 : len * i.size = 0
    · simp only [zz, h0, if_true] at e1
      have hlen' : ¬ (16777216 < len * i.size) := by omega
      simp [Array.range_zero'] at e1
      simp [ho, Instr.buildSlice, run_underlying ht, run_sz hi, h0, newRow, Array.range_zero', e1]
    · simp only [zz, h0, if_false] at e1
      have hlen' : ¬ (16777216 < len * i.size) := by omega
      simp at e1
      simp [ho, Instr.buildSlice, run_underlying ht, run_sz hi, zeroValue, typeInfo, hi, hzi, hlen', h0, newRow, e1]
  · have hcs : c'.size = cs.length := by
      have : c'.size = len * i.size := by
        have := Instr_fill_size _ _ _ _ e1
        simpa using this
      rw [this, h1, hcl]
      omega
    have hint : ∀ k (hk : k < cs.length), ∃ n, cs[k] = .int .u8 n ∧ c'.getD k default = .int .u8 n := fun k hk => by
      obtain ⟨n, e⟩ := bytesOf_int hb k hk
      have := e4 k hk
      rw [e] at this
      exact ⟨n, e, this.int_inv⟩
    rw [← hcl]
    refine .sl _ w.heap.size 0 cs.length 1 (fun k _ => c'.getD k default) ⟨?_, ?_, ?_⟩ (Nat.le_refl _) ?_ (fun k _ => e3 k) ?_ ?_ ?_
    · show w.heap.size < (w.heap.push _).size
      simp
    · intro id hl e
      have := hr.blk_lt hl
      omega
    · intro hgh
      have := (hr.gh _ hgh).1
      omega
    · have : ∀ {l : List AV} {s : List UInt8}, bytesOf l = some s → AV.refsL l = 0 := by
        intro l
        induction l with
        | nil => intro s _; rfl
        | cons x r ih =>
          intro s h
          cases x with
          | int k n =>
            cases k <;> simp only [bytesOf] at h <;> first | (cases h; done) | skip
            obtain ⟨s', h1, rfl⟩ := Option.map_eq_some_iff.1 h
            simp [AV.refsL, AV.refs, ih h1]
          | _ => simp [bytesOf] at h
      exact this hb
    · intro k hk
      obtain ⟨n, e, _⟩ := hint k hk
      rw [e]
      rfl
    · intro k j hk hj
      have hj0 : j = 0 := by omega
      subst hj0
      have hb : (w.alloc (.cells c' e)).heap[w.heap.size]? = some (.cells c' e) := by
        show (w.heap.push _)[w.heap.size]? = _
        simp
      unfold World.cell?
      simp only [hb, Nat.zero_add, Nat.mul_one, Nat.add_zero]
      rw [Array.getD_eq_getD_getElem?, Array.getElem?_eq_getElem (by omega)]
      rfl
    · intro k hk j hj
      obtain ⟨n, e, e'⟩ := hint k hk
      simp only [e, AV.cells] at hj ⊢
      have hj0 : j = 0 := by simpa using hj
      subst hj0
      rw [e']
      exact .int _ _
theorem op_cvfs {s d e : TypeId} {x : Operand} {o : Oper} (ho : o.op = .convert s d x) {x' : Opd} (hx : opd x = some x') (hs : P.underlying s = some (.slice e)) (hd : P.underlying d = some .string) (he : P.underlying e = some (.int .u8))
    {cs : List AV} (hv : x'.ev fr = .sl cs) {b : List UInt8} (hb : bytesOf cs = some b) (hf : FR φ h w fr a.tmps) (hr : HR φ h w) : OpOK P (execOp a.eval o) φ h w (.str b) h := by
  have hall : cs.all (fun x => (x.cells?.map List.length) == some 1) = true := by
    rw [List.all_eq_true]
    intro x hx
    obtain ⟨i, hi, rfl⟩ := List.getElem_of_mem hx
    obtain ⟨n, e⟩ := bytesOf_int hb i hi
    rw [e]
    rfl
  have hfl : ∀ {l : List AV} {s : List UInt8}, bytesOf l = some s → l.flatMap AV.cells = l := by
    intro l
    induction l with
    | nil => intro s _; rfl
    | cons x r ih =>
      intro s h
      cases x with
      | int k n =>
        cases k <;> simp only [bytesOf] at h <;> first | (cases h; done) | skip
        obtain ⟨s', h1, rfl⟩ := Option.map_eq_some_iff.1 h
        rw [List.flatMap_cons, ih h1]
        rfl
      | _ => simp [bytesOf] at h
  refine op_cvbs ho hx hs hd he (n := cs.length) (cs := cs) ?_ (fun s => by rw [hv]; exact fun h => by cases h) hb hf hr
  rw [hv]
  simp only [elemsA]
  rw [if_pos hall, hfl hb]
end
end Sz

/- Maps whose keys are structs of basic fields. No program is named here. -/
namespace Sz
open Go
section
variable {P : Program} {φ : Phi} {h : Heap} {w : World} {fr : List AV} {a : Act}
theorem check_basic {t : TypeId} {k : Nat} (hk : kindT P t = some k) (em : Bool) (n : Nat) (v : Value) (w : World) : (Instr.checkKey em (n + 1) t v).run P w = .ok () w := by
  unfold kindT at hk
  unfold Instr.checkKey
  split at hk <;> first
    | (cases hk; done)
    | (rename_i hu; simp [run_underlying hu]; done)
theorem check_fields {cs : Array Value} (em : Bool) (n : Nat) (w : World) : ∀ (fs : List Field) (ks : List Nat) (i : Nat), flatK P fs i = some ks → i + fs.length ≤ cs.size →
    Sem.run P (forIn fs PUnit.unit fun f _ =>
            if f.name ≠ "_" then do
              let x ← part f.type cs f.offset
              Instr.checkKey em (n + 1) f.type x
              pure (ForInStep.yield PUnit.unit)
            else pure (ForInStep.yield PUnit.unit)) w = .ok PUnit.unit w
  | [], _, _, _, _ => by simp
  | f :: r, ks, i, hf, hl => by
    unfold flatK at hf
    split at hf
    · rename_i hc
      split at hf
      · rename_i kd ks' hkd hks'
        cases hf
        simp only [List.length_cons] at hl
        have ih := check_fields (cs := cs) em n w r ks' (i + 1) hks' (by omega)
        have hi : i < cs.size := by omega
        have hp : (part f.type cs f.offset).run P w = .ok cs[i] w := by
          rw [hc.2]
          simp [part, kindT_agg hkd, hi]
        have hck := check_basic hkd em n cs[i] w
        rw [List.forIn_cons]
        simp only [ne_eq, hc.1, not_false_iff, if_true, Sem.run_bind, hp, hck, Result.andThen_ok, Sem.run_pure]
        simpa using ih
      · cases hf
    · cases hf
theorem check_struct {t : TypeId} {fs : Array Field} (ht : P.underlying t = some (.struct fs)) {ks : List Nat} (hk : flatK P fs.toList 0 = some ks) (em : Bool) (n : Nat) (cs : Array Value) (hl : fs.size ≤ cs.size) (w : World) : (Instr.checkKey em (n + 2) t (.agg cs)).run P w = .ok () w := by
  unfold Instr.checkKey
  simp only [Sem.run_bind, run_underlying ht, Result.andThen_ok]
  rw [← Array.forIn_toList]
  have := check_fields (cs := cs) em n w fs.toList ks 0 hk (by simpa using hl)
  rw [this]
  simp
theorem flatK_len : ∀ (fs : List Field) (i : Nat) (ks : List Nat), flatK P fs i = some ks → ks.length = fs.length
  | [], i, ks, h => by cases h; rfl
  | f :: r, i, ks, h => by
    unfold flatK at h
    split at h
    · split at h
      · rename_i kd ks' _ hks
        cases h
        simp [flatK_len r _ _ hks]
      · cases h
    · cases h
theorem eqCells_len : ∀ (ks : List Nat) (a b : List AV) (r : Bool), eqCells ks a b = some r → a.length = ks.length
  | [], a, b, r, h => by
    cases a with
    | nil => rfl
    | cons x xs => simp [eqCells] at h
  | k :: ks, a, b, r, h => by
    cases a with
    | nil => simp [eqCells] at h
    | cons x xs =>
      cases b with
      | nil => simp [eqCells] at h
      | cons y ys =>
        simp only [eqCells] at h
        split at h
        · rename_i _ _ _ h2
          simp [eqCells_len ks xs ys _ h2]
        · cases h
section
variable {kt : TypeId} {fs : Array Field} (ht : P.underlying kt = some (.struct fs)) {ks : List Nat} (hk : flatK P fs.toList 0 = some ks) (hs : P.stoodInHeld kt = false)
include ht hk hs
theorem eq_struct {nx : Nat} {pr : Nat → Prop} {l m : List AV} {cx cy : Value} (hx : RV φ nx pr w (.agg l) cx) (hy : RV φ nx pr w (.agg m) cy) {r : Bool} (he : eqCells ks l m = some r) : (Op.equal kt cx cy).run P w = .ok r w := by
  obtain ⟨xs, q1, q2, _, q3⟩ := hx.agg_inv
  obtain ⟨ys, q4, q5, _, q6⟩ := hy.agg_inv
  subst q1 q4
  have hfo : P.fieldsOf kt = fs := by simp [Program.fieldsOf, ht]
  show (Op.equalIn 10000 kt (.agg xs) (.agg ys)).run P w = _
  rw [run_equalIn_struct w 9999 kt xs ys (by rw [hfo]; exact ht) hs, hfo]
  exact eqFields_ok (d := 9998) q2 q5 q3 q6 fs.toList ks 0 r hk (by simpa using he)
omit hk hs in
theorem findKey_ask {kc : Value} {l : List MapEntry} : (Instr.findKey kt kc l).run P w = (Instr.findAsking kt kc l).run P w := by
  cases l with
  | nil => simp [Instr.findKey, run_underlying ht, Instr.findNow, Instr.findAsking]
  | cons e es => simp [Instr.findKey, run_underlying ht, Instr.findNow, Instr.sameNow]
theorem findAsk_ok {nx : Nat} {pr : Nat → Prop} {k : List AV} {kc : Value} (hkc : RV φ nx pr w (.agg k) kc) : ∀ (es : List (AV × AV)) (l : List MapEntry) (i : Nat), l.length = es.length →
    (∀ j (hj : j < es.length), RV φ nx pr w es[j].1 (l.getD j default).key ∧ RV φ nx pr w es[j].2 (l.getD j default).val) → ∀ r, lookKs ks k es = some r →
    ∃ r', (Instr.findAsking kt kc l i).run P w = .ok r' w ∧ ((r = none ∧ r' = none) ∨ ∃ v j cv, r = some v ∧ r' = some (j, cv) ∧ RV φ nx pr w v cv)
  | [], l, i, hl, _, r, hr => by
    simp only [lookKs, Option.some.injEq] at hr
    cases l with
    | nil => exact ⟨none, by simp [Instr.findAsking], .inl ⟨hr.symm, rfl⟩⟩
    | cons _ _ => simp at hl
  | (k', v') :: es, [], i, hl, _, r, hr => by simp at hl
  | (k', v') :: es, e :: l, i, hl, hv, r, hr => by
    obtain ⟨g1, g2⟩ := hv 0 (by simp)
    simp only [List.getElem_cons_zero, List.getD_cons_zero] at g1 g2
    cases k' with
    | agg m =>
      simp only [lookKs] at hr
      split at hr
      · rename_i he
        cases hr
        have hq := eq_struct ht hk hs hkc g1 he
        exact ⟨some (i, e.val), by simp [Instr.findAsking, hq], .inr ⟨v', i, e.val, rfl, rfl, g2⟩⟩
      · rename_i he
        have hq := eq_struct ht hk hs hkc g1 he
        obtain ⟨r', h1, h2⟩ := findAsk_ok hkc es l (i + 1) (by simpa using hl) (fun j hj => by
          have := hv (j + 1) (by simpa using hj)
          simpa using this) r hr
        exact ⟨r', by simp [Instr.findAsking, hq, h1], h2⟩
      · cases hr
    | _ => simp [lookKs] at hr
theorem askMup {nx : Nat} {pr : Nat → Prop} {k : List AV} {v : AV} {kc : Value} (hkc : RV φ nx pr w (.agg k) kc) : ∀ (es : List (AV × AV)) (l : List MapEntry) (i : Nat), l.length = es.length →
    (∀ j (hj : j < es.length), RV φ nx pr w es[j].1 (l.getD j default).key) → ∀ es', mupKs ks k v es = some es' → (Instr.findAsking kt kc l i).run P w = .ok none w ∧ es' = es ++ [(.agg k, v)]
  | [], l, i, hl, _, es', hr => by
    simp only [mupKs, Option.some.injEq] at hr
    cases l with
    | nil => exact ⟨by simp [Instr.findAsking], hr.symm⟩
    | cons _ _ => simp at hl
  | (k', v') :: es, [], i, hl, _, es', hr => by simp at hl
  | (k', v') :: es, e :: l, i, hl, hv, es', hr => by
    have g1 := hv 0 (by simp)
    simp only [List.getElem_cons_zero, List.getD_cons_zero] at g1
    cases k' with
    | agg m =>
      simp only [mupKs] at hr
      split at hr
      · cases hr
      · rename_i he
        have hq := eq_struct ht hk hs hkc g1 he
        obtain ⟨r, h1, rfl⟩ := Option.map_eq_some_iff.1 hr
        obtain ⟨i1, i2⟩ := askMup hkc es l (i + 1) (by simpa using hl) (fun j hj => by
          have := hv (j + 1) (by simpa using hj)
          simpa using this) r h1
        subst i2
        exact ⟨by simp [Instr.findAsking, hq, i1], rfl⟩
      · cases hr
    | _ => simp [mupKs] at hr
end
theorem op_lks {t kt e : TypeId} {fs : Array Field} {ks : List Nat} {m k : Operand} {ok : Bool} {o : Oper} (ho : o.op = .lookup t m k ok) {m' k' : Opd} (hm : opd m = some m') (hk : opd k = some k')
    (ht : P.underlying t = some (.map kt e)) (hq : P.underlying kt = some (.struct fs)) (hfl : flatK P fs.toList 0 = some ks) (hsh : P.stoodInHeld kt = false) {z : AV} (hz : zeroV P e = some z) {es : List (AV × AV)} (hes : (m'.ev fr = .nilm ∧ es = []) ∨ ∃ id, m'.ev fr = .map id ∧ h.mapAt id = some es)
    {kc : List AV} (hkc : k'.ev fr = .agg kc) (hkl : kc.length = ks.length) {r : Option AV} (hl : lookKs ks kc es = some r) (hf : FR φ h w fr a.tmps) (hr : HR φ h w) :
    OpOK P (execOp a.eval o) φ h w (lkpA ok z r) h := by
  have g1 := opd_ok hm hf
  have g2 := opd_ok hk hf
  rw [hkc] at g2
  obtain ⟨zv, hz1, hz2⟩ := Option.bind_eq_some_iff.1 hz
  obtain ⟨inf, hi, hzi⟩ := Option.bind_eq_some_iff.1 hz1
  have hzr : RVh φ h w z zv := ofVal_ok hz2
  have pair : ∀ (v : AV) (cv : Value) (b : Bool), RVh φ h w v cv → RVh φ h w (if ok then .tuple [v, .bool b] else v) (if ok then .tuple #[cv, .bool b] else cv) := fun v cv b hv => by
    cases ok with
    | false => exact hv
    | true =>
      refine .tuple _ _ rfl fun j hj => ?_
      match j, hj with
      | 0, _ => exact hv
      | 1, _ => exact .bool b
  generalize hkv : a.eval k = kv at g2
  have hck : ∀ em, (Instr.checkKey em 10000 kt kv).run P w = .ok () w := fun em => by
    obtain ⟨xs, q1, q2, _, _⟩ := g2.agg_inv
    rw [q1]
    exact check_struct hq hfl em 9998 xs (by rw [q2, hkl, flatK_len _ _ _ hfl, Array.length_toList]; exact Nat.le_refl _) w
  have fin : ∀ (l : List MapEntry) (mo : Option Nat), a.eval m = .map mo → (∃ es0 : Array MapEntry, es0.toList = l ∧ (match mo with | none => es0 = #[] | some b => ∃ clk, w.heap[b]? = some (.map es0 clk))) → l.length = es.length →
      (∀ j (hj : j < es.length), RVh φ h w es[j].1 (l.getD j default).key ∧ RVh φ h w es[j].2 (l.getD j default).val) →
      OpOK P (execOp a.eval o) φ h w (lkpA ok z r) h := fun l mo hmo hblk hlen hent => by
    obtain ⟨r', f1, f2⟩ := findAsk_ok hq hfl hsh g2 es l 0 hlen hent r hl
    obtain ⟨es0, hes0, hblk⟩ := hblk
    have hfk : (Instr.findKey kt kv es0.toList).run P w = .ok r' w := by rw [findKey_ask hq, hes0, f1]
    rcases f2 with ⟨rfl, rfl⟩ | ⟨v, j, cv, rfl, rfl, hv⟩
    · refine .pure (cv := if ok then .tuple #[zv, .bool false] else zv) hr ?_ (by cases ok <;> exact pair z zv false hzr)
      unfold execOp
      cases mo with
      | none =>
        subst hblk
        simp [ho, hmo, hkv, Instr.lookup, run_underlying ht, hck, hfk, zeroValue, typeInfo, hi, hzi]
      | some b =>
        obtain ⟨clk, hb⟩ := hblk
        have hg : (getObj b).run P w = .ok (.map es0 clk) w := by simp [getObj, Sem.run, hb]
        simp [ho, hmo, hkv, Instr.lookup, run_underlying ht, hg, hck, hfk, zeroValue, typeInfo, hi, hzi]
    · refine .pure (cv := if ok then .tuple #[cv, .bool true] else cv) hr ?_ (by cases ok <;> exact pair v cv true hv)
      unfold execOp
      cases mo with
      | none =>
        subst hblk
        simp [ho, hmo, hkv, Instr.lookup, run_underlying ht, hck, hfk]
      | some b =>
        obtain ⟨clk, hb⟩ := hblk
        have hg : (getObj b).run P w = .ok (.map es0 clk) w := by simp [getObj, Sem.run, hb]
        simp [ho, hmo, hkv, Instr.lookup, run_underlying ht, hg, hck, hfk]
  rcases hes with ⟨e1, rfl⟩ | ⟨id, e1, e2⟩
  · rw [e1] at g1
    exact fin [] none g1.nilm_inv ⟨#[], rfl, rfl⟩ rfl fun j hj => by simp at hj
  · rw [e1] at g1
    obtain ⟨ents, clk, m1, m2, m3⟩ := hr.maps id es (mapAt_get' e2)
    refine fin ents.toList (some (φ id).blk) g1.map_inv.1 ⟨ents, rfl, clk, m1⟩ (by simpa using m2) fun j hj => ?_
    have := m3 j hj
    simpa [Array.getD_eq_getD_getElem?, List.getD] using this
theorem op_mus {t kt e : TypeId} {fs : Array Field} {ks : List Nat} {m k v : Operand} {o : Oper} (ho : o.op = .mapUpdate t m k v) {m' k' v' : Opd} (hm : opd m = some m') (hk : opd k = some k') (hv : opd v = some v')
    (ht : P.underlying t = some (.map kt e)) (hq : P.underlying kt = some (.struct fs)) (hfl : flatK P fs.toList 0 = some ks) (hsh : P.stoodInHeld kt = false) {id : Nat} (hid : m'.ev fr = .map id) {es es' : List (AV × AV)} (hes : h.mapAt id = some es)
    {kc : List AV} (hkc : k'.ev fr = .agg kc) (hkl : kc.length = ks.length) (hu : mupKs ks kc (v'.ev fr) es = some es') (hf : FR φ h w fr a.tmps) (hr : HR φ h w) :
    OpOK P (execOp a.eval o) φ h w .undef (((h.set id (.map es')).mark id (v'.ev fr)).mark id (.agg kc)) := by
  have g0 := opd_ok hm hf
  have g1 := opd_ok hk hf
  have g2 := opd_ok hv hf
  rw [hid] at g0
  rw [hkc] at g1
  have hmv := g0.map_inv.1
  have hg := mapAt_get' hes
  obtain ⟨ents, clk, m1, m2, m3⟩ := hr.maps id es hg
  have hck : ∀ em, (Instr.checkKey em 10000 kt (a.eval k)).run P w = .ok () w := fun em => by
    obtain ⟨xs, q1, q2, _, _⟩ := g1.agg_inv
    rw [q1]
    exact check_struct hq hfl em 9998 xs (by rw [q2, hkl, flatK_len _ _ _ hfl, Array.length_toList]; exact Nat.le_refl _) w
  have hgo : (getObj (φ id).blk).run P w = .ok (.map ents clk) w := by simp [getObj, Sem.run, m1]
  have fin : ∀ (ents' : Array MapEntry) (clk' : Nat), ents'.size = es'.length →
      (∀ j (hj : j < es'.length), RVh φ h w es'[j].1 (ents'.getD j default).key ∧ RVh φ h w es'[j].2 (ents'.getD j default).val) →
      (Instr.mapUpdate t (a.eval m) (a.eval k) (a.eval v)).run P w = .ok () (putO w (φ id).blk (.map ents' clk')) →
      OpOK P (execOp a.eval o) φ h w .undef (((h.set id (.map es')).mark id (v'.ev fr)).mark id (.agg kc)) := fun ents' clk' hlen hent hrun => by
    have hlt : (φ id).blk < w.heap.size := hr.blk_lt ⟨_, hg, fun e => by cases e⟩
    obtain ⟨t1, t2⟩ := turn_obj (w' := putO w (φ id).blk (.map ents' clk')) (o' := .map es') hr hg (fun e => by cases e) (by simp [putO]) (fun b hb => putO_other hb) rfl rfl rfl
    have hr2 := t2 (fun cs e => by cases e) fun es2 e => by
      cases e
      exact ⟨ents', clk', putO_same hlt, hlen, fun j hj => ⟨(hent j hj).1.ext t1, (hent j hj).2.ext t1⟩⟩
    obtain ⟨n1, n2⟩ := hr2.mark id (v'.ev fr)
    obtain ⟨n3, n4⟩ := n1.mark id (.agg kc)
    refine ⟨undef, _, φ, .inr ⟨?_, rfl⟩, .undef _, n3, (t1.trans n2).trans n4⟩
    unfold execOp
    simp [ho, hrun]
  obtain ⟨f1, rfl⟩ := askMup hq hfl hsh g1 es ents.toList 0 (by simpa using m2) (fun j hj => by
      have := (m3 j hj).1
      simpa [Array.getD_eq_getD_getElem?, List.getD] using this) es' hu
  refine fin (ents.push { key := a.eval k, val := a.eval v, born := clk }) (clk + 1) (by simp [m2]) (fun j hj => ?_) ?_
  · by_cases hl : j < es.length
    · have := m3 j hl
      have e1 : (ents.push { key := a.eval k, val := a.eval v, born := clk }).getD j default = ents.getD j default := by
        have : j < ents.size := by omega
        rw [Array.getD_eq_getD_getElem?, Array.getD_eq_getD_getElem?, Array.getElem?_push_lt this, Array.getElem?_eq_getElem this]
      rw [e1]
      simpa [hl] using this
    · have hj' : j = es.length := by simp at hj; omega
      subst hj'
      have e1 : (ents.push { key := a.eval k, val := a.eval v, born := clk }).getD es.length default = { key := a.eval k, val := a.eval v, born := clk } := by
        rw [Array.getD_eq_getD_getElem?, ← m2]
        simp
      rw [e1]
      simpa using ⟨g1, g2⟩
  · have hfk : (Instr.findKey kt (a.eval k) ents.toList).run P w = .ok none w := by rw [findKey_ask hq, f1]
    simp [Instr.mapUpdate, run_underlying ht, hmv, hgo, hck, hfk, setObj, Sem.run]
    rw [show φ.at_ id = φ id from rfl, m1]
    rfl
end
end Sz

/- The compiled code does what the code does. No program is named here. -/
namespace Sz
open Go
section
variable {P : Program} {φ : Phi} {h : Heap} {w : World} {fr : List AV} {a : Act}
theorem op_ok0 {o : Oper} {aop : AOp} {v : AV} {h' : Heap} (hc : compOp0 P o.op = some aop) (he : evOp fr h aop = some (v, h')) (hf : FR φ h w fr a.tmps) (hr : HR φ h w) : OpOK P (execOp a.eval o) φ h w v h' := by
  cases hop : o.op with
  | move x =>
    rw [hop] at hc
    simp only [compOp0, Option.map_eq_some_iff] at hc
    obtain ⟨x', hx, rfl⟩ := hc
    simp only [evOp, Option.some.injEq, Prod.mk.injEq] at he
    obtain ⟨rfl, rfl⟩ := he
    exact op_mov (.inl hop) hx hf hr
  | assign x =>
    rw [hop] at hc
    simp only [compOp0, Option.map_eq_some_iff] at hc
    obtain ⟨x', hx, rfl⟩ := hc
    simp only [evOp, Option.some.injEq, Prod.mk.injEq] at he
    obtain ⟨rfl, rfl⟩ := he
    exact op_mov (.inr hop) hx hf hr
  | pick c x y =>
    rw [hop] at hc
    simp only [compOp0] at hc
    split at hc
    · rename_i c' x' y' h1 h2 h3
      cases hc
      simp only [evOp] at he
      split at he
      · rename_i b hb
        cases he
        exact op_pick hop h1 h2 h3 hb hf hr
      · cases he
    · cases hc
  | alloc t =>
    rw [hop] at hc
    simp only [compOp0, Option.map_eq_some_iff] at hc
    obtain ⟨z, hz, rfl⟩ := hc
    simp only [evOp, Opd.ev, AV.cells?, Option.some.injEq, Prod.mk.injEq] at he
    obtain ⟨rfl, rfl⟩ := he
    exact op_alloc hop hz hr
  | box t x =>
    rw [hop] at hc
    simp only [compOp0, Option.map_eq_some_iff] at hc
    obtain ⟨x', hx, rfl⟩ := hc
    simp only [evOp] at he
    split at he
    · rename_i cs hcs
      cases he
      exact op_box hop hx hcs hf hr
    · cases he
  | build t parts =>
    rw [hop] at hc
    simp only [compOp0] at hc
    split at hc
    · rename_i fs z h1 h2
      split at hc
      · rename_i places h3
        obtain ⟨ps, hps, rfl⟩ := Option.map_eq_some_iff.1 hc
        simp only [evOp, Option.map_eq_some_iff] at he
        obtain ⟨cs, hcs, e⟩ := he
        cases e
        exact op_bld hop h1 h2 h3 hps hcs hf hr
      · cases hc
    · cases hc
  | buildSlice t len parts =>
    rw [hop] at hc
    simp only [compOp0] at hc
    split at hc
    · rename_i h0
      split at hc
      · rename_i e h1
        obtain ⟨i, hi, rfl⟩ := Option.map_eq_some_iff.1 hc
        simp only [evOp, Option.some.injEq, Prod.mk.injEq] at he
        obtain ⟨rfl, rfl⟩ := he
        obtain ⟨rfl, hp⟩ := h0
        exact op_bs0 hop (by simpa using hp) h1 hi hr
      · cases hc
    split at hc
    · rename_i e h1
      split at hc
      · rename_i i z ps h2 h3 h4
        split at hc
        · rename_i h5
          cases hc
          simp only [evOp, Option.map_eq_some_iff] at he
          obtain ⟨cs, hcs, e⟩ := he
          cases e
          exact op_bsl hop h1 h2 h3 h4 h5.1 h5.2 hcs hf hr
        · cases hc
      · cases hc
    · cases hc
  | load t x =>
    rw [hop] at hc
    simp only [compOp0] at hc
    split at hc
    · rename_i x' n h1 h2
      cases hc
      simp only [evOp, Option.map_eq_some_iff] at he
      obtain ⟨v', hv, e⟩ := he
      cases e
      exact op_ld hop h1 h2 hv hf hr
    · cases hc
  | store t x y =>
    rw [hop] at hc
    simp only [compOp0] at hc
    split at hc
    · rename_i x' y' i h1 h2 h3
      cases hc
      simp only [evOp] at he
      split at he
      · rename_i id off vs h4 h5
        split at he
        · rename_i cs h6
          split at he
          · rename_i h7
            cases he
            exact op_st hop h1 h2 h3 h4 h5 h6 h7.1 h7.2 hf hr
          · cases he
        · cases he
      · cases he
    · cases hc
  | nilCheck x =>
    rw [hop] at hc
    simp only [compOp0, Option.map_eq_some_iff] at hc
    obtain ⟨x', hx, rfl⟩ := hc
    simp only [evOp] at he
    split at he
    · rename_i hn
      cases he
      exact op_nck hop hx hn hf hr
    · cases he
  | binOp op t x y ty =>
    rw [hop] at hc
    simp only [compOp0, compBin] at hc
    split at hc
    · rename_i x' y' h1 h2
      have nilc : ∀ k, compNil op k x' y' y = some aop → ((k = 0 ∧ ∃ e, P.underlying t = some (.pointer e)) ∨ (k = 1 ∧ ∃ ms, P.underlying t = some (.interface ms)) ∨ (k = 2 ∧ ∃ ps rs v, P.underlying t = some (.func ps rs v)) ∨ (k = 3 ∧ ∃ kk e, P.underlying t = some (.map kk e))) →
          OpOK P (execOp a.eval o) φ h w v h' := fun k hk ht => by
        unfold compNil at hk
        split at hk
        · rename_i hcy
          have key : ∀ neg, o.op = .binOp (if neg then .neq else .eql) t x y ty → aop = .peq k neg x' y' → OpOK P (execOp a.eval o) φ h w v h' := fun neg ho ha => by
            subst ha
            simp only [evOp] at he
            split at he
            · rename_i p h4 h5
              cases he
              exact op_peq ho h1 h2 hcy ht h4 h5 hf hr
            · cases he
          split at hk
          · cases hk
            exact key false hop rfl
          · cases hk
            exact key true hop rfl
          · cases hk
        · cases hk
      split at hc
      · rename_i k hk
        cases hc
        simp only [evOp, Option.map_eq_some_iff] at he
        obtain ⟨v', hv, e⟩ := he
        cases e
        exact op_bin hop h1 h2 hv hf hr
      · rename_i hk
        cases hc
        simp only [evOp, Option.map_eq_some_iff] at he
        obtain ⟨v', hv, e⟩ := he
        cases e
        exact op_bin hop h1 h2 hv hf hr
      · rename_i ht
        have key : ∀ neg, o.op = .binOp (if neg then .neq else .eql) t x y ty → aop = .beq neg x' y' → OpOK P (execOp a.eval o) φ h w v h' := fun neg ho ha => by
          subst ha
          simp only [evOp] at he
          split at he
          · rename_i b1 b2 h4 h5
            cases he
            exact op_beq ho h1 h2 ht h4 h5 hf hr
          · cases he
        split at hc
        · cases hc; exact key false hop rfl
        · cases hc; exact key true hop rfl
        · cases hc
      · rename_i fs ht
        split at hc
        · rename_i ks hks
          split at hc
          · rename_i hg
            have key : ∀ neg, o.op = .binOp (if neg then .neq else .eql) t x y ty → aop = .ceq ks neg x' y' → OpOK P (execOp a.eval o) φ h w v h' := fun neg ho ha => by
              subst ha
              simp only [evOp] at he
              split at he
              · rename_i l m h4 h5
                obtain ⟨r, hr', e⟩ := Option.map_eq_some_iff.1 he
                cases e
                exact op_ceq ho h1 h2 ht hks hg.1 hg.2 h4 h5 hr' hf hr
              · cases he
            split at hc
            · cases hc; exact key false hop rfl
            · cases hc; exact key true hop rfl
            · cases hc
          · cases hc
        · cases hc
      · rename_i e ht
        exact nilc 0 hc (.inl ⟨rfl, e, ht⟩)
      · rename_i e ht
        exact nilc 1 hc (.inr (.inl ⟨rfl, e, ht⟩))
      · rename_i p1 p2 p3 ht
        exact nilc 2 hc (.inr (.inr (.inl ⟨rfl, p1, p2, p3, ht⟩)))
      · rename_i p1 p2 ht
        exact nilc 3 hc (.inr (.inr (.inr ⟨rfl, p1, p2, ht⟩)))
      · rename_i e ht
        split at hc
        · cases hc
          simp only [evOp] at he
          exact op_snil (neg := false) hop h1 ht he hf hr
        · cases hc
          simp only [evOp] at he
          exact op_snil (neg := true) hop h1 ht he hf hr
        · cases hc
      · cases hc
    · cases hc
  | unOp op t x =>
    rw [hop] at hc
    simp only [compOp0, Option.map_eq_some_iff] at hc
    obtain ⟨x', hx, rfl⟩ := hc
    have key : ∀ v', (match (generalizing := false) op, x'.ev fr with
      | .not, .bool b => some (AV.bool (!b))
      | .neg, .int k n => some (.int k (k.wrap (0 - n)))
      | .xor, .int k n => some (.int k (bitsI .xor k (if k.signed then -1 else k.max) n))
      | _, _ => none) = some v' → v = v' → h' = h → OpOK P (execOp a.eval o) φ h w v h' := fun v' hv e1 e2 => by
      subst e1 e2
      exact op_un hop hx hv hf hr
    simp only [evOp] at he
    split at he
    · rename_i b hb
      cases he
      exact key _ (by rw [hb]) rfl rfl
    · rename_i k n hb
      cases he
      exact key _ (by rw [hb]) rfl rfl
    · rename_i k n hb
      cases he
      exact key _ (by rw [hb]) rfl rfl
    · cases he
  | convert s d x =>
    rw [hop] at hc
    simp only [compOp0, compConv] at hc
    split at hc
    · rename_i x' k0 k h1 h2 h3
      cases hc
      simp only [evOp] at he
      split at he
      · rename_i k' n h4
        cases he
        exact op_cvi hop h1 h2 h3 h4 hf hr
      · cases he
    · rename_i x' k0 h1 h2 h3
      cases hc
      simp only [evOp] at he
      split at he
      · rename_i k' n h4
        split at he
        · rename_i h5
          cases he
          exact op_cvis hop h1 h2 h3 h4 h5.1 h5.2 hf hr
        · cases he
      · cases he
    · rename_i x' h1 h2 h3
      cases hc
      simp only [evOp] at he
      split at he
      · rename_i s h4
        cases he
        exact op_cvss hop h1 h2 h3 h4 hf hr
      · cases he
    · rename_i x' e h1 h2 h3
      split at hc
      · rename_i h5
        cases hc
        simp only [evOp] at he
        split at he
        · rename_i s h4
          cases he
          exact op_cvsb hop h1 h2 h3 h5 h4 hf hr
        · cases he
      · cases hc
    · rename_i x' e h1 h2 h3
      split at hc
      · rename_i h5
        cases hc
        simp only [evOp] at he
        split at he
        · cases he
        · rename_i n cs h4 h6
          obtain ⟨s, h7, e⟩ := Option.map_eq_some_iff.1 he
          cases e
          exact op_cvbs hop h1 h2 h3 h5 h4 h6 h7 hf hr
        · cases he
      · cases hc
    · cases hc
  | makeInterface t x =>
    rw [hop] at hc
    simp only [compOp0] at hc
    split at hc
    · cases hc
    · rename_i x' d h1 h2 h3
      cases hc
      simp only [evOp, Option.some.injEq, Prod.mk.injEq] at he
      obtain ⟨rfl, rfl⟩ := he
      exact op_mki hop h2 h3 (fun ms e => h1 ms e) hf hr
    · cases hc
  | makeFunc f first caps =>
    rw [hop] at hc
    cases f with
    | func f =>
      simp only [compOp0] at hc
      split at hc
      · rename_i h1
        obtain ⟨cs, h2, rfl⟩ := Option.map_eq_some_iff.1 hc
        simp only [evOp, Option.some.injEq, Prod.mk.injEq] at he
        obtain ⟨rfl, rfl⟩ := he
        exact op_mkf hop h1 h2 hf hr
      · cases hc
    | _ => simp [compOp0] at hc
  | makeMap t r =>
    rw [hop] at hc
    cases r with
    | none =>
      simp only [compOp0, Option.some.injEq] at hc
      subst hc
      simp only [evOp, Option.some.injEq, Prod.mk.injEq] at he
      obtain ⟨rfl, rfl⟩ := he
      exact op_mkm hop hr
    | some r => simp [compOp0] at hc
  | makeSlice t l c =>
    rw [hop] at hc
    simp only [compOp0] at hc
    split at hc
    · rename_i e l' c' h1 h2 h3
      split at hc
      · rename_i i z h4 h5
        split at hc
        · rename_i h6
          cases hc
          simp only [evOp] at he
          split at he
          · rename_i m n h7 h8
            split at he
            · rename_i h9
              cases he
              exact op_mks hop h2 h3 h1 h4 h5 h6 h7 h8 h9 hf hr
            · cases he
          · cases he
        · cases hc
      · cases hc
    · cases hc
  | slice t x lo hi mx =>
    rw [hop] at hc
    simp only [compOp0] at hc
    split at hc
    · rename_i x' lo' hi' h1 h2 h3 h4 h5
      cases hc
      have hmx : mx = none := by
        cases mx with
        | none => rfl
        | some m => simp [opdO] at h5
      subst hmx
      simp only [evOp] at he
      split at he
      · rename_i s h6
        obtain ⟨⟨l, u⟩, h7, e⟩ := Option.map_eq_some_iff.1 he
        cases e
        exact op_sls hop h2 h3 h4 h1 h6 h7 hf hr
      · cases he
    · rename_i e x' lo' hi' mx' h1 h2 h3 h4 h5
      obtain ⟨i, hi', rfl⟩ := Option.map_eq_some_iff.1 hc
      simp only [evOp] at he
      exact op_slv hop h2 h3 h4 h5 h1 hi' he hf hr
    · cases hc
  | fieldAddr s x k =>
    rw [hop] at hc
    simp only [compOp0] at hc
    split at hc
    · rename_i fs x' h1 h2
      split at hc
      · rename_i fd h3
        split at hc
        · rename_i i h4
          split at hc
          · rename_i h5
            cases hc
            simp only [evOp] at he
            have key : ∀ v', (match x'.ev fr with | .ptr id o => some (AV.ptr id (o + fd.offset)) | .ip cs => some (.ip (cs.drop fd.offset)) | _ => none) = some v' → v = v' → h' = h → OpOK P (execOp a.eval o) φ h w v h' := fun v' hv e1 e2 => by
              subst e1 e2
              exact op_fad hop h2 h1 h3 h4 h5 hv hf hr
            split at he
            · rename_i id oo hb
              cases he
              exact key _ (by rw [hb]) rfl rfl
            · rename_i cs hb
              cases he
              exact key _ (by rw [hb]) rfl rfl
            · cases he
          · cases hc
        · cases hc
      · cases hc
    · cases hc
  | field t x k =>
    rw [hop] at hc
    simp only [compOp0] at hc
    split at hc
    · rename_i fs x' h1 h2
      split at hc
      · rename_i fd h3
        obtain ⟨n, h4, rfl⟩ := Option.map_eq_some_iff.1 hc
        simp only [evOp] at he
        split at he
        · rename_i cs h5
          cases n with
          | none =>
            simp only [Option.map_eq_some_iff] at he
            obtain ⟨v', hv, e⟩ := he
            cases e
            exact op_fld hop h2 h1 h3 h4 h5 hv hf hr
          | some n =>
            dsimp only at he
            split at he
            · rename_i h6
              cases he
              exact op_fld hop h2 h1 h3 h4 h5 (by dsimp only; rw [if_pos h6]) hf hr
            · cases he
        · cases he
      · cases hc
    · cases hc
  | indexAddr t x i =>
    rw [hop] at hc
    simp only [compOp0] at hc
    split at hc
    · rename_i e x' i' h1 h2 h3
      obtain ⟨inf, h4, rfl⟩ := Option.map_eq_some_iff.1 hc
      simp only [evOp] at he
      exact op_iad hop h2 h3 h1 h4 he hf hr
    · cases hc
  | index t x i =>
    rw [hop] at hc
    simp only [compOp0] at hc
    split at hc
    · rename_i x' i' h1 h2 h3
      cases hc
      simp only [evOp] at he
      split at he
      · rename_i s k n h4 h5
        split at he
        · rename_i h0
          obtain ⟨b, hb, e⟩ := Option.map_eq_some_iff.1 he
          cases e
          exact op_ixs hop h2 h3 h1 h4 h5 h0 hb hf hr
        · cases he
      · cases he
    · cases hc
  | lookup t m k ok =>
    rw [hop] at hc
    simp only [compOp0] at hc
    split at hc
    · rename_i kt e m' k' h1 h2 h3
      split at hc
      · rename_i q z h4 h5
        cases hc
        simp only [evOp] at he
        split at he
        · rename_i es h6
          obtain ⟨r, h7, e1⟩ := Option.map_eq_some_iff.1 he
          have hint : (∃ q0 n, k'.ev fr = .int q0 n) ∨ es = [] := by
            cases es with
            | nil => exact .inr rfl
            | cons p l =>
              refine .inl ?_
              obtain ⟨k1, v1⟩ := p
              cases hkv : k'.ev fr <;> rw [hkv] at h7 <;> cases k1 <;> simp [lookA, eqCell] at h7
              exact ⟨_, _, rfl⟩
          have hes : (m'.ev fr = .nilm ∧ es = []) ∨ ∃ id, m'.ev fr = .map id ∧ h.mapAt id = some es := by
            split at h6
            · rename_i h8
              cases h6
              exact .inl ⟨h8, rfl⟩
            · rename_i id h8
              exact .inr ⟨id, h8, h6⟩
            · cases h6
          have := op_lkp (ok := ok) hop h2 h3 h1 h4 h5 hes h7 hint hf hr
          cases r <;> cases e1 <;> exact this
        · cases he
      · rename_i fs z h4 h5
        split at hc
        · rename_i hsh
          obtain ⟨ks, hks, rfl⟩ := Option.map_eq_some_iff.1 hc
          simp only [evOp] at he
          split at he
          · rename_i es kc h6 h6k
            split at he
            · rename_i hlen
              obtain ⟨r, h7, e1⟩ := Option.map_eq_some_iff.1 he
              have hes : (m'.ev fr = .nilm ∧ es = []) ∨ ∃ id, m'.ev fr = .map id ∧ h.mapAt id = some es := by
                split at h6
                · rename_i h8
                  cases h6
                  exact .inl ⟨h8, rfl⟩
                · rename_i id h8
                  exact .inr ⟨id, h8, h6⟩
                · cases h6
              have := op_lks (ok := ok) hop h2 h3 h1 h4 hks hsh h5 hes h6k hlen h7 hf hr
              cases r <;> cases e1 <;> exact this
            · cases he
          · cases he
        · cases hc
      · cases hc
    · cases hc
  | mapUpdate t m k v0 =>
    rw [hop] at hc
    simp only [compOp0] at hc
    split at hc
    · rename_i kt e m' k' v' h1 h2 h3 h4
      split at hc
      · rename_i q h5
        cases hc
        simp only [evOp] at he
        split at he
        · rename_i id h6
          split at he
          · rename_i es h7
            obtain ⟨es', h8, e1⟩ := Option.map_eq_some_iff.1 he
            cases e1
            exact op_mup hop h2 h3 h4 h1 h5 h6 h7 h8 hf hr
          · cases he
        · cases he
      · rename_i fs h5
        split at hc
        · rename_i hsh
          obtain ⟨ks, hks, rfl⟩ := Option.map_eq_some_iff.1 hc
          simp only [evOp] at he
          split at he
          · rename_i id kc h6 h6k
            split at he
            · rename_i es h7
              split at he
              · rename_i hlen
                obtain ⟨es', h8, e1⟩ := Option.map_eq_some_iff.1 he
                cases e1
                exact op_mus hop h2 h3 h4 h1 h5 hks hsh h6 h7 h6k hlen h8 hf hr
              · cases he
            · cases he
          · cases he
        · cases hc
      · cases hc
    · cases hc
  | extract x i =>
    rw [hop] at hc
    simp only [compOp0, Option.map_eq_some_iff] at hc
    obtain ⟨x', hx, rfl⟩ := hc
    simp only [evOp] at he
    split at he
    · rename_i vs h1
      obtain ⟨v', hv, e⟩ := Option.map_eq_some_iff.1 he
      cases e
      exact op_ext hop hx h1 hv hf hr
    · cases he
  | call c =>
    rw [hop] at hc
    obtain ⟨callee, args, ats⟩ := c
    cases callee with
    | value f =>
      simp [compOp0] at hc
    | invoke r m => simp [compOp0] at hc
    | builtin b =>
      obtain ⟨args⟩ := args
      obtain ⟨ats⟩ := ats
      simp only [compOp0] at hc
      split at hc
      · rename_i x t
        split at hc
        · rename_i ht
          obtain ⟨x', hx, rfl⟩ := Option.map_eq_some_iff.1 hc
          simp only [evOp] at he
          split at he
          · rename_i s hs
            cases he
            exact op_lens hop hx ht hs hf hr
          · cases he
        · rename_i ht
          obtain ⟨x', hx, rfl⟩ := Option.map_eq_some_iff.1 hc
          simp only [evOp] at he
          exact op_lenv hop hx ht he hf hr
        · rename_i ht
          obtain ⟨x', hx, rfl⟩ := Option.map_eq_some_iff.1 hc
          simp only [evOp] at he
          exact op_lenm hop hx ht he hf hr
        · cases hc
      · rename_i x t
        split at hc
        · rename_i e x' h1 h2
          split at hc
          · rename_i i z h3 h4
            split at hc
            · rename_i h5
              cases hc
              simp only [evOp] at he
              exact op_clr hop h2 h1 h3 h4 h5 he hf hr
            · cases hc
          · cases hc
        · cases hc
      · rename_i x y
        split at hc
        · rename_i x' y' h1 h2
          cases hc
          simp only [evOp] at he
          split at he
          · rename_i h3 h4
            cases he
            exact op_mx hop h1 h2 h3 h4 hf hr
          · cases he
        · cases hc
      · rename_i x y
        split at hc
        · rename_i x' y' h1 h2
          cases hc
          simp only [evOp] at he
          split at he
          · rename_i h3 h4
            cases he
            exact op_mn hop h1 h2 h3 h4 hf hr
          · cases he
        · cases hc
      · rename_i x y t u
        split at hc
        · cases hc
        · rename_i e du x' y' hni h1 h2 h3 h4
          split at hc
          · rename_i i z h5 h6
            split at hc
            · rename_i h7
              cases hc
              simp only [evOp] at he
              split at he
              · cases he
              · rename_i n news h8
                exact op_app hop h3 h4 h1 h2 (fun k e => hni k e) h5 h6 h7.1 h7.2 h8 he hf hr
            · cases hc
          · cases hc
        · cases hc
      · cases hc
  | _ => rw [hop] at hc; simp [compOp0] at hc
theorem op_ok {o : Oper} {aop : AOp} {v : AV} {h' : Heap} (hc : compOp P o.op = some aop) (he : evOp fr h aop = some (v, h')) (hf : FR φ h w fr a.tmps) (hr : HR φ h w) : OpOK P (execOp a.eval o) φ h w v h' := by
  unfold compOp at hc
  split at hc
  · rename_i b hb
    cases hc
    exact op_ok0 hb he hf hr
  · cases hc
    simp [evOp] at he
theorem op_okF {ops : Array Oper} {o : Oper} {aop : AOp} {v : AV} {h' : Heap} (hc : compOp P o.op = some aop ∨ frzOp P ops o = some aop) (he : evOp fr h aop = some (v, h')) (hf : FR φ h w fr a.tmps) (hr : HR φ h w) : OpOK P (execOp a.eval o) φ h w v h' := by
  rcases hc with hc | hc
  · exact op_ok hc he hf hr
  unfold frzOp at hc
  split at hc
  · rename_i t len parts hop
    split at hc
    · rename_i e h1
      split at hc
      · rename_i i z ps h2 h3 h4
        split at hc
        · rename_i h5
          cases hc
          simp only [evOp] at he
          split at he
          · rename_i cs hcs
            split at he
            · rename_i hb
              cases he
              obtain ⟨b, hb⟩ := Option.isSome_iff_exists.1 hb
              exact op_fsl hop h1 h2 h3 h4 h5.1 h5.2.1 h5.2.2.1 hcs hb hf hr
            · cases he
          · cases he
        · cases hc
      · cases hc
    · cases hc
  · rename_i s d x hop
    split at hc
    · rename_i u e h1 h2 h3
      split at hc
      · rename_i h4
        split at hc
        · cases hc
          simp only [evOp] at he
          split at he
          · rename_i cs hcs
            obtain ⟨b, hb, e⟩ := Option.map_eq_some_iff.1 he
            cases e
            exact op_cvfs hop h1 h2 h3 h4 hcs hb hf hr
          · cases he
        · cases hc
      · cases hc
    · cases hc
  · cases hc
end
end Sz

/- The abstract run is sound: what it answers the calls answer. No program is named here. -/
namespace Sz
open Go
variable {X : World → Prop}
def ACode.strip : ACode → ACode
  | .seq a b => .seq a.strip b.strip
  | .cond c a b => .cond c a.strip b.strip
  | .block id a => .block id a.strip
  | .loop _ a => .loop [] a.strip
  | .exit id _ => .exit id []
  | .ret _ => .ret []
  | c => c
def CallPost (φ : Phi) (h : Heap) (w : World) (v : AV) (h' : Heap) : Ending → World → Prop :=
  fun e w' => ∃ φ' cv, e = .returned cv ∧ RVh φ' h' w' v cv ∧ HR φ' h' w' ∧ Ext φ h w φ' h' w'
def ArgsR (φ : Phi) (h : Heap) (w : World) (args : List AV) (cargs : Array Value) : Prop :=
  cargs.size = args.length ∧ ∀ j (hj : j < args.length), RVh φ h w args[j] (cargs.getD j default)
def CallOK (P : Program) (X : World → Prop) (C : Nat → List AV → Heap → Option (AV × Heap)) : Prop :=
  ∀ f args h v h', C f args h = some (v, h') → ∀ φ w cargs, HR φ h w → Glob P X φ h w → ArgsR φ h w args cargs →
    ((callFunc f cargs).run P w = .ok (.enter f cargs) w ∧ Calls P f cargs w (CallPost φ h w v h')) ∨
    ∃ cv w' φ', (callFunc f cargs).run P w = .ok (.value cv) w' ∧ RVh φ' h' w' v cv ∧ HR φ' h' w' ∧ Ext φ h w φ' h' w'
def Same (w w' : World) : Prop := ∀ b, b < w.heap.size → w'.heap[b]? = w.heap[b]?
theorem same_ok {φ : Phi} {h : Heap} {w w' : World} (hr : HR φ h w) (ho : w'.os = w.os) (ht : w'.tape = w.tape) (hu : w'.output = w.output) (hs : w.heap.size ≤ w'.heap.size) (hsame : Same w w') : HR φ h w' ∧ Ext φ h w φ h w' := by
  have x : Ext φ h w φ h w' := ⟨ho, ht, hu, hs, Nat.le_refl _, fun _ _ => rfl, fun b hb => ⟨⟨Nat.lt_of_lt_of_le hb.1 hs, hb.2⟩, hsame b hb.1⟩, rfl, fun b hb => hsame b (hr.gh b hb).1⟩
  exact ⟨⟨hr.wf, fun i cs hi => (hr.rows i cs hi).ext x (Heap.get_lt hi) (hsame _ (hr.blk_lt ⟨_, hi, fun e => by cases e⟩)),
    fun i es hi => (hr.maps i es hi).ext x (Heap.get_lt hi) (hsame _ (hr.blk_lt ⟨_, hi, fun e => by cases e⟩)), hr.inj, fun b hb => ⟨Nat.lt_of_lt_of_le (hr.gh b hb).1 hs, (hr.gh b hb).2⟩⟩, x⟩
section
variable {P : Program} {C : Nat → List AV → Heap → Option (AV × Heap)}
theorem put_ok {φ : Phi} {h : Heap} {w : World} {fr : List AV} {a : Act} (hf : FR φ h w fr a.tmps) {v : AV} {cv : Value} (hv : RVh φ h w v cv) (d : Option Nat) :
    FR φ h w (putA fr d v) (a.put d cv).tmps ∧ (a.put d cv).defers = a.defers := by
  cases d with
  | none => exact ⟨hf, rfl⟩
  | some d => exact ⟨hf.put hv d, rfl⟩
theorem upon_calld {φ : Phi} {h h' : Heap} {w : World} {fr : List AV} {a : Act} {o : Oper} {v : AV} {f : Nat} {cargs : Array Value} (hd : ((callFunc f cargs).run P w = .ok (.enter f cargs) w ∧ Calls P f cargs w (CallPost φ h w v h')) ∨
    ∃ cv w' φ', (callFunc f cargs).run P w = .ok (.value cv) w' ∧ RVh φ' h' w' v cv ∧ HR φ' h' w' ∧ Ext φ h w φ' h' w')
    (hf : FR φ h w fr a.tmps) (hrun : (execOp a.eval o).run P w = (callFunc f cargs).run P w) {K : Act → World → Prop} {Q : Exit → Act → World → Prop}
    (hK : ∀ φ' cv w', FR φ' h' w' (putA fr o.dst v) (a.put o.dst cv).tmps → HR φ' h' w' → Ext φ h w φ' h' w' → K (a.put o.dst cv) w') : o.wp P a w K Q := by
  unfold Oper.wp
  rw [hrun]
  rcases hd with ⟨e1, e2⟩ | ⟨cv, w', φ', e1, e2, e3, e4⟩
  · rw [e1, Oper.upon_enter]
    refine e2.mono fun e w' he => ?_
    obtain ⟨φ', cv, rfl, g1, g2, g3⟩ := he
    obtain ⟨p1, p2⟩ := put_ok (hf.ext g3) g1 o.dst
    exact hK φ' _ w' p1 g2 g3
  · rw [e1, Oper.upon_value]
    obtain ⟨p1, p2⟩ := put_ok (hf.ext e4) e2 o.dst
    exact hK φ' _ w' p1 e3 e4
theorem upon_call {φ : Phi} {h h' : Heap} {w : World} {fr : List AV} {a : Act} {o : Oper} {v : AV} {f : Nat} {cargs : Array Value} {args : List AV} (hC : CallOK P X C) (hc : C f args h = some (v, h')) (hr : HR φ h w) (hG : Glob P X φ h w) (ha : ArgsR φ h w args cargs)
    (hf : FR φ h w fr a.tmps) (hrun : (execOp a.eval o).run P w = (callFunc f cargs).run P w) {K : Act → World → Prop} {Q : Exit → Act → World → Prop}
    (hK : ∀ φ' cv w', FR φ' h' w' (putA fr o.dst v) (a.put o.dst cv).tmps → HR φ' h' w' → Ext φ h w φ' h' w' → K (a.put o.dst cv) w') : o.wp P a w K Q := upon_calld (hC f args h v h' hc φ w cargs hr hG ha) hf hrun hK
theorem weak_call (hC : CallOK P X C) {f : Nat} {v : AV} {h' : Heap} (hc : C f [] ⟨0, [], 0, 0⟩ = some (v, h')) (hv : v.refs = 0) {φ : Phi} {h : Heap} {w : World} (hr : HR φ h w) (hG : Glob P X φ h w) :
    ((callFunc f #[]).run P w = .ok (.enter f #[]) w ∧ Calls P f #[] w (CallPost φ h w v h)) ∨
    ∃ cv w' φ', (callFunc f #[]).run P w = .ok (.value cv) w' ∧ RVh φ' h w' v cv ∧ HR φ' h w' ∧ Ext φ h w φ' h w' := by
  let φ0 : Phi := ⟨φ.at_, fun b => φ.gh b ∨ ∃ id, live h id ∧ (φ id).blk = b⟩
  have nol : ∀ id, ¬ live (⟨0, [], 0, 0⟩ : Heap) id := fun id ⟨o, hg, _⟩ => by simp [Heap.get] at hg
  have hr0 : HR φ0 ⟨0, [], 0, 0⟩ w := by
    refine ⟨rfl, fun id cs hg => by simp [Heap.get] at hg, fun id es hg => by simp [Heap.get] at hg, fun i j hi => absurd hi (nol i), fun b hb => ⟨?_, fun id hl => absurd hl (nol id)⟩⟩
    rcases hb with hb | ⟨id, hl, rfl⟩
    · exact (hr.gh b hb).1
    · exact hr.blk_lt hl
  have pr0 : ∀ b, Pr φ h w b → Pr φ0 ⟨0, [], 0, 0⟩ w b := fun b hb => ⟨hb.1, fun id hl => absurd hl (nol id), fun hc => by
    rcases hc with hc | ⟨id, hl, e⟩
    · exact hb.2.2 hc
    · exact hb.2.1 id hl e⟩
  have back : ∀ (φ' : Phi) (cv : Value) (w' : World), RVh φ' h' w' v cv → Ext φ0 ⟨0, [], 0, 0⟩ w φ' h' w' → RVh φ h w' v cv ∧ HR φ h w' ∧ Ext φ h w φ h w' := fun φ' cv w' g1 g3 => by
    have hsame : Same w w' := fun b hb => by
      by_cases hg : φ0.gh b
      · exact g3.gh.2 b hg
      · exact (g3.pr b ⟨hb, fun id hl => absurd hl (nol id), hg⟩).2
    obtain ⟨s1, s2⟩ := same_ok hr g3.os g3.tape g3.output g3.size hsame
    refine ⟨g1.mono (fun id hid _ => by omega) fun b hb => ⟨⟨hb.1, fun id hl e => ?_, fun hg => ?_⟩, rfl⟩, s1, s2⟩
    · exact hb.2.2 (by rw [g3.gh.1]; exact .inr ⟨id, hl, e⟩)
    · exact hb.2.2 (by rw [g3.gh.1]; exact .inl hg)
  have hG0 : Glob P X φ0 ⟨0, [], 0, 0⟩ w := by
    obtain ⟨w1, g1, g2⟩ := hG
    refine ⟨w1, g1, fun b hb => ?_⟩
    obtain ⟨a1, a2, a3⟩ := g2 b hb
    refine ⟨a1, ?_, a3⟩
    rcases a2 with a2 | a2
    · exact .inl (.inl a2)
    · exact .inr (pr0 b a2)
  rcases hC f [] _ v h' hc φ0 w #[] hr0 hG0 ⟨rfl, fun j hj => by simp at hj⟩ with ⟨e1, e2⟩ | ⟨cv, w', φ', e1, e2, e3, e4⟩
  · refine .inl ⟨e1, e2.mono fun e w' he => ?_⟩
    obtain ⟨φ', cv, rfl, g1, g2, g3⟩ := he
    exact ⟨φ, cv, rfl, back φ' cv w' g1 g3⟩
  · exact .inr ⟨cv, w', φ, e1, back φ' cv w' e2 e4⟩
theorem callArgs {φ : Phi} {h : Heap} {w : World} {fr : List AV} {a : Act} {xs : Array Operand} {xs' : List Opd} (hx : opds xs = some xs') (hf : FR φ h w fr a.tmps) : ArgsR φ h w (xs'.map (·.ev fr)) (xs.map a.eval) := by
  obtain ⟨g1, g2⟩ := opds_ok hx hf
  refine ⟨by simpa using g1, fun j hj => ?_⟩
  have hj' : j < xs'.length := by simpa using hj
  have := g2 j hj'
  simpa [List.getD, hj'] using this
theorem step_ok (hC : CallOK P X C) {ops : Array Oper} {o : Oper} {s : AStep} (hs : compStep P ops o = some s) {φ : Phi} {h h' : Heap} {w : World} {fr fr' : List AV} {a : Act} (he : evStep C s fr h = some (fr', h'))
    (hf : FR φ h w fr a.tmps) (hr : HR φ h w) (hG : Glob P X φ h w) {K : Act → World → Prop} {Q : Exit → Act → World → Prop}
    (hK : ∀ φ' cv w', FR φ' h' w' fr' (a.put o.dst cv).tmps → HR φ' h' w' → Ext φ h w φ' h' w' → K (a.put o.dst cv) w') :
    if Region.wanted o (yielded ops a.tmps) then o.wp P a w K Q else K (a.put o.dst undef) w := by
  unfold compStep at hs
  split at hs
  · cases hs
  · rename_i aop haop
    -- the guard
    have hguard : ∃ b, unwanted fr s.guard = some b ∧ Region.wanted o (yielded ops a.tmps) = !b := by
      unfold evStep at he
      cases hu : unwanted fr s.guard with
      | none => rw [hu] at he; cases he
      | some b =>
        refine ⟨b, rfl, ?_⟩
        split at hs
        · rename_i hg
          cases hs
          simp only [unwanted, Option.some.injEq] at hu
          subst hu
          simp [Region.wanted, hg]
        · rename_i j want hg
          obtain ⟨t, ht, rfl⟩ := Option.map_eq_some_iff.1 hs
          simp only [unwanted] at hu
          split at hu
          · rename_i b' hb'
            cases hu
            obtain ⟨hlt, e⟩ := List.getElem?_eq_some_iff.1 hb'
            have hlt2 : t < a.tmps.size := by rw [hf.1]; exact hlt
            have := hf.2 t
            rw [List.getD_eq_getElem?_getD, hb', Option.getD_some] at this
            have hv := this.bool_inv
            have hget : a.tmps[t]? = some (.bool b') := by
              rw [Array.getD_eq_getD_getElem?, Array.getElem?_eq_getElem hlt2, Option.getD_some] at hv
              rw [Array.getElem?_eq_getElem hlt2, hv]
            have hy : yielded ops a.tmps j = some b' := by
              unfold yielded
              rw [ht]
              simp [hget]
            simp only [Region.wanted, hg, hy]
            cases b' <;> cases want <;> rfl
          · rename_i hb'
            cases hu
            obtain ⟨hlt, e⟩ := List.getElem?_eq_some_iff.1 hb'
            have hlt2 : t < a.tmps.size := by rw [hf.1]; exact hlt
            have := hf.2 t
            rw [List.getD_eq_getElem?_getD, hb', Option.getD_some] at this
            obtain ⟨cvs, hv, hl, _⟩ := this.tuple_inv
            have hget : a.tmps[t]? = some (.tuple cvs) := by
              rw [Array.getD_eq_getD_getElem?, Array.getElem?_eq_getElem hlt2, Option.getD_some] at hv
              rw [Array.getElem?_eq_getElem hlt2, hv]
            have hy : yielded ops a.tmps j = none := by
              unfold yielded
              rw [ht]
              simp [hget]
            simp only [Region.wanted, hg, hy]
            rfl
          · cases hu
    obtain ⟨b, hb, hw⟩ := hguard
    have hdst : s.dst = o.dst ∧ s.op = aop := by
      split at hs
      · cases hs; exact ⟨rfl, rfl⟩
      · obtain ⟨t, ht, rfl⟩ := Option.map_eq_some_iff.1 hs; exact ⟨rfl, rfl⟩
    unfold evStep at he
    rw [hb] at he
    rw [hw]
    cases b with
    | true =>
      simp only [Option.some.injEq, Prod.mk.injEq] at he
      obtain ⟨rfl, rfl⟩ := he
      rw [if_neg (by simp)]
      rw [hdst.1] at hK
      obtain ⟨p1, p2⟩ := put_ok hf (RV.tuple [] #[] rfl fun j hj => by simp at hj : RVh φ h w (.tuple []) undef) o.dst
      exact hK φ _ w p1 hr (.refl _ _ _)
    | false =>
      rw [if_pos (by simp)]
      simp only [hdst.2] at he
      rw [hdst.1] at he
      have hplain : ∀ op', (compOp P o.op = some op' ∨ frzOp P ops o = some op') → (evOp fr h op').map (fun p => (putA fr o.dst p.1, p.2)) = some (fr', h') → o.wp P a w K Q := fun op' haop he => by
        obtain ⟨⟨v, h1⟩, hv, e⟩ := Option.map_eq_some_iff.1 he
        cases e
        obtain ⟨cv, w', φ', e1, e2, e3, e4⟩ := op_okF haop hv hf hr
        obtain ⟨p1, p2⟩ := put_ok (hf.ext e4) e2 o.dst
        have := hK φ' _ w' p1 e3 e4
        unfold Oper.wp
        rcases e1 with e1 | ⟨e1, rfl⟩
        · rw [e1, Oper.upon_value]; exact this
        · rw [e1, Oper.upon_skip]; exact this
      have hcallv : ∀ (f0 : Operand) (args0 : Array Operand) (ats : Array TypeId) (x' : Opd) (args : List Opd) (f : Nat) (caps : List AV) (v : AV) (h1 : Heap), o.op = .call { callee := .value f0, args := args0, argTypes := ats } → opd f0 = some x' →
          opds args0 = some args → x'.ev fr = .fn f caps → C f (args.map (·.ev fr) ++ caps) h = some (v, h1) → (putA fr o.dst v, h1) = (fr', h') → o.wp P a w K Q := fun f0 args0 ats x' args f caps v h1 hop hx has hfn hcall e => by
        cases e
        have g := opd_ok hx hf
        rw [hfn] at g
        obtain ⟨cvs, q1, q2, q3⟩ := g.fn_inv
        have ga := callArgs has hf
        refine upon_call (cargs := args0.map a.eval ++ cvs) hC hcall hr hG ⟨by simp [ga.1, q2], fun j hj => ?_⟩ hf ?_ hK
        · by_cases hj1 : j < (args.map (·.ev fr)).length
          · have := ga.2 j hj1
            rw [List.getElem_append_left hj1]
            have hj2 : j < (args0.map a.eval).size := by rw [ga.1]; exact hj1
            rw [Array.getD_eq_getD_getElem?] at this ⊢
            rw [Array.getElem?_append_left hj2]
            exact this
          · have hj3 : j - (args.map (·.ev fr)).length < caps.length := by simp at hj hj1 ⊢; omega
            have := q3 _ hj3
            rw [List.getElem_append_right (by omega)]
            rw [Array.getD_eq_getD_getElem?] at this ⊢
            rw [Array.getElem?_append_right (by rw [ga.1]; omega), ga.1]
            exact this
        · unfold execOp
          simp [hop, resolve, q1, Deferred.ofValue, invoke]
      have hinv : ∀ s', compSOpF P ops o = some s' → (∃ op', (compOp P o.op = some op' ∨ frzOp P ops o = some op') ∧ s' = .op op') ∨ ∃ f0 args0 ats x' args, o.op = .call { callee := .value f0, args := args0, argTypes := ats } ∧ opd f0 = some x' ∧ opds args0 = some args ∧
          ((∃ g, x' = .const (.fn g []) ∧ (s' = .call g args ∨ (args = [] ∧ s' = .kcall g))) ∨ s' = .callv x' args) := fun s' hs' => by
        have inner : ∀ s', compSOp P o.op = some s' → (∃ op', (compOp P o.op = some op' ∨ frzOp P ops o = some op') ∧ s' = .op op') ∨ ∃ f0 args0 ats x' args, o.op = .call { callee := .value f0, args := args0, argTypes := ats } ∧ opd f0 = some x' ∧ opds args0 = some args ∧
            ((∃ g, x' = .const (.fn g []) ∧ s' = .call g args) ∨ s' = .callv x' args) := fun s' hs' => by
          unfold compSOp at hs'
          split at hs'
          · rename_i f0 args0 ats hop
            split at hs'
            · rename_i g as h1 h2
              cases hs'
              exact .inr ⟨f0, args0, ats, _, as, hop, h1, h2, .inl ⟨g, rfl, rfl⟩⟩
            · rename_i f' as h1 h2 h3
              cases hs'
              exact .inr ⟨f0, args0, ats, _, as, hop, by assumption, by assumption, .inr rfl⟩
            · cases hs'
              exact .inl ⟨.die, .inl (by rw [hop]; rfl), rfl⟩
          · obtain ⟨op', h1, rfl⟩ := Option.map_eq_some_iff.1 hs'
            exact .inl ⟨op', .inl h1, rfl⟩
        unfold compSOpF at hs'
        split at hs'
        · rename_i op' h1
          cases hs'
          exact .inl ⟨op', .inr h1, rfl⟩
        split at hs'
        · rename_i g hg
          rcases inner _ hg with ⟨op', _, e⟩ | ⟨f0, args0, ats, x', args, e1, e2, e3, ⟨g', e4, e5⟩ | e5⟩
          · cases e
          · cases e5
            split at hs'
            · cases hs'
              exact .inr ⟨f0, args0, ats, x', [], e1, e2, e3, .inl ⟨g, e4, .inr ⟨rfl, rfl⟩⟩⟩
            · cases hs'
              exact .inr ⟨f0, args0, ats, x', [], e1, e2, e3, .inl ⟨g, e4, .inl rfl⟩⟩
          · cases e5
        · rcases inner _ hs' with e | ⟨f0, args0, ats, x', args, e1, e2, e3, ⟨g', e4, e5⟩ | e5⟩
          · exact .inl e
          · exact .inr ⟨f0, args0, ats, x', args, e1, e2, e3, .inl ⟨g', e4, .inl e5⟩⟩
          · exact .inr ⟨f0, args0, ats, x', args, e1, e2, e3, .inr e5⟩
      rcases hinv aop haop with ⟨op', h1, rfl⟩ | ⟨f0, args0, ats, x', args, hop, hx, has, hs'⟩
      · exact hplain op' h1 he
      · rcases hs' with ⟨g, rfl, rfl | ⟨rfl, rfl⟩⟩ | rfl
        rotate_left
        · dsimp only at he
          split at he
          · rename_i v h1 hv
            split at he
            · rename_i hz
              cases he
              have ga := callArgs has hf
              have hsz : args0.map a.eval = #[] := Array.eq_empty_of_size_eq_zero ga.1
              have gv := opd_ok hx hf
              obtain ⟨cvs, q1, q2, q3⟩ := gv.fn_inv
              have hcv : cvs = #[] := Array.eq_empty_of_size_eq_zero q2
              refine upon_calld (f := g) (weak_call hC hv hz hr hG) hf ?_ hK
              unfold execOp
              simp [hop, resolve, q1, Deferred.ofValue, invoke, hsz, hcv]
            · cases he
          · cases he
        rotate_right
        · dsimp only at he
          obtain ⟨⟨v, h1⟩, hv, e⟩ := Option.map_eq_some_iff.1 he
          exact hcallv f0 args0 ats _ args g [] v h1 hop hx has rfl (by simpa using hv) e
        · dsimp only at he
          split at he
          · rename_i f caps hfn
            obtain ⟨⟨v, h1⟩, hv, e⟩ := Option.map_eq_some_iff.1 he
            exact hcallv f0 args0 ats _ args f caps v h1 hop hx has hfn hv e
          · cases he
theorem steps_ok (hC : CallOK P X C) {ops : Array Oper} {Q : Exit → Act → World → Prop} : ∀ {l : List Oper} {ss : List AStep}, allSome (compStep P ops) l = some ss → ∀ {φ : Phi} {h h' : Heap} {w : World} {fr fr' : List AV} {a : Act},
    evSteps C ss fr h = some (fr', h') → FR φ h w fr a.tmps → HR φ h w → Glob P X φ h w →
    (∀ φ' a' w', FR φ' h' w' fr' a'.tmps → HR φ' h' w' → Ext φ h w φ' h' w' → a'.defers = a.defers → Q .normal a' w') → wpList P ops Q l a w
  | [], ss, hs, φ, h, h', w, fr, fr', a, he, hf, hr, hG, hQ => by
    simp only [allSome, Option.some.injEq] at hs
    subst hs
    simp only [evSteps, Option.some.injEq, Prod.mk.injEq] at he
    obtain ⟨rfl, rfl⟩ := he
    exact wpList_nil (hQ φ a w hf hr (.refl _ _ _) rfl)
  | o :: l, ss, hs, φ, h, h', w, fr, fr', a, he, hf, hr, hG, hQ => by
    unfold allSome at hs
    split at hs
    · rename_i s ss' h1 h2
      cases hs
      simp only [evSteps] at he
      split at he
      · rename_i fr1 h1' hstep
        refine wpList_step fun K hK => ?_
        refine step_ok hC h1 hstep hf hr hG fun φ1 cv w1 f1 r1 e1 => hK _ _ ?_
        have d1 : (a.put o.dst cv).defers = a.defers := by cases o.dst <;> rfl
        exact steps_ok hC h2 he f1 r1 (hG.ext e1) fun φ2 a2 w2 f2 r2 e2 d2 => hQ φ2 a2 w2 f2 r2 (e1.trans e2) (d2.trans d1)
      · cases he
    · cases hs
end
end Sz

/- What an abstract run does not tell older objects of newer ones. No program is named here. -/
namespace Sz
open Go
def ObjLe (h : Heap) (id n : Nat) : Prop := (∀ cs, h.get id = some (.row cs) → AV.refsL cs ≤ n) ∧ ∀ es, h.get id = some (.map es) → ∀ e ∈ es, e.1.refs ≤ n ∧ e.2.refs ≤ n
structure CL (h h' : Heap) : Prop where
  next : h.next ≤ h'.next
  wl : h'.wl ≤ h.wl
  le : ∀ n, n ≤ h.next → n ≤ h'.wl → (∀ id, id < n → ObjLe h id n) → ∀ id, id < n → ObjLe h' id n
  md : h'.md ≤ h.md
  same : ∀ id, id < h'.md → id < h.next → h'.get id = h.get id
theorem CL.refl (h : Heap) : CL h h := ⟨Nat.le_refl _, Nat.le_refl _, fun _ _ _ k => k, Nat.le_refl _, fun _ _ _ => rfl⟩
theorem CL.trans {h h1 h2 : Heap} (a : CL h h1) (b : CL h1 h2) : CL h h2 :=
  ⟨Nat.le_trans a.next b.next, Nat.le_trans b.wl a.wl, fun n hn hw k => b.le n (Nat.le_trans hn a.next) hw (a.le n hn (Nat.le_trans hw b.wl) k), Nat.le_trans b.md a.md,
    fun id h1 h2 => (b.same id h1 (Nat.lt_of_lt_of_le h2 a.next)).trans (a.same id (Nat.lt_of_lt_of_le h1 b.md) h2)⟩
theorem Heap.md_set_le (h : Heap) (id : Nat) (o : AObj) : (h.set id o).md ≤ h.md := by
  unfold Heap.set
  split
  · exact Nat.min_le_left _ _
  · exact Nat.le_refl _
@[simp] theorem Heap.md_mark (h : Heap) (id : Nat) (v : AV) : (h.mark id v).md = h.md := by unfold Heap.mark; split <;> rfl
theorem Heap.get_set_md (h : Heap) (id : Nat) (o : AObj) (i : Nat) (hi : i < (h.set id o).md) : (h.set id o).get i = h.get i := by
  by_cases e : id = i
  · subst e
    unfold Heap.set at hi ⊢
    by_cases hlt : id < h.next
    · rw [if_pos hlt] at hi; dsimp only at hi; omega
    · rw [if_neg hlt]
  · exact Heap.get_set_other e
theorem CL.alloc (h : Heap) (o : AObj) : CL h (h.alloc o) :=
  ⟨by simp, Nat.le_refl _, fun n hn _ k id hid => by
    have := k id hid
    unfold ObjLe at this ⊢
    rw [Heap.get_alloc_old (by omega)]
    exact this, Nat.le_refl _, fun id _ h2 => Heap.get_alloc_old h2⟩
theorem CL.kill (h : Heap) (id : Nat) : CL h (h.set id .dead) :=
  ⟨by simp, by simp, fun n hn _ k i hi => by
    have := k i hi
    by_cases e : id = i
    · subst e
      unfold ObjLe
      cases hg : h.get id with
      | none =>
        have : (h.set id .dead).get id = none := by
          unfold Heap.set
          split
          · rename_i hlt
            unfold Heap.get at hg ⊢
            simp only [hlt, if_true] at hg ⊢
            rw [List.getElem?_eq_none_iff] at hg
            exact List.getElem?_eq_none (by simpa using hg)
          · exact hg
        rw [this]
        exact ⟨fun _ e => (by cases e), fun _ e => (by cases e)⟩
      | some o =>
        rw [Heap.get_set_same hg]
        exact ⟨fun _ e => (by cases e), fun _ e => (by cases e)⟩
    · unfold ObjLe at this ⊢
      rw [Heap.get_set_other e]
      exact this, Heap.md_set_le _ _ _, fun i h1 _ => Heap.get_set_md h id .dead i h1⟩
theorem wl_mark (h : Heap) (id : Nat) (v : AV) : (h.mark id v).wl ≤ h.wl ∧ (id + 1 < v.refs → (h.mark id v).wl ≤ id) := by
  unfold Heap.mark
  split
  · dsimp only; exact ⟨by omega, fun _ => by omega⟩
  · rename_i hn; exact ⟨Nat.le_refl _, fun e => absurd e hn⟩
theorem refsL_append (a b : List AV) : AV.refsL (a ++ b) = max (AV.refsL a) (AV.refsL b) := by
  induction a with
  | nil => simp [AV.refsL]
  | cons x r ih => simp only [List.cons_append, AV.refsL, ih]; omega
theorem refsL_putAt (vs : List AV) : ∀ (cs : List AV) (k n : Nat), AV.refsL cs ≤ n → AV.refsL vs ≤ n → AV.refsL (putAt cs k vs) ≤ n := by
  induction vs with
  | nil => intro cs k n h _; exact h
  | cons v r ih =>
    intro cs k n h h2
    simp only [AV.refsL] at h2
    rw [putAt]
    refine ih _ _ _ (AV.refsL_le fun x hx => ?_) (by omega)
    rcases List.mem_or_eq_of_mem_set hx with hx | rfl
    · have := AV.refsL_mem hx; omega
    · omega
theorem CL.write {h : Heap} {id : Nat} {cs : List AV} (hg : h.get id = some (.row cs)) (vs : List AV) (k : Nat) (v : AV) (hv : AV.refsL vs ≤ v.refs) : CL h ((h.set id (.row (putAt cs k vs))).mark id v) := by
  obtain ⟨w1, w2⟩ := wl_mark (h.set id (.row (putAt cs k vs))) id v
  refine ⟨by simp, by simpa using w1, fun n hn hw q i hi => ?_, by rw [Heap.md_mark]; exact Heap.md_set_le _ _ _, fun i h1 _ => by rw [Heap.get_mark]; rw [Heap.md_mark] at h1; exact Heap.get_set_md _ _ _ i h1⟩
  have := q i hi
  unfold ObjLe at this ⊢
  rw [Heap.get_mark]
  by_cases e : id = i
  · subst e
    rw [Heap.get_set_same hg]
    have hle : v.refs ≤ n := by
      by_cases hlt : id + 1 < v.refs
      · have := w2 hlt; omega
      · omega
    exact ⟨fun cs' e => (by cases e; exact refsL_putAt vs cs k n (this.1 cs hg) (by omega)), fun _ e => (by cases e)⟩
  · rw [Heap.get_set_other e]
    exact this
theorem refs_cells {v : AV} {cs : List AV} (h : v.cells? = some cs) : AV.refsL cs = v.refs := by
  cases v <;> simp [AV.cells?] at h <;> subst h <;> simp [AV.refs, AV.refsL]
theorem row_get {h : Heap} {id : Nat} {cs : List AV} (he : h.row id = some cs) : h.get id = some (.row cs) := by
  unfold Heap.row at he
  split at he
  · rename_i g; cases he; exact g
  · cases he
theorem mapAt_get {h : Heap} {id : Nat} {es : List (AV × AV)} (he : h.mapAt id = some es) : h.get id = some (.map es) := by
  unfold Heap.mapAt at he
  split at he
  · rename_i g; cases he; exact g
  · cases he
theorem mupA_refs {kd : Nat} {k v : AV} {n : Nat} (hk : k.refs ≤ n) (hv : v.refs ≤ n) : ∀ (es es' : List (AV × AV)), mupA kd k v es = some es' → (∀ e ∈ es, e.1.refs ≤ n ∧ e.2.refs ≤ n) → ∀ e ∈ es', e.1.refs ≤ n ∧ e.2.refs ≤ n
  | [], es', he, _ => by
    simp only [mupA, Option.some.injEq] at he
    subst he
    intro e h
    simp at h
    subst h
    exact ⟨hk, hv⟩
  | (k', v') :: r, es', he, hes => by
    simp only [mupA] at he
    split at he
    · cases he
      intro e h
      cases h with
      | head => exact ⟨hk, hv⟩
      | tail _ h => exact hes e (List.mem_cons_of_mem _ h)
    · obtain ⟨r', hr', rfl⟩ := Option.map_eq_some_iff.1 he
      intro e h
      cases h with
      | head => exact hes _ (by simp)
      | tail _ h => exact mupA_refs hk hv r r' hr' (fun e h => hes e (List.mem_cons_of_mem _ h)) e h
    · cases he
theorem CL.mupG {h : Heap} {id : Nat} {es es' : List (AV × AV)} {k v : AV} (hg : h.get id = some (.map es)) (hm : ∀ n, k.refs ≤ n → v.refs ≤ n → (∀ e ∈ es, e.1.refs ≤ n ∧ e.2.refs ≤ n) → ∀ e ∈ es', e.1.refs ≤ n ∧ e.2.refs ≤ n) : CL h (((h.set id (.map es')).mark id v).mark id k) := by
  obtain ⟨w1, w2⟩ := wl_mark (h.set id (.map es')) id v
  obtain ⟨w3, w4⟩ := wl_mark ((h.set id (.map es')).mark id v) id k
  refine ⟨by simp, by simp at w1; omega, fun n hn hw q i hi => ?_, by rw [Heap.md_mark, Heap.md_mark]; exact Heap.md_set_le _ _ _, fun i h1 _ => by rw [Heap.get_mark, Heap.get_mark]; rw [Heap.md_mark, Heap.md_mark] at h1; exact Heap.get_set_md _ _ _ i h1⟩
  have := q i hi
  unfold ObjLe at this ⊢
  rw [Heap.get_mark, Heap.get_mark]
  by_cases e : id = i
  · subst e
    rw [Heap.get_set_same hg]
    have hv : v.refs ≤ n := by
      by_cases hlt : id + 1 < v.refs
      · have := w2 hlt; omega
      · omega
    have hk : k.refs ≤ n := by
      by_cases hlt : id + 1 < k.refs
      · have := w4 hlt; omega
      · omega
    exact ⟨fun _ e => (by cases e), fun es2 e => by cases e; exact hm n hk hv (this.2 es hg)⟩
  · rw [Heap.get_set_other e]
    exact this
theorem CL.mup {h : Heap} {id kd : Nat} {es es' : List (AV × AV)} {k v : AV} (hg : h.get id = some (.map es)) (hm : mupA kd k v es = some es') : CL h (((h.set id (.map es')).mark id v).mark id k) := .mupG hg fun _ hk hv he => mupA_refs hk hv es es' hm he
theorem mupKs_refs {ks : List Nat} {k : List AV} {v : AV} {n : Nat} (hk : (AV.agg k).refs ≤ n) (hv : v.refs ≤ n) : ∀ (es es' : List (AV × AV)), mupKs ks k v es = some es' → (∀ e ∈ es, e.1.refs ≤ n ∧ e.2.refs ≤ n) → ∀ e ∈ es', e.1.refs ≤ n ∧ e.2.refs ≤ n
  | [], es', he, _ => by
    simp only [mupKs, Option.some.injEq] at he
    subst he
    intro e h
    simp at h
    subst h
    exact ⟨hk, hv⟩
  | (k', v') :: r, es', he, hes => by
    cases k' with
    | agg m =>
      simp only [mupKs] at he
      split at he
      · cases he
      · obtain ⟨r', hr', rfl⟩ := Option.map_eq_some_iff.1 he
        intro e h
        cases h with
        | head => exact hes _ (by simp)
        | tail _ h => exact mupKs_refs hk hv r r' hr' (fun e h => hes e (List.mem_cons_of_mem _ h)) e h
      · cases he
    | _ => simp [mupKs] at he
theorem refsL_flatten_replicate (z : List AV) (n : Nat) : AV.refsL (List.replicate n z).flatten ≤ AV.refsL z := by
  induction n with
  | zero => simp [AV.refsL]
  | succ n ih => rw [List.replicate_succ, List.flatten_cons, refsL_append]; omega
theorem op_cl {fr : List AV} {h h' : Heap} {aop : AOp} {v : AV} (he : evOp fr h aop = some (v, h')) : CL h h' := by
  cases aop <;> simp only [evOp] at he
  case st n x y =>
    split at he
    · rename_i id off vs h1 h2
      split at he
      · rename_i cs h3
        split at he
        · cases he
          exact .write (row_get h3) vs off _ (by rw [refs_cells h2]; exact Nat.le_refl _)
        · cases he
      · cases he
    · cases he
  case mup kd m k y =>
    split at he
    · split at he
      · rename_i es h1
        obtain ⟨es', h2, e⟩ := Option.map_eq_some_iff.1 he
        cases e
        exact .mup (mapAt_get h1) h2
      · cases he
    · cases he
  case mus ks m k y =>
    split at he
    · split at he
      · rename_i es h1
        split at he
        · obtain ⟨es', h2, e⟩ := Option.map_eq_some_iff.1 he
          cases e
          exact .mupG (mapAt_get h1) fun _ hk hv he => mupKs_refs hk hv es es' h2 he
        · cases he
      · cases he
    · cases he
  case app sz bytes x y =>
    split at he
    · cases he
    · split at he
      · split at he
        · cases he; exact .refl _
        · split at he
          · cases he; exact .alloc _ _
          · cases he
      · split at he
        · rename_i cs h1
          split at he
          · split at he
            · cases he; exact .refl _
            · split at he
              · cases he
                exact .write (row_get h1) _ _ _ (by simp [AV.refs])
              · split at he
                · cases he; exact (CL.kill _ _).trans (.alloc _ _)
                · cases he
          · cases he
        · cases he
      · cases he
  case clr z x =>
    split at he
    · cases he; exact .refl _
    · split at he
      · rename_i cs h1
        split at he
        · cases he
          exact .write (row_get h1) _ _ _ (by simp only [AV.refs]; exact refsL_flatten_replicate _ _)
        · cases he
      · cases he
    · cases he
  all_goals
    repeat' split at he
    all_goals first
      | (cases he; done)
      | (cases he; exact .refl _)
      | (cases he; exact .alloc _ _)
      | (obtain ⟨_, _, e⟩ := Option.map_eq_some_iff.1 he; cases e; exact .refl _)
      | (obtain ⟨_, _, e⟩ := Option.map_eq_some_iff.1 he; cases e; exact .alloc _ _)
      | (obtain ⟨p, _, e⟩ := Option.map_eq_some_iff.1 he; (repeat' split at e) <;> cases e <;> exact .refl _)
end Sz

/- Regions whose order is drawn: what a step reads, and what it leaves alone. No program is named here. -/
namespace Sz
open Go
def Heap.alike (h h' : Heap) : Prop := h'.next = h.next ∧ h'.objs = h.objs
theorem Heap.alike_refl (h : Heap) : h.alike h := ⟨rfl, rfl⟩
theorem Heap.alike.symm {h h' : Heap} (a : h.alike h') : h'.alike h := ⟨a.1.symm, a.2.symm⟩
theorem Heap.alike.trans {h h1 h2 : Heap} (a : h.alike h1) (b : h1.alike h2) : h.alike h2 := ⟨b.1.trans a.1, b.2.trans a.2⟩
theorem Heap.alike.get {h h' : Heap} (a : h.alike h') (id : Nat) : h'.get id = h.get id := by unfold Heap.get; rw [a.1, a.2]
theorem Heap.alike.alloc {h h' : Heap} (a : h.alike h') (o : AObj) : (h.alloc o).alike (h'.alloc o) := by
  unfold Heap.alike Heap.alloc
  dsimp only
  rw [a.1, a.2]
  exact ⟨rfl, rfl⟩
theorem HR.alike {φ : Phi} {h h' : Heap} {w : World} (hr : HR φ h w) (a : h.alike h') : HR φ h' w ∧ Ext φ h w φ h' w := by
  obtain ⟨n, o, x, y⟩ := h'
  obtain ⟨a1, a2⟩ := a
  dsimp only at a1 a2
  subst a1 a2
  exact hr.setwl x y
section
variable {fr fr' : List AV} {h h' : Heap}
theorem map_ev {l : List Opd} (hx : ∀ x ∈ l, x.ev fr' = x.ev fr) : l.map (·.ev fr') = l.map (·.ev fr) := List.map_congr_left hx
theorem optmap_ev {l : Option Opd} (hx : ∀ x ∈ l.toList, x.ev fr' = x.ev fr) : l.map (·.ev fr') = l.map (·.ev fr) := by
  cases l with
  | none => rfl
  | some x => simp [hx x (by simp)]
theorem evOp_congr {o : AOp} (hx : ∀ x ∈ o.opds, x.ev fr' = x.ev fr) : evOp fr' h o = evOp fr h o := by
  cases o <;> simp only [AOp.opds] at hx
  case bld z ps =>
    simp only [evOp]
    rw [show (ps.map fun p => (p.1, p.2.1, p.2.2.ev fr')) = ps.map fun p => (p.1, p.2.1, p.2.2.ev fr) from List.map_congr_left fun p hp => by rw [hx _ (List.mem_map.2 ⟨p, hp, rfl⟩)]]
  case bsl sz n z ps =>
    simp only [evOp]
    rw [show (ps.map fun p => (p.1 * sz, sz, p.2.ev fr')) = ps.map fun p => (p.1 * sz, sz, p.2.ev fr) from List.map_congr_left fun p hp => by rw [hx _ (List.mem_map.2 ⟨p, hp, rfl⟩)]]
  case fsl n z ps =>
    simp only [evOp]
    rw [show (ps.map fun p => (p.1 * 1, 1, p.2.ev fr')) = ps.map fun p => (p.1 * 1, 1, p.2.ev fr) from List.map_congr_left fun p hp => by rw [hx _ (List.mem_map.2 ⟨p, hp, rfl⟩)]]
  case mkf f caps => simp only [evOp]; rw [map_ev hx]
  case mkm => rfl
  case bs0 => rfl
  case die => rfl
  case sls x lo hi =>
    have h1 := hx x (by simp)
    have h2 := optmap_ev (l := lo) fun y hy => hx y (by simp [Option.mem_toList.1 hy])
    have h3 := optmap_ev (l := hi) fun y hy => hx y (by simp [Option.mem_toList.1 hy])
    simp only [evOp]
    rw [h1, h2, h3]
  case slv sz x lo hi m3 =>
    have h1 := hx x (by simp)
    have h2 := optmap_ev (l := lo) fun y hy => hx y (by simp [Option.mem_toList.1 hy])
    have h3 := optmap_ev (l := hi) fun y hy => hx y (by simp [Option.mem_toList.1 hy])
    have h4 := optmap_ev (l := m3) fun y hy => hx y (by simp [Option.mem_toList.1 hy])
    simp only [evOp]
    rw [h1, h2, h3, h4]
  case pick c x y => simp only [evOp]; rw [hx c (by simp), hx x (by simp), hx y (by simp)]
  case mup kd m k v => simp only [evOp]; rw [hx m (by simp), hx k (by simp), hx v (by simp)]
  case mus ks m k v => simp only [evOp]; rw [hx m (by simp), hx k (by simp), hx v (by simp)]
  all_goals first
    | (rename_i x; simp only [evOp]; rw [hx x (by simp)]; done)
    | (rename_i x _; simp only [evOp]; rw [hx x (by simp)]; done)
    | (rename_i x y; simp only [evOp]; rw [hx x (by simp), hx y (by simp)]; done)
    | skip
theorem still_ok {o : AOp} (hs : o.still = true) {v : AV} {h1 : Heap} (he : evOp fr h o = some (v, h1)) : h1 = h ∧ ∀ h2, evOp fr h2 o = some (v, h2) := by
  cases o <;> simp only [AOp.still, Bool.false_eq_true] at hs <;> simp only [evOp] at he ⊢
  case mx x y =>
    split at he
    · rename_i k a k' b e1 e2
      simp only [Option.some.injEq, Prod.mk.injEq] at he
      obtain ⟨rfl, rfl⟩ := he
      exact ⟨rfl, fun _ => rfl⟩
    · cases he
  case mn x y =>
    split at he
    · rename_i k a k' b e1 e2
      simp only [Option.some.injEq, Prod.mk.injEq] at he
      obtain ⟨rfl, rfl⟩ := he
      exact ⟨rfl, fun _ => rfl⟩
    · cases he
  all_goals
    repeat' split at he
    all_goals first
      | (cases he; done)
      | (simp only [Option.some.injEq, Prod.mk.injEq] at he; obtain ⟨rfl, rfl⟩ := he; exact ⟨rfl, fun h2 => by simp_all⟩)
      | (obtain ⟨p, hp, e⟩ := Option.map_eq_some_iff.1 he; simp only [Prod.mk.injEq] at e; obtain ⟨e1, rfl⟩ := e; exact ⟨rfl, fun h2 => by simp_all⟩)
      | skip
theorem opd_ev_congr {x : Opd} (hx : ∀ t ∈ x.tmps, fr'.getD t .undef = fr.getD t .undef) : x.ev fr' = x.ev fr := by
  cases x with
  | const v => rfl
  | tmp t => exact hx t (by simp [Opd.tmps])
theorem getD_some_ne {l : List AV} {t : Nat} {v : AV} (h : l.getD t .undef = v) (hv : v ≠ .undef) : l[t]? = some v := by
  rw [List.getD_eq_getElem?_getD] at h
  cases hx : l[t]? with
  | none => rw [hx] at h; exact absurd h.symm hv
  | some x => rw [hx] at h; simpa using h
theorem unwanted_congr {g : Option (Nat × Bool)} (hx : ∀ t b, g = some (t, b) → fr'.getD t .undef = fr.getD t .undef) {b : Bool} (he : unwanted fr g = some b) : unwanted fr' g = some b := by
  unfold unwanted at he ⊢
  cases g with
  | none => exact he
  | some p =>
    obtain ⟨t, want⟩ := p
    have e := hx t want rfl
    dsimp only at he ⊢
    split at he
    · rename_i b' hb
      rw [List.getD_eq_getElem?_getD (l := fr), hb] at e
      rw [getD_some_ne e (by simp)]
      exact he
    · rename_i hb
      rw [List.getD_eq_getElem?_getD (l := fr), hb] at e
      rw [getD_some_ne e (by simp)]
      exact he
    · cases he
variable {C : Nat → List AV → Heap → Option (AV × Heap)}
theorem evStep_congr {s : AStep} (hx : ∀ t ∈ s.reads, fr'.getD t .undef = fr.getD t .undef) {fr1 : List AV} (he : evStep C s fr h = some (fr1, h')) :
    ∃ v, fr1 = putA fr s.dst v ∧ evStep C s fr' h = some (putA fr' s.dst v, h') := by
  have hops : ∀ x ∈ s.op.opds, x.ev fr' = x.ev fr := fun x hxm => opd_ev_congr fun t ht => hx t (List.mem_append_right _ (List.mem_flatMap.2 ⟨x, hxm, ht⟩))
  have hg : ∀ t b, s.guard = some (t, b) → fr'.getD t .undef = fr.getD t .undef := fun t b e => hx t (List.mem_append_left _ (by rw [e]; simp))
  unfold evStep at he ⊢
  split at he
  · cases he
  · rename_i hu
    rw [unwanted_congr hg hu]
    simp only [Option.some.injEq, Prod.mk.injEq] at he
    obtain ⟨rfl, rfl⟩ := he
    exact ⟨_, rfl, rfl⟩
  · rename_i hu
    rw [unwanted_congr hg hu]
    dsimp only
    cases hop : s.op with
    | op o =>
      rw [hop] at he hops
      dsimp only at he ⊢
      obtain ⟨⟨v, h1⟩, hv, e⟩ := Option.map_eq_some_iff.1 he
      cases e
      rw [evOp_congr hops, hv]
      exact ⟨v, rfl, rfl⟩
    | call f args =>
      rw [hop] at he hops
      dsimp only at he ⊢
      obtain ⟨⟨v, h1⟩, hv, e⟩ := Option.map_eq_some_iff.1 he
      cases e
      rw [map_ev (l := args) hops, hv]
      exact ⟨v, rfl, rfl⟩
    | callv x args =>
      rw [hop] at he hops
      dsimp only at he ⊢
      rw [hops x (by simp [SOp.opds])]
      rw [map_ev fun y hy => hops y (by simp [SOp.opds, hy])]
      split at he
      · rename_i f caps hf
        obtain ⟨⟨v, h1⟩, hv, e⟩ := Option.map_eq_some_iff.1 he
        cases e
        rw [hv]
        exact ⟨v, rfl, rfl⟩
      · cases he
    | kcall f =>
      rw [hop] at he
      dsimp only at he ⊢
      split at he
      · rename_i v h1 hv
        split at he
        · rename_i hr
          cases he
          exact ⟨v, rfl, if_pos hr⟩
        · cases he
      · cases he
theorem evStep_still {s : AStep} (hs : s.eff = false) {fr1 : List AV} (he : evStep C s fr h = some (fr1, h')) {h2 : Heap}
    (hld : ∀ n x id off, s.op = .op (.ld n x) → x.ev fr = .ptr id off → h2.get id = h.get id) : h' = h ∧ evStep C s fr h2 = some (fr1, h2) := by
  unfold evStep at he ⊢
  split at he
  · cases he
  · rename_i hu
    simp only [Option.some.injEq, Prod.mk.injEq] at he
    obtain ⟨rfl, rfl⟩ := he
    exact ⟨rfl, rfl⟩
  · rename_i hu
    cases hop : s.op with
    | op o =>
      rw [hop] at he
      dsimp only at he ⊢
      obtain ⟨⟨v, h1⟩, hv, e⟩ := Option.map_eq_some_iff.1 he
      simp only [Prod.mk.injEq] at e
      obtain ⟨rfl, rfl⟩ := e
      by_cases hl : ∃ n x, o = .ld n x
      · obtain ⟨n, x, rfl⟩ := hl
        simp only [evOp] at hv ⊢
        obtain ⟨v', hv', e⟩ := Option.map_eq_some_iff.1 hv
        simp only [Prod.mk.injEq] at e
        obtain ⟨rfl, rfl⟩ := e
        refine ⟨rfl, ?_⟩
        have : ldA h2 n (x.ev fr) = ldA h n (x.ev fr) := by
          cases hx : x.ev fr with
          | ptr id off =>
            have := hld n x id off hop hx
            simp only [ldA, Heap.row, this]
          | _ => rfl
        rw [this, hv']
        rfl
      · have hst : o.still = true := by
          unfold AStep.eff at hs
          rw [hop] at hs
          cases o <;> first | exact (hl ⟨_, _, rfl⟩).elim | simpa using hs
        obtain ⟨rfl, g⟩ := still_ok hst hv
        refine ⟨rfl, ?_⟩
        rw [g h2]
        rfl
    | call f args => unfold AStep.eff at hs; rw [hop] at hs; cases hs
    | callv x args => unfold AStep.eff at hs; rw [hop] at hs; cases hs
    | kcall f =>
      rw [hop] at he
      dsimp only at he ⊢
      split at he
      · rename_i v h1 hv
        split at he
        · rename_i hr
          cases he
          exact ⟨rfl, if_pos hr⟩
        · cases he
      · cases he
theorem refsL_fillA : ∀ (parts : List (Nat × Nat × AV)) (z cs : List AV) (n : Nat), fillA z parts = some cs → AV.refsL z ≤ n → (∀ p ∈ parts, p.2.2.refs ≤ n) → AV.refsL cs ≤ n
  | [], z, cs, n, he, hz, _ => by
    simp only [fillA, Option.some.injEq] at he
    subst he
    exact hz
  | (off, sz, v) :: r, z, cs, n, he, hz, hp => by
    simp only [fillA] at he
    split at he
    · rename_i c hc
      split at he
      · refine refsL_fillA r _ cs n he ?_ fun p hpm => hp p (List.mem_cons_of_mem _ hpm)
        refine refsL_putAt c _ _ _ hz ?_
        rw [refs_cells hc]
        exact hp _ List.mem_cons_self
      · cases he
    · cases he
theorem evStep_pend {s : AStep} (hs : s.pend = true) {fr1 : List AV} (he : evStep C s fr h = some (fr1, h')) :
    ∃ cs, ∃ vf : Nat → AV, h' = h.alloc (.row cs) ∧ fr1 = putA fr s.dst (vf h.next) ∧ ((vf = fun id => .ptr id 0) ∨ ∃ n sz, vf = fun id => .vec id 0 n sz n) ∧
      ∀ (fr' : List AV) (h2 : Heap), (∀ x ∈ s.op.opds, x.ev fr' = x.ev fr) → evStep C s fr' h2 = some (putA fr' s.dst (vf h2.next), h2.alloc (.row cs)) ∧
        ∀ (φ : Phi) (w : World) (tm : Array Value), FR φ h2 w fr' tm → AV.refsL cs ≤ h2.next := by
  have opd_refs : ∀ (fr' : List AV) (h2 : Heap) (φ : Phi) (w : World) (tm : Array Value), FR φ h2 w fr' tm → ∀ x : Opd, x.low = true → (x.ev fr').refs ≤ h2.next := fun fr' h2 φ w tm hf x hx => by
    cases x with
    | tmp t => exact (hf.2 t).refs_le
    | const v =>
      have : v.refs = 0 := by simpa [Opd.low] using hx
      show v.refs ≤ _
      omega
  unfold AStep.pend at hs
  split at hs
  · rename_i x hg hop
    unfold evStep at he
    rw [hg, hop] at he
    simp only [unwanted, evOp] at he
    split at he
    · rename_i cs hcs
      simp only [Option.map_some, Option.some.injEq, Prod.mk.injEq] at he
      obtain ⟨rfl, rfl⟩ := he
      refine ⟨cs, fun id => .ptr id 0, rfl, rfl, .inl rfl, fun fr' h2 hx => ?_⟩
      have e := hx x (by rw [hop]; simp [SOp.opds, AOp.opds])
      refine ⟨?_, fun φ w tm hf => ?_⟩
      · unfold evStep
        rw [hg, hop]
        simp only [unwanted, evOp]
        rw [e, hcs]
        rfl
      · rw [refs_cells hcs, ← e]
        exact opd_refs fr' h2 φ w tm hf x hs
    · cases he
  · rename_i sz n zero parts hg hop
    simp only [Bool.and_eq_true, beq_iff_eq, List.all_eq_true] at hs
    unfold evStep at he
    rw [hg, hop] at he
    simp only [unwanted, evOp, Option.map_map] at he
    obtain ⟨cs, hcs, e⟩ := Option.map_eq_some_iff.1 he
    simp only [Function.comp, Prod.mk.injEq] at e
    obtain ⟨rfl, rfl⟩ := e
    refine ⟨cs, fun id => .vec id 0 n sz n, rfl, rfl, .inr ⟨n, sz, rfl⟩, fun fr' h2 hx => ?_⟩
    have e : (parts.map fun p => (p.1 * sz, sz, p.2.ev fr')) = parts.map fun p => (p.1 * sz, sz, p.2.ev fr) :=
      List.map_congr_left fun p hp => by rw [hx p.2 (by rw [hop]; exact List.mem_map.2 ⟨p, hp, rfl⟩)]
    refine ⟨?_, fun φ w tm hf => ?_⟩
    · unfold evStep
      rw [hg, hop]
      simp only [unwanted, evOp, Option.map_map]
      rw [e, hcs]
      rfl
    · refine refsL_fillA _ _ _ _ hcs (by omega) fun p hp => ?_
      obtain ⟨q, hq, rfl⟩ := List.mem_map.1 hp
      rw [← hx q.2 (by rw [hop]; exact List.mem_map.2 ⟨q, hq, rfl⟩)]
      exact opd_refs fr' h2 φ w tm hf q.2 (hs.2 q hq)
  · rename_i by_ zero l c hg hop
    simp only [Bool.and_eq_true, beq_iff_eq] at hs
    obtain ⟨hz, hlc⟩ := hs
    have hlc : l = c := Nat.eq_of_beq_eq_true hlc
    subst hlc
    unfold evStep at he
    rw [hg, hop] at he
    simp only [unwanted, evOp] at he
    split at he
    · rename_i m n h1 h2
      rw [h1] at h2
      cases h2
      split at he
      · rename_i hc
        simp only [Option.map_some, Option.some.injEq, Prod.mk.injEq] at he
        obtain ⟨rfl, rfl⟩ := he
        refine ⟨_, fun id => .vec id 0 m.toNat zero.length m.toNat, rfl, rfl, .inr ⟨_, _, rfl⟩, fun fr' h3 hx => ?_⟩
        have e := hx (.tmp l) (by rw [hop]; simp [SOp.opds, AOp.opds])
        refine ⟨?_, fun φ w tm hf => ?_⟩
        · unfold evStep
          rw [hg, hop]
          simp only [unwanted, evOp]
          rw [e, h1]
          dsimp only
          rw [if_pos hc]
          rfl
        · exact Nat.le_trans (refsL_flatten_replicate zero _) (by omega)
      · cases he
    · cases he
  · cases hs
end
end Sz

/- Regions whose order is drawn: a block that is made before its turn. No program is named here. -/
namespace Sz
open Go
structure Ex0 (φ : Phi) (h : Heap) (w : World) (φ' : Phi) (h' : Heap) (w' : World) : Prop where
  os : w'.os = w.os
  tape : w'.tape = w.tape
  output : w'.output = w.output
  size : w.heap.size ≤ w'.heap.size
  next : h.next ≤ h'.next
  phi : ∀ id, id < h.next → φ' id = φ id
  pr : ∀ b, Pr φ h w b → Pr φ' h' w' b ∧ w'.heap[b]? = w.heap[b]?
section
variable {φ φ1 φ2 φ' : Phi} {h h1 h2 h' : Heap} {w w1 w2 w' : World}
theorem Ext.ex0 (e : Ext φ h w φ' h' w') : Ex0 φ h w φ' h' w' := ⟨e.os, e.tape, e.output, e.size, e.next, e.phi, e.pr⟩
theorem Ex0.refl (φ : Phi) (h : Heap) (w : World) : Ex0 φ h w φ h w := (Ext.refl φ h w).ex0
theorem Ex0.trans (a : Ex0 φ h w φ1 h1 w1) (b : Ex0 φ1 h1 w1 φ2 h2 w2) : Ex0 φ h w φ2 h2 w2 :=
  ⟨b.os.trans a.os, b.tape.trans a.tape, b.output.trans a.output, Nat.le_trans a.size b.size, Nat.le_trans a.next b.next,
    fun id hid => (b.phi id (Nat.lt_of_lt_of_le hid a.next)).trans (a.phi id hid), fun x hx => by
      obtain ⟨h1, e1⟩ := a.pr x hx
      obtain ⟨h2, e2⟩ := b.pr x h1
      exact ⟨h2, e2.trans e1⟩⟩
theorem RV.ex0 {v : AV} {cv : Value} (hv : RVh φ h w v cv) (e : Ex0 φ h w φ' h' w') : RVh φ' h' w' v cv :=
  hv.mono (fun id _ hid => ⟨e.phi id hid, Nat.lt_of_lt_of_le hid e.next⟩) e.pr
theorem FR.ex0 {fr : List AV} {tm : Array Value} (hf : FR φ h w fr tm) (e : Ex0 φ h w φ' h' w') : FR φ' h' w' fr tm :=
  ⟨hf.1, fun t => (hf.2 t).ex0 e⟩
theorem HR.objLe (hr : HR φ h w) : ∀ id, id < h.next → ObjLe h id h.next := fun id _ => by
  refine ⟨fun cs hg => ?_, fun es hg e he => ?_⟩
  · obtain ⟨c, el, fz, k1, k2, k3, k4, k5, k6⟩ := hr.rows id cs hg
    refine AV.refsL_le fun v hv => ?_
    obtain ⟨j, hj, rfl⟩ := List.getElem_of_mem hv
    exact (k6 j hj).refs_le
  · obtain ⟨ents, clk, k1, k2, k3⟩ := hr.maps id es hg
    obtain ⟨j, hj, rfl⟩ := List.getElem_of_mem he
    exact ⟨(k3 j hj).1.refs_le, (k3 j hj).2.refs_le⟩
def GRow (φ : Phi) (h : Heap) (w : World) (e : PE) (cs : List AV) : Prop :=
  ∃ c el fr, w.heap[e.blk]? = some (.cells c el fr) ∧ e.base + e.room ≤ c.size ∧ cs.length ≤ e.room ∧
    (∀ o, o < c.size → ¬ (fr.1 ≤ o ∧ o < fr.2)) ∧
    (∀ j, j < e.room → (c.getD (e.base + j) default).oneCell' = true) ∧
    ∀ j (hj : j < cs.length), RVh φ h w cs[j] (c.getD (e.base + j) default)
theorem GRow.ex0 {e : PE} {cs : List AV} (g : GRow φ h w e cs) (x : Ex0 φ h w φ' h' w') (hb : w'.heap[e.blk]? = w.heap[e.blk]?) : GRow φ' h' w' e cs := by
  obtain ⟨c, el, fr, h1, h2, h3, h4, h5, h6⟩ := g
  exact ⟨c, el, fr, hb.trans h1, h2, h3, h4, h5, fun j hj => (h6 j hj).ex0 x⟩
theorem reg_row (hr : HR φ h w) {e : PE} {cs : List AV} (hg : GRow φ h w e cs) (hgh : φ.gh e.blk) :
    HR ⟨fun id => if id = h.next then e else φ id, fun b => φ.gh b ∧ b ≠ e.blk⟩ (h.alloc (.row cs)) w ∧
    Ex0 φ h w ⟨fun id => if id = h.next then e else φ id, fun b => φ.gh b ∧ b ≠ e.blk⟩ (h.alloc (.row cs)) w := by
  obtain ⟨g1, g2⟩ := hr.gh _ hgh
  have x : Ex0 φ h w ⟨fun id => if id = h.next then e else φ id, fun b => φ.gh b ∧ b ≠ e.blk⟩ (h.alloc (.row cs)) w := by
    refine ⟨rfl, rfl, rfl, Nat.le_refl _, by simp, fun id hid => by simp [Nat.ne_of_lt hid], fun b hb => ⟨⟨hb.1, fun id hl => ?_, fun hc => hb.2.2 hc.1⟩, rfl⟩⟩
    rcases live_alloc hl with rfl | ⟨hl, hlt⟩
    · simp only [if_true]
      exact fun e' => hb.2.2 (e' ▸ hgh)
    · simp only [Nat.ne_of_lt hlt, if_false]
      exact hb.2.1 id hl
  refine ⟨⟨Heap.wf_alloc _ hr.wf, fun id cs' hg' => ?_, fun id es hg' => ?_, fun i j hi hj hij => ?_, fun b hb => ⟨(hr.gh b hb.1).1, fun id hl => ?_⟩⟩, x⟩
  · have hlt := Heap.get_lt hg'
    simp only [Heap.next_alloc] at hlt
    rcases Nat.lt_or_ge id h.next with hid | hid
    · rw [Heap.get_alloc_old hid] at hg'
      have hk : GRow φ h w (φ id) cs' := hr.rows id cs' hg'
      have := hk.ex0 x rfl
      unfold RowOK
      simp only [Nat.ne_of_lt hid, if_false]
      exact this
    · obtain rfl : id = h.next := by omega
      rw [Heap.get_alloc_new] at hg'
      cases hg'
      have := hg.ex0 x rfl
      unfold RowOK
      simp only [if_true]
      exact this
  · have hlt := Heap.get_lt hg'
    simp only [Heap.next_alloc] at hlt
    rcases Nat.lt_or_ge id h.next with hid | hid
    · rw [Heap.get_alloc_old hid] at hg'
      obtain ⟨en, clk, k1, k2, k3⟩ := hr.maps id es hg'
      refine ⟨en, clk, ?_, k2, fun j hj => ⟨(k3 j hj).1.ex0 x, (k3 j hj).2.ex0 x⟩⟩
      simp only [Nat.ne_of_lt hid, if_false]
      exact k1
    · obtain rfl : id = h.next := by omega
      rw [Heap.get_alloc_new] at hg'
      cases hg'
  · rcases live_alloc hi with rfl | ⟨hi, hil⟩ <;> rcases live_alloc hj with rfl | ⟨hj, hjl⟩
    · rfl
    · simp only [if_true, Nat.ne_of_lt hjl, if_false] at hij
      exact absurd hij.symm (g2 j hj)
    · simp only [if_true, Nat.ne_of_lt hil, if_false] at hij
      exact absurd hij (g2 i hi)
    · simp only [Nat.ne_of_lt hil, Nat.ne_of_lt hjl, if_false] at hij
      exact hr.inj i j hi hj hij
  · rcases live_alloc hl with rfl | ⟨hl, hlt⟩
    · simp only [if_true]
      exact fun e' => hb.2 e'.symm
    · simp only [Nat.ne_of_lt hlt, if_false]
      exact (hr.gh b hb.1).2 id hl
theorem ghost_row (hr : HR φ h w) {cs : List AV} (hr1 : HR φ1 (h.alloc (.row cs)) w') (hx : Ext φ h w φ1 (h.alloc (.row cs)) w') (hrf : AV.refsL cs ≤ h.next) :
    HR ⟨φ.at_, fun b => φ.gh b ∨ b = (φ1 h.next).blk⟩ h w' ∧ Ex0 φ h w ⟨φ.at_, fun b => φ.gh b ∨ b = (φ1 h.next).blk⟩ h w' ∧
    GRow ⟨φ.at_, fun b => φ.gh b ∨ b = (φ1 h.next).blk⟩ h w' (φ1 h.next) cs ∧ ¬ φ.gh (φ1 h.next).blk := by
  have hlvn : live (h.alloc (.row cs)) h.next := ⟨_, Heap.get_alloc_new, fun e => by cases e⟩
  have hlvo : ∀ id, live h id → live (h.alloc (.row cs)) id ∧ φ1 id = φ id ∧ id < h.next := fun id ⟨o, hg, ho⟩ => by
    have hlt := Heap.get_lt hg
    exact ⟨⟨o, by rw [Heap.get_alloc_old hlt]; exact hg, ho⟩, hx.phi id hlt, hlt⟩
  have hng : ¬ φ.gh (φ1 h.next).blk := fun hb => (hr1.gh _ (by rw [hx.gh.1]; exact hb)).2 _ hlvn rfl
  have pr2 : ∀ b, Pr φ1 (h.alloc (.row cs)) w' b → Pr ⟨φ.at_, fun b => φ.gh b ∨ b = (φ1 h.next).blk⟩ h w' b := fun b hb =>
    ⟨hb.1, fun id hl => by
      obtain ⟨q1, q2, _⟩ := hlvo id hl
      have := hb.2.1 id q1
      rw [q2] at this
      exact this, fun hc => by
      rcases hc with hc | rfl
      · exact hb.2.2 (by rw [hx.gh.1]; exact hc)
      · exact hb.2.1 _ hlvn rfl⟩
  have mv : ∀ v cv, v.refs ≤ h.next → RVh φ1 (h.alloc (.row cs)) w' v cv → RVh ⟨φ.at_, fun b => φ.gh b ∨ b = (φ1 h.next).blk⟩ h w' v cv := fun v cv hv hrv =>
    hrv.mono (fun id h1 h2 => ⟨(hx.phi id (by omega)).symm, by omega⟩) fun b hb => ⟨pr2 b hb, rfl⟩
  have hle := hr.objLe
  refine ⟨⟨hr.wf, fun id cs' hg => ?_, fun id es hg => ?_, fun i j hi hj => hr.inj i j hi hj, fun b hb => ?_⟩, ⟨hx.os, hx.tape, hx.output, hx.size, Nat.le_refl _, fun _ _ => rfl, fun b hb => ?_⟩, ?_, hng⟩
  · have hlt := Heap.get_lt hg
    obtain ⟨c, el, fz, k1, k2, k3, k4, k5, k6⟩ := hr1.rows id cs' (by rw [Heap.get_alloc_old hlt]; exact hg)
    rw [hx.phi id hlt] at k1 k2 k3 k5 k6
    refine ⟨c, el, fz, k1, k2, k3, k4, k5, fun j hj => mv _ _ ?_ (k6 j hj)⟩
    have h1 := (hle id hlt).1 cs' hg
    have h2 := AV.refsL_mem (List.getElem_mem hj)
    omega
  · have hlt := Heap.get_lt hg
    obtain ⟨ents, clk, k1, k2, k3⟩ := hr1.maps id es (by rw [Heap.get_alloc_old hlt]; exact hg)
    rw [hx.phi id hlt] at k1
    refine ⟨ents, clk, k1, k2, fun j hj => ?_⟩
    have h1 := (hle id hlt).2 es hg es[j] (List.getElem_mem hj)
    exact ⟨mv _ _ h1.1 (k3 j hj).1, mv _ _ h1.2 (k3 j hj).2⟩
  · rcases hb with hb | rfl
    · obtain ⟨q1, q2⟩ := hr1.gh b (by rw [hx.gh.1]; exact hb)
      exact ⟨q1, fun id hl => by
        obtain ⟨r1, r2, _⟩ := hlvo id hl
        have := q2 id r1
        rw [r2] at this
        exact this⟩
    · refine ⟨hr1.blk_lt hlvn, fun id hl e => ?_⟩
      obtain ⟨r1, r2, r3⟩ := hlvo id hl
      have e' : (φ1 id).blk = (φ1 h.next).blk := by rw [r2]; exact e
      have := hr1.inj id h.next r1 hlvn e'
      omega
  · obtain ⟨q1, q2⟩ := hx.pr b hb
    exact ⟨pr2 b q1, q2⟩
  · obtain ⟨c, el, fz, k1, k2, k3, k4, k5, k6⟩ := hr1.rows h.next cs Heap.get_alloc_new
    refine ⟨c, el, fz, k1, k2, k3, k4, k5, fun j hj => mv _ _ ?_ (k6 j hj)⟩
    have h2 := AV.refsL_mem (List.getElem_mem hj)
    omega
def VAt (e : PE) (vf : Nat → AV) (cv : Value) : Prop := ∀ (φ : Phi) (nx : Nat) (pr : Nat → Prop) (w : World) (id : Nat), φ id = e → id < nx → RV φ nx pr w (vf id) cv
theorem VAt.of {vf : Nat → AV} (hvf : (vf = fun id => .ptr id 0) ∨ ∃ n sz, vf = fun id => .vec id 0 n sz n) {nx : Nat} {pr : Nat → Prop} {id : Nat} {cv : Value} (hv : RV φ nx pr w (vf id) cv) : VAt (φ id) vf cv := by
  intro φ' nx' pr' w' id' he hlt
  rcases hvf with rfl | ⟨n, sz, rfl⟩
  · obtain ⟨rfl, _⟩ := hv.ptr_inv
    dsimp only
    rw [← he]
    exact .ptr id' 0 hlt
  · obtain ⟨cap, a, rfl, h1, h2, h3, h4, h5⟩ := hv.vec_inv
    rw [← he] at h4 h5
    exact .vec id' 0 n sz n cap a hlt h2 h3 h4 h5
end
end Sz
