import Derived.Test.YtmbccebjkenofaaGreatDoorSz4
import Derived.ProofKit
import Derived.Handed
import Derived.Below
import Derived.ChangeSame
import Derived.ChangeAgain
import Derived.Test.YtmbccebjkenofaaGreatDoorSz3
set_option linter.unusedVariables false
set_option linter.unusedSimpArgs false
set_option linter.unusedSectionVars false

/- Readings of arguments as values of the abstract run; a law's last step. No program is named here. -/
namespace Sz
open Go Go.RowKit Go.ChangeShapes Go.WideShapes
section
variable {H : Type}
mutual
def avOf : DataW H → AV
  | .lit (.bool b) => .bool b
  | .lit (.int k n) => .int k n
  | .lit (.string s) => .str s
  | .slice elems _ => .sl (avOfL elems)
  | .agg parts => .agg (cellsOfL parts)
  | .nil => .sl []
  | _ => .undef
def avOfL : List (DataW H) → List AV
  | [] => []
  | d :: r => avOf d :: avOfL r
def cellsOfL : List (DataW H) → List AV
  | [] => []
  | d :: r => (avOf d).cells ++ cellsOfL r
end
theorem avOfL_map : ∀ l : List (DataW H), avOfL l = l.map avOf
  | [] => rfl
  | d :: r => by simp [avOfL, avOfL_map r]
theorem cellsOfL_map : ∀ l : List (DataW H), cellsOfL l = (l.map avOf).flatMap AV.cells
  | [] => rfl
  | d :: r => by simp [cellsOfL, cellsOfL_map r]
end
mutual
inductive HasTy (P : Program) : TypeId → AV → Prop
  | bool {t : TypeId} (h : P.underlying t = some .bool) (b : Bool) : HasTy P t (.bool b)
  | int {t : TypeId} {k : IntKind} (h : P.underlying t = some (.int k)) (n : Int) (hn : (Lit.int k n).wf = true) : HasTy P t (.int k n)
  | str {t : TypeId} (h : P.underlying t = some .string) (s : List UInt8) (hs : s.length ≤ maxLen) : HasTy P t (.str s)
  | sl {t e : TypeId} (h : P.underlying t = some (.slice e)) (xs : List AV) (hl : xs.length ≤ maxLen) (hx : ∀ x ∈ xs, HasTy P e x) : HasTy P t (.sl xs)
  | agg {t : TypeId} {fs : Array Field} (h : P.underlying t = some (.struct fs)) (vs : List AV) (hv : HasTyL P fs.toList vs) : HasTy P t (.agg (vs.flatMap AV.cells))
inductive HasTyL (P : Program) : List Field → List AV → Prop
  | nil : HasTyL P [] []
  | cons {f : Field} {r : List Field} {v : AV} {vs : List AV} (h : HasTy P f.type v) (hr : HasTyL P r vs) : HasTyL P (f :: r) (v :: vs)
end
inductive HasTys (P : Program) : List TypeId → List AV → Prop
  | nil : HasTys P [] []
  | cons {t : TypeId} {r : List TypeId} {v : AV} {vs : List AV} (h : HasTy P t v) (hr : HasTys P r vs) : HasTys P (t :: r) (v :: vs)
def tiled (P : Program) (S : List TypeId) : List Field → Nat → Option Nat
  | [], n => some n
  | f :: r, n => if f.offset = n ∧ S.contains f.type = true then tiled P S r (n + P.cellsOf f.type) else none
def okTy (P : Program) (S : List TypeId) (t : TypeId) : Bool :=
  match P.underlying t with
  | some .bool => true
  | some (.int _) => true
  | some .string => true
  | some (.slice e) => S.contains e && P.cellsOf e != 0
  | some (.struct fs) => tiled P S fs.toList 0 == some (P.cellsOf t)
  | _ => false
theorem mapM_get {α β : Type} {f : α → Option β} : ∀ {l : List α} {r : List β}, l.mapM f = some r → r.length = l.length ∧ ∀ (i : Nat) (h : i < l.length) (h' : i < r.length), f l[i] = some r[i]
  | [], r, h => by
    simp only [List.mapM_nil, Option.pure_def, Option.some.injEq] at h
    subst h
    exact ⟨rfl, fun i h => by simp at h⟩
  | x :: l, r, h => by
    simp only [List.mapM_cons, Option.pure_def, Option.bind_eq_bind, Option.bind_eq_some_iff] at h
    obtain ⟨y, hy, s, hs, e⟩ := h
    cases e
    obtain ⟨g1, g2⟩ := mapM_get hs
    refine ⟨by simp [g1], fun i h h' => ?_⟩
    cases i with
    | zero => exact hy
    | succ i => exact g2 i (by simpa using h) (by simpa using h')
section
variable {H : Type} {enc : TypeId × Value → H} {P : Program} {w : World} {φ : Phi} {nx : Nat} {pr : Nat → Prop}
theorem cells_cells? {v : AV} {cs : List AV} (h : v.cells? = some cs) : v.cells = cs := by
  cases v <;> simp [AV.cells?] at h <;> subst h <;> rfl
structure Read (P : Program) (φ : Phi) (nx : Nat) (pr : Nat → Prop) (w : World) (t : TypeId) (v : AV) (cs : List Value) : Prop where
  ty : HasTy P t v
  len : v.cells?.map List.length = some cs.length
  refs : v.refs = 0
  rv : ∀ j, j < cs.length → RV φ nx pr w (v.cells.getD j .undef) (cs.getD j default)
  one : ∀ j, j < cs.length → (cs.getD j default).oneCell' = true
theorem Read.single {t : TypeId} {v : AV} {c : Value} (ty : HasTy P t v) (hc : v.cells = [v]) (hc2 : v.cells? = some [v]) (hr : v.refs = 0) (h : RV φ nx pr w v c) (h1 : c.oneCell' = true) : Read P φ nx pr w t v [c] :=
  ⟨ty, by rw [hc2]; rfl, hr, fun j hj => by
    have : j = 0 := by simpa using hj
    subst this
    rw [hc]; exact h, fun j hj => by
    have : j = 0 := by simpa using hj
    subst this
    exact h1⟩
theorem Read.lenc {t : TypeId} {v : AV} {cs : List Value} (h : Read P φ nx pr w t v cs) : v.cells.length = cs.length := by
  obtain ⟨l, hl, e⟩ := Option.map_eq_some_iff.1 h.len
  rw [cells_cells? hl, e]
theorem refs_cells' {v : AV} {cs : List Value} {t : TypeId} (h : Read P φ nx pr w t v cs) : AV.refsL v.cells = 0 := by
  obtain ⟨l, hl, _⟩ := Option.map_eq_some_iff.1 h.len
  rw [cells_cells? hl, refs_cells hl]
  exact h.refs
theorem read_fields {S : List TypeId} {fuel : Nat} {spare : Nat → Bool} (ih : ∀ t cs d ps, t ∈ S → DataW.trod enc P w 0 spare true fuel t cs = some (d, ps) → Read P φ nx pr w t (avOf d) cs) (cs : List Value) :
    ∀ (fs : List Field) (xs : List (DataW H × List MemPlace)) (n m : Nat), fs.mapM (fun f => DataW.trod enc P w 0 spare true fuel f.type ((cs.drop f.offset).take (P.cellsOf f.type))) = some xs → tiled P S fs n = some m → m ≤ cs.length →
      n ≤ m ∧ HasTyL P fs (xs.map fun x => avOf x.1) ∧ ((xs.map fun x => avOf x.1).flatMap AV.cells).length = m - n ∧ AV.refsL ((xs.map fun x => avOf x.1).flatMap AV.cells) = 0 ∧
      ∀ j, n + j < m → RV φ nx pr w (((xs.map fun x => avOf x.1).flatMap AV.cells).getD j .undef) (cs.getD (n + j) default) ∧ (cs.getD (n + j) default).oneCell' = true
  | [], xs, n, m, h, ht, hm => by
    simp only [List.mapM_nil, Option.pure_def, Option.some.injEq] at h
    subst h
    simp only [tiled, Option.some.injEq] at ht
    subst ht
    exact ⟨Nat.le_refl _, .nil, by simp, by simp [AV.refsL], fun j hj => by omega⟩
  | f :: fs, xs, n, m, h, ht, hm => by
    simp only [List.mapM_cons, Option.pure_def, Option.bind_eq_bind, Option.bind_eq_some_iff] at h
    obtain ⟨y, hy, ys, hys, e⟩ := h
    cases e
    simp only [tiled] at ht
    split at ht
    · rename_i hc
      obtain ⟨rfl, hS⟩ := hc
      obtain ⟨g1, g2, g3, g4, g5⟩ := read_fields ih cs fs ys _ m hys ht hm
      have r := ih f.type _ y.1 y.2 (List.contains_iff_mem.1 hS) hy
      have hl : ((cs.drop f.offset).take (P.cellsOf f.type)).length = P.cellsOf f.type := by simp; omega
      have rl := r.lenc
      rw [hl] at rl
      refine ⟨by omega, .cons r.ty g2, ?_, ?_, fun j hj => ?_⟩
      · simp only [List.map_cons, List.flatMap_cons, List.length_append, rl, g3]
        omega
      · simp only [List.map_cons, List.flatMap_cons, refsL_append, g4, refs_cells' r]
        rfl
      · simp only [List.map_cons, List.flatMap_cons]
        by_cases hj2 : j < P.cellsOf f.type
        · have q1 := r.rv j (by omega)
          have q2 := r.one j (by omega)
          have e1 : ((cs.drop f.offset).take (P.cellsOf f.type)).getD j default = cs.getD (f.offset + j) default := by
            rw [List.getD_eq_getElem?_getD, List.getD_eq_getElem?_getD, List.getElem?_take, if_pos hj2, List.getElem?_drop]
          rw [e1] at q1 q2
          refine ⟨?_, q2⟩
          rw [List.getD_eq_getElem?_getD, List.getElem?_append_left (by omega), ← List.getD_eq_getElem?_getD]
          exact q1
        · have q := g5 (j - P.cellsOf f.type) (by omega)
          rw [show f.offset + P.cellsOf f.type + (j - P.cellsOf f.type) = f.offset + j by omega] at q
          refine ⟨?_, q.2⟩
          rw [List.getD_eq_getElem?_getD, List.getElem?_append_right (by omega), rl, ← List.getD_eq_getElem?_getD]
          exact q.1
    · cases ht
theorem addr_spot {a : Addr} {v : Value} (h : w.cell? a = some v) : a.spot = none ∧ a.block < w.heap.size := by
  unfold World.cell? at h
  split at h
  · rename_i c x y hx
    split at h
    · cases h
    · rename_i hs
      refine ⟨by simpa using hs, ?_⟩
      exact (Array.getElem?_eq_some_iff.1 hx).1
  · cases h
theorem read_of_trod {S : List TypeId} (hS : ∀ t ∈ S, okTy P S t = true) (hpr : ∀ b, b < w.heap.size → pr b) {spare : Nat → Bool} :
    ∀ fuel t cs d ps, t ∈ S → DataW.trod enc P w 0 spare true fuel t cs = some (d, ps) → Read P φ nx pr w t (avOf d) cs
  | 0, t, cs, d, ps, _, h => by simp [DataW.trod] at h
  | fuel + 1, t, cs, d, ps, ht, h => by
    have ih := read_of_trod hS hpr (spare := spare) fuel
    have hok := hS t ht
    unfold okTy at hok
    unfold DataW.trod at h
    cases hu : P.underlying t with
    | none => rw [hu] at hok; cases hok
    | some u =>
      rw [hu] at hok
      cases u
      case bool =>
        simp only [hu] at h
        split at h <;> rename_i hx <;> try cases hx
        · rename_i b; cases h
          exact .single (.bool hu b) rfl rfl rfl (.bool b) rfl
        all_goals (first | cases h | (rename_i q; cases q))
      case int k =>
        simp only [hu] at h
        split at h <;> rename_i hx <;> try cases hx
        · rename_i k' n
          split at h
          · rename_i hc
            obtain ⟨rfl, hwf⟩ := hc
            cases h
            exact .single (.int hu n hwf) rfl rfl rfl (.int _ n) rfl
          · cases h
        all_goals (first | cases h | (rename_i q; cases q))
      case string =>
        simp only [hu] at h
        split at h <;> rename_i hx <;> try cases hx
        · rename_i s
          split at h
          · rename_i hs
            cases h
            exact .single (.str hu _ (by simpa using hs)) rfl rfl rfl (.str s) rfl
          · cases h
        all_goals (first | cases h | (rename_i q; cases q))
      case slice e =>
        simp only [Bool.and_eq_true] at hok
        obtain ⟨he, hne⟩ := hok
        have he' : e ∈ S := List.contains_iff_mem.1 he
        have hn0 : P.cellsOf e ≠ 0 := by simpa using hne
        simp only [hu] at h
        split at h <;> rename_i hx <;> try cases hx
        · cases h
          exact .single (.sl hu [] (by simp) fun x hx => by cases hx) rfl rfl rfl (.slnil none 0) rfl
        · rename_i a len cap
          split at h
          · rename_i hc
            obtain ⟨elems, h1, h2⟩ := Option.bind_eq_some_iff.1 h
            obtain ⟨rest, h3, h4⟩ := Option.map_eq_some_iff.1 h2
            cases h4
            obtain ⟨g1, g2⟩ := mapM_get h1
            simp only [List.length_range] at g1
            have hel : ∀ i (hi : i < elems.length), ∃ cs, w.cells? 0 (a.add (i * P.cellsOf e)) (P.cellsOf e) = some cs ∧ Read P φ nx pr w e (avOf elems[i].1) cs := fun i hi => by
              have := g2 i (by simpa using (by omega)) hi
              rw [List.getElem_range] at this
              obtain ⟨cs, k1, k2⟩ := Option.bind_eq_some_iff.1 this
              exact ⟨cs, k1, ih e cs _ _ he' k2⟩
            have hcell : ∀ i (cs : List Value), w.cells? 0 (a.add (i * P.cellsOf e)) (P.cellsOf e) = some cs → cs.length = P.cellsOf e ∧ ∀ j (hj : j < cs.length), w.cell? ((a.add (i * P.cellsOf e)).add j) = some cs[j] := fun i cs hcs => by
              unfold World.cells? at hcs
              rw [if_pos (Nat.zero_le _)] at hcs
              obtain ⟨k1, k2⟩ := mapM_get hcs
              simp only [List.length_range] at k1
              refine ⟨k1, fun j hj => ?_⟩
              have := k2 j (by simpa using (by omega)) hj
              rwa [List.getElem_range] at this
            have hty : HasTy P t (.sl (avOfL (elems.map (·.1)))) := by
              refine .sl hu _ ?_ fun x hx => ?_
              · rw [avOfL_map]; simp; omega
              · rw [avOfL_map] at hx
                simp only [List.map_map, List.mem_map, Function.comp_apply] at hx
                obtain ⟨y, hy, rfl⟩ := hx
                obtain ⟨i, hi, rfl⟩ := List.getElem_of_mem hy
                obtain ⟨cs, _, r⟩ := hel i hi
                exact r.ty
            have hrf : AV.refsL (avOfL (elems.map (·.1))) = 0 := by
              have : AV.refsL (avOfL (elems.map (·.1))) ≤ 0 := AV.refsL_le fun x hx => by
                rw [avOfL_map] at hx
                simp only [List.map_map, List.mem_map, Function.comp_apply] at hx
                obtain ⟨y, hy, rfl⟩ := hx
                obtain ⟨i, hi, rfl⟩ := List.getElem_of_mem hy
                obtain ⟨cs, _, r⟩ := hel i hi
                exact Nat.le_of_eq r.refs
              omega
            refine .single (by simpa [avOf] using hty) rfl rfl rfl ?_ rfl
            rcases Nat.eq_zero_or_pos elems.length with h0 | h0
            · have e0 : elems = [] := List.length_eq_zero_iff.1 h0
              subst e0
              have : len = 0 := by simpa using g1.symm
              subst this
              exact .slnil _ _
            · obtain ⟨cs0, k1, k2⟩ := hel 0 h0
              obtain ⟨q1, q2⟩ := hcell 0 cs0 k1
              have q3 := q2 0 (by omega)
              simp only [Nat.zero_mul, Addr.add, if_true] at q3
              obtain ⟨s1, s2⟩ := addr_spot q3
              obtain ⟨ab, ao, asp⟩ := a
              dsimp only at s1 s2
              subst s1
              have hadd : ∀ i j, ((⟨ab, ao, none⟩ : Addr).add (i * P.cellsOf e)).add j = ⟨ab, ao + i * P.cellsOf e + j, none⟩ := fun i j => by
                unfold Addr.add
                split <;> split <;> simp_all
              have xl : (avOfL (elems.map (·.1))).length = len := by rw [avOfL_map]; simp [g1]
              have xg : ∀ i (hi : i < (avOfL (elems.map (·.1))).length), ∃ hi' : i < elems.length, (avOfL (elems.map (·.1)))[i] = avOf elems[i].1 := fun i hi => by
                have hi' : i < elems.length := by omega
                refine ⟨hi', ?_⟩
                simp [avOfL_map]
              have key := RV.sl (φ := φ) (nx := nx) (pr := pr) (w := w) (avOfL (elems.map (·.1))) ab ao cap (P.cellsOf e) (fun i j => match w.cells? 0 ((⟨ab, ao, none⟩ : Addr).add (i * P.cellsOf e)) (P.cellsOf e) with
                | some cs => if i < len ∧ j < cs.length then cs.getD j default else default
                | none => default) (hpr ab s2) (by omega) hrf (fun i j => ?_) (fun i hi => ?_) (fun i j hi hj => ?_) fun i hi j hj => ?_
              · rw [xl] at key
                exact key
              · split
                · rename_i cs hcs
                  split
                  · rename_i hlt
                    obtain ⟨cs', k1, r⟩ := hel i (by omega)
                    rw [hcs] at k1
                    cases k1
                    exact r.one j hlt.2
                  · rfl
                · rfl
              · obtain ⟨hi', e1⟩ := xg i hi
                obtain ⟨cs, k1, r⟩ := hel i hi'
                rw [e1, r.len, (hcell i cs k1).1]
              · have hi' : i < elems.length := by omega
                obtain ⟨cs, k1, r⟩ := hel i hi'
                obtain ⟨c1, c2⟩ := hcell i cs k1
                rw [k1]
                dsimp only
                rw [if_pos ⟨by omega, by omega⟩]
                have := c2 j (by omega)
                rw [hadd] at this
                rw [this, List.getD_eq_getElem?_getD, List.getElem?_eq_getElem (by omega)]
                rfl
              · obtain ⟨hi', e1⟩ := xg i hi
                obtain ⟨cs, k1, r⟩ := hel i hi'
                have hj' : j < cs.length := by
                  have := r.lenc
                  rw [← e1] at this
                  omega
                rw [k1]
                dsimp only
                rw [if_pos ⟨by omega, hj'⟩]
                have := r.rv j hj'
                rw [← e1, List.getD_eq_getElem?_getD, List.getElem?_eq_getElem hj] at this
                exact this
          · cases h
        all_goals (first | cases h | (rename_i q; cases q))
      case struct fs =>
        have htl : tiled P S fs.toList 0 = some (P.cellsOf t) := by simpa using hok
        simp only [hu] at h
        · split at h
          · rename_i hlen
            obtain ⟨xs, h1, h2⟩ := Option.map_eq_some_iff.1 h
            cases h2
            obtain ⟨g1, g2, g3, g4, g5⟩ := read_fields (φ := φ) (nx := nx) (pr := pr) ih cs fs.toList xs 0 (P.cellsOf t) h1 htl (by omega)
            have e : avOf (.agg (xs.map (·.1))) = .agg ((xs.map fun x => avOf x.1).flatMap AV.cells) := by
              simp only [avOf, cellsOfL_map, List.map_map]
              rfl
            rw [e]
            refine ⟨.agg hu _ g2, ?_, ?_, fun j hj => ?_, fun j hj => ?_⟩
            · simp only [AV.cells?, Option.map_some, Option.some.injEq]
              omega
            · simpa [AV.refs] using g4
            · have := (g5 j (by omega)).1
              rw [Nat.zero_add] at this
              exact this
            · have := (g5 j (by omega)).2
              rw [Nat.zero_add] at this
              exact this
          · cases h
      all_goals (simp at hok)
end
end Sz

/- A law's last step: from the abstract run to the statement. No program is named here. -/
namespace Sz
open Go Go.RowKit Go.ChangeShapes Go.WideShapes
variable {X : World → Prop}
section
variable {H : Type} {enc : TypeId × Value → H} {P : Program}
theorem post_of_below {f : Func} {s : ChangeSpec} {apart fresh handsOn again : Bool} {W W' : World} {args : Array Value} {v : Value} {ds gs : List (DataW H)} {before pa pv : List MemPlace}
    (hW : DataW.Whole enc P f.params.toList s.vars apart W args.toList ds gs before)
    (hres : ∀ (b : Nat) (sp : Nat → Bool) (hd : Bool), DataW.TrodAll enc P W' b sp hd f.resultTypes.toList (v.resultList f.resultTypes.size) (s.fn H (ds ++ gs)).results [])
    (hargs : ∀ sp : Nat → Bool, (∀ p ∈ before, sp p.block = true) → DataW.TrodAll enc P W' 0 sp true f.params.toList args.toList (s.fn H (ds ++ gs)).args pa)
    (hvars : ∀ sp : Nat → Bool, (∀ p ∈ before, sp p.block = true) → DataW.TrodVars enc P W' sp s.vars (s.fn H (ds ++ gs)).vars pv)
    (hps : before = pa ++ pv) (hb : Below W.heap.size W W')
    (hok : ∀ (j : Nat) (t : TypeId) (r : Value), f.resultTypes[j]? = some t → (v.resultList f.resultTypes.size)[j]? = some r → Value.okWide P W' .any 0 t r) :
    s.post enc P f apart fresh handsOn again W args v W' := by
  have hlt : ∀ p ∈ before, p.block < W.heap.size := fun p hp => hW.lt p hp
  have hold : ∀ p ∈ before, (fun b => decide (b < W.heap.size)) p.block = true := fun p hp => by simpa using hlt p hp
  refine ⟨ds, gs, before, [], pa, pv, hW, hres _ _ _, hargs _ hold, hvars _ hold, World.keptBut_mono (fun p hp => ⟨hp, ?_⟩) (hb.frame (· ∈ before)), fun _ => ?_⟩
  · rw [hps, List.mem_append] at hp
    exact Or.inr hp
  · obtain ⟨_, _, _, _, _, hz, hn⟩ := hW
    refine ⟨hok, _, _, ([] ++ pa) ++ pv, ⟨[] ++ pa, pv, trodAll_append (hargs _ (fun _ _ => rfl)) (hres _ _ _), hvars _ (fun _ _ => rfl), rfl, ?_, ?_⟩, ?_⟩
    · intro b off hp
      have hin : MemPlace.cell b off ∈ before := by rw [hps]; simpa using hp
      rw [hb.frozen (hlt _ hin)]
      exact hz b off hin
    · intro ha
      have := hn ha
      rw [hps] at this
      simpa using this
    · intro p hp _
      rw [hps]
      simpa using hp
def phi0 : Phi := ⟨fun _ => default, fun _ => False⟩
theorem nolive0 (id : Nat) : ¬ live h0 id := fun ⟨o, hg, _⟩ => by simp [Heap.get, h0] at hg
theorem hr0 (w : World) : HR phi0 h0 w :=
  ⟨rfl, fun id cs hg => by simp [Heap.get, h0] at hg, fun id es hg => by simp [Heap.get, h0] at hg, fun i j hi => absurd hi (nolive0 i), fun b hb => hb.elim⟩
theorem pr0 (w : World) (b : Nat) (hb : b < w.heap.size) : Pr phi0 h0 w b := ⟨hb, fun id hl => absurd hl (nolive0 id), fun h => h⟩
theorem read_value {t : TypeId} {v : AV} {cv : Value} {φ : Phi} {nx : Nat} {pr : Nat → Prop} {w : World} {base : Nat} (hr : Read P φ nx pr w t v cv.cells.toList) (hv : Value.okWide P w .any base t cv) : RV φ nx pr w v cv := by
  cases hr.ty with
  | bool h b =>
    have h1 := hr.rv 0
    have h2 := hr.len
    cases cv <;> simp [AV.cells?, Value.cells] at h2 h1 <;> try exact h1
    rename_i cs
    simp [Value.okWide, h, Cell.okWide, Cell.ok] at hv
  | int h n hn =>
    have h1 := hr.rv 0
    have h2 := hr.len
    cases cv <;> simp [AV.cells?, Value.cells] at h2 h1 <;> try exact h1
    rename_i cs
    simp [Value.okWide, h, Cell.okWide, Cell.ok] at hv
  | str h s hs =>
    have h1 := hr.rv 0
    have h2 := hr.len
    cases cv <;> simp [AV.cells?, Value.cells] at h2 h1 <;> try exact h1
    rename_i cs
    simp [Value.okWide, h, Cell.okWide, Cell.ok] at hv
  | sl h xs hl hx =>
    have h1 := hr.rv 0
    have h2 := hr.len
    cases cv <;> simp [AV.cells?, Value.cells] at h2 h1 <;> try exact h1
    rename_i cs
    simp [Value.okWide, h, Cell.okWide, Cell.ok] at hv
  | agg h vs hv' =>
    simp only [Value.okWide, h] at hv
    obtain ⟨cs, rfl, _⟩ := hv
    refine .agg _ _ ?_ (fun j => ?_) fun j hj => ?_
    · have := hr.lenc
      simpa [AV.cells, Value.cells] using this.symm
    · by_cases hj : j < cs.size
      · have := hr.one j (by simpa [Value.cells] using hj)
        simpa [Value.cells, List.getD_eq_getElem?_getD, Array.getD_eq_getD_getElem?] using this
      · simp [Array.getD, hj]
        rfl
    · have hl := hr.lenc
      have hj' : j < (Value.agg cs).cells.toList.length := by rw [← hl]; exact hj
      have := hr.rv j hj'
      rw [List.getD_eq_getElem?_getD, List.getElem?_eq_getElem (by simpa [AV.cells] using hj)] at this
      simpa [AV.cells, Value.cells, List.getD_eq_getElem?_getD, Array.getD_eq_getD_getElem?] using this
theorem args_of_trod {S : List TypeId} (hS : ∀ t ∈ S, okTy P S t = true) {w : World} {base : Nat} {spare : Nat → Bool} : ∀ (ts : List TypeId) (vs : List Value) (ds : List (DataW H)) (ps : List MemPlace), DataW.TrodAll enc P w 0 spare true ts vs ds ps → (∀ t ∈ ts, t ∈ S) →
    (∀ (j : Nat) (t : TypeId) (v : Value), ts[j]? = some t → vs[j]? = some v → Value.okWide P w .any base t v) →
    HasTys P ts (ds.map avOf) ∧ vs.length = ds.length ∧ AV.refsL (ds.map avOf) = 0 ∧ ∀ (j : Nat) (h : j < ds.length), RVh phi0 h0 w (avOf ds[j]) (vs.getD j default)
  | [], vs, ds, ps, h, _, _ => by
    obtain ⟨rfl, rfl, rfl⟩ := trodAll_nil h
    exact ⟨.nil, rfl, rfl, fun j h => by simp at h⟩
  | t :: ts, vs, ds, ps, h, hts, hok => by
    obtain ⟨v, vs', d, ds', p, q, rfl, rfl, rfl, ⟨fuel, h1⟩, h2⟩ := trodAll_cons h
    have hr := read_of_trod (φ := phi0) (nx := h0.next) (pr := Pr phi0 h0 w) hS (pr0 w) fuel t _ d p (hts t (by simp)) h1
    obtain ⟨g1, g2, g3, g4⟩ := args_of_trod hS ts vs' ds' q h2 (fun t ht => hts t (by simp [ht])) fun j t v h1 h2 => hok (j + 1) t v h1 h2
    refine ⟨.cons hr.ty g1, by simp [g2], by simp only [List.map_cons, AV.refsL, g3, hr.refs]; rfl, fun j hj => ?_⟩
    cases j with
    | zero => exact read_value hr (hok 0 t v rfl rfl)
    | succ j => exact g4 j (by simpa using hj)
theorem mixed_enter {f : Nat} {fn : Func} (hfn : P.funcs[f]? = some fn) (hname : (fn.name == "runtime.NumGoroutine") = false) (hbody : fn.body.isSome = true) (cargs : Array Value) (w : World) : (callFunc f cargs).run P w = .ok (.enter f cargs) w := by
  obtain ⟨c, hc⟩ := Option.isSome_iff_exists.1 hbody
  have hne : ¬ fn.name = "runtime.NumGoroutine" := by simpa using hname
  simp [callFunc, hfn, hne, hc]
theorem law_callsX {f : Nat} {fn : Func} (hfn : P.funcs[f]? = some fn) (hname : (fn.name == "runtime.NumGoroutine") = false) (hbody : fn.body.isSome = true) {S : List TypeId} (hS : (S.all fun t => okTy P S t && P.readableRec t && decide (t < P.types.size)) = true)
    (hpar : (fn.params.toList.all fun t => S.contains t) = true) {tb : TypeId} (htb : P.underlying tb = some .bool) (hres : fn.resultTypes = #[tb]) (hlaid : laidOutB P = true)
    {s : ChangeSpec} (hvars : s.vars = []) (hfun : ∀ ds : List (DataW H), ds.length = fn.params.size → s.fn H ds = { results := [.lit (.bool true)], args := ds })
    {apart fresh handsOn again : Bool}
    {W : World} {base : Nat} {args : Array Value} {ds gs : List (DataW H)} {before : List MemPlace}
    (hlaw : HasTys P fn.params.toList (ds.map avOf) → PrimOKX P X f (ds.map avOf) (.bool true))
    (hval : ∀ (j : Nat) t v, fn.params[j]? = some t → args[j]? = some v → Value.okWide P W .any base t v)
    (hW : DataW.Whole enc P fn.params.toList s.vars apart W args.toList ds gs before) (hsh : W.ShapedOpen P) (hX : X W) :
    Calls P f args W fun e W' => ∃ v, e = .returned v ∧ s.post enc P fn apart fresh handsOn again W args v W' := by
  have hS' : ∀ t ∈ S, okTy P S t = true ∧ P.readableRec t = true ∧ t < P.types.size := fun t ht => by
    have := List.all_eq_true.1 hS t ht
    simp only [Bool.and_eq_true, decide_eq_true_eq] at this
    exact ⟨this.1.1, this.1.2, this.2⟩
  have hp' : ∀ t ∈ fn.params.toList, t ∈ S := fun t ht => List.contains_iff_mem.1 (List.all_eq_true.1 hpar t ht)
  have hW0 := hW
  obtain ⟨p, q, hA, hV, hps, hfz, hnd⟩ := hW0
  rw [hvars] at hV
  have hgq : gs = [] ∧ q = [] := by
    cases gs with
    | nil => exact ⟨rfl, hV⟩
    | cons g r => exact hV.elim
  obtain ⟨rfl, rfl⟩ := hgq
  have hps : before = p := by rw [hps]; simp
  subst hps
  obtain ⟨g1, g2, g3, g4⟩ := args_of_trod (base := base) (fun t ht => (hS' t ht).1) fn.params.toList args.toList ds before hA hp' fun j t v h1 h2 => hval j t v (by simpa using h1) (by simpa using h2)
  have hdl : ds.length = fn.params.size := by
    have : ∀ (ts : List TypeId) (l : List AV), HasTys P ts l → l.length = ts.length := by
      intro ts l h
      induction h with
      | nil => rfl
      | cons _ _ ih => simp [ih]
    have := this _ _ g1
    simpa using this
  have hargs : ArgsR phi0 h0 W (ds.map avOf) args := ⟨by simpa using g2, fun j hj => by
    have hj' : j < ds.length := by simpa using hj
    have := g4 j hj'
    have e : args.toList.getD j default = args.getD j default := by
      rw [List.getD_eq_getElem?_getD, Array.getD_eq_getD_getElem?]; simp
    rw [e] at this
    simpa using this⟩
  have henter := mixed_enter hfn hname hbody args W
  rcases hlaw g1 phi0 h0 W args (hr0 W) ⟨W, ⟨hsh, hX⟩, fun b hb => ⟨hb, .inr (pr0 W b hb), rfl⟩⟩ hargs with ⟨_, hc⟩ | ⟨cv, w', e1, _⟩
  · refine hc.mono fun e W' he => ?_
    obtain ⟨cv, rfl, r1, r2, r3, r4⟩ := he
    have hcv := r1.bool_inv
    subst hcv
    have hb : Below W.heap.size W W' := ⟨r3.os, r3.tape, r3.output, r3.size, fun b hb => (r3.pr b (pr0 W b hb)).2⟩
    have hlt : ∀ x ∈ before, x.block < W.heap.size := fun x hx => hW.lt x hx
    have hsp : ∀ (sp : Nat → Bool), (∀ x ∈ before, sp x.block = true) → ∀ (ts : List TypeId) (vs : List Value) (ds : List (DataW H)) (ps : List MemPlace), (∀ t ∈ ts, t ∈ S) → (∀ x ∈ ps, x ∈ before) → DataW.TrodAll enc P W 0 (fun _ => true) true ts vs ds ps → DataW.TrodAll enc P W' 0 sp true ts vs ds ps := by
      intro sp hsp ts
      induction ts with
      | nil =>
        intro vs ds ps _ _ h
        obtain ⟨rfl, rfl, rfl⟩ := trodAll_nil h
        rfl
      | cons t ts ih =>
        intro vs ds ps hts hin h
        obtain ⟨v, vs', d, ds', p, q, rfl, rfl, rfl, h1, h2⟩ := trodAll_cons h
        refine ⟨p, q, ?_, ih vs' ds' q (fun t ht => hts t (by simp [ht])) (fun x hx => hin x (by simp [hx])) h2, rfl⟩
        exact WideElems.Trod_stays hlaid (hS' t (hts t (by simp))).2.1 (hS' t (hts t (by simp))).2.2 h1 (fun x hx => hb.same (hlt x (hin x (by simp [hx])))) (fun x hx => hsp x (hin x (by simp [hx])))
    refine ⟨.bool true, rfl, post_of_below (pa := before) (pv := []) hW (fun b sp hd => ?_) (fun sp hs => ?_) (fun sp _ => ?_) (by simp) hb ?_⟩
    · rw [hres, List.append_nil, hfun ds hdl]
      exact trodAll_mk1 (shut_bool htb true)
    · rw [List.append_nil, hfun ds hdl]
      exact hsp sp hs _ _ _ _ hp' (fun x hx => hx) hA
    · rw [hvars, List.append_nil, hfun ds hdl]
      rfl
    · exact ok_one hres rfl (okWide_bool_mk htb true)
  · rw [henter] at e1
    cases e1
theorem law_calls {f : Nat} {fn : Func} (hfn : P.funcs[f]? = some fn) (hname : (fn.name == "runtime.NumGoroutine") = false) (hbody : fn.body.isSome = true) {S : List TypeId} (hS : (S.all fun t => okTy P S t && P.readableRec t && decide (t < P.types.size)) = true)
    (hpar : (fn.params.toList.all fun t => S.contains t) = true) {tb : TypeId} (htb : P.underlying tb = some .bool) (hres : fn.resultTypes = #[tb]) (hlaid : laidOutB P = true)
    {s : ChangeSpec} (hvars : s.vars = []) (hfun : ∀ ds : List (DataW H), ds.length = fn.params.size → s.fn H ds = { results := [.lit (.bool true)], args := ds })
    (hlaw : ∀ avs, HasTys P fn.params.toList avs → PrimOK P f avs (.bool true)) {apart fresh handsOn again : Bool}
    {W : World} {base : Nat} {args : Array Value} {ds gs : List (DataW H)} {before : List MemPlace}
    (hval : ∀ (j : Nat) t v, fn.params[j]? = some t → args[j]? = some v → Value.okWide P W .any base t v)
    (hW : DataW.Whole enc P fn.params.toList s.vars apart W args.toList ds gs before) (hsh : W.ShapedOpen P) :
    Calls P f args W fun e W' => ∃ v, e = .returned v ∧ s.post enc P fn apart fresh handsOn again W args v W' :=
  law_callsX hfn hname hbody hS hpar htb hres hlaid hvars hfun (fun h => hlaw _ h) hval hW hsh trivial
end
end Sz

/- What a type's values are. No program is named here. -/
namespace Sz
open Go
section
variable {P : Program} {t e : TypeId} {v : AV}
theorem ty_str (hu : P.underlying t = some .string) (h : HasTy P t v) : ∃ s : List UInt8, v = .str s ∧ s.length ≤ maxLen := by
  cases h with
  | str h s hs => exact ⟨s, rfl, hs⟩
  | bool h => rw [hu] at h; cases h
  | int h => rw [hu] at h; cases h
  | sl h => rw [hu] at h; cases h
  | agg h => rw [hu] at h; cases h
theorem ty_bool (hu : P.underlying t = some .bool) (h : HasTy P t v) : ∃ b : Bool, v = .bool b := by
  cases h with
  | bool h b => exact ⟨b, rfl⟩
  | str h => rw [hu] at h; cases h
  | int h => rw [hu] at h; cases h
  | sl h => rw [hu] at h; cases h
  | agg h => rw [hu] at h; cases h
theorem ty_int {k : IntKind} (hu : P.underlying t = some (.int k)) (h : HasTy P t v) : ∃ n : Int, v = .int k n ∧ (Lit.int k n).wf = true := by
  cases h with
  | int h n hn => rw [hu] at h; cases h; exact ⟨n, rfl, hn⟩
  | str h => rw [hu] at h; cases h
  | bool h => rw [hu] at h; cases h
  | sl h => rw [hu] at h; cases h
  | agg h => rw [hu] at h; cases h
theorem ty_i64 (hu : P.underlying t = some (.int .i64)) (h : HasTy P t v) : ∃ n : Int, v = .int .i64 n ∧ -9223372036854775808 ≤ n ∧ n < 9223372036854775808 := by
  obtain ⟨n, rfl, hn⟩ := ty_int hu h
  refine ⟨n, rfl, ?_⟩
  have e : IntKind.i64.min = -9223372036854775808 := rfl
  simp [Lit.wf] at hn
  rw [e] at hn
  omega
theorem ty_u64 (hu : P.underlying t = some (.int .u64)) (h : HasTy P t v) : ∃ x : BitVec 64, v = .int .u64 (x.toNat : Int) := by
  obtain ⟨n, rfl, hn⟩ := ty_int hu h
  have e : IntKind.u64.min = 0 := rfl
  have e2 : IntKind.u64.max = 18446744073709551615 := rfl
  simp [Lit.wf] at hn
  rw [e, e2] at hn
  refine ⟨BitVec.ofNat 64 n.toNat, ?_⟩
  rw [BitVec.toNat_ofNat]
  congr 1
  omega
theorem ty_sl (hu : P.underlying t = some (.slice e)) (h : HasTy P t v) : ∃ xs : List AV, v = .sl xs ∧ xs.length ≤ maxLen ∧ ∀ x ∈ xs, HasTy P e x := by
  cases h with
  | sl h xs hl hx => rw [hu] at h; cases h; exact ⟨xs, rfl, hl, hx⟩
  | str h => rw [hu] at h; cases h
  | bool h => rw [hu] at h; cases h
  | int h => rw [hu] at h; cases h
  | agg h => rw [hu] at h; cases h
theorem ty_agg {fs : Array Field} (hu : P.underlying t = some (.struct fs)) (h : HasTy P t v) : ∃ vs : List AV, v = .agg (vs.flatMap AV.cells) ∧ HasTyL P fs.toList vs := by
  cases h with
  | agg h vs hv => rw [hu] at h; cases h; exact ⟨vs, rfl, hv⟩
  | str h => rw [hu] at h; cases h
  | bool h => rw [hu] at h; cases h
  | int h => rw [hu] at h; cases h
  | sl h => rw [hu] at h; cases h
theorem ty_map {α : Type} {f : α → AV} : ∀ {xs : List AV}, (∀ x ∈ xs, ∃ a, x = f a) → ∃ l : List α, xs = l.map f
  | [], _ => ⟨[], rfl⟩
  | x :: r, h => by
    obtain ⟨a, rfl⟩ := h x (by simp)
    obtain ⟨l, rfl⟩ := ty_map (xs := r) fun y hy => h y (by simp [hy])
    exact ⟨a :: l, rfl⟩
theorem whole_gs {H : Type} {enc : TypeId × Value → H} {ts : List TypeId} {vars : List String} (hv : vars = []) {apart : Bool} {W : World} {vs : List Value} {ds gs : List (DataW H)} {before : List MemPlace} (h : DataW.Whole enc P ts vars apart W vs ds gs before) : gs = [] := by
  obtain ⟨p, q, hA, hV, _⟩ := h
  rw [hv] at hV
  cases gs with
  | nil => rfl
  | cons g r => exact hV.elim
theorem avOf_str {H : Type} {d : DataW H} {s : List UInt8} (h : avOf d = .str s) : d = .lit (.string s) := by
  cases d with
  | lit l => cases l <;> simp [avOf] at h <;> simp [h]
  | _ => simp [avOf] at h
end
end Sz

/- Contracts of the library's as known calls. No program is named here. -/
namespace Sz
open Go Go.RowKit
variable {X : World → Prop}
section
variable {P : Program}
theorem Glob.shaped {φ : Phi} {h : Heap} {w : World} (g : Glob P X φ h w) : w.ShapedOpen P := by
  obtain ⟨w1, h1, h2⟩ := g
  have h3 : ({ w1 with os := w.os, output := w.output } : World).ShapedOpen P := World.ShapedOpen.of_heap rfl h1.1
  refine World.ShapedOpen.keptBut (may := fun _ => False) h3 ⟨rfl, rfl, fun i hi => ?_⟩ fun p hp => hp.elim
  have e := (h2 i hi).2.2
  show match w1.heap[i]?, w.heap[i]? with
    | some (.cells c t fr), some (.cells c' t' fr') => _
    | some (.map es clock), some (.map es' clock') => _
    | o, o' => _
  rw [e]
  cases w1.heap[i]? with
  | none => rfl
  | some o => cases o <;> simp
theorem str_inv {φ : Phi} {nx : Nat} {pr : Nat → Prop} {w : World} {s : List UInt8} {cv : Value} (h : RV φ nx pr w (.str s) cv) : cv = .string ⟨s.toArray⟩ := by
  obtain ⟨b, rfl, rfl⟩ := h.str_inv
  simp
theorem RV.str' {φ : Phi} {nx : Nat} {pr : Nat → Prop} {w : World} (s : List UInt8) : RV φ nx pr w (.str s) (.string ⟨s.toArray⟩) := RV.str_mk (by simp)
theorem argsL {φ : Phi} {h : Heap} {w : World} {args : List AV} {cargs : Array Value} (ha : ArgsR φ h w args cargs) : cargs.toList.length = args.length ∧ ∀ j (hj : j < args.length), RVh φ h w args[j] (cargs.toList.getD j default) := by
  refine ⟨by simpa using ha.1, fun j hj => ?_⟩
  have := ha.2 j hj
  have e : cargs.toList.getD j default = cargs.getD j default := by
    rw [List.getD_eq_getElem?_getD, Array.getD_eq_getD_getElem?]; simp
  rw [e]
  exact this
theorem args_one {φ : Phi} {h : Heap} {w : World} {x : AV} {cargs : Array Value} (ha : ArgsR φ h w [x] cargs) : ∃ cx, cargs = #[cx] ∧ RVh φ h w x cx := by
  obtain ⟨h1, h2⟩ := argsL ha
  obtain ⟨l⟩ := cargs
  match l, h1 with
  | [cx], _ => exact ⟨cx, rfl, h2 0 (by simp)⟩
theorem args_two {φ : Phi} {h : Heap} {w : World} {x y : AV} {cargs : Array Value} (ha : ArgsR φ h w [x, y] cargs) : ∃ cx cy, cargs = #[cx, cy] ∧ RVh φ h w x cx ∧ RVh φ h w y cy := by
  obtain ⟨h1, h2⟩ := argsL ha
  obtain ⟨l⟩ := cargs
  match l, h1 with
  | [cx, cy], _ => exact ⟨cx, cy, rfl, h2 0 (by simp), h2 1 (by simp)⟩
theorem prim_below {f : Nat} {args : List AV} {v : AV} (hent : ∀ cargs w, (callFunc f cargs).run P w = .ok (.enter f cargs) w)
    (hc : ∀ φ h w cargs, HR φ h w → Glob P X φ h w → ArgsR φ h w args cargs → Calls P f cargs w fun e w' => Below w.heap.size w w' ∧ ∃ cv, e = .returned cv ∧ RVh φ h w' v cv) : PrimOKX P X f args v := by
  intro φ h w cargs hr hG ha
  refine .inl ⟨hent _ _, (hc φ h w cargs hr hG ha).mono fun e w' ⟨hb, cv, he, hv⟩ => ?_⟩
  obtain ⟨s1, s2⟩ := same_ok hr hb.os hb.tape hb.output hb.size hb.block
  exact ⟨cv, he, hv, s1, s2, hb.block⟩
theorem prim_str {f : Nat} {s r : List UInt8} (hent : ∀ cargs w, (callFunc f cargs).run P w = .ok (.enter f cargs) w)
    (hc : ∀ w, w.ShapedOpen P → Calls P f #[.string ⟨s.toArray⟩] w fun e w' => e = .returned (.string ⟨r.toArray⟩) ∧ Below w.heap.size w w') : PrimOKX P X f [.str s] (.str r) :=
  prim_below hent fun φ h w cargs hr hG ha => by
    obtain ⟨cx, rfl, h1⟩ := args_one ha
    rw [str_inv h1]
    exact (hc w hG.shaped).mono fun e w' ⟨he, hb⟩ => ⟨hb, _, he, .str' r⟩
theorem prim_str2 {f : Nat} {s p r : List UInt8} (hent : ∀ cargs w, (callFunc f cargs).run P w = .ok (.enter f cargs) w)
    (hc : ∀ w, w.ShapedOpen P → Calls P f #[.string ⟨s.toArray⟩, .string ⟨p.toArray⟩] w fun e w' => e = .returned (.string ⟨r.toArray⟩) ∧ Below w.heap.size w w') : PrimOKX P X f [.str s, .str p] (.str r) :=
  prim_below hent fun φ h w cargs hr hG ha => by
    obtain ⟨cx, cy, rfl, h1, h2⟩ := args_two ha
    rw [str_inv h1, str_inv h2]
    exact (hc w hG.shaped).mono fun e w' ⟨he, hb⟩ => ⟨hb, _, he, .str' r⟩
theorem prim_strB {f : Nat} {s p : List UInt8} {r : Bool} (hent : ∀ cargs w, (callFunc f cargs).run P w = .ok (.enter f cargs) w)
    (hc : ∀ w, w.ShapedOpen P → Calls P f #[.string ⟨s.toArray⟩, .string ⟨p.toArray⟩] w fun e w' => e = .returned (.bool r) ∧ Below w.heap.size w w') : PrimOKX P X f [.str s, .str p] (.bool r) :=
  prim_below hent fun φ h w cargs hr hG ha => by
    obtain ⟨cx, cy, rfl, h1, h2⟩ := args_two ha
    rw [str_inv h1, str_inv h2]
    exact (hc w hG.shaped).mono fun e w' ⟨he, hb⟩ => ⟨hb, _, he, .bool r⟩
theorem prim_strI {f : Nat} {s p : List UInt8} {k : IntKind} {r : Int} (hent : ∀ cargs w, (callFunc f cargs).run P w = .ok (.enter f cargs) w)
    (hc : ∀ w, w.ShapedOpen P → Calls P f #[.string ⟨s.toArray⟩, .string ⟨p.toArray⟩] w fun e w' => e = .returned (.int k r) ∧ Below w.heap.size w w') : PrimOKX P X f [.str s, .str p] (.int k r) :=
  prim_below hent fun φ h w cargs hr hG ha => by
    obtain ⟨cx, cy, rfl, h1, h2⟩ := args_two ha
    rw [str_inv h1, str_inv h2]
    exact (hc w hG.shaped).mono fun e w' ⟨he, hb⟩ => ⟨hb, _, he, .int k r⟩
theorem rv_strs {φ : Phi} {h : Heap} {w : World} (hr : HR φ h w) (xs : List ByteArray) (el : TypeId) (cap : Nat) (hcap : xs.length ≤ cap) :
    RVh φ h (w.alloc (.cells (xs.map Value.string).toArray el)) (.sl (xs.map fun x => .str x.data.toList)) (.slice (some ⟨w.heap.size, 0, none⟩) xs.length cap) := by
  have hl : (xs.map fun x => AV.str x.data.toList).length = xs.length := by simp
  rw [← hl]
  refine .sl _ w.heap.size 0 cap 1 (fun i _ => .string (xs.getD i default)) ⟨?_, ?_, ?_⟩ (by rw [hl]; exact hcap) ?_ (fun _ _ => rfl) ?_ ?_ ?_
  · show w.heap.size < (w.heap.push _).size
    simp
  · intro id hlv e
    have := hr.blk_lt hlv
    omega
  · intro hgh
    have := (hr.gh _ hgh).1
    omega
  · have : ∀ l : List ByteArray, AV.refsL (l.map fun x => AV.str x.data.toList) = 0 := by
      intro l
      induction l with
      | nil => rfl
      | cons x r ih => simp [AV.refsL, AV.refs, ih]
    exact this xs
  · intro i hi
    simp [AV.cells?]
  · intro i j hi hj
    have hj0 : j = 0 := by omega
    subst hj0
    have hi' : i < xs.length := by simpa using hi
    have hb : (w.alloc (.cells (xs.map Value.string).toArray el)).heap[w.heap.size]? = some (.cells (xs.map Value.string).toArray el) := by
      show (w.heap.push _)[w.heap.size]? = _
      simp
    unfold World.cell?
    simp only [hb, Nat.zero_add, Nat.mul_one, Nat.add_zero]
    simp [hi']
  · intro i hi j hj
    have hi' : i < xs.length := by simpa using hi
    simp only [List.getElem_map, AV.cells] at hj ⊢
    have hj0 : j = 0 := by simpa using hj
    subst hj0
    have : xs.getD i default = xs[i] := by simp [List.getD, hi']
    rw [this]
    exact .str _
theorem below_alloc (w : World) (o : Obj) : Below w.heap.size w (w.alloc o) :=
  ⟨rfl, rfl, rfl, by show w.heap.size ≤ (w.heap.push o).size; simp, fun k hk => by show (w.heap.push o)[k]? = _; exact getElem?_push_lt hk⟩
theorem prim_strs {f : Nat} {s p : List UInt8} {xs : List ByteArray} {el : TypeId} (hent : ∀ cargs w, (callFunc f cargs).run P w = .ok (.enter f cargs) w)
    (hc : ∀ w, w.ShapedOpen P → Calls P f #[.string ⟨s.toArray⟩, .string ⟨p.toArray⟩] w fun e w' => e = .returned (.slice (some ⟨w.heap.size, 0, none⟩) xs.length xs.length) ∧ w' = w.alloc (.cells (xs.map Value.string).toArray el)) :
    PrimOKX P X f [.str s, .str p] (.sl (xs.map fun x => .str x.data.toList)) :=
  prim_below hent fun φ h w cargs hr hG ha => by
    obtain ⟨cx, cy, rfl, h1, h2⟩ := args_two ha
    rw [str_inv h1, str_inv h2]
    exact (hc w hG.shaped).mono fun e w' ⟨he, hb⟩ => by
      subst hb
      exact ⟨below_alloc _ _, _, he, rv_strs hr xs el _ (Nat.le_refl _)⟩
theorem prim_join {f : Nat} {xs : List (List UInt8)} {p r : List UInt8} (hent : ∀ cargs w, (callFunc f cargs).run P w = .ok (.enter f cargs) w)
    (h0 : xs = [] → ∀ a c w, Calls P f #[.slice a 0 c, .string ⟨p.toArray⟩] w fun e w' => e = .returned (.string ⟨r.toArray⟩) ∧ Below w.heap.size w w')
    (h1 : ∀ bk o c (w : World), (∀ (j : Nat) x, (xs.map fun x => (⟨x.toArray⟩ : ByteArray))[j]? = some x → w.cell? ⟨bk, o + j, none⟩ = some (.string x)) → bk < w.heap.size → xs.length ≤ c →
      Calls P f #[.slice (some ⟨bk, o, none⟩) xs.length c, .string ⟨p.toArray⟩] w fun e w' => e = .returned (.string ⟨r.toArray⟩) ∧ Below w.heap.size w w') :
    PrimOKX P X f [.sl (xs.map .str), .str p] (.str r) ∧ (xs = [] → PrimOKX P X f [.nils, .str p] (.str r)) := by
  refine ⟨prim_below hent fun φ h w cargs hr hG ha => ?_, fun hx => prim_below hent fun φ h w cargs hr hG ha => ?_⟩
  · obtain ⟨cx, cy, rfl, g1, g2⟩ := args_two ha
    rw [str_inv g2]
    have hl : (xs.map AV.str).length = xs.length := by simp
    rcases g1.sl_inv with ⟨ad, cap, e1, rfl⟩ | ⟨b, o, cap, sz, vs, rfl, hp, hcap, _, _, hsz, hcell, hv⟩
    · exact (h0 (by simpa using e1) ad cap w).mono fun e w' ⟨he, hb⟩ => ⟨hb, _, he, .str' r⟩
    · rw [hl] at hcap ⊢
      refine (h1 b o cap w (fun j x hj => ?_) hp.1 hcap).mono fun e w' ⟨he, hb⟩ => ⟨hb, _, he, .str' r⟩
      have hj' : j < xs.length := by
        have := (List.getElem?_eq_some_iff.1 hj).1
        simpa using this
      have hj2 : j < (xs.map AV.str).length := by simpa using hj'
      have h3 := hsz j hj2
      simp [AV.cells?] at h3
      subst h3
      have h4 := hcell j 0 hj2 (by omega)
      have h5 := hv j hj2 0 (by simp [AV.cells])
      simp only [List.getElem_map, AV.cells, List.getElem_cons_zero] at h5
      rw [str_inv h5] at h4
      simp only [Nat.mul_one, Nat.add_zero] at h4
      rw [h4]
      simp [hj'] at hj
      rw [hj]
  · obtain ⟨cx, cy, rfl, g1, g2⟩ := args_two ha
    rw [str_inv g2]
    obtain ⟨ad, rfl⟩ := g1.nils_inv
    exact (h0 hx ad 0 w).mono fun e w' ⟨he, hb⟩ => ⟨hb, _, he, .str' r⟩
end
end Sz

/- Known calls as tables. No program is named here. -/
namespace Sz
open Go
mutual
def AV.beq : AV → AV → Bool
  | .undef, .undef => true
  | .bool a, .bool b => a == b
  | .int k n, .int k' n' => decide (k = k') && decide (n = n')
  | .str a, .str b => decide (a = b)
  | .nilp, .nilp => true
  | .ip a, .ip b => AV.beqL a b
  | .nils, .nils => true
  | .sl a, .sl b => AV.beqL a b
  | .nilm, .nilm => true
  | .nilfn, .nilfn => true
  | .fn f a, .fn g b => f == g && AV.beqL a b
  | .nili, .nili => true
  | .iface t a, .iface u b => t == u && a.beq b
  | .agg a, .agg b => AV.beqL a b
  | .tuple a, .tuple b => AV.beqL a b
  | _, _ => false
def AV.beqL : List AV → List AV → Bool
  | [], [] => true
  | a :: r, b :: s => a.beq b && AV.beqL r s
  | _, _ => false
end
mutual
theorem AV.beq_eq : ∀ (a b : AV), a.beq b = true → a = b := fun a b h => by
  cases a <;> cases b <;> simp only [AV.beq, Bool.and_eq_true, beq_iff_eq, decide_eq_true_eq, Bool.false_eq_true] at h
  case bool.bool => exact congrArg _ h
  case int.int => obtain ⟨rfl, rfl⟩ := h; rfl
  case str.str => exact congrArg _ h
  case ip.ip => exact congrArg _ (AV.beqL_eq _ _ h)
  case sl.sl => exact congrArg _ (AV.beqL_eq _ _ h)
  case fn.fn => obtain ⟨rfl, h⟩ := h; exact congrArg _ (AV.beqL_eq _ _ h)
  case iface.iface => obtain ⟨rfl, h⟩ := h; exact congrArg _ (AV.beq_eq _ _ h)
  case agg.agg => exact congrArg _ (AV.beqL_eq _ _ h)
  case tuple.tuple => exact congrArg _ (AV.beqL_eq _ _ h)
  all_goals rfl
theorem AV.beqL_eq : ∀ (a b : List AV), AV.beqL a b = true → a = b := fun a b h => by
  cases a with
  | nil => cases b with
    | nil => rfl
    | cons _ _ => simp [AV.beqL] at h
  | cons x r => cases b with
    | nil => simp [AV.beqL] at h
    | cons y s =>
      simp only [AV.beqL, Bool.and_eq_true] at h
      rw [AV.beq_eq x y h.1, AV.beqL_eq r s h.2]
end
def lookT : List (List AV × AV) → List AV → Option AV
  | [], _ => none
  | e :: r, args => if AV.beqL e.1 args then some e.2 else lookT r args
def KSpec.tab (f : Nat) (l : List (List AV × AV)) : KSpec := ⟨f, lookT l⟩
theorem lookT_mem : ∀ {l : List (List AV × AV)} {args : List AV} {v : AV}, lookT l args = some v → (args, v) ∈ l
  | e :: r, args, v, h => by
    unfold lookT at h
    split at h
    · rename_i hb
      cases h
      rw [← AV.beqL_eq _ _ hb]
      simp
    · exact List.mem_cons_of_mem _ (lookT_mem h)
variable {X : World → Prop}
def KSpec.tabP (f : Nat) (a : AV) (l : List (List AV × AV)) : KSpec := ⟨f, fun | b :: r => if a.beq b then lookT l r else none | [] => none⟩
@[simp] theorem KSpec.tabP_f {f : Nat} {a : AV} {l : List (List AV × AV)} : (KSpec.tabP f a l).f = f := (rfl)
theorem KSpec.tabP_ok {P : Program} {f : Nat} {a : AV} {l : List (List AV × AV)} (h : ∀ e ∈ l, PrimOKX P X f (a :: e.1) e.2) : KSpecOKX P X (KSpec.tabP f a l) := fun args v hv => by
  unfold KSpec.tabP at hv ⊢
  dsimp only at hv ⊢
  split at hv
  · rename_i b r
    split at hv
    · rename_i hb
      rw [← AV.beq_eq _ _ hb]
      exact h (r, v) (lookT_mem hv)
    · cases hv
  · cases hv
theorem KSpec.tab_ok {P : Program} {f : Nat} {l : List (List AV × AV)} (h : ∀ e ∈ l, PrimOKX P X f e.1 e.2) : KSpecOKX P X (KSpec.tab f l) := fun args v hv => h (args, v) (lookT_mem hv)
@[simp] theorem KSpec.tab_f {f : Nat} {l : List (List AV × AV)} : (KSpec.tab f l).f = f := (rfl)
def runsTo (E : Env) (n f : Nat) : List (List AV × AV) → Bool
  | [] => true
  | e :: r => (match evCall E n f e.1 h0 with | some (v, _) => v.beq e.2 | none => false) && AV.refsL e.1 == 0 && e.2.refs == 0 && runsTo E n f r
theorem KSpec.tab_run {P : Program} {E : Env} (hE : EnvOKX P X E) {n f : Nat} : ∀ {l : List (List AV × AV)}, runsTo E n f l = true → ∀ e ∈ l, PrimOKX P X f e.1 e.2
  | e :: r, h, e', he => by
    simp only [runsTo, Bool.and_eq_true, beq_iff_eq] at h
    obtain ⟨⟨⟨h1, h2⟩, h3⟩, h4⟩ := h
    rcases List.mem_cons.1 he with rfl | he
    · cases h5 : evCall E n f e'.1 h0 with
      | none => rw [h5] at h1; simp at h1
      | some p =>
        obtain ⟨v, h'⟩ := p
        rw [h5] at h1
        have := AV.beq_eq _ _ h1
        subst this
        exact prim_of hE h5 h3 h2
    · exact KSpec.tab_run hE h4 e' he
end Sz

/- A machine in small steps: a closed run may be cut anywhere. No program is named here. -/
namespace Sz
open Go
inductive MK where
  | seq (n : Nat) (b : ACode)
  | block (id : Nat)
  | loop (n : Nat) (live : List Bool) (a : ACode) (n0 m wl : Nat)
  | call (n : Nat) (F : AFun) (h0 : Heap) (dst : Option Nat) (rest : List AStep) (fr : List AV)
  | dcall (n : Nat) (F : AFun) (h0 hb : Heap) (s : AStep) (acc : List (Nat × Heap × Heap)) (rest : List AStep) (chk : List (Nat × Nat)) (fr : List AV)
inductive MC where
  | code (c : ACode)
  | tr (acc : List (Nat × Heap × Heap)) (rest : List AStep) (chk : List (Nat × Nat))
inductive MS where
  | run (n : Nat) (c : MC) (fr : List AV) (h : Heap) (ks : List MK)
  | res (ex : Ex) (fr : List AV) (h : Heap) (ks : List MK)
def primE (E : Env) (f : Nat) (args : List AV) (h : Heap) : Option (AV × Heap) :=
  match (frzL (frz h 0 8) args).bind fun p => (E.prim f p.1).map fun v => (v, if scal v then h else kill h p.2) with
  | some r => some r
  | none => methA (E.meth f) (E.mcl f) args h
def callEnd (F : AFun) (h0 : Heap) : Option (Ex × List AV × Heap) → Option (AV × Heap)
  | some (.exit _, _, _) => none
  | some (_, fr, h') => (resAll fr h' F.results).map fun vs => finish F.keep h0 (oneOf vs) h'
  | none => none
theorem evCall_eq (E : Env) (n f : Nat) (args : List AV) (h : Heap) : evCall E (n + 1) f args h = (match primE E f args h with
    | some r => some r
    | none => match E.fn f with
      | none => none
      | some F => callEnd F h (evCode (evCall E n) n F.code (args ++ List.replicate (F.ntmps - args.length) .undef) { h with wl := h.next, md := h.next })) := by
  rw [evCall]
  unfold primE
  cases (frzL (frz h 0 8) args).bind fun p => (E.prim f p.1).map fun v => (v, if scal v then h else kill h p.2) with
  | some r => rfl
  | none => rfl
def loopEnd (n0 wl : Nat) (r : Ex × List AV × Heap) : Ex × List AV × Heap := (r.1, (gc n0 r.2.1 r.2.2).1, { (gc n0 r.2.1 r.2.2).2 with wl := min wl (gc n0 r.2.1 r.2.2).2.wl })
section
variable (E : Env)
def trDen (n : Nat) (acc : List (Nat × Heap × Heap)) (rest : List AStep) (chk : List (Nat × Nat)) (fr : List AV) (h : Heap) : Option (Ex × List AV × Heap) :=
  match evTr (evCall E n) rest fr h with
  | some (fr', h', tr) => if chkTr (acc ++ tr) chk then some (.normal, fr', h') else none
  | none => none
def MK.den : MK → Option (Ex × List AV × Heap) → Option (Ex × List AV × Heap)
  | .seq n b, r => (match r with
    | some (.normal, fr', h') => evCode (evCall E n) n b fr' h'
    | r => r)
  | .block id, r => (match r with
    | some (.exit i, fr', h') => some (if i = id then .normal else .exit i, fr', h')
    | r => r)
  | .loop n live a n0 m wl, r => (match r with
    | some (.normal, fr', h') => loopN (evCode (evCall E n) n a) live n0 m fr' h'
    | r => r).map (loopEnd n0 wl)
  | .call n F h0 dst rest fr, r => (match callEnd F h0 r with
    | some q => (evSteps (evCall E n) rest (putA fr dst q.1) q.2).map fun p => (.normal, p.1, p.2)
    | none => none)
  | .dcall n F h0 hb s acc rest chk fr, r => (match callEnd F h0 r with
    | some q => trDen E n (acc ++ [(ldId s fr, hb, q.2)]) rest chk (putA fr s.dst q.1) { q.2 with md := min hb.md q.2.md }
    | none => none)
def denK : List MK → Option (Ex × List AV × Heap) → Option (Ex × List AV × Heap)
  | [], r => r
  | k :: ks, r => denK ks (k.den E r)
def MS.den : MS → Option (Ex × List AV × Heap)
  | .run n (.code c) fr h ks => denK E ks (evCode (evCall E n) n c fr h)
  | .run n (.tr acc rest chk) fr h ks => denK E ks (trDen E n acc rest chk fr h)
  | .res ex fr h ks => denK E ks (some (ex, fr, h))
def enterM (n : Nat) (f : Nat) (args : List AV) (h : Heap) (known : AV × Heap → MS) (k : AFun → MK) (ks : List MK) : Option MS :=
  match n with
  | 0 => none
  | n + 1 => match primE E f args h with
    | some r => some (known r)
    | none => match E.fn f with
      | none => none
      | some F => some (.run n (.code F.code) (args ++ List.replicate (F.ntmps - args.length) .undef) { h with wl := h.next, md := h.next } (k F :: ks))
def stepR (n : Nat) (s : AStep) (rest : List AStep) (fr : List AV) (h : Heap) (ks : List MK) : Option MS :=
  match unwanted fr s.guard with
  | none => none
  | some true => some (.run n (.code (.reg rest)) (putA fr s.dst (.tuple [])) h ks)
  | some false =>
    match s.op with
    | .op o => (match evOp fr h o with
      | some p => some (.run n (.code (.reg rest)) (putA fr s.dst p.1) p.2 ks)
      | none => none)
    | .call f args => enterM E n f (args.map (·.ev fr)) h (fun r => .run n (.code (.reg rest)) (putA fr s.dst r.1) r.2 ks) (fun F => .call n F h s.dst rest fr) ks
    | .callv x args => (match x.ev fr with
      | .fn f caps => enterM E n f (args.map (·.ev fr) ++ caps) h (fun r => .run n (.code (.reg rest)) (putA fr s.dst r.1) r.2 ks) (fun F => .call n F h s.dst rest fr) ks
      | _ => none)
    | .kcall f => (match evCall E n f [] ⟨0, [], 0, 0⟩ with
      | some q => if q.1.refs = 0 then some (.run n (.code (.reg rest)) (putA fr s.dst q.1) h ks) else none
      | none => none)
def stepT (n : Nat) (acc : List (Nat × Heap × Heap)) (s : AStep) (rest : List AStep) (chk : List (Nat × Nat)) (fr : List AV) (h : Heap) (ks : List MK) : Option MS :=
  match unwanted fr s.guard with
  | none => none
  | some true => some (.run n (.tr (acc ++ [(ldId s fr, h, { h with md := h.next })]) rest chk) (putA fr s.dst (.tuple [])) { h with md := min h.md h.next } ks)
  | some false =>
    match s.op with
    | .op o => (match evOp fr { h with md := h.next } o with
      | some p => some (.run n (.tr (acc ++ [(ldId s fr, h, p.2)]) rest chk) (putA fr s.dst p.1) { p.2 with md := min h.md p.2.md } ks)
      | none => none)
    | .call f args => enterM E n f (args.map (·.ev fr)) { h with md := h.next } (fun r => .run n (.tr (acc ++ [(ldId s fr, h, r.2)]) rest chk) (putA fr s.dst r.1) { r.2 with md := min h.md r.2.md } ks) (fun F => .dcall n F { h with md := h.next } h s acc rest chk fr) ks
    | .callv x args => (match x.ev fr with
      | .fn f caps => enterM E n f (args.map (·.ev fr) ++ caps) { h with md := h.next } (fun r => .run n (.tr (acc ++ [(ldId s fr, h, r.2)]) rest chk) (putA fr s.dst r.1) { r.2 with md := min h.md r.2.md } ks) (fun F => .dcall n F { h with md := h.next } h s acc rest chk fr) ks
      | _ => none)
    | .kcall f => (match evCall E n f [] ⟨0, [], 0, 0⟩ with
      | some q => if q.1.refs = 0 then some (.run n (.tr (acc ++ [(ldId s fr, h, { h with md := h.next })]) rest chk) (putA fr s.dst q.1) { h with md := min h.md h.next } ks) else none
      | none => none)
def stepK (ex : Ex) (fr : List AV) (h : Heap) (ks : List MK) : MK → Option MS
  | .seq n b => (match ex with
    | .normal => some (.run n (.code b) fr h ks)
    | ex => some (.res ex fr h ks))
  | .block id => (match ex with
    | .exit i => some (.res (if i = id then .normal else .exit i) fr h ks)
    | ex => some (.res ex fr h ks))
  | .loop n live a n0 m wl => (match ex with
    | .normal => (match m with
      | 0 => none
      | m + 1 => some (.run n (.code a) (gc n0 (clear live fr) h).1 (gc n0 (clear live fr) h).2 (.loop n live a n0 m wl :: ks)))
    | ex => some (.res ex (gc n0 fr h).1 { (gc n0 fr h).2 with wl := min wl (gc n0 fr h).2.wl } ks))
  | .call n F h0 dst rest fr0 => (match callEnd F h0 (some (ex, fr, h)) with
    | some q => some (.run n (.code (.reg rest)) (putA fr0 dst q.1) q.2 ks)
    | none => none)
  | .dcall n F h0 hb s acc rest chk fr0 => (match callEnd F h0 (some (ex, fr, h)) with
    | some q => some (.run n (.tr (acc ++ [(ldId s fr0, hb, q.2)]) rest chk) (putA fr0 s.dst q.1) { q.2 with md := min hb.md q.2.md } ks)
    | none => none)
def stepC (n : Nat) (fr : List AV) (h : Heap) (ks : List MK) : ACode → Option MS
  | .skip => some (.res .normal fr h ks)
  | .reg [] => some (.res .normal fr h ks)
  | .reg (s :: rest) => stepR E n s rest fr h ks
  | .dreg ops chk => some (.run n (.tr [] ops chk) fr h ks)
  | .seq a b => some (.run n (.code a) fr h (.seq n b :: ks))
  | .cond c a b => (match c.ev fr with
    | .bool t => some (.run n (.code (if t then a else b)) fr h ks)
    | _ => none)
  | .block id a => some (.run n (.code a) fr h (.block id :: ks))
  | .loop live a => (match n with
    | 0 => none
    | m + 1 => some (.run (m + 1) (.code a) (gc h.next (clear live fr) { h with wl := h.next }).1 (gc h.next (clear live fr) { h with wl := h.next }).2 (.loop (m + 1) live a h.next m h.wl :: ks)))
  | .exit id live => some (.res (.exit id) (clear live fr) h ks)
  | .ret live => some (.res .ret (clear live fr) h ks)
def stepM : MS → Option MS
  | .run n (.code c) fr h ks => stepC E n fr h ks c
  | .run n (.tr acc (s :: rest) chk) fr h ks => stepT E n acc s rest chk fr h ks
  | .run _ (.tr acc [] chk) fr h ks => if chkTr acc chk then some (.res .normal fr h ks) else none
  | .res ex fr h (k :: ks) => stepK ex fr h ks k
  | .res _ _ _ [] => none
def runM : Nat → MS → Option MS
  | 0, s => some s
  | k + 1, s => match stepM E s with
    | some s' => runM k s'
    | none => none
end
section
variable {E : Env}
theorem enterM_ok {n f : Nat} {args : List AV} {h : Heap} {known : AV × Heap → MS} {k : AFun → MK} {ks : List MK} {s' : MS} (e : enterM E n f args h known k ks = some s') {D : Option (AV × Heap) → Option (Ex × List AV × Heap)}
    (h1 : ∀ r, (known r).den E = D (some r)) (h2 : ∀ F r, denK E (k F :: ks) r = D (callEnd F h r)) : D (evCall E n f args h) = s'.den E := by
  cases n with
  | zero => simp [enterM] at e
  | succ n =>
    simp only [enterM] at e
    rw [evCall_eq]
    cases hp : primE E f args h with
    | some r =>
      rw [hp] at e
      cases e
      exact (h1 r).symm
    | none =>
      rw [hp] at e
      dsimp only at e ⊢
      cases hF : E.fn f with
      | none => rw [hF] at e; cases e
      | some F =>
        rw [hF] at e
        cases e
        exact (h2 F _).symm
theorem stepR_ok {n : Nat} {s : AStep} {rest : List AStep} {fr : List AV} {h : Heap} {ks : List MK} {s' : MS} (e : stepR E n s rest fr h ks = some s') : denK E ks (evCode (evCall E n) n (.reg (s :: rest)) fr h) = s'.den E := by
  have hd : evCode (evCall E n) n (.reg (s :: rest)) fr h = (match evStep (evCall E n) s fr h with | some q => evCode (evCall E n) n (.reg rest) q.1 q.2 | none => none) := by
    simp only [evCode, evSteps]
    cases evStep (evCall E n) s fr h with
    | none => rfl
    | some q => rfl
  rw [hd]
  unfold stepR at e
  unfold evStep
  split at e
  · cases e
  · rename_i hu
    cases e
    rw [hu]
    rfl
  · rename_i hu
    rw [hu]
    dsimp only
    split at e
    · rename_i o ho
      rw [ho]
      dsimp only
      split at e
      · rename_i p hp
        cases e
        rw [hp]
        rfl
      · cases e
    · rename_i f args ho
      rw [ho]
      dsimp only
      refine Eq.trans ?_ (enterM_ok (D := fun r => denK E ks (match (r.map fun p => (putA fr s.dst p.1, p.2)) with | some q => evCode (evCall E n) n (.reg rest) q.1 q.2 | none => none)) e (fun r => rfl) fun F r => ?_)
      · rfl
      · show denK E ks (MK.den E _ r) = _
        simp only [MK.den]
        cases callEnd F h r with
        | none => rfl
        | some q => rfl
    · rename_i x args ho
      rw [ho]
      dsimp only
      split at e
      · rename_i f caps hx
        rw [hx]
        dsimp only
        refine Eq.trans ?_ (enterM_ok (D := fun r => denK E ks (match (r.map fun p => (putA fr s.dst p.1, p.2)) with | some q => evCode (evCall E n) n (.reg rest) q.1 q.2 | none => none)) e (fun r => rfl) fun F r => ?_)
        · rfl
        · show denK E ks (MK.den E _ r) = _
          simp only [MK.den]
          cases callEnd F h r with
          | none => rfl
          | some q => rfl
      · cases e
    · rename_i f ho
      rw [ho]
      dsimp only
      split at e
      · rename_i q hq
        split at e
        · rename_i h0
          cases e
          rw [hq]
          dsimp only
          rw [if_pos h0]
          rfl
        · cases e
      · cases e
theorem stepT_ok {n : Nat} {acc : List (Nat × Heap × Heap)} {s : AStep} {rest : List AStep} {chk : List (Nat × Nat)} {fr : List AV} {h : Heap} {ks : List MK} {s' : MS} (e : stepT E n acc s rest chk fr h ks = some s') : denK E ks (trDen E n acc (s :: rest) chk fr h) = s'.den E := by
  have hd : trDen E n acc (s :: rest) chk fr h = (match evStep (evCall E n) s fr { h with md := h.next } with | some q => trDen E n (acc ++ [(ldId s fr, h, q.2)]) rest chk q.1 { q.2 with md := min h.md q.2.md } | none => none) := by
    simp only [trDen, evTr]
    cases evStep (evCall E n) s fr { h with md := h.next } with
    | none => rfl
    | some q =>
      obtain ⟨fr', h'⟩ := q
      dsimp only
      cases evTr (evCall E n) rest fr' { h' with md := min h.md h'.md } with
      | none => rfl
      | some p => simp only [Option.map_some, List.append_assoc, List.singleton_append]
  rw [hd]
  unfold stepT at e
  unfold evStep
  split at e
  · cases e
  · rename_i hu
    cases e
    rw [hu]
    rfl
  · rename_i hu
    rw [hu]
    dsimp only
    split at e
    · rename_i o ho
      rw [ho]
      dsimp only
      split at e
      · rename_i p hp
        cases e
        rw [hp]
        rfl
      · cases e
    · rename_i f args ho
      rw [ho]
      dsimp only
      refine Eq.trans ?_ (enterM_ok (D := fun r => denK E ks (match (r.map fun p => (putA fr s.dst p.1, p.2)) with | some q => trDen E n (acc ++ [(ldId s fr, h, q.2)]) rest chk q.1 { q.2 with md := min h.md q.2.md } | none => none)) e (fun r => rfl) fun F r => ?_)
      · rfl
      · show denK E ks (MK.den E _ r) = _
        simp only [MK.den]
        cases callEnd F { h with md := h.next } r with
        | none => rfl
        | some q => rfl
    · rename_i x args ho
      rw [ho]
      dsimp only
      split at e
      · rename_i f caps hx
        rw [hx]
        dsimp only
        refine Eq.trans ?_ (enterM_ok (D := fun r => denK E ks (match (r.map fun p => (putA fr s.dst p.1, p.2)) with | some q => trDen E n (acc ++ [(ldId s fr, h, q.2)]) rest chk q.1 { q.2 with md := min h.md q.2.md } | none => none)) e (fun r => rfl) fun F r => ?_)
        · rfl
        · show denK E ks (MK.den E _ r) = _
          simp only [MK.den]
          cases callEnd F { h with md := h.next } r with
          | none => rfl
          | some q => rfl
      · cases e
    · rename_i f ho
      rw [ho]
      dsimp only
      split at e
      · rename_i q hq
        split at e
        · rename_i h0
          cases e
          rw [hq]
          dsimp only
          rw [if_pos h0]
          rfl
        · cases e
      · cases e
theorem stepK_ok {ex : Ex} {fr : List AV} {h : Heap} {ks : List MK} {k : MK} {s' : MS} (e : stepK ex fr h ks k = some s') : denK E (k :: ks) (some (ex, fr, h)) = s'.den E := by
  show denK E ks (k.den E (some (ex, fr, h))) = _
  cases k with
  | seq n b => cases ex <;> (simp only [stepK, Option.some.injEq] at e; subst e; rfl)
  | block id => cases ex <;> (simp only [stepK, Option.some.injEq] at e; subst e; rfl)
  | loop n live a n0 m wl =>
    cases ex with
    | normal =>
      simp only [stepK] at e
      cases m with
      | zero => simp at e
      | succ m =>
        simp only [Option.some.injEq] at e
        subst e
        simp only [MK.den, MS.den, denK]
        conv => lhs; rw [loopN]
        rfl
    | exit i => simp only [stepK, Option.some.injEq] at e; subst e; rfl
    | ret => simp only [stepK, Option.some.injEq] at e; subst e; rfl
  | call n F h0 dst rest fr0 =>
    simp only [stepK] at e
    split at e
    · rename_i q hq
      cases e
      simp only [MK.den, hq]
      rfl
    · cases e
  | dcall n F h0 hb s acc rest chk fr0 =>
    simp only [stepK] at e
    split at e
    · rename_i q hq
      cases e
      simp only [MK.den, hq]
      rfl
    · cases e
theorem stepC_ok {n : Nat} {fr : List AV} {h : Heap} {ks : List MK} {c : ACode} {s' : MS} (e : stepC E n fr h ks c = some s') : denK E ks (evCode (evCall E n) n c fr h) = s'.den E := by
  cases c with
  | skip => simp only [stepC, Option.some.injEq] at e; subst e; rfl
  | reg ops =>
    cases ops with
    | nil => simp only [stepC, Option.some.injEq] at e; subst e; rfl
    | cons s rest => exact stepR_ok e
  | dreg ops chk =>
    simp only [stepC, Option.some.injEq] at e
    subst e
    rfl
  | seq a b => simp only [stepC, Option.some.injEq] at e; subst e; rfl
  | cond c a b =>
    simp only [stepC] at e
    split at e
    · rename_i t ht
      cases e
      simp only [evCode, ht]
      cases t <;> rfl
    · cases e
  | block id a => simp only [stepC, Option.some.injEq] at e; subst e; rfl
  | loop live a =>
    cases n with
    | zero => simp [stepC] at e
    | succ m =>
      simp only [stepC, Option.some.injEq] at e
      subst e
      simp only [MK.den, MS.den, denK, evCode]
      conv => lhs; rw [loopN]
      rfl
  | exit id live => simp only [stepC, Option.some.injEq] at e; subst e; rfl
  | ret live => simp only [stepC, Option.some.injEq] at e; subst e; rfl
theorem stepM_ok {s s' : MS} (e : stepM E s = some s') : s.den E = s'.den E := by
  cases s with
  | run n c fr h ks =>
    cases c with
    | code c => exact stepC_ok e
    | tr acc rest chk =>
      cases rest with
      | nil =>
        simp only [stepM] at e
        split at e
        · rename_i hc
          cases e
          simp only [MS.den, trDen, evTr, List.append_nil, hc, if_true]
        · cases e
      | cons s rest => exact stepT_ok e
  | res ex fr h ks =>
    cases ks with
    | nil => simp [stepM] at e
    | cons k ks => exact stepK_ok e
theorem runM_ok : ∀ {k : Nat} {s s' : MS}, runM E k s = some s' → s.den E = s'.den E
  | 0, s, s', e => by
    simp only [runM, Option.some.injEq] at e
    rw [e]
  | k + 1, s, s', e => by
    simp only [runM] at e
    split at e
    · rename_i s1 h1
      rw [stepM_ok h1]
      exact runM_ok e
    · cases e
theorem mach_call {n f : Nat} {args : List AV} {h : Heap} {F : AFun} {s : MS} {ex : Ex} {fr : List AV} {h' : Heap} {r : AV × Heap} (hp : primE E f args h = none) (hF : E.fn f = some F)
    (hs : (MS.run n (.code F.code) (args ++ List.replicate (F.ntmps - args.length) .undef) { h with wl := h.next, md := h.next } []).den E = s.den E) (hr : s = .res ex fr h' []) (he : callEnd F h (some (ex, fr, h')) = some r) : evCall E (n + 1) f args h = some r := by
  rw [evCall_eq, hp, hF]
  dsimp only
  rw [← he]
  subst hr
  exact congrArg _ hs
theorem mach_run {n f : Nat} {args : List AV} {h : Heap} {F : AFun} {s0 s : MS} {ex : Ex} {fr : List AV} {h' : Heap} {r : AV × Heap} (hp : primE E f args h = none) (hF : E.fn f = some F)
    (h0 : MS.run n (.code F.code) (args ++ List.replicate (F.ntmps - args.length) .undef) { h with wl := h.next, md := h.next } [] = s0)
    (hs : s0.den E = s.den E) (hr : s = .res ex fr h' []) (he : callEnd F h (some (ex, fr, h')) = some r) : evCall E (n + 1) f args h = some r :=
  mach_call hp hF (by rw [h0]; exact hs) hr he
end
def ACode.at : ACode → List Nat → ACode
  | c, [] => c
  | .seq a _, 0 :: r => a.at r
  | .seq _ b, 1 :: r => b.at r
  | .cond _ a _, 0 :: r => a.at r
  | .cond _ _ b, 1 :: r => b.at r
  | .block _ a, 0 :: r => a.at r
  | .loop _ a, 0 :: r => a.at r
  | .reg ops, k :: _ => .reg (ops.drop k)
  | .dreg ops chk, k :: _ => .dreg (ops.drop k) chk
  | _, _ => .skip
def ACode.ops : ACode → List AStep
  | .reg o => o
  | .dreg o _ => o
  | _ => []
def ACode.chk : ACode → List (Nat × Nat)
  | .dreg _ c => c
  | _ => []
def ACode.lv : ACode → List Bool
  | .loop l _ => l
  | _ => []
def ACode.s0 (c : ACode) : AStep := c.ops.headD ⟨none, .op .die, none⟩
end Sz
