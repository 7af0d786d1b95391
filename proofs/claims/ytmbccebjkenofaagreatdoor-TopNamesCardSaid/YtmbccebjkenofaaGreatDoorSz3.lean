import Derived.Test.YtmbccebjkenofaaGreatDoorSz2
import Derived.Tactics
set_option linter.unusedVariables false
set_option linter.unusedSimpArgs false
set_option linter.unusedSectionVars false

/- Regions whose order is drawn: every order answers as the text's order does. No program is named here. -/
namespace Sz
open Go
def SS (listed : Array Bool) (i : Nat) : Prop := listed.getD i false = true
theorem SS_set {listed : Array Bool} {i : Nat} (hi : i < listed.size) (j : Nat) : SS (listed.setIfInBounds i true) j ↔ j = i ∨ SS listed j := by
  unfold SS
  by_cases h : i = j
  · subst h
    simp [hi]
  · rw [getD_set_ne false h]
    constructor
    · exact .inr
    · rintro (e | e)
      · exact absurd e.symm h
      · exact e
def unl (n : Nat) (listed : Array Bool) : Nat := (List.range n).countP fun i => !listed.getD i false
theorem countP_lt {α : Type} {p q : α → Bool} : ∀ {l : List α}, (∀ x ∈ l, q x = true → p x = true) → (∃ x ∈ l, p x = true ∧ q x = false) → l.countP q < l.countP p
  | [], _, h => by obtain ⟨x, hx, _⟩ := h; cases hx
  | y :: l, h, ⟨x, hx, h1, h2⟩ => by
    have hle : l.countP q ≤ l.countP p := List.countP_mono_left fun z hz hq => h z (List.mem_cons_of_mem _ hz) hq
    rw [List.countP_cons, List.countP_cons]
    by_cases e : x = y
    · subst e
      simp [h1, h2]
      omega
    · have hx' : x ∈ l := by
        cases hx with
        | head => exact absurd rfl e
        | tail _ h => exact h
      have := countP_lt (l := l) (fun z hz => h z (List.mem_cons_of_mem _ hz)) ⟨x, hx', h1, h2⟩
      have hy := h y List.mem_cons_self
      cases hq : q y
      · simp; omega
      · simp [hy hq]; omega
theorem unl_set {n : Nat} {listed : Array Bool} {i : Nat} (hi : i < n) (hs : i < listed.size) (hns : ¬ SS listed i) : unl n (listed.setIfInBounds i true) < unl n listed := by
  refine countP_lt (fun j _ hj => ?_) ⟨i, List.mem_range.2 hi, ?_, ?_⟩
  · simp only [Bool.not_eq_true'] at hj ⊢
    cases hx : listed.getD j false
    · rfl
    · have : SS (listed.setIfInBounds i true) j := (SS_set hs j).2 (.inr hx)
      rw [show _ = true from this] at hj
      exact hj
  · simp only [Bool.not_eq_true']
    cases hx : listed.getD i false
    · rfl
    · exact absurd hx hns
  · have : SS (listed.setIfInBounds i true) i := (SS_set hs i).2 (.inl rfl)
    rw [show _ = true from this]
    rfl
theorem unl_zero {n : Nat} {listed : Array Bool} (h : unl n listed = 0) {i : Nat} (hi : i < n) : SS listed i := by
  unfold unl at h
  rw [List.countP_eq_zero] at h
  have := h i (List.mem_range.2 hi)
  simpa [SS] using this
section
variable {P : Program} {C : Nat → List AV → Heap → Option (AV × Heap)} {ops : Array Oper} {ss : List AStep} {b : List Nat}
structure DStat (P : Program) (ops : Array Oper) (ss : List AStep) (b : List Nat) : Prop where
  len : ss.length = ops.size
  comp : ∀ (i : Nat) (o : Oper), ops[i]? = some o → ∃ s : AStep, ss[i]? = some s ∧ compStep P ops o = some s
  bef : ∀ (i : Nat) (o : Oper), ops[i]? = some o → b.getD i 0 = clo b o.after.toList
  back : ∀ (i : Nat) (o : Oper), ops[i]? = some o → ∀ e ∈ o.after, Region.binds .any e = true → e.on < i
  uniq : ∀ (i j : Nat) (s r : AStep) (d : Nat), ss[i]? = some s → ss[j]? = some r → s.dst = some d → r.dst = some d → i = j
  ord : ∀ (i j : Nat) (s r : AStep), i < j → ss[i]? = some s → ss[j]? = some r → s.eff = true → r.eff = true → bt b i j = true ∨ r.pend = true
  ldo : ∀ (i j : Nat) (s r : AStep), ss[i]? = some s → ss[j]? = some r → s.isLd = true → r.pend = true → j < i → bt b j i = true → ∀ (e : Nat) (q : AStep), ss[e]? = some q → e < j → q.eff = true → bt b e i = true
  rd : ∀ (i j : Nat) (s r : AStep) (d : Nat), i ≠ j → ss[i]? = some s → ss[j]? = some r → r.dst = some d → d ∈ s.reads →
    (j < i ∧ bt b j i = true ∧ (r.pend = true → ∀ (e : Nat) (q : AStep), ss[e]? = some q → e < j → q.eff = true → bt b e i = true)) ∨ (i < j ∧ bt b i j = true)
theorem clo_testBit {i : Nat} : ∀ {l : List Edge}, (clo b l).testBit i = true → ∃ e ∈ l, Region.binds .any e = true ∧ (e.on = i ∨ bt b i e.on = true)
  | [], h => by simp [clo] at h
  | e :: r, h => by
    unfold clo at h
    split at h
    · rename_i hb
      rw [Nat.testBit_or, Nat.testBit_or, Nat.testBit_two_pow, Bool.or_eq_true, Bool.or_eq_true] at h
      rcases h with (h | h) | h
      · exact ⟨e, by simp, hb, .inl (by simpa using h)⟩
      · exact ⟨e, by simp, hb, .inr h⟩
      · obtain ⟨e', h1, h2⟩ := clo_testBit h
        exact ⟨e', List.mem_cons_of_mem _ h1, h2⟩
    · obtain ⟨e', h1, h2⟩ := clo_testBit h
      exact ⟨e', List.mem_cons_of_mem _ h1, h2⟩
def Closed (ops : Array Oper) (S : Nat → Prop) : Prop := ∀ (j : Nat) (o : Oper), ops[j]? = some o → S j → ∀ e ∈ o.after, Region.binds .any e = true → S e.on
theorem bt_closed (st : DStat P ops ss b) {S : Nat → Prop} (hc : Closed ops S) : ∀ (n j i : Nat), j < n → ∀ o, ops[j]? = some o → (∀ e ∈ o.after, Region.binds .any e = true → S e.on) → bt b i j = true → S i
  | 0, j, i, hj, _, _, _, _ => by omega
  | n + 1, j, i, hj, o, ho, he, hb => by
    unfold bt at hb
    rw [st.bef j o ho] at hb
    obtain ⟨e, h1, h2, h3⟩ := clo_testBit hb
    have h1' : e ∈ o.after := by simpa using h1
    rcases h3 with rfl | h3
    · exact he e h1' h2
    · have hlt := st.back j o ho e h1' h2
      have hjs : j < ops.size := (Array.getElem?_eq_some_iff.1 ho).1
      have hoe : ops[e.on]? = some ops[e.on] := Array.getElem?_eq_getElem (by omega)
      exact bt_closed st hc n e.on i (by omega) _ hoe (hc e.on _ hoe (he e h1' h2)) h3
structure Tr (C : Nat → List AV → Heap → Option (AV × Heap)) (ss : List AStep) (b : List Nat) (F : Nat → List AV) (H : Nat → Heap) : Prop where
  st : ∀ (i : Nat) (s : AStep), ss[i]? = some s → ∃ hin hout, evStep C s (F i) hin = some (F (i + 1), hout) ∧ (H i).alike hin ∧ hout.alike (H (i + 1))
  ld : ∀ (i j : Nat) (s r : AStep) (n : Option Nat) (x : Opd) (id off : Nat), ss[i]? = some s → ss[j]? = some r → s.op = .op (.ld n x) → x.ev (F i) = .ptr id off → r.eff = true → bt b i j = false → bt b j i = false → (H (j + 1)).get id = (H j).get id
variable {F : Nat → List AV} {H : Nat → Heap}
theorem Tr.put (T : Tr C ss b F H) {i : Nat} {s : AStep} (hs : ss[i]? = some s) : ∃ v, F (i + 1) = putA (F i) s.dst v := by
  obtain ⟨hin, hout, e, _⟩ := T.st i s hs
  obtain ⟨v, e1, _⟩ := evStep_congr (fr' := F i) (fun _ _ => rfl) e
  exact ⟨v, e1⟩
theorem putA_length (fr : List AV) (d : Option Nat) (v : AV) : (putA fr d v).length = fr.length := by cases d <;> simp [putA]
theorem putA_other {fr : List AV} {d : Option Nat} {v : AV} {t : Nat} (h : d ≠ some t) : (putA fr d v).getD t .undef = fr.getD t .undef := by
  cases d with
  | none => rfl
  | some d =>
    have hne : d ≠ t := fun e => h (by rw [e])
    simp [putA, List.getD_eq_getElem?_getD, List.getElem?_set_ne hne]
theorem putA_same {fr fr' : List AV} {d : Nat} {v : AV} (hl : fr'.length = fr.length) : (putA fr' (some d) v).getD d .undef = (putA fr (some d) v).getD d .undef := by
  simp [putA, List.getD_eq_getElem?_getD, List.getElem?_set, hl]
theorem Tr.len (T : Tr C ss b F H) : ∀ i, i ≤ ss.length → (F i).length = (F 0).length
  | 0, _ => rfl
  | i + 1, hi => by
    obtain ⟨v, e⟩ := T.put (List.getElem?_eq_getElem (show i < ss.length by omega))
    rw [e, putA_length]
    exact T.len i (by omega)
theorem Tr.keep (T : Tr C ss b F H) {d i : Nat} : ∀ (m : Nat), i + m ≤ ss.length → (∀ (j : Nat) (s : AStep), i ≤ j → j < i + m → ss[j]? = some s → s.dst ≠ some d) → (F (i + m)).getD d .undef = (F i).getD d .undef
  | 0, _, _ => rfl
  | m + 1, hl, hno => by
    have hs := List.getElem?_eq_getElem (show i + m < ss.length by omega)
    obtain ⟨v, e⟩ := T.put hs
    rw [show i + (m + 1) = (i + m) + 1 by omega, e, putA_other (hno (i + m) _ (by omega) (by omega) hs)]
    exact T.keep m (by omega) fun j s h1 h2 => hno j s h1 (by omega)
theorem Tr.heap_still (T : Tr C ss b F H) {i : Nat} {s : AStep} (hs : ss[i]? = some s) (he : s.eff = false) : (H i).alike (H (i + 1)) := by
  obtain ⟨hin, hout, e, a1, a2⟩ := T.st i s hs
  obtain ⟨rfl, _⟩ := evStep_still he e (h2 := hin) fun _ _ _ _ _ _ => rfl
  exact a1.trans a2
def PendAt (F : Nat → List AV) (H : Nat → Heap) (φ0 φ : Phi) (pe : Nat → PE) (k : Nat) (a : Act) (w : World) (i : Nat) (s : AStep) : Prop :=
  ∃ cs, ∃ vf : Nat → AV, ((H i).alloc (.row cs)).alike (H (i + 1)) ∧ F (i + 1) = putA (F i) s.dst (vf (H i).next) ∧ GRow φ (H k) w (pe i) cs ∧ φ.gh (pe i).blk ∧ ¬ φ0.gh (pe i).blk ∧
    ∀ d, s.dst = some d → d < (F 0).length → VAt (pe i) vf (a.tmps.getD d undef)
structure DI (ops : Array Oper) (ss : List AStep) (F : Nat → List AV) (H : Nat → Heap) (φ0 : Phi) (w0 : World) (d0 : List Deferred) (listed : Array Bool) (φ : Phi) (pe : Nat → PE) (cu : List AV) (k : Nat) (a : Act) (w : World) : Prop where
  sz : listed.size = ss.length
  cl : Closed ops (SS listed)
  kn : k ≤ ss.length
  lo : ∀ (i : Nat) (s : AStep), i < k → ss[i]? = some s → s.eff = true → SS listed i
  hi : ∀ (i : Nat) (s : AStep), k ≤ i → ss[i]? = some s → s.eff = true → SS listed i → s.pend = true
  hr : HR φ (H k) w
  fr : FR φ (H k) w cu a.tmps
  ex : Ex0 φ0 (H 0) w0 φ (H k) w
  cl0 : cu.length = (F 0).length
  w1 : ∀ (i : Nat) (s : AStep) (d : Nat), ss[i]? = some s → s.dst = some d → SS listed i → (s.pend = true → i < k) → cu.getD d .undef = (F ss.length).getD d .undef
  w2 : ∀ (i : Nat) (s : AStep) (d : Nat), ss[i]? = some s → s.dst = some d → ¬ SS listed i → cu.getD d .undef = (F 0).getD d .undef
  w3 : ∀ d : Nat, (∀ (i : Nat) (s : AStep), ss[i]? = some s → s.dst ≠ some d) → cu.getD d .undef = (F 0).getD d .undef
  pend : ∀ (i : Nat) (s : AStep), k ≤ i → ss[i]? = some s → s.pend = true → SS listed i → PendAt F H φ0 φ pe k a w i s
  inj : ∀ (i j : Nat) (s r : AStep), k ≤ i → k ≤ j → ss[i]? = some s → ss[j]? = some r → s.pend = true → r.pend = true → SS listed i → SS listed j → (pe i).blk = (pe j).blk → i = j
  gh : ∀ x, φ.gh x → φ0.gh x ∨ ∃ (i : Nat) (s : AStep), k ≤ i ∧ ss[i]? = some s ∧ s.pend = true ∧ SS listed i ∧ x = (pe i).blk
  gh0 : ∀ x, φ0.gh x → φ.gh x ∧ w.heap[x]? = w0.heap[x]?
  df : a.defers = d0
theorem pend_eff {s : AStep} (h : s.pend = true) : s.eff = true := by
  unfold AStep.pend at h
  unfold AStep.eff
  split at h
  · rename_i hop; rw [hop]; rfl
  · rename_i hop; rw [hop]; rfl
  · rename_i hop; rw [hop]; rfl
  · cases h
theorem FR.retell {φ : Phi} {h : Heap} {w : World} {fr : List AV} {tm : Array Value} (hf : FR φ h w fr tm) {d : Nat} {v : AV} (hv : RVh φ h w v (tm.getD d undef)) : FR φ h w (fr.set d v) tm := by
  have := hf.put hv d
  have e : tm.setIfInBounds d (tm.getD d undef) = tm := by
    apply Array.ext
    · simp
    · intro j h1 h2
      rw [Array.getElem_setIfInBounds]
      split
      · rename_i e; subst e; simp [Array.getD, h2]
      · rfl
  rw [e] at this
  exact this
variable {φ0 : Phi} {w0 : World} {d0 : List Deferred}
theorem DI.advance (T : Tr C ss b F H) (st : DStat P ops ss b) : ∀ (m : Nat) {listed : Array Bool} {φ : Phi} {pe : Nat → PE} {cu : List AV} {k : Nat} {a : Act} {w : World}, ss.length ≤ k + m → DI ops ss F H φ0 w0 d0 listed φ pe cu k a w →
    ∃ φ' cu' k', DI ops ss F H φ0 w0 d0 listed φ' pe cu' k' a w ∧ (k' < ss.length → ∃ s : AStep, ss[k']? = some s ∧ s.eff = true ∧ ¬ SS listed k')
  | m, listed, φ, pe, cu, k, a, w, hm, D => by
    rcases Nat.lt_or_ge k ss.length with hk | hk
    case inr => exact ⟨φ, cu, k, D, fun h => by omega⟩
    have hs := List.getElem?_eq_getElem hk
    by_cases hS : ss[k].eff = true ∧ ¬ SS listed k
    · exact ⟨φ, cu, k, D, fun _ => ⟨_, hs, hS.1, hS.2⟩⟩
    · cases m with
      | zero => omega
      | succ m =>
        by_cases he : ss[k].eff = true
        · have hSk : SS listed k := Classical.byContradiction fun h => hS ⟨he, h⟩
          have hp := D.hi k _ (Nat.le_refl _) hs he hSk
          obtain ⟨cs, vf, q1, q2, q3, q4, q5, q6⟩ := D.pend k _ (Nat.le_refl _) hs hp hSk
          obtain ⟨r1, r2⟩ := reg_row D.hr q3 q4
          obtain ⟨r3, r4⟩ := r1.alike q1
          have x := r2.trans r4.ex0
          refine DI.advance T st m (k := k + 1) (φ := ⟨fun id => if id = (H k).next then pe k else φ id, fun y => φ.gh y ∧ y ≠ (pe k).blk⟩) (cu := putA cu ss[k].dst (vf (H k).next)) (by omega) ?_
          have hnx : (H (k + 1)).next = (H k).next + 1 := by rw [q1.1]; rfl
          refine ⟨D.sz, D.cl, hk, fun i s h1 h2 h3 => ?_, fun i s h1 h2 h3 h4 => D.hi i s (by omega) h2 h3 h4, r3, ?_, D.ex.trans x, by rw [putA_length]; exact D.cl0, fun i s d h1 h2 h3 h4 => ?_, fun i s d h1 h2 h3 => ?_, fun d h1 => ?_,
            fun i s h1 h2 h3 h4 => ?_, fun i j s r h1 h2 => D.inj i j s r (by omega) (by omega), fun y hy => ?_, fun y hy => ?_, D.df⟩
          · rcases Nat.lt_or_ge i k with h | h
            · exact D.lo i s h h2 h3
            · obtain rfl : i = k := by omega
              exact hSk
          · cases hd : ss[k].dst with
            | none => exact D.fr.ex0 x
            | some d =>
              rcases Nat.lt_or_ge d (F 0).length with hdl | hdl
              · refine (D.fr.ex0 x).retell ?_
                exact q6 d hd hdl _ _ _ _ (H k).next (by simp) (by omega)
              · have e : putA cu (some d) (vf (H k).next) = cu := by
                  simp only [putA]
                  exact List.set_eq_of_length_le (by rw [D.cl0]; exact hdl)
                rw [e]
                exact D.fr.ex0 x
          · by_cases hik : i = k
            · subst hik
              have e1 : (F ss.length).getD d .undef = (F (i + 1)).getD d .undef := by
                have := T.keep (d := d) (i := i + 1) (ss.length - (i + 1)) (by omega) fun j r g1 g2 g3 g4 => by
                  have := st.uniq i j s r d h1 g3 h2 g4
                  omega
                rw [show i + 1 + (ss.length - (i + 1)) = ss.length by omega] at this
                exact this
              have es : ss[i] = s := by rw [hs] at h1; exact Option.some.inj h1
              rw [e1, q2, es, h2]
              exact putA_same (by rw [D.cl0, T.len i (by omega)])
            · rw [putA_other (fun e => hik (st.uniq i k s _ d h1 hs h2 e))]
              exact D.w1 i s d h1 h2 h3 fun h => by have := h4 h; omega
          · rw [putA_other (fun e => h3 ((st.uniq i k s _ d h1 hs h2 e) ▸ hSk))]
            exact D.w2 i s d h1 h2 h3
          · rw [putA_other (h1 k _ hs)]
            exact D.w3 d h1
          · obtain ⟨cs', vf', p1, p2, p3, p4, p5, p6⟩ := D.pend i s (by omega) h2 h3 h4
            refine ⟨cs', vf', p1, p2, p3.ex0 x rfl, ⟨p4, fun e => ?_⟩, p5, p6⟩
            have := D.inj i k s _ (by omega) (Nat.le_refl _) h2 hs h3 hp h4 hSk e
            omega
          · rcases D.gh y hy.1 with h | ⟨i, s, h1, h2, h3, h4, h5⟩
            · exact .inl h
            · refine .inr ⟨i, s, ?_, h2, h3, h4, h5⟩
              rcases Nat.lt_or_ge k i with h | h
              · exact h
              · obtain rfl : i = k := by omega
                exact absurd h5 hy.2
          · obtain ⟨g1, g2⟩ := D.gh0 y hy
            exact ⟨⟨g1, fun e => q5 (e ▸ hy)⟩, g2⟩
        · have he : ss[k].eff = false := by simpa using he
          have hnp : ss[k].pend = false := by
            cases hp : ss[k].pend with
            | false => rfl
            | true => rw [pend_eff hp] at he; cases he
          have al := T.heap_still hs he
          obtain ⟨r1, r2⟩ := D.hr.alike al
          refine DI.advance T st m (k := k + 1) (φ := φ) (cu := cu) (by omega) ?_
          refine ⟨D.sz, D.cl, hk, fun i s h1 h2 h3 => ?_, fun i s h1 h2 h3 h4 => D.hi i s (by omega) h2 h3 h4, r1, D.fr.ext r2, D.ex.trans r2.ex0, D.cl0, fun i s d h1 h2 h3 h4 => ?_, D.w2, D.w3,
            fun i s h1 h2 h3 h4 => ?_, fun i j s r h1 h2 => D.inj i j s r (by omega) (by omega), fun y hy => ?_, D.gh0, D.df⟩
          · rcases Nat.lt_or_ge i k with h | h
            · exact D.lo i s h h2 h3
            · obtain rfl : i = k := by omega
              rw [hs] at h2
              rw [← Option.some.inj h2, he] at h3
              cases h3
          · refine D.w1 i s d h1 h2 h3 fun h => ?_
            have := h4 h
            rcases Nat.lt_or_ge i k with h' | h'
            · exact h'
            · obtain rfl : i = k := by omega
              rw [hs] at h1
              rw [← Option.some.inj h1, hnp] at h
              cases h
          · obtain ⟨cs', vf', p1, p2, p3, p4, p5, p6⟩ := D.pend i s (by omega) h2 h3 h4
            exact ⟨cs', vf', p1, p2, p3.ex0 r2.ex0 rfl, p4, p5, p6⟩
          · rcases D.gh y hy with h | ⟨i, s, h1, h2, h3, h4, h5⟩
            · exact .inl h
            · refine .inr ⟨i, s, ?_, h2, h3, h4, h5⟩
              rcases Nat.lt_or_ge k i with h | h
              · exact h
              · obtain rfl : i = k := by omega
                rw [hs] at h2
                rw [← Option.some.inj h2, hnp] at h3
                cases h3
end
end Sz

/- Regions whose order is drawn: every order answers as the text's order does. No program is named here. -/
namespace Sz
open Go
variable {X : World → Prop}
section
variable {P : Program} {C : Nat → List AV → Heap → Option (AV × Heap)} {ops : Array Oper} {ss : List AStep} {b : List Nat} {F : Nat → List AV} {H : Nat → Heap} {φ0 : Phi} {w0 : World} {d0 : List Deferred}
  {listed : Array Bool} {φ : Phi} {pe : Nat → PE} {cu : List AV} {k : Nat} {a : Act} {w : World}
theorem bt_lt (st : DStat P ops ss b) : ∀ (n j i : Nat), j < n → (∃ o, ops[j]? = some o) → bt b i j = true → i < j
  | 0, j, i, hj, _, _ => by omega
  | n + 1, j, i, hj, ⟨o, ho⟩, hb => by
    unfold bt at hb
    rw [st.bef j o ho] at hb
    obtain ⟨e, h1, h2, h3⟩ := clo_testBit hb
    have h1' : e ∈ o.after := by simpa using h1
    have hlt := st.back j o ho e h1' h2
    rcases h3 with rfl | h3
    · exact hlt
    · have hjs : j < ops.size := (Array.getElem?_eq_some_iff.1 ho).1
      have := bt_lt st n e.on i (by omega) ⟨_, Array.getElem?_eq_getElem (by omega)⟩ h3
      omega
def KX (ss : List AStep) (listed : Array Bool) (k : Nat) : Prop := k < ss.length → ∃ s : AStep, ss[k]? = some s ∧ s.eff = true ∧ ¬ SS listed k
theorem DI.reads (T : Tr C ss b F H) (st : DStat P ops ss b) (D : DI ops ss F H φ0 w0 d0 listed φ pe cu k a w) (kx : KX ss listed k) {i : Nat} {o : Oper} {s : AStep} (ho : ops[i]? = some o) (hs : ss[i]? = some s)
    (hre : ∀ e ∈ o.after, Region.binds .any e = true → SS listed e.on) (hns : ¬ SS listed i) : ∀ t ∈ s.reads, cu.getD t .undef = (F i).getD t .undef := by
  intro t ht
  have hil : i < ss.length := (List.getElem?_eq_some_iff.1 hs).1
  by_cases hw : ∃ (j : Nat) (r : AStep), ss[j]? = some r ∧ r.dst = some t
  · obtain ⟨j, r, hj, hd⟩ := hw
    have hjl : j < ss.length := (List.getElem?_eq_some_iff.1 hj).1
    have head : i ≤ j → (F i).getD t .undef = (F 0).getD t .undef := fun hle => by
      have := T.keep (d := t) (i := 0) i (by omega) fun j' s' _ h2 h3 h4 => by
        have := st.uniq j' j s' r t h3 hj h4 hd
        omega
      simpa using this
    by_cases hji : j = i
    · subst hji
      rw [D.w2 j r t hj hd hns, head (Nat.le_refl _)]
    · rcases st.rd i j s r t (Ne.symm hji) hs hj hd ht with ⟨h1, h2, h3⟩ | ⟨h1, h2⟩
      · have hSj : SS listed j := bt_closed st D.cl (i + 1) i j (by omega) o ho hre h2
        rw [D.w1 j r t hj hd hSj fun hp => ?_]
        · have := T.keep (d := t) (i := i) (ss.length - i) (by omega) fun j' s' g1 _ g3 g4 => by
            have := st.uniq j' j s' r t g3 hj g4 hd
            omega
          rw [show i + (ss.length - i) = ss.length by omega] at this
          exact this
        · rcases Nat.lt_or_ge j k with h | h
          · exact h
          · exfalso
            obtain ⟨q, hq, hqe, hqn⟩ := kx (by omega)
            by_cases e : k = j
            · exact hqn (e ▸ hSj)
            · have := h3 hp k q hq (by omega) hqe
              exact hqn (bt_closed st D.cl (i + 1) i k (by omega) o ho hre this)
      · have hjo : ∃ o', ops[j]? = some o' := ⟨_, Array.getElem?_eq_getElem (by rw [← st.len]; exact hjl)⟩
        obtain ⟨o', ho'⟩ := hjo
        have hnj : ¬ SS listed j := fun h => hns (bt_closed st D.cl (j + 1) j i (by omega) o' ho' (D.cl j o' ho' h) h2)
        rw [D.w2 j r t hj hd hnj, head (by omega)]
  · have hno : ∀ (j : Nat) (r : AStep), ss[j]? = some r → r.dst ≠ some t := fun j r hj hd => hw ⟨j, r, hj, hd⟩
    rw [D.w3 t hno]
    have := T.keep (d := t) (i := 0) i (by omega) fun j' s' _ _ h3 => hno j' s' h3
    simpa using this.symm
theorem get_chain {id : Nat} {x : Nat} : ∀ (m : Nat), (∀ j, x ≤ j → j < x + m → (H (j + 1)).get id = (H j).get id) → (H (x + m)).get id = (H x).get id
  | 0, _ => rfl
  | m + 1, h => by
    rw [show x + (m + 1) = (x + m) + 1 by omega, h (x + m) (by omega) (by omega)]
    exact get_chain m fun j h1 h2 => h j h1 (by omega)
theorem DI.load (T : Tr C ss b F H) (st : DStat P ops ss b) (D : DI ops ss F H φ0 w0 d0 listed φ pe cu k a w) (kx : KX ss listed k) {i : Nat} {o : Oper} {s : AStep} (ho : ops[i]? = some o) (hs : ss[i]? = some s)
    (hre : ∀ e ∈ o.after, Region.binds .any e = true → SS listed e.on) (hns : ¬ SS listed i) {n : Option Nat} {x : Opd} {id off : Nat} (hop : s.op = .op (.ld n x)) (hx : x.ev (F i) = .ptr id off) : (H k).get id = (H i).get id := by
  have hil : i < ss.length := (List.getElem?_eq_some_iff.1 hs).1
  have hld : s.isLd = true := by unfold AStep.isLd; rw [hop]
  have hne : s.eff = false := by unfold AStep.eff; rw [hop]
  have one : ∀ j, j < ss.length → (∀ r, ss[j]? = some r → r.eff = true → bt b i j = false ∧ bt b j i = false) → (H (j + 1)).get id = (H j).get id := fun j hj hh => by
    have hr := List.getElem?_eq_getElem hj
    cases he : ss[j].eff with
    | false => exact (T.heap_still hr he).get id
    | true =>
      obtain ⟨g1, g2⟩ := hh _ hr he
      exact T.ld i j s _ n x id off hs hr hop hx he g1 g2
  rcases Nat.le_total k i with hki | hki
  · have := get_chain (H := H) (id := id) (x := k) (i - k) fun j h1 h2 => one j (by omega) fun r hr he => ⟨?_, ?_⟩
    · rw [show k + (i - k) = i by omega] at this
      exact this.symm
    · cases hb : bt b i j with
      | false => rfl
      | true =>
        have := bt_lt st (j + 1) j i (by omega) ⟨_, Array.getElem?_eq_getElem (by rw [← st.len]; omega)⟩ hb
        omega
    · cases hb : bt b j i with
      | false => rfl
      | true =>
        exfalso
        have hSj := bt_closed st D.cl (i + 1) i j (by omega) o ho hre hb
        have hp := D.hi j r h1 hr he hSj
        obtain ⟨q, hq, hqe, hqn⟩ := kx (by omega)
        by_cases e : k = j
        · exact hqn (e ▸ hSj)
        · have := st.ldo i j s r hs hr hld hp (by omega) hb k q hq (by omega) hqe
          exact hqn (bt_closed st D.cl (i + 1) i k (by omega) o ho hre this)
  · have hkn := D.kn
    have := get_chain (H := H) (id := id) (x := i) (k - i) fun j h1 h2 => one j (by omega) fun r hr he => ⟨?_, ?_⟩
    · rw [show i + (k - i) = k by omega] at this
      exact this
    · cases hb : bt b i j with
      | false => rfl
      | true =>
        exfalso
        have hSj := D.lo j r (by omega) hr he
        have hjo : j < ops.size := by rw [← st.len]; omega
        have hoj : ops[j]? = some ops[j] := Array.getElem?_eq_getElem hjo
        exact hns (bt_closed st D.cl (j + 1) j i (by omega) _ hoj (D.cl j _ hoj hSj) hb)
    · cases hb : bt b j i with
      | false => rfl
      | true =>
        have := bt_lt st (i + 1) i j (by omega) ⟨o, ho⟩ hb
        omega
theorem put_tmps_other {d : Option Nat} {t : Nat} (h : d ≠ some t) (cv : Value) : (a.put d cv).tmps.getD t undef = a.tmps.getD t undef := by
  cases d with
  | none => rfl
  | some d =>
    have hne : d ≠ t := fun e => h (by rw [e])
    simp [Act.put, Array.getElem?_setIfInBounds_ne hne]
theorem put_defers (d : Option Nat) (cv : Value) : (a.put d cv).defers = a.defers := by cases d <;> rfl
theorem DI.step (T : Tr C ss b F H) (st : DStat P ops ss b) (D : DI ops ss F H φ0 w0 d0 listed φ pe cu k a w) {i k' : Nat} {o : Oper} {s : AStep} (ho : ops[i]? = some o) (hs : ss[i]? = some s) (hd : s.dst = o.dst)
    (hre : ∀ e ∈ o.after, Region.binds .any e = true → SS listed e.on) (hns : ¬ SS listed i) (hk : (k' = k ∧ s.eff = false) ∨ (k' = k + 1 ∧ i = k)) {v : AV} (hF : F (i + 1) = putA (F i) s.dst v) {φ' : Phi} {cv : Value} {w' : World}
    (hf : FR φ' (H k') w' (putA cu s.dst v) (a.put o.dst cv).tmps) (hr : HR φ' (H k') w') (hx : Ext φ (H k) w φ' (H k') w') :
    DI ops ss F H φ0 w0 d0 (listed.setIfInBounds i true) φ' pe (putA cu s.dst v) k' (a.put o.dst cv) w' := by
  have hil : i < ss.length := (List.getElem?_eq_some_iff.1 hs).1
  have hsz : i < listed.size := by rw [D.sz]; exact hil
  have S' := SS_set hsz
  have hkn := D.kn
  have hpi : ∀ j r, k' ≤ j → ss[j]? = some r → r.eff = true → j ≠ i := fun j r h1 h2 h3 e => by
    rcases hk with ⟨_, h⟩ | ⟨h, h'⟩
    · rw [e, hs] at h2
      rw [← Option.some.inj h2, h] at h3
      cases h3
    · omega
  have hkk : k ≤ k' := by rcases hk with ⟨h, _⟩ | ⟨h, _⟩ <;> omega
  refine ⟨by simp [D.sz], fun j o' h1 h2 e h3 h4 => (S' _).2 (.inr ?_), ?_, fun j r h1 h2 h3 => (S' j).2 ?_, fun j r h1 h2 h3 h4 => ?_, hr, hf, D.ex.trans hx.ex0, by rw [putA_length]; exact D.cl0, fun j r d h1 h2 h3 h4 => ?_, fun j r d h1 h2 h3 => ?_, fun d h1 => ?_,
    fun j r h1 h2 h3 h4 => ?_, fun i1 j1 s1 r1 g1 g2 g3 g4 g5 g6 g7 g8 g9 => ?_, fun y hy => ?_, fun y hy => ?_, by rw [put_defers]; exact D.df⟩
  · rcases (S' j).1 h2 with rfl | h2
    · rw [ho] at h1
      cases h1
      exact hre e h3 h4
    · exact D.cl j o' h1 h2 e h3 h4
  · rcases hk with ⟨h, _⟩ | ⟨h, h'⟩ <;> omega
  · rcases Nat.lt_or_ge j k with h | h
    · exact .inr (D.lo j r h h2 h3)
    · rcases hk with ⟨h', _⟩ | ⟨h', h''⟩
      · omega
      · exact .inl (by omega)
  · rcases (S' j).1 h4 with e | h4
    · exact absurd e (hpi j r h1 h2 h3)
    · exact D.hi j r (by omega) h2 h3 h4
  · by_cases e : j = i
    · subst e
      rw [hs] at h1
      cases h1
      have e1 : (F ss.length).getD d .undef = (F (j + 1)).getD d .undef := by
        have := T.keep (d := d) (i := j + 1) (ss.length - (j + 1)) (by omega) fun j' r' g1 g2 g3 g4 => by
          have := st.uniq j j' s r' d hs g3 h2 g4
          omega
        rw [show j + 1 + (ss.length - (j + 1)) = ss.length by omega] at this
        exact this
      rw [e1, hF, h2]
      exact putA_same (by rw [D.cl0, T.len j (by omega)])
    · have h3' : SS listed j := ((S' j).1 h3).resolve_left e
      rw [putA_other (fun e' => e (st.uniq j i r s d h1 hs h2 e'))]
      refine D.w1 j r d h1 h2 h3' fun hp => ?_
      have := h4 hp
      rcases hk with ⟨h, _⟩ | ⟨h, h'⟩ <;> omega
  · have e : j ≠ i := fun e => h3 ((S' j).2 (.inl e))
    rw [putA_other (fun e' => e (st.uniq j i r s d h1 hs h2 e'))]
    exact D.w2 j r d h1 h2 fun h => h3 ((S' j).2 (.inr h))
  · rw [putA_other (h1 i s hs)]
    exact D.w3 d h1
  · have e := hpi j r h1 h2 (pend_eff h3)
    have h4' : SS listed j := ((S' j).1 h4).resolve_left e
    obtain ⟨cs, vf, p1, p2, p3, p4, p5, p6⟩ := D.pend j r (by omega) h2 h3 h4'
    refine ⟨cs, vf, p1, p2, p3.ex0 hx.ex0 (hx.gh.2 _ p4), by rw [hx.gh.1]; exact p4, p5, fun d g1 g2 => ?_⟩
    rw [put_tmps_other fun e' => e (st.uniq j i r s d h2 hs g1 (hd.trans e'))]
    exact p6 d g1 g2
  · exact D.inj i1 j1 s1 r1 (by omega) (by omega) g3 g4 g5 g6 (((S' i1).1 g7).resolve_left (hpi i1 s1 g1 g3 (pend_eff g5))) (((S' j1).1 g8).resolve_left (hpi j1 r1 g2 g4 (pend_eff g6))) g9
  · rw [hx.gh.1] at hy
    rcases D.gh y hy with h | ⟨i1, s1, h1, h2, h3, h4, h5⟩
    · exact .inl h
    · refine .inr ⟨i1, s1, ?_, h2, h3, (S' i1).2 (.inr h4), h5⟩
      rcases hk with ⟨h, _⟩ | ⟨h, h'⟩
      · omega
      · have : i1 ≠ k := fun e => hns (by rw [h', ← e]; exact h4)
        omega
  · obtain ⟨g1, g2⟩ := D.gh0 y hy
    exact ⟨by rw [hx.gh.1]; exact g1, (hx.gh.2 y g1).trans g2⟩
theorem DI.early (T : Tr C ss b F H) (st : DStat P ops ss b) (D : DI ops ss F H φ0 w0 d0 listed φ pe cu k a w) {i : Nat} {o : Oper} {s : AStep} (ho : ops[i]? = some o) (hs : ss[i]? = some s) (hd : s.dst = o.dst)
    (hre : ∀ e ∈ o.after, Region.binds .any e = true → SS listed e.on) (hns : ¬ SS listed i) (hk : k < i) (hp : s.pend = true) {cs : List AV} {vf : Nat → AV} (hH : ((H i).alloc (.row cs)).alike (H (i + 1))) (hF : F (i + 1) = putA (F i) s.dst (vf (H i).next))
    (hvf : (vf = fun id => .ptr id 0) ∨ ∃ n sz, vf = fun id => .vec id 0 n sz n) (hrf : AV.refsL cs ≤ (H k).next) {φ1 : Phi} {cv : Value} {w' : World}
    (hf : FR φ1 ((H k).alloc (.row cs)) w' (putA cu s.dst (vf (H k).next)) (a.put o.dst cv).tmps) (hr : HR φ1 ((H k).alloc (.row cs)) w') (hx : Ext φ (H k) w φ1 ((H k).alloc (.row cs)) w') :
    DI ops ss F H φ0 w0 d0 (listed.setIfInBounds i true) ⟨φ.at_, fun b => φ.gh b ∨ b = (φ1 (H k).next).blk⟩ (fun j => if j = i then φ1 (H k).next else pe j) (putA cu s.dst .undef) k (a.put o.dst cv) w' := by
  have hil : i < ss.length := (List.getElem?_eq_some_iff.1 hs).1
  have hsz : i < listed.size := by rw [D.sz]; exact hil
  have S' := SS_set hsz
  obtain ⟨g1, g2, g3, g4⟩ := ghost_row D.hr hr hx hrf
  have hpe : ∀ j, j ≠ i → (if j = i then φ1 (H k).next else pe j) = pe j := fun j hj => if_neg hj
  refine ⟨by simp [D.sz], fun j o' h1 h2 e h3 h4 => (S' _).2 (.inr ?_), D.kn, fun j r h1 h2 h3 => (S' j).2 (.inr (D.lo j r h1 h2 h3)), fun j r h1 h2 h3 h4 => ?_, g1, ?_, D.ex.trans g2, by rw [putA_length]; exact D.cl0, fun j r d h1 h2 h3 h4 => ?_, fun j r d h1 h2 h3 => ?_, fun d h1 => ?_,
    fun j r h1 h2 h3 h4 => ?_, fun i1 j1 s1 r1 q1 q2 q3 q4 q5 q6 q7 q8 q9 => ?_, fun y hy => ?_, fun y hy => ?_, by rw [put_defers]; exact D.df⟩
  · rcases (S' j).1 h2 with rfl | h2
    · rw [ho] at h1
      cases h1
      exact hre e h3 h4
    · exact D.cl j o' h1 h2 e h3 h4
  · rcases (S' j).1 h4 with e | h4
    · subst e
      rw [hs] at h2
      cases h2
      exact hp
    · exact D.hi j r h1 h2 h3 h4
  · rw [hd]
    exact (put_ok (D.fr.ex0 g2) (RV.undef cv) o.dst).1
  · by_cases e : j = i
    · subst e
      rw [hs] at h1
      cases h1
      have := h4 hp
      omega
    · have h3' : SS listed j := ((S' j).1 h3).resolve_left e
      rw [putA_other (fun e' => e (st.uniq j i r s d h1 hs h2 e'))]
      exact D.w1 j r d h1 h2 h3' h4
  · have e : j ≠ i := fun e => h3 ((S' j).2 (.inl e))
    rw [putA_other (fun e' => e (st.uniq j i r s d h1 hs h2 e'))]
    exact D.w2 j r d h1 h2 fun h => h3 ((S' j).2 (.inr h))
  · rw [putA_other (h1 i s hs)]
    exact D.w3 d h1
  · by_cases e : j = i
    · subst e
      rw [hs] at h2
      cases h2
      refine ⟨cs, vf, hH, hF, ?_, ?_, ?_, fun d q1 q2 => ?_⟩
      · simp only [if_true]
        exact g3
      · simp only [if_true]
        exact .inr trivial
      · simp only [if_true]
        exact fun h => g4 (D.gh0 _ h).1
      · simp only [if_true]
        have := hf.2 d
        have e1 : (putA cu s.dst (vf (H k).next)).getD d .undef = vf (H k).next := by
          rw [q1]
          have hdl : d < cu.length := by rw [D.cl0]; exact q2
          simp [putA, hdl]
        rw [e1] at this
        exact VAt.of hvf this
    · have h4' : SS listed j := ((S' j).1 h4).resolve_left e
      obtain ⟨cs', vf', p1, p2, p3, p4, p5, p6⟩ := D.pend j r h1 h2 h3 h4'
      refine ⟨cs', vf', p1, p2, ?_, ?_, ?_, fun d q1 q2 => ?_⟩
      · dsimp only
        rw [hpe j e]
        exact p3.ex0 g2 (hx.gh.2 _ p4)
      · dsimp only
        rw [hpe j e]
        exact .inl p4
      · dsimp only
        rw [hpe j e]
        exact p5
      · dsimp only
        rw [hpe j e, put_tmps_other fun e' => e (st.uniq j i r s d h2 hs q1 (hd.trans e'))]
        exact p6 d q1 q2
  · by_cases e1 : i1 = i
    · by_cases e2 : j1 = i
      · omega
      · exfalso
        rw [if_pos e1, hpe j1 e2] at q9
        obtain ⟨_, _, _, _, _, p4, _⟩ := D.pend j1 r1 q2 q4 q6 (((S' j1).1 q8).resolve_left e2)
        exact g4 (q9 ▸ p4)
    · by_cases e2 : j1 = i
      · exfalso
        rw [if_pos e2, hpe i1 e1] at q9
        obtain ⟨_, _, _, _, _, p4, _⟩ := D.pend i1 s1 q1 q3 q5 (((S' i1).1 q7).resolve_left e1)
        exact g4 (q9 ▸ p4)
      · rw [hpe i1 e1, hpe j1 e2] at q9
        exact D.inj i1 j1 s1 r1 q1 q2 q3 q4 q5 q6 (((S' i1).1 q7).resolve_left e1) (((S' j1).1 q8).resolve_left e2) q9
  · rcases hy with hy | rfl
    · rcases D.gh y hy with h | ⟨i1, s1, h1, h2, h3, h4, h5⟩
      · exact .inl h
      · refine .inr ⟨i1, s1, h1, h2, h3, (S' i1).2 (.inr h4), ?_⟩
        rw [hpe i1 fun e => hns (e ▸ h4)]
        exact h5
    · exact .inr ⟨i, s, by omega, hs, hp, (S' i).2 (.inl rfl), by simp⟩
  · obtain ⟨p1, p2⟩ := D.gh0 y hy
    exact ⟨.inl p1, (hx.gh.2 y p1).trans p2⟩
theorem comp_dst {o : Oper} {s : AStep} (hc : compStep P ops o = some s) : s.dst = o.dst := by
  unfold compStep at hc
  split at hc
  · cases hc
  · split at hc
    · cases hc; rfl
    · obtain ⟨t, _, rfl⟩ := Option.map_eq_some_iff.1 hc; rfl
theorem Glob.of_DI {Q : Program} {listed : Array Bool} {φ : Phi} {pe : Nat → PE} {cu : List AV} {k : Nat} {a : Act} {w : World} (g : Glob Q X φ0 (H 0) w0) (D : DI ops ss F H φ0 w0 d0 listed φ pe cu k a w) : Glob Q X φ (H k) w := by
  obtain ⟨w1, h1, h2⟩ := g
  refine ⟨w1, h1, fun b hb => ?_⟩
  obtain ⟨g1, g2, g3⟩ := h2 b hb
  refine ⟨Nat.lt_of_lt_of_le g1 D.ex.size, ?_⟩
  rcases g2 with g2 | g2
  · exact ⟨.inl (D.gh0 b g2).1, (D.gh0 b g2).2.trans g3⟩
  · exact ⟨.inr (D.ex.pr b g2).1, (D.ex.pr b g2).2.trans g3⟩
theorem any_ok (hC : CallOK P X C) (hG : Glob P X φ0 (H 0) w0) (T : Tr C ss b F H) (st : DStat P ops ss b) {Q : Exit → Act → World → Prop}
    (hQ : ∀ φ' a' w', FR φ' (H ss.length) w' (F ss.length) a'.tmps → HR φ' (H ss.length) w' → Ext φ0 (H 0) w0 φ' (H ss.length) w' → a'.defers = d0 → Q .normal a' w') :
    ∀ (fuel : Nat) (listed : Array Bool) (φ : Phi) (pe : Nat → PE) (cu : List AV) (k : Nat) (a : Act) (w : World), DI ops ss F H φ0 w0 d0 listed φ pe cu k a w → KX ss listed k → unl ss.length listed ≤ fuel →
      wpAny P .any ops Q fuel listed a w := by
  have hend : ∀ (listed : Array Bool) (φ : Phi) (pe : Nat → PE) (cu : List AV) (k : Nat) (a : Act) (w : World), DI ops ss F H φ0 w0 d0 listed φ pe cu k a w → KX ss listed k → (∀ i, i < ss.length → SS listed i) → Q .normal a w := fun listed φ pe cu k a w D kx hall => by
    have hk : k = ss.length := by
      rcases Nat.lt_or_ge k ss.length with h | h
      · obtain ⟨s, _, _, hn⟩ := kx h
        exact absurd (hall k h) hn
      · have := D.kn
        omega
    subst hk
    have hcu : ∀ t, cu.getD t .undef = (F ss.length).getD t .undef := fun t => by
      by_cases hw : ∃ (j : Nat) (r : AStep), ss[j]? = some r ∧ r.dst = some t
      · obtain ⟨j, r, hj, hd⟩ := hw
        have hjl : j < ss.length := (List.getElem?_eq_some_iff.1 hj).1
        exact D.w1 j r t hj hd (hall j hjl) fun _ => hjl
      · have hno : ∀ (j : Nat) (r : AStep), ss[j]? = some r → r.dst ≠ some t := fun j r hj hd => hw ⟨j, r, hj, hd⟩
        rw [D.w3 t hno]
        have := T.keep (d := t) (i := 0) ss.length (by omega) fun j' s' _ _ h3 => hno j' s' h3
        simpa using this.symm
    refine hQ φ a w ⟨?_, fun t => ?_⟩ D.hr ?_ D.df
    · rw [D.fr.1, D.cl0, T.len ss.length (Nat.le_refl _)]
    · rw [← hcu t]
      exact D.fr.2 t
    · have x := D.ex
      refine ⟨x.os, x.tape, x.output, x.size, x.next, x.phi, x.pr, ?_, fun y hy => (D.gh0 y hy).2⟩
      funext y
      refine propext ⟨fun hy => ?_, fun hy => (D.gh0 y hy).1⟩
      rcases D.gh y hy with h | ⟨i, s, h1, h2, _⟩
      · exact h
      · have := (List.getElem?_eq_some_iff.1 h2).1
        omega
  have hnl : ∀ (listed : Array Bool) (i : Nat), listed.size = ss.length → listed.getD i true = false → i < ss.length ∧ ¬ SS listed i := fun listed i hsz h => by
    have hlt : i < listed.size := by
      rcases Nat.lt_or_ge i listed.size with h' | h'
      · exact h'
      · simp [Array.getElem?_eq_none h'] at h
    refine ⟨by omega, fun hS => ?_⟩
    unfold SS at hS
    simp [hlt] at h hS
    rw [h] at hS
    cases hS
  intro fuel
  induction fuel with
  | zero =>
    intro listed φ pe cu k a w D kx hu
    have hall : ∀ i, i < ss.length → SS listed i := fun i hi => unl_zero (by omega) hi
    refine ⟨?_, hend listed φ pe cu k a w D kx hall⟩
    apply List.eq_nil_iff_forall_not_mem.2
    intro i hi
    obtain ⟨h1, h2⟩ := hnl listed i D.sz (mem_ready.1 hi).1
    exact h2 (hall i h1)
  | succ fuel ih =>
    intro listed φ pe cu k a w D kx hu
    refine ⟨fun h0 => hend listed φ pe cu k a w D kx fun i hi => ?_, fun i hi => ?_⟩
    · induction i using Nat.strongRecOn with
      | _ i ihi =>
        refine Classical.byContradiction fun hns => ?_
        have hio' : i < ops.size := by rw [← st.len]; exact hi
        have hio : ops[i]? = some ops[i] := Array.getElem?_eq_getElem hio'
        have : i ∈ Region.ready .any ops listed := by
          rw [mem_ready]
          refine ⟨?_, _, hio, fun e he hb => ?_⟩
          · have hlt : i < listed.size := by rw [D.sz]; exact hi
            unfold SS at hns
            simp [hlt] at hns ⊢
            exact hns
          · have := st.back i _ hio e he hb
            exact ihi e.on this (by omega)
        rw [h0] at this
        cases this
    · obtain ⟨hun, o, ho, hedge⟩ := mem_ready.1 hi
      obtain ⟨hil, hns⟩ := hnl listed i D.sz hun
      have hre : ∀ e ∈ o.after, Region.binds .any e = true → SS listed e.on := hedge
      obtain ⟨s, hs, hcomp⟩ := st.comp i o ho
      have hd := comp_dst hcomp
      obtain ⟨hin, hout, hev, a1, a2⟩ := T.st i s hs
      have hrd := D.reads T st kx ho hs hre hns
      have hops : ∀ x ∈ s.op.opds, x.ev cu = x.ev (F i) := fun x hxm => opd_ev_congr fun t ht => hrd t (List.mem_append_right _ (List.mem_flatMap.2 ⟨x, hxm, ht⟩))
      have hu' : unl ss.length (listed.setIfInBounds i true) ≤ fuel := by
        have := unl_set hil (by rw [D.sz]; exact hil) hns
        omega
      unfold wpOp
      rw [ho]
      dsimp only
      have fin : (if Region.wanted o (yielded ops a.tmps) then o.wp P a w (wpAny P .any ops Q fuel (listed.setIfInBounds i true)) Q else wpAny P .any ops Q fuel (listed.setIfInBounds i true) (a.put o.dst undef) w) →
          (if Region.wanted o (yielded ops a.tmps) then (o.wp P a w (wpAny P .any ops Q fuel (listed.setIfInBounds i true)) Q ∨ (o.asks P a w ∧ LetsOut Q)) else wpAny P .any ops Q fuel (listed.setIfInBounds i true) (a.put o.dst undef) w) := fun h => by
        split
        · rename_i hw
          rw [if_pos hw] at h
          exact .inl h
        · rename_i hw
          rw [if_neg hw] at h
          exact h
      apply fin
      by_cases he : s.eff = true
      · rcases Nat.lt_trichotomy i k with hik | hik | hik
        · exact absurd (D.lo i s hik hs he) hns
        · subst hik
          obtain ⟨v, hF, hev'⟩ := evStep_congr hrd hev
          obtain ⟨r1, r2⟩ := D.hr.alike a1
          refine step_ok hC hcomp hev' (D.fr.ext r2) r1 ((hG.of_DI D).ext r2) fun φ' cv w' f1 r3 e1 => ?_
          obtain ⟨r4, r5⟩ := r3.alike a2
          have D1 := D.step T st (k' := i + 1) ho hs hd hre hns (.inr ⟨rfl, rfl⟩) hF (f1.ext r5) r4 ((r2.trans e1).trans r5)
          obtain ⟨φ2, cu2, k2, D2, kx2⟩ := D1.advance T st (ss.length) (by omega)
          exact ih _ φ2 pe cu2 k2 _ w' D2 kx2 hu'
        · have hp : s.pend = true := by
            obtain ⟨q, hq, hqe, hqn⟩ := kx (by omega)
            rcases st.ord k i q s hik hq hs hqe he with h | h
            · exact absurd (bt_closed st D.cl (i + 1) i k (by omega) o ho hre h) hqn
            · exact h
          obtain ⟨cs, vf, hh, hF, hvf, hall⟩ := evStep_pend hp hev
          obtain ⟨hev', hrf⟩ := hall cu (H k) hops
          subst hh
          refine step_ok hC hcomp hev' D.fr D.hr (hG.of_DI D) fun φ' cv w' f1 r3 e1 => ?_
          have hnx : hin.next = (H i).next := a1.1
          rw [hnx] at hF
          have D1 := D.early T st ho hs hd hre hns hik hp ((a1.alloc _).trans a2) hF hvf (hrf _ _ _ D.fr) f1 r3 e1
          refine ih _ _ _ _ k _ w' D1 (fun h => ?_) hu'
          obtain ⟨q, hq, hqe, hqn⟩ := kx h
          refine ⟨q, hq, hqe, fun h' => ?_⟩
          rcases (SS_set (by rw [D.sz]; exact hil) k).1 h' with e | e
          · omega
          · exact hqn e
      · have he : s.eff = false := by simpa using he
        obtain ⟨v, hF, hev'⟩ := evStep_congr hrd hev
        obtain ⟨_, hev2⟩ := evStep_still (h2 := H k) he hev' fun n x id off hop hx => by
          have hx' : x.ev (F i) = .ptr id off := by
            rw [← hops x (by rw [hop]; simp [SOp.opds, AOp.opds])]
            exact hx
          rw [a1.get id]
          exact D.load T st kx ho hs hre hns hop hx'
        refine step_ok hC hcomp hev2 D.fr D.hr (hG.of_DI D) fun φ' cv w' f1 r3 e1 => ?_
        have D1 := D.step T st (k' := k) ho hs hd hre hns (.inl ⟨rfl, he⟩) hF f1 r3 e1
        refine ih _ _ _ _ k _ w' D1 (fun h => ?_) hu'
        obtain ⟨q, hq, hqe, hqn⟩ := kx h
        refine ⟨q, hq, hqe, fun h' => ?_⟩
        rcases (SS_set (by rw [D.sz]; exact hil) k).1 h' with e | e
        · subst e
          rw [hs] at hq
          rw [← Option.some.inj hq, he] at hqe
          cases hqe
        · exact hqn e
end
end Sz

/- Regions whose order is drawn: the rule. No program is named here. -/
namespace Sz
open Go
variable {X : World → Prop}
def CW (h h' : Heap) : Prop := h.wf → CL h h' ∧ h'.wf
theorem CW.refl (h : Heap) : CW h h := fun w => ⟨.refl _, w⟩
theorem CW.trans {h h1 h2 : Heap} (a : CW h h1) (b : CW h1 h2) : CW h h2 := fun w => by
  obtain ⟨c1, w1⟩ := a w
  obtain ⟨c2, w2⟩ := b w1
  exact ⟨c1.trans c2, w2⟩
theorem op_wf {fr : List AV} {h h' : Heap} {aop : AOp} {v : AV} (he : evOp fr h aop = some (v, h')) (hw : h.wf) : h'.wf := by
  cases aop <;> simp only [evOp] at he
  all_goals
    repeat' split at he
    all_goals first
      | (cases he; done)
      | (cases he; exact hw)
      | (cases he; exact Heap.wf_alloc _ hw)
      | (cases he; exact Heap.wf_mark _ _ (Heap.wf_set _ _ hw))
      | (cases he; exact Heap.wf_alloc _ (Heap.wf_set _ _ hw))
      | (obtain ⟨_, _, e⟩ := Option.map_eq_some_iff.1 he; cases e; exact hw)
      | (obtain ⟨_, _, e⟩ := Option.map_eq_some_iff.1 he; cases e; exact Heap.wf_alloc _ hw)
      | (obtain ⟨_, _, e⟩ := Option.map_eq_some_iff.1 he; cases e; exact Heap.wf_mark _ _ (Heap.wf_mark _ _ (Heap.wf_set _ _ hw)))
      | (obtain ⟨p, _, e⟩ := Option.map_eq_some_iff.1 he; (repeat' split at e) <;> cases e <;> exact hw)
theorem op_cw {fr : List AV} {h h' : Heap} {aop : AOp} {v : AV} (he : evOp fr h aop = some (v, h')) : CW h h' := fun w => ⟨op_cl he, op_wf he w⟩
def CallCL (C : Nat → List AV → Heap → Option (AV × Heap)) : Prop := ∀ f args h v h', C f args h = some (v, h') → CW h h'
section
variable {P : Program} {C : Nat → List AV → Heap → Option (AV × Heap)} {ops : Array Oper} {ss : List AStep} {b : List Nat}
theorem step_cl (hC : CallCL C) {s : AStep} {fr fr' : List AV} {h h' : Heap} (he : evStep C s fr h = some (fr', h')) : CW h h' := by
  unfold evStep at he
  split at he
  · cases he
  · cases he; exact .refl _
  · split at he
    · obtain ⟨⟨v, h1⟩, h2, e⟩ := Option.map_eq_some_iff.1 he
      cases e
      exact hC _ _ _ _ _ h2
    · split at he
      · obtain ⟨⟨v, h1⟩, h2, e⟩ := Option.map_eq_some_iff.1 he
        cases e
        exact hC _ _ _ _ _ h2
      · cases he
    · obtain ⟨⟨v, h1⟩, h2, e⟩ := Option.map_eq_some_iff.1 he
      cases e
      exact op_cw h2
    · split at he
      · split at he
        · cases he; exact .refl _
        · cases he
      · cases he
theorem steps_cl (hC : CallCL C) : ∀ {ss : List AStep} {fr fr' : List AV} {h h' : Heap}, evSteps C ss fr h = some (fr', h') → CW h h'
  | [], fr, fr', h, h', he => by
    simp only [evSteps, Option.some.injEq, Prod.mk.injEq] at he
    obtain ⟨rfl, rfl⟩ := he
    exact .refl _
  | s :: ss, fr, fr', h, h', he => by
    simp only [evSteps] at he
    split at he
    · rename_i fr1 h1 h2
      exact (step_cl hC h2).trans (steps_cl hC he)
    · cases he
theorem CL.unmd {h h' : Heap} (c : CL { h with md := h.next } h') : CL h { h' with md := min h.md h'.md } :=
  ⟨c.next, c.wl, fun n h1 h2 h3 => c.le n h1 h2 h3, Nat.min_le_left _ _, fun id h1 h2 => c.same id (by dsimp only at h1; omega) h2⟩
theorem CW.unmd {h h' : Heap} (c : CW { h with md := h.next } h') : CW h { h' with md := min h.md h'.md } := fun w => by
  obtain ⟨c1, w1⟩ := c w
  exact ⟨c1.unmd, w1⟩
theorem tr_cl (hC : CallCL C) : ∀ {ss : List AStep} {fr fr' : List AV} {h h' : Heap} {tr : List (Nat × Heap × Heap)}, evTr C ss fr h = some (fr', h', tr) → CW h h'
  | [], fr, fr', h, h', tr, he => by
    simp only [evTr, Option.some.injEq, Prod.mk.injEq] at he
    obtain ⟨rfl, rfl, _⟩ := he
    exact .refl _
  | s :: ss, fr, fr', h, h', tr, he => by
    simp only [evTr] at he
    split at he
    · rename_i fr1 h1 h2
      obtain ⟨⟨fr2, h3, tr2⟩, h4, e⟩ := Option.map_eq_some_iff.1 he
      cases e
      exact (CW.unmd (step_cl hC h2)).trans (tr_cl hC h4)
    · cases he
theorem allSome_get2 {α β : Type} {f : α → Option β} : ∀ {l : List α} {r : List β}, allSome f l = some r → r.length = l.length ∧ ∀ (i : Nat) (x : α), l[i]? = some x → ∃ y, r[i]? = some y ∧ f x = some y
  | [], r, h => by
    simp only [allSome, Option.some.injEq] at h
    subst h
    exact ⟨rfl, fun i x hx => by simp at hx⟩
  | x :: l, r, h => by
    unfold allSome at h
    split at h
    · rename_i y s h1 h2
      cases h
      obtain ⟨g1, g2⟩ := allSome_get2 h2
      refine ⟨by simp [g1], fun i z hz => ?_⟩
      cases i with
      | zero =>
        simp only [List.getElem?_cons_zero, Option.some.injEq] at hz
        subst hz
        exact ⟨y, by simp, h1⟩
      | succ i => exact g2 i z (by simpa using hz)
    · cases h
theorem stat_of (hs : allSome (compStep P ops) ops.toList = some ss) (hd : drawOK ops ss b = true) : DStat P ops ss b := by
  obtain ⟨hl, hg⟩ := allSome_get2 hs
  unfold drawOK at hd
  rw [Bool.and_eq_true, List.all_eq_true, List.all_eq_true] at hd
  obtain ⟨he, hp⟩ := hd
  have edge : ∀ (i : Nat) (o : Oper), ops[i]? = some o → edgesOK b (o, i) = true := fun i o ho => he (o, i) (List.mk_mem_zipIdx_iff_getElem?.2 (by rw [Array.getElem?_toList]; exact ho))
  have pair : ∀ (i j : Nat) (s r : AStep), ss[i]? = some s → ss[j]? = some r → i ≠ j → pairOK b ss.zipIdx s i r j = true ∧ (i == j) = false := fun i j s r h1 h2 hne => by
    have := hp (s, i) (List.mk_mem_zipIdx_iff_getElem?.2 h1)
    rw [List.all_eq_true] at this
    exact ⟨this (r, j) (List.mk_mem_zipIdx_iff_getElem?.2 h2), by simpa using hne⟩
  have allq : ∀ (i j : Nat), (ss.zipIdx.all fun q => !(decide (q.2 < j) && q.1.eff) || bt b q.2 i) = true → ∀ (e : Nat) (q : AStep), ss[e]? = some q → e < j → q.eff = true → bt b e i = true := fun i j h e q hq hlt hqe => by
    rw [List.all_eq_true] at h
    have := h (q, e) (List.mk_mem_zipIdx_iff_getElem?.2 hq)
    simpa [hlt, hqe] using this
  refine ⟨by rw [hl]; simp, fun i o ho => hg i o (by rw [Array.getElem?_toList]; exact ho), fun i o ho => ?_, fun i o ho e hem hb => ?_, fun i j s r d h1 h2 h3 h4 => ?_, fun i j s r hlt h1 h2 h3 h4 => ?_, fun i j s r h1 h2 h3 h4 hlt hb => ?_, fun i j s r d hne h1 h2 h3 h4 => ?_⟩
  · have := edge i o ho
    unfold edgesOK at this
    rw [Bool.and_eq_true] at this
    simpa using this.1
  · have := edge i o ho
    unfold edgesOK at this
    rw [Bool.and_eq_true, List.all_eq_true] at this
    have := this.2 e (by simpa using hem)
    simpa [hb] using this
  · refine Classical.byContradiction fun hne => ?_
    obtain ⟨g, g'⟩ := pair i j s r h1 h2 hne
    unfold pairOK at g
    rw [h3, h4] at g
    simp [g'] at g
  · obtain ⟨g, g'⟩ := pair i j s r h1 h2 (by omega)
    unfold pairOK at g
    rw [g', Bool.false_or, Bool.and_eq_true, Bool.and_eq_true, Bool.and_eq_true] at g
    have := g.1.1.2
    simpa [hlt, h3, h4] using this
  · obtain ⟨g, g'⟩ := pair i j s r h1 h2 (by omega)
    unfold pairOK at g
    rw [g', Bool.false_or, Bool.and_eq_true, Bool.and_eq_true, Bool.and_eq_true] at g
    have := g.2
    rw [Bool.or_eq_true] at this
    rcases this with h | h
    · simp [h3, h4, hlt, hb] at h
    · exact allq i j h
  · obtain ⟨g, g'⟩ := pair i j s r h1 h2 hne
    unfold pairOK at g
    rw [g', Bool.false_or, Bool.and_eq_true, Bool.and_eq_true, Bool.and_eq_true, h3] at g
    have := g.1.2
    dsimp only at this
    rw [Bool.or_eq_true] at this
    rcases this with h | h
    · rw [List.contains_iff_mem.2 h4] at h
      cases h
    · split at h
      · rename_i hlt
        rw [Bool.and_eq_true, Bool.or_eq_true] at h
        refine .inl ⟨hlt, h.1, fun hpd => ?_⟩
        rcases h.2 with h | h
        · rw [hpd] at h; cases h
        · exact allq i j h
      · exact .inr ⟨by omega, h⟩
theorem mem_pairs {i j : Nat} {s r : AStep} (h1 : ss[i]? = some s) (h2 : ss[j]? = some r) (hl : s.isLd = true) (he : r.eff = true) (b1 : bt b i j = false) (b2 : bt b j i = false) : (i, j) ∈ drawPairs b ss.zipIdx := by
  unfold drawPairs
  refine List.mem_flatMap.2 ⟨(s, i), List.mk_mem_zipIdx_iff_getElem?.2 h1, ?_⟩
  dsimp only
  rw [if_pos hl]
  exact List.mem_filterMap.2 ⟨(r, j), List.mk_mem_zipIdx_iff_getElem?.2 h2, by simp [he, b1, b2]⟩
theorem steps_seq : ∀ {ss : List AStep} {fr fr' : List AV} {h h' : Heap}, evSteps C ss fr h = some (fr', h') →
    ∃ (F : Nat → List AV) (H : Nat → Heap), F 0 = fr ∧ H 0 = h ∧ F ss.length = fr' ∧ H ss.length = h' ∧ ∀ (i : Nat) (s : AStep), ss[i]? = some s → evStep C s (F i) (H i) = some (F (i + 1), H (i + 1))
  | [], fr, fr', h, h', he => by
    simp only [evSteps, Option.some.injEq, Prod.mk.injEq] at he
    obtain ⟨rfl, rfl⟩ := he
    exact ⟨fun _ => fr, fun _ => h, rfl, rfl, rfl, rfl, fun i s hs => by simp at hs⟩
  | s :: ss, fr, fr', h, h', he => by
    simp only [evSteps] at he
    split at he
    · rename_i fr1 h1 h2
      obtain ⟨F, H, g1, g2, g3, g4, g5⟩ := steps_seq he
      refine ⟨fun i => match i with | 0 => fr | i + 1 => F i, fun i => match i with | 0 => h | i + 1 => H i, rfl, rfl, g3, g4, fun i r hr => ?_⟩
      cases i with
      | zero =>
        simp only [List.getElem?_cons_zero, Option.some.injEq] at hr
        subst hr
        dsimp only
        rw [g1, g2]
        exact h2
      | succ i => exact g5 i r (by simpa using hr)
    · cases he
theorem tr_seq : ∀ {ss : List AStep} {fr fr' : List AV} {h h' : Heap} {tr : List (Nat × Heap × Heap)}, evTr C ss fr h = some (fr', h', tr) →
    ∃ (F : Nat → List AV) (H : Nat → Heap), F 0 = fr ∧ H 0 = h ∧ F ss.length = fr' ∧ H ss.length = h' ∧
      ∀ (i : Nat) (s : AStep), ss[i]? = some s → ∃ ho : Heap, evStep C s (F i) { H i with md := (H i).next } = some (F (i + 1), ho) ∧ H (i + 1) = { ho with md := min (H i).md ho.md } ∧ ∃ hb : Heap, hb.get = (H i).get ∧ tr[i]? = some (ldId s (F i), hb, ho)
  | [], fr, fr', h, h', tr, he => by
    simp only [evTr, Option.some.injEq, Prod.mk.injEq] at he
    obtain ⟨rfl, rfl, _⟩ := he
    exact ⟨fun _ => fr, fun _ => h, rfl, rfl, rfl, rfl, fun i s hs => by simp at hs⟩
  | s :: ss, fr, fr', h, h', tr, he => by
    simp only [evTr] at he
    split at he
    · rename_i fr1 h1 h2
      obtain ⟨⟨fr2, h3, tr2⟩, h4, e⟩ := Option.map_eq_some_iff.1 he
      cases e
      obtain ⟨F, H, g1, g2, g3, g4, g5⟩ := tr_seq h4
      refine ⟨fun i => match i with | 0 => fr | i + 1 => F i, fun i => match i with | 0 => h | i + 1 => H i, rfl, rfl, g3, g4, fun i r hr => ?_⟩
      cases i with
      | zero =>
        simp only [List.getElem?_cons_zero, Option.some.injEq] at hr
        subst hr
        dsimp only
        rw [g1, g2]
        exact ⟨h1, h2, rfl, h, rfl, rfl⟩
      | succ i =>
        obtain ⟨ho, q1, q2, hb, qb, q3⟩ := g5 i r (by simpa using hr)
        exact ⟨ho, q1, q2, hb, qb, by simpa using q3⟩
    · cases he
theorem Tr.of_steps {F : Nat → List AV} {H : Nat → Heap} (hst : ∀ (i : Nat) (s : AStep), ss[i]? = some s → evStep C s (F i) (H i) = some (F (i + 1), H (i + 1))) (hp : drawPairs b ss.zipIdx = []) : Tr C ss b F H := by
  refine ⟨fun i s hs => ⟨H i, H (i + 1), hst i s hs, Heap.alike_refl _, Heap.alike_refl _⟩, fun i j s r n x id off h1 h2 h3 h4 h5 h6 h7 => ?_⟩
  have := mem_pairs (b := b) h1 h2 (by unfold AStep.isLd; rw [h3]) h5 h6 h7
  rw [hp] at this
  cases this
mutual
theorem AV.eqb_eq : ∀ (a b : AV), a.eqb b = true → a = b := fun a b h => by
  cases a <;> cases b <;> simp only [AV.eqb, Bool.and_eq_true, beq_iff_eq, decide_eq_true_eq, Bool.false_eq_true] at h
  case bool.bool => exact congrArg _ h
  case int.int => obtain ⟨rfl, rfl⟩ := h; rfl
  case str.str => exact congrArg _ h
  case ptr.ptr => rw [Nat.eq_of_beq_eq_true h.1, Nat.eq_of_beq_eq_true h.2]
  case ip.ip => exact congrArg _ (AV.eqbL_eq _ _ h)
  case sl.sl => exact congrArg _ (AV.eqbL_eq _ _ h)
  case vec.vec => obtain ⟨⟨⟨⟨h1, h2⟩, h3⟩, h4⟩, h5⟩ := h; rw [Nat.eq_of_beq_eq_true h1, Nat.eq_of_beq_eq_true h2, Nat.eq_of_beq_eq_true h3, Nat.eq_of_beq_eq_true h4, Nat.eq_of_beq_eq_true h5]
  case map.map => exact congrArg _ (Nat.eq_of_beq_eq_true h)
  case fn.fn => obtain ⟨h1, h⟩ := h; rw [Nat.eq_of_beq_eq_true h1, AV.eqbL_eq _ _ h]
  case iface.iface => obtain ⟨h1, h⟩ := h; rw [Nat.eq_of_beq_eq_true h1, AV.eqb_eq _ _ h]
  case agg.agg => exact congrArg _ (AV.eqbL_eq _ _ h)
  case tuple.tuple => exact congrArg _ (AV.eqbL_eq _ _ h)
  all_goals rfl
theorem AV.eqbL_eq : ∀ (a b : List AV), AV.eqbL a b = true → a = b := fun a b h => by
  cases a with
  | nil => cases b with
    | nil => rfl
    | cons y s => simp [AV.eqbL] at h
  | cons x r => cases b with
    | nil => simp [AV.eqbL] at h
    | cons y s =>
      simp only [AV.eqbL, Bool.and_eq_true] at h
      rw [AV.eqb_eq x y h.1, AV.eqbL_eq r s h.2]
end
theorem sameO_eq {a b : Option AObj} (h : sameO a b = true) : a = b := by
  unfold sameO at h
  split at h
  · rw [AV.eqbL_eq _ _ h]
  · cases h
theorem st_other {r : AStep} {fr fr' : List AV} {h h' : Heap} {id : Nat} (he : r.eff = true) (h0 : 0 < ldId r fr) (hne : ¬ id + 1 = ldId r fr) (hev : evStep C r fr h = some (fr', h')) : h'.get id = h.get id := by
  obtain ⟨dst, op, guard⟩ := r
  unfold ldId at h0 hne
  unfold AStep.eff at he
  cases op with
  | call f args => simp at h0
  | callv x args => simp at h0
  | kcall f => simp at h0
  | op o =>
    cases o with
    | ld n x => simp at he
    | st n x v =>
      dsimp only at h0 hne
      unfold evStep at hev
      dsimp only at hev
      split at hev
      · cases hev
      · cases hev; rfl
      · obtain ⟨⟨v1, h1⟩, h2, e⟩ := Option.map_eq_some_iff.1 hev
        cases e
        simp only [evOp] at h2
        split at h2
        · rename_i tid off vs hx hv
          rw [hx] at h0 hne
          split at h2
          · rename_i cs hrow
            split at h2
            · cases h2
              rw [Heap.get_mark]
              exact Heap.get_set_other (by dsimp only at hne; omega)
            · cases h2
          · cases h2
        · cases h2
    | _ => simp at h0
theorem Tr.of_tr (hC : CallCL C) {F : Nat → List AV} {H : Nat → Heap} {tr : List (Nat × Heap × Heap)}
    (hst : ∀ (i : Nat) (s : AStep), ss[i]? = some s → ∃ ho : Heap, evStep C s (F i) { H i with md := (H i).next } = some (F (i + 1), ho) ∧ H (i + 1) = { ho with md := min (H i).md ho.md } ∧ ∃ hb : Heap, hb.get = (H i).get ∧ tr[i]? = some (ldId s (F i), hb, ho))
    (hw : (H 0).wf) (hp : chkTr tr (drawPairs b ss.zipIdx) = true) : Tr C ss b F H := by
  have wfs : ∀ j, j ≤ ss.length → (H j).wf := fun j => by
    induction j with
    | zero => exact fun _ => hw
    | succ j ih =>
      intro hj
      obtain ⟨ho, g1, g2, _⟩ := hst j _ (List.getElem?_eq_getElem (show j < ss.length by omega))
      have := (CW.unmd (step_cl hC g1) (ih (by omega))).2
      rw [g2]
      exact this
  refine ⟨fun i s hs => ?_, fun i j s r n x id off h1 h2 h3 h4 h5 h6 h7 => ?_⟩
  · obtain ⟨ho, g1, g2, g3⟩ := hst i s hs
    exact ⟨_, ho, g1, ⟨rfl, rfl⟩, by rw [g2]; exact ⟨rfl, rfl⟩⟩
  · have hm := mem_pairs (b := b) h1 h2 (by unfold AStep.isLd; rw [h3]) h5 h6 h7
    unfold chkTr at hp
    rw [List.all_eq_true] at hp
    have hp := hp _ hm
    obtain ⟨ho, g1, g2, hb, gb, g3⟩ := hst i s h1
    obtain ⟨ho', g1', g2', hb', gb', g3'⟩ := hst j r h2
    dsimp only at hp
    rw [g3, g3'] at hp
    have e : ldId s (F i) = id + 1 := by unfold ldId; rw [h3]; dsimp only; rw [h4]
    rw [e] at hp
    rw [g2']
    rw [Bool.or_eq_true, Bool.or_eq_true] at hp
    rcases hp with (hp | hp) | hp
    · have hlt : id < ho'.md := by
        have : id + 1 ≤ ho'.md := by simpa using hp
        omega
      have c := (step_cl hC g1' (wfs j (by have := (List.getElem?_eq_some_iff.1 h2).1; omega))).1
      have hmd := c.md
      exact c.same id hlt (by dsimp only at hmd ⊢; omega)
    · simp only [Bool.and_eq_true, decide_eq_true_eq, Bool.not_eq_true', beq_eq_false_iff_ne] at hp
      have ho := st_other h5 hp.1 hp.2 g1'
      exact ho
    · simp only [Bool.and_eq_true, Nat.add_sub_cancel] at hp
      have ho := sameO_eq hp.2
      rw [gb'] at ho
      exact ho.symm
theorem region_ok (hC : CallOK P X C) (hm : P.follows .mixedOrders = true) (hs : allSome (compStep P ops) ops.toList = some ss) (hd : drawOK ops ss b = true) {F : Nat → List AV} {H : Nat → Heap} (T : Tr C ss b F H)
    {φ : Phi} {w : World} {a : Act} {id : Nat} {Q : Exit → Act → World → Prop} (hf : FR φ (H 0) w (F 0) a.tmps) (hr : HR φ (H 0) w) (hG : Glob P X φ (H 0) w)
    (hQ : ∀ φ' a' w', FR φ' (H ss.length) w' (F ss.length) a'.tmps → HR φ' (H ss.length) w' → Ext φ (H 0) w φ' (H ss.length) w' → a'.defers = a.defers → Q .normal a' w') : (Code.region id ops true).wp P Q a w := by
  have st := stat_of hs hd
  obtain ⟨r1, x1⟩ := hr.world (w' := { w with drawn := w.drawn + 1 }) rfl rfl rfl rfl
  refine wp_region_any hm ?_
  have hnone : ∀ i, ¬ SS (Array.replicate ops.size false) i := fun i h => by
    unfold SS at h
    rw [Array.getD_eq_getD_getElem?, Array.getElem?_replicate] at h
    split at h <;> cases h
  have D0 : DI ops ss F H φ { w with drawn := w.drawn + 1 } a.defers (Array.replicate ops.size false) φ (fun _ => default) (F 0) 0 a { w with drawn := w.drawn + 1 } := by
    refine ⟨by simp [st.len], fun j o _ h => absurd h (hnone j), Nat.zero_le _, fun i s h => by omega, fun i s _ _ _ h => absurd h (hnone i), r1, hf.ext x1, .refl _ _ _, rfl, fun i s d _ _ h => absurd h (hnone i), fun _ _ _ _ _ _ => rfl, fun _ _ => rfl,
      fun i s _ _ _ h => absurd h (hnone i), fun i j s r _ _ _ _ _ _ h => absurd h (hnone i), fun y hy => .inl hy, fun y hy => ⟨hy, rfl⟩, rfl⟩
  obtain ⟨φ1, cu1, k1, D1, kx⟩ := D0.advance T st ss.length (by omega)
  refine any_ok hC (hG.ext x1) T st (fun φ' a' w' f1 r2 e1 d1 => hQ φ' a' w' f1 r2 (x1.trans e1) d1) ops.size _ φ1 _ cu1 k1 a _ D1 kx ?_
  unfold unl
  have := List.countP_le_length (p := fun i => !(Array.replicate ops.size false).getD i false) (l := List.range ss.length)
  rw [List.length_range, st.len] at this
  rw [st.len]
  exact this
end
end Sz

/- A loop's head: what is let go. No program is named here. -/
namespace Sz
open Go
section
variable {C : Nat → List AV → Heap → Option (AV × Heap)}
theorem keeps_spec (n0 : Nat) : ∀ (fr : List AV) (acc : List Nat), acc.Nodup → (∀ id ∈ acc, n0 ≤ id) → (keeps n0 fr acc).Nodup ∧ (∀ id ∈ keeps n0 fr acc, n0 ≤ id) ∧ (∀ id ∈ acc, id ∈ keeps n0 fr acc) ∧
    ∀ v ∈ fr, ∀ id, v.top = some id → n0 ≤ id → id ∈ keeps n0 fr acc
  | [], acc, h1, h2 => ⟨h1, h2, fun _ h => h, fun v hv => by cases hv⟩
  | v :: r, acc, h1, h2 => by
    have skip : (∀ id, v.top = some id → n0 ≤ id → id ∈ acc) → keeps n0 (v :: r) acc = keeps n0 r acc → (keeps n0 (v :: r) acc).Nodup ∧ (∀ id ∈ keeps n0 (v :: r) acc, n0 ≤ id) ∧ (∀ id ∈ acc, id ∈ keeps n0 (v :: r) acc) ∧
        ∀ u ∈ v :: r, ∀ id, u.top = some id → n0 ≤ id → id ∈ keeps n0 (v :: r) acc := fun hv he => by
      obtain ⟨g1, g2, g3, g4⟩ := keeps_spec n0 r acc h1 h2
      rw [he]
      refine ⟨g1, g2, g3, fun u hu id e hle => ?_⟩
      cases hu with
      | head => exact g3 id (hv id e hle)
      | tail _ hu => exact g4 u hu id e hle
    cases ht : v.top with
    | none => exact skip (fun id e => by rw [ht] at e; cases e) (by simp only [keeps, ht])
    | some id =>
      by_cases hc : n0 ≤ id ∧ acc.contains id = false
      · have hk : keeps n0 (v :: r) acc = keeps n0 r (acc ++ [id]) := by simp only [keeps, ht]; rw [if_pos hc]
        have hni : id ∉ acc := fun hm => by
          have := List.contains_iff_mem.2 hm
          rw [hc.2] at this
          cases this
        obtain ⟨g1, g2, g3, g4⟩ := keeps_spec n0 r (acc ++ [id]) (by
          rw [List.nodup_append]
          refine ⟨h1, by simp, fun x hx y hy => ?_⟩
          rw [List.mem_singleton] at hy
          subst hy
          exact fun e => hni (e ▸ hx)) (fun x hx => by
          rcases List.mem_append.1 hx with hx | hx
          · exact h2 x hx
          · rw [List.mem_singleton] at hx; rw [hx]; exact hc.1)
        rw [hk]
        refine ⟨g1, g2, fun x hx => g3 x (List.mem_append_left _ hx), fun u hu x e hle => ?_⟩
        cases hu with
        | head =>
          have e' : id = x := by rw [ht] at e; exact Option.some.inj e
          exact g3 x (by rw [e']; simp)
        | tail _ hu => exact g4 u hu x e hle
      · refine skip (fun x e hle => ?_) (by simp only [keeps, ht]; rw [if_neg hc])
        have e' : id = x := by rw [ht] at e; exact Option.some.inj e
        subst e'
        by_cases hm : acc.contains id = false
        · exact absurd ⟨hle, hm⟩ hc
        · exact List.contains_iff_mem.1 (by simpa using hm)
theorem objsAt_spec {h : Heap} {n0 : Nat} : ∀ {ks : List Nat} {os : List AObj}, objsAt h n0 ks = some os → os.length = ks.length ∧ ∀ (i : Nat) (id : Nat), ks[i]? = some id → ∃ o, os[i]? = some o ∧ h.get id = some o ∧ lowObj n0 o = true
  | [], os, he => by
    simp only [objsAt, Option.some.injEq] at he
    subst he
    exact ⟨rfl, fun i id hi => by simp at hi⟩
  | k :: ks, os, he => by
    simp only [objsAt] at he
    split at he
    · rename_i o os' h1 h2
      split at he
      · rename_i h3
        cases he
        obtain ⟨g1, g2⟩ := objsAt_spec h2
        refine ⟨by simp [g1], fun i id hi => ?_⟩
        cases i with
        | zero =>
          simp only [List.getElem?_cons_zero, Option.some.injEq] at hi
          subst hi
          exact ⟨o, by simp, h1, h3⟩
        | succ i => exact g2 i id (by simpa using hi)
      · cases he
    · cases he
theorem gc1_heap {n0 : Nat} {fr : List AV} {h : Heap} (hwf : h.wf) : (gc1 n0 fr h = (fr, h)) ∨ ∃ os, objsAt h n0 (keeps n0 fr []) = some os ∧ n0 ≤ h.wl ∧ n0 ≤ h.next ∧ (∀ v ∈ fr, v.top.isSome = true ∨ v.refs ≤ n0) ∧
    (gc1 n0 fr h).1 = fr.map (ren n0 (keeps n0 fr [])) ∧ (gc1 n0 fr h).2.next = n0 + os.length ∧ (gc1 n0 fr h).2.wl = h.wl ∧ (gc1 n0 fr h).2.md = h.md ∧ (gc1 n0 fr h).2.wf ∧
    (∀ id, id < n0 → (gc1 n0 fr h).2.get id = h.get id) ∧ ∀ i, (gc1 n0 fr h).2.get (n0 + i) = os[i]? := by
  unfold gc1
  split
  · rename_i os hos
    split
    · rename_i hc
      refine .inr ⟨os, hos, hc.1, hc.2.1, fun v hv => ?_, rfl, rfl, rfl, rfl, ?_, fun id hid => ?_, fun i => ?_⟩
      · have := List.all_eq_true.1 hc.2.2 v hv
        simpa using this
      · unfold Heap.wf at hwf ⊢
        simp only [List.length_append, List.length_reverse, List.length_drop, hwf]
        omega
      · unfold Heap.get
        dsimp only
        rw [if_pos (by omega), if_pos (by omega), List.getElem?_append_right (by simp; omega), List.getElem?_drop]
        congr 1
        simp
        omega
      · unfold Heap.get
        dsimp only
        by_cases hi : i < os.length
        · rw [if_pos (by omega), List.getElem?_append_left (by simp; omega), List.getElem?_reverse (by omega)]
          congr 1
          omega
        · rw [if_neg (by omega), List.getElem?_eq_none (by omega)]
    · exact .inl rfl
  · exact .inl rfl
theorem keeps_append (n0 : Nat) : ∀ (a b : List AV) (acc : List Nat), keeps n0 (a ++ b) acc = keeps n0 b (keeps n0 a acc)
  | [], b, acc => rfl
  | v :: r, b, acc => by
    rw [List.cons_append]
    simp only [keeps]
    split
    · split
      · exact keeps_append n0 r b _
      · exact keeps_append n0 r b _
    · exact keeps_append n0 r b _
theorem oldCells_mem {v : AV} : ∀ {os : List AObj} {o : AObj}, o ∈ os → v ∈ objCells o → v ∈ oldCells os
  | a :: r, o, ho, hv => by
    rw [oldCells, List.mem_append]
    cases ho with
    | head => exact .inl hv
    | tail _ ho => exact .inr (oldCells_mem ho hv)
theorem ren_low {n0 : Nat} {ks : List Nat} {v : AV} (h : v.refs ≤ n0) : ren n0 ks v = v := by
  cases v <;> simp only [ren] <;> simp only [AV.refs] at h <;> rw [renId, if_pos (by omega)]
theorem renObj_low {n0 : Nat} {ks : List Nat} {o : AObj} (h : lowCells n0 o = true) : renObj n0 ks o = o := by
  unfold lowCells at h
  rw [List.all_eq_true] at h
  cases o with
  | row cs =>
    simp only [renObj, AObj.row.injEq]
    have : ∀ v ∈ cs, ren n0 ks v = v := fun v hv => ren_low (by simpa using h v hv)
    simpa using List.map_congr_left this
  | map es =>
    simp only [renObj, AObj.map.injEq]
    have : ∀ e ∈ es, (ren n0 ks e.1, ren n0 ks e.2) = e := fun e he => by
      have h1 := h e.1 (by simp only [objCells, List.mem_flatMap]; exact ⟨e, he, by simp⟩)
      have h2 := h e.2 (by simp only [objCells, List.mem_flatMap]; exact ⟨e, he, by simp⟩)
      rw [ren_low (by simpa using h1), ren_low (by simpa using h2)]
    simpa using List.map_congr_left this
  | dead => rfl
theorem gc2_heap {n0 : Nat} {fr : List AV} {h : Heap} (hwf : h.wf) : (gc2 n0 fr h = (fr, h)) ∨ ∃ ks os, objsAt h n0 ks = some os ∧ ks.Nodup ∧ (∀ id ∈ ks, n0 ≤ id) ∧ n0 ≤ h.next ∧ (∀ v ∈ fr, (v.top.isSome = true ∨ v.refs ≤ n0) ∧ ∀ id, v.top = some id → n0 ≤ id → id ∈ ks) ∧
    (∀ id o, id < n0 → h.get id = some o → ∀ v ∈ objCells o, (v.top.isSome = true ∨ v.refs ≤ n0) ∧ ∀ id, v.top = some id → n0 ≤ id → id ∈ ks) ∧
    (gc2 n0 fr h).1 = fr.map (ren n0 ks) ∧ (gc2 n0 fr h).2.next = n0 + os.length ∧ (gc2 n0 fr h).2.wl = h.wl ∧ (gc2 n0 fr h).2.md = min h.md h.wl ∧ (gc2 n0 fr h).2.wf ∧
    (∀ id, id < n0 → (gc2 n0 fr h).2.get id = (h.get id).map (renObj n0 ks)) ∧ (∀ i, (gc2 n0 fr h).2.get (n0 + i) = os[i]?) ∧
    ∀ id o, id < n0 → id < h.wl → h.get id = some o → lowCells n0 o = true := by
  unfold gc2
  split
  · rename_i os hos
    split
    · rename_i hc
      obtain ⟨hc1, hc2, hc3, hc4⟩ := hc
      rw [← keeps_append] at hos ⊢
      generalize hol : h.objs.drop (h.next - n0) = ol at *
      have hlen : ol.length = n0 := by rw [← hol, List.length_drop, hwf]; omega
      have hget : ∀ id, id < n0 → h.get id = ol[n0 - 1 - id]? := fun id hid => by
        unfold Heap.get
        rw [if_pos (by omega), ← hol, List.getElem?_drop]
        congr 1
        omega
      obtain ⟨k1, k2, _, k4⟩ := keeps_spec n0 (fr ++ oldCells ol) [] List.nodup_nil (fun id hid => by cases hid)
      refine .inr ⟨_, os, hos, k1, k2, hc1, fun v hv => ⟨?_, fun id => k4 v (List.mem_append_left _ hv) id⟩, fun id o hid hg v hv => ?_, rfl, rfl, rfl, rfl, ?_, fun id hid => ?_, fun i => ?_, fun id o hid hw hg => ?_⟩
      · have := List.all_eq_true.1 hc2 v hv
        simpa [topLow] using this
      · rw [hget id hid] at hg
        have hm := oldCells_mem (List.mem_of_getElem? hg) hv
        have := List.all_eq_true.1 hc3 v hm
        exact ⟨by simpa [topLow] using this, fun id' => k4 v (List.mem_append_right _ hm) id'⟩
      · unfold Heap.wf
        simp only [List.length_append, List.length_reverse, List.length_map, hlen]
        omega
      · rw [hget id hid]
        unfold Heap.get
        dsimp only
        rw [if_pos (by omega), List.getElem?_append_right (by simp; omega), List.getElem?_map]
        congr 2
        simp
        omega
      · unfold Heap.get
        dsimp only
        by_cases hi : i < os.length
        · rw [if_pos (by omega), List.getElem?_append_left (by simp; omega), List.getElem?_reverse (by omega)]
          congr 1
          omega
        · rw [if_neg (by omega), List.getElem?_eq_none (by omega)]
      · rw [hget id hid] at hg
        refine List.all_eq_true.1 hc4 o (List.mem_of_getElem? (i := n0 - 1 - id - (n0 - h.wl)) ?_)
        rw [List.getElem?_drop, ← hg]
        congr 1
        omega
    · exact .inl rfl
  · exact .inl rfl
theorem gc1_cl {he h : Heap} {fr : List AV} (hwf : h.wf) (c : CL he h) : CL he (gc1 he.next fr h).2 := by
  rcases gc1_heap (n0 := he.next) (fr := fr) hwf with e | ⟨os, h1, h2, h3, h4, h5, h6, h7, h8, h9, h10, h11⟩
  · rw [e]; exact c
  · refine ⟨by rw [h6]; omega, by rw [h7]; exact c.wl, fun n q1 q2 q3 id hid => ?_, by rw [h8]; exact c.md, fun id q1 q2 => ?_⟩
    · have := c.le n q1 (by rw [← h7]; exact q2) q3 id hid
      unfold ObjLe at this ⊢
      rw [h10 id (by omega)]
      exact this
    · rw [h10 id q2]
      exact c.same id (by rw [← h8]; exact q1) q2
theorem gc2_cl {he h : Heap} {fr : List AV} (hwf : h.wf) (c : CL he h) : CL he (gc2 he.next fr h).2 := by
  rcases gc2_heap (n0 := he.next) (fr := fr) hwf with e | ⟨ks, os, h1, _, _, h3, _, _, h5, h6, h7, h8, h9, h10, h11, h12⟩
  · rw [e]; exact c
  · have hid0 : ∀ id, id < he.next → id < h.wl → (gc2 he.next fr h).2.get id = h.get id := fun id q1 q2 => by
      rw [h10 id q1]
      cases hg : h.get id with
      | none => rfl
      | some o => rw [Option.map_some, renObj_low (h12 id o q1 q2 hg)]
    refine ⟨by rw [h6]; omega, by rw [h7]; exact c.wl, fun n q1 q2 q3 id hid => ?_, by rw [h8]; have := c.md; omega, fun id q1 q2 => ?_⟩
    · rw [h7] at q2
      have := c.le n q1 q2 q3 id hid
      unfold ObjLe at this ⊢
      rw [hid0 id (by omega) (by omega)]
      exact this
    · rw [h8] at q1
      rw [hid0 id q2 (by omega)]
      exact c.same id (by omega) q2
theorem gc_cl {he h : Heap} {fr : List AV} (hwf : h.wf) (c : CL he h) : CL he (gc he.next fr h).2 := by
  unfold gc
  split
  · exact gc1_cl hwf c
  · exact gc2_cl hwf c
theorem gc_wf {n0 : Nat} {h : Heap} {fr : List AV} (hwf : h.wf) : (gc n0 fr h).2.wf := by
  unfold gc
  split
  · rcases gc1_heap (n0 := n0) (fr := fr) hwf with e | ⟨os, _, _, _, _, _, _, _, _, h9, _⟩
    · rw [e]; exact hwf
    · exact h9
  · rcases gc2_heap (n0 := n0) (fr := fr) hwf with e | ⟨ks, os, h1, _, _, h3, _, _, h5, h6, h7, h8, h9, _⟩
    · rw [e]; exact hwf
    · exact h9
theorem gc_cw {he h : Heap} {fr : List AV} (c : CW he h) : CW he (gc he.next fr h).2 := fun w => by
  obtain ⟨c1, w1⟩ := c w
  exact ⟨gc_cl w1 c1, gc_wf w1⟩
theorem loop_cl {B : List AV → Heap → Option (Ex × List AV × Heap)} (hB : ∀ fr h ex fr' h', B fr h = some (ex, fr', h') → CW h h') {live : List Bool} {he : Heap} : ∀ {m : Nat} {fr fr' : List AV} {h h' : Heap} {ex : Ex}, loopN B live he.next m fr h = some (ex, fr', h') → CW he h → CW he h'
  | 0, fr, fr', h, h', ex, hev, _ => by simp [loopN] at hev
  | m + 1, fr, fr', h, h', ex, hev, c => by
    simp only [loopN] at hev
    have c1 := gc_cw (fr := clear live fr) c
    split at hev
    · rename_i fr1 h1 h2
      exact loop_cl hB hev (c1.trans (hB _ _ _ _ _ h2))
    · exact c1.trans (hB _ _ _ _ _ hev)
theorem CW.unwl {h h' : Heap} (c : CW { h with wl := h.next } h') : CW h { h' with wl := min h.wl h'.wl } := fun w => by
  obtain ⟨c1, w1⟩ := c w
  exact ⟨⟨c1.next, Nat.min_le_left _ _, fun n h1 h2 h3 => c1.le n h1 (by dsimp only at h2; omega) h3, c1.md, c1.same⟩, w1⟩
theorem code_cl (hC : CallCL C) {n : Nat} : ∀ {ac : ACode} {fr fr' : List AV} {h h' : Heap} {ex : Ex}, evCode C n ac fr h = some (ex, fr', h') → CW h h' := by
  intro ac
  induction ac with
  | skip =>
    intro fr fr' h h' ex he
    simp only [evCode, Option.some.injEq, Prod.mk.injEq] at he
    obtain ⟨_, _, rfl⟩ := he
    exact .refl _
  | exit id _ =>
    intro fr fr' h h' ex he
    simp only [evCode, Option.some.injEq, Prod.mk.injEq] at he
    obtain ⟨_, _, rfl⟩ := he
    exact .refl _
  | ret _ =>
    intro fr fr' h h' ex he
    simp only [evCode, Option.some.injEq, Prod.mk.injEq] at he
    obtain ⟨_, _, rfl⟩ := he
    exact .refl _
  | reg ops =>
    intro fr fr' h h' ex he
    simp only [evCode, Option.map_eq_some_iff] at he
    obtain ⟨⟨fr1, h1⟩, he, e⟩ := he
    cases e
    exact steps_cl hC he
  | dreg ops chk =>
    intro fr fr' h h' ex he
    simp only [evCode] at he
    split at he
    · rename_i fr1 h1 tr htr
      split at he
      · cases he
        exact tr_cl hC htr
      · cases he
    · cases he
  | seq a b iha ihb =>
    intro fr fr' h h' ex he
    simp only [evCode] at he
    split at he
    · rename_i fr1 h1 h2
      exact (iha h2).trans (ihb he)
    · exact iha he
  | cond c a b iha ihb =>
    intro fr fr' h h' ex he
    simp only [evCode] at he
    split at he
    · split at he
      · exact iha he
      · exact ihb he
    · cases he
  | block id a iha =>
    intro fr fr' h h' ex he
    simp only [evCode] at he
    split at he
    · rename_i i fr1 h1 h2
      cases he
      exact iha h2
    · exact iha he
  | loop live a iha =>
    intro fr fr' h h' ex he
    simp only [evCode] at he
    obtain ⟨⟨ex1, fr1, h1⟩, h2, e⟩ := Option.map_eq_some_iff.1 he
    cases e
    exact CW.unwl (gc_cw (he := { h with wl := h.next }) (fr := fr1) (loop_cl (he := { h with wl := h.next }) (fun fr h ex fr' h' he => iha he) h2 (.refl _)))
end
end Sz

/- The abstract run is sound: code. No program is named here. -/
namespace Sz
open Go
variable {X : World → Prop}
section
variable {P : Program} {C : Nat → List AV → Heap → Option (AV × Heap)}
def exOf : Ex → Exit
  | .normal => .normal
  | .exit id => .exit id
  | .ret => .ret
theorem clear_ok {φ : Phi} {h : Heap} {w : World} : ∀ {live : List Bool} {fr : List AV} {tm : Array Value}, FR φ h w fr tm → FR φ h w (clear live fr) tm := by
  have len : ∀ (live : List Bool) (fr : List AV), (clear live fr).length = fr.length := by
    intro live
    induction live with
    | nil => intro fr; cases fr <;> rfl
    | cons b r ih => intro fr; cases fr with
      | nil => rfl
      | cons v vs => simp [clear, ih]
  have get : ∀ (live : List Bool) (fr : List AV) (t : Nat), (clear live fr).getD t .undef = fr.getD t .undef ∨ (clear live fr).getD t .undef = .undef := by
    intro live
    induction live with
    | nil => intro fr t; cases fr <;> exact .inl rfl
    | cons b r ih => intro fr t; cases fr with
      | nil => exact .inl rfl
      | cons v vs =>
        cases t with
        | zero => cases b <;> simp [clear]
        | succ t => simpa [clear] using ih vs t
  intro live fr tm hf
  refine ⟨by rw [len]; exact hf.1, fun t => ?_⟩
  rcases get live fr t with e | e
  · rw [e]; exact hf.2 t
  · rw [e]; exact .undef _
def CodeOK (P : Program) (X : World → Prop) (C : Nat → List AV → Heap → Option (AV × Heap)) (n : Nat) (ac : ACode) (c : Code) : Prop :=
  ∀ ⦃φ : Phi⦄ ⦃h h' : Heap⦄ ⦃w : World⦄ ⦃fr fr' : List AV⦄ ⦃a : Act⦄ ⦃ex : Ex⦄, evCode C n ac fr h = some (ex, fr', h') → FR φ h w fr a.tmps → HR φ h w → Glob P X φ h w → ∀ ⦃Q : Exit → Act → World → Prop⦄,
    (∀ φ' a' w', FR φ' h' w' fr' a'.tmps → HR φ' h' w' → Ext φ h w φ' h' w' → a'.defers = a.defers → Q (exOf ex) a' w') → c.wp P Q a w
theorem gc1_ok {φ φe : Phi} {h he : Heap} {w we : World} {fr : List AV} {tm : Array Value} (hr : HR φ h w) (hf : FR φ h w fr tm) (hx : Ext φe he we φ h w) (hre : HR φe he we) (c : CL he h) :
    ∃ φ', HR φ' (gc1 he.next fr h).2 w ∧ FR φ' (gc1 he.next fr h).2 w (gc1 he.next fr h).1 tm ∧ Ext φe he we φ' (gc1 he.next fr h).2 w := by
  rcases gc1_heap (n0 := he.next) (fr := fr) hr.wf with e | ⟨os, h1, h2, h3, h4, h5, h6, h7, h8, h9, h10, h11⟩
  · rw [e]; exact ⟨φ, hr, hf, hx⟩
  · rw [h5]
    generalize hn0 : he.next = n0 at *
    generalize hks : keeps n0 fr [] = ks at *
    generalize hg : (gc1 n0 fr h).2 = g at *
    obtain ⟨k1, k2, _, k4⟩ := keeps_spec n0 fr [] List.nodup_nil (fun id hid => by cases hid)
    rw [hks] at k1 k2 k4
    obtain ⟨o1, o2⟩ := objsAt_spec h1
    have hle := c.le n0 (by omega) h2 (fun id hid => by have := hre.objLe id (by omega); rw [hn0] at this; exact this)
    let φ' : Phi := ⟨fun id => if id < n0 then φ id else φ (ks.getD (id - n0) 0), φ.gh⟩
    have old : ∀ id, id < n0 → φ' id = φ id := fun id hid => if_pos hid
    have new : ∀ (i : Nat) (id : Nat), ks[i]? = some id → φ' (n0 + i) = φ id := fun i id hi => by
      show (if n0 + i < n0 then φ (n0 + i) else φ (ks.getD (n0 + i - n0) 0)) = φ id
      rw [if_neg (by omega), Nat.add_sub_cancel_left, List.getD_eq_getElem?_getD, hi]
      rfl
    have lv : ∀ id, live g id → ∃ id0, live h id0 ∧ φ' id = φ id0 ∧ ((id < n0 ∧ id0 = id) ∨ (n0 ≤ id ∧ ks[id - n0]? = some id0)) := fun id hl => by
      obtain ⟨o, ho, hd⟩ := hl
      rcases Nat.lt_or_ge id n0 with hid | hid
      · rw [h10 id hid] at ho
        exact ⟨id, ⟨o, ho, hd⟩, old id hid, .inl ⟨hid, rfl⟩⟩
      · have e : id = n0 + (id - n0) := by omega
        rw [e, h11] at ho
        have hlt := (List.getElem?_eq_some_iff.1 ho).1
        have hk := List.getElem?_eq_getElem (show id - n0 < ks.length by omega)
        obtain ⟨o', q1, q2, q3⟩ := o2 _ _ hk
        rw [ho] at q1
        cases q1
        refine ⟨_, ⟨o, q2, hd⟩, ?_, .inr ⟨hid, hk⟩⟩
        have := new (id - n0) _ hk
        rw [← e] at this
        exact this
    have pr : ∀ b, Pr φ h w b → Pr φ' g w b := fun b hb => ⟨hb.1, fun id hl => by
      obtain ⟨id0, l0, e0, _⟩ := lv id hl
      rw [e0]
      exact hb.2.1 id0 l0, hb.2.2⟩
    have mv : ∀ v cv, v.refs ≤ n0 → RVh φ h w v cv → RVh φ' g w v cv := fun v cv hv hrv => hrv.mono (fun id q1 q2 => ⟨old id (by omega), by rw [h6]; omega⟩) fun b hb => ⟨pr b hb, rfl⟩
    have rowOf : ∀ id id0 cs, φ' id = φ id0 → h.get id0 = some (.row cs) → AV.refsL cs ≤ n0 → RowOK φ' g w id cs := fun id id0 cs e0 hg0 hrf => by
      obtain ⟨cc, el, fz, r1, r2, r3, r4, r5, r6⟩ := hr.rows id0 cs hg0
      refine ⟨cc, el, fz, by rw [e0]; exact r1, by rw [e0]; exact r2, by rw [e0]; exact r3, r4, by rw [e0]; exact r5, fun j hj => ?_⟩
      rw [e0]
      refine mv _ _ ?_ (r6 j hj)
      have := AV.refsL_mem (List.getElem_mem hj)
      omega
    have mapOf : ∀ id id0 es, φ' id = φ id0 → h.get id0 = some (.map es) → (∀ e ∈ es, e.1.refs ≤ n0 ∧ e.2.refs ≤ n0) → MapOK φ' g w id es := fun id id0 es e0 hg0 hrf => by
      obtain ⟨ents, clk, r1, r2, r3⟩ := hr.maps id0 es hg0
      refine ⟨ents, clk, by rw [e0]; exact r1, r2, fun j hj => ?_⟩
      have := hrf _ (List.getElem_mem hj)
      exact ⟨mv _ _ this.1 (r3 j hj).1, mv _ _ this.2 (r3 j hj).2⟩
    have kept : ∀ id o, n0 ≤ id → g.get id = some o → ∃ id0, ks[id - n0]? = some id0 ∧ h.get id0 = some o ∧ lowObj n0 o = true ∧ φ' id = φ id0 := fun id o hid ho => by
      have e : id = n0 + (id - n0) := by omega
      have ho' := ho
      rw [e, h11] at ho'
      have hlt := (List.getElem?_eq_some_iff.1 ho').1
      have hk := List.getElem?_eq_getElem (show id - n0 < ks.length by omega)
      obtain ⟨o', q1, q2, q3⟩ := o2 _ _ hk
      rw [ho'] at q1
      cases q1
      refine ⟨_, hk, q2, q3, ?_⟩
      have := new (id - n0) _ hk
      rw [← e] at this
      exact this
    have hr' : HR φ' g w := by
      refine ⟨h9, fun id cs hgi => ?_, fun id es hgi => ?_, fun i j hi hj hij => ?_, fun b hb => ⟨(hr.gh b hb).1, fun id hl => ?_⟩⟩
      · rcases Nat.lt_or_ge id n0 with hid | hid
        · rw [h10 id hid] at hgi
          exact rowOf id id cs (old id hid) hgi ((hle id hid).1 cs hgi)
        · obtain ⟨id0, _, q2, q3, q4⟩ := kept id _ hid hgi
          exact rowOf id id0 cs q4 q2 (by simpa [lowObj] using q3)
      · rcases Nat.lt_or_ge id n0 with hid | hid
        · rw [h10 id hid] at hgi
          exact mapOf id id es (old id hid) hgi ((hle id hid).2 es hgi)
        · obtain ⟨id0, _, q2, q3, q4⟩ := kept id _ hid hgi
          refine mapOf id id0 es q4 q2 fun e hem => ?_
          simp only [lowObj, List.all_eq_true] at q3
          simpa using q3 e hem
      · obtain ⟨i0, li, ei, ci⟩ := lv i hi
        obtain ⟨j0, lj, ej, cj⟩ := lv j hj
        rw [ei, ej] at hij
        have hij0 := hr.inj i0 j0 li lj hij
        rcases ci with ⟨ci1, ci2⟩ | ⟨ci1, ci2⟩ <;> rcases cj with ⟨cj1, cj2⟩ | ⟨cj1, cj2⟩
        · omega
        · have := k2 j0 (List.mem_of_getElem? cj2)
          omega
        · have := k2 i0 (List.mem_of_getElem? ci2)
          omega
        · rw [hij0] at ci2
          obtain ⟨x1, y1⟩ := List.getElem?_eq_some_iff.1 ci2
          obtain ⟨x2, y2⟩ := List.getElem?_eq_some_iff.1 cj2
          have := (List.getElem_inj (h₀ := x1) (h₁ := x2) k1).1 (y1.trans y2.symm)
          omega
      · obtain ⟨id0, l0, e0, _⟩ := lv id hl
        rw [e0]
        exact (hr.gh b hb).2 id0 l0
    have idx : ∀ id, n0 ≤ id → id ∈ ks → φ' (n0 + ks.idxOf id) = φ id ∧ n0 + ks.idxOf id < g.next := fun id hid hm => by
      have hlt := List.idxOf_lt_length_of_mem hm
      exact ⟨new _ _ (by rw [List.getElem?_eq_getElem hlt, List.getElem_idxOf]), by rw [h6]; omega⟩
    have rid : ∀ v ∈ fr, ∀ id, v.top = some id → φ' (renId n0 ks id) = φ id ∧ renId n0 ks id < g.next := fun v hv id ht => by
      unfold renId
      split
      · rename_i hid
        exact ⟨old id hid, by rw [h6]; omega⟩
      · rename_i hid
        exact idx id (by omega) (k4 v hv id ht (by omega))
    have val : ∀ v ∈ fr, ∀ cv, RVh φ h w v cv → RVh φ' g w (ren n0 ks v) cv := fun v hv cv hrv => by
      cases ht : v.top with
      | none =>
        have hlow : v.refs ≤ n0 := by
          rcases h4 v hv with e | e
          · rw [ht] at e; cases e
          · exact e
        have e : ren n0 ks v = v := by cases v <;> first | rfl | cases ht
        rw [e]
        exact mv v cv hlow hrv
      | some id =>
        obtain ⟨q1, q2⟩ := rid v hv id ht
        cases v <;> simp only [AV.top, Option.some.injEq, reduceCtorEq] at ht
        · subst ht
          obtain ⟨rfl, _⟩ := hrv.ptr_inv
          rw [← q1]
          exact .ptr _ _ q2
        · subst ht
          obtain ⟨cap, ad, rfl, _, r2, r3, r4, r5⟩ := hrv.vec_inv
          rw [← q1] at r4 r5
          exact .vec _ _ _ _ _ cap ad q2 r2 r3 r4 r5
        · subst ht
          obtain ⟨rfl, _⟩ := hrv.map_inv
          rw [← q1]
          exact .map _ q2
    refine ⟨φ', hr', ⟨by simp [hf.1], fun t => ?_⟩, ⟨hx.os, hx.tape, hx.output, hx.size, by rw [h6]; omega, fun id hid => ?_, fun b hb => ⟨pr b (hx.pr b hb).1, (hx.pr b hb).2⟩, hx.gh⟩⟩
    · have := hf.2 t
      rw [List.getD_eq_getElem?_getD] at this ⊢
      rw [List.getElem?_map]
      cases hv : fr[t]? with
      | none => exact .undef _
      | some v =>
        rw [hv] at this
        exact val v (List.mem_of_getElem? hv) _ this
    · rw [hn0] at hid
      exact (old id hid).trans (hx.phi id (by omega))
theorem gc2_ok {φ φe : Phi} {h he : Heap} {w we : World} {fr : List AV} {tm : Array Value} (hr : HR φ h w) (hf : FR φ h w fr tm) (hx : Ext φe he we φ h w) (hre : HR φe he we) :
    ∃ φ', HR φ' (gc2 he.next fr h).2 w ∧ FR φ' (gc2 he.next fr h).2 w (gc2 he.next fr h).1 tm ∧ Ext φe he we φ' (gc2 he.next fr h).2 w := by
  rcases gc2_heap (n0 := he.next) (fr := fr) hr.wf with e | ⟨ks, os, h1, k1, k2, h3, h4, h4o, h5, h6, h7, h8, h9, h10, h11, h12⟩
  · rw [e]; exact ⟨φ, hr, hf, hx⟩
  · rw [h5]
    generalize hn0 : he.next = n0 at *
    generalize hg : (gc2 n0 fr h).2 = g at *
    obtain ⟨o1, o2⟩ := objsAt_spec h1
    let φ' : Phi := ⟨fun id => if id < n0 then φ id else φ (ks.getD (id - n0) 0), φ.gh⟩
    have old : ∀ id, id < n0 → φ' id = φ id := fun id hid => if_pos hid
    have new : ∀ (i : Nat) (id : Nat), ks[i]? = some id → φ' (n0 + i) = φ id := fun i id hi => by
      show (if n0 + i < n0 then φ (n0 + i) else φ (ks.getD (n0 + i - n0) 0)) = φ id
      rw [if_neg (by omega), Nat.add_sub_cancel_left, List.getD_eq_getElem?_getD, hi]
      rfl
    have lv : ∀ id, live g id → ∃ id0, live h id0 ∧ φ' id = φ id0 ∧ ((id < n0 ∧ id0 = id) ∨ (n0 ≤ id ∧ ks[id - n0]? = some id0)) := fun id hl => by
      obtain ⟨o, ho, hd⟩ := hl
      rcases Nat.lt_or_ge id n0 with hid | hid
      · rw [h10 id hid] at ho
        obtain ⟨o', ho', e⟩ := Option.map_eq_some_iff.1 ho
        exact ⟨id, ⟨o', ho', fun e' => hd (by rw [← e, e']; rfl)⟩, old id hid, .inl ⟨hid, rfl⟩⟩
      · have e : id = n0 + (id - n0) := by omega
        rw [e, h11] at ho
        have hlt := (List.getElem?_eq_some_iff.1 ho).1
        have hk := List.getElem?_eq_getElem (show id - n0 < ks.length by omega)
        obtain ⟨o', q1, q2, q3⟩ := o2 _ _ hk
        rw [ho] at q1
        cases q1
        refine ⟨_, ⟨o, q2, hd⟩, ?_, .inr ⟨hid, hk⟩⟩
        have := new (id - n0) _ hk
        rw [← e] at this
        exact this
    have pr : ∀ b, Pr φ h w b → Pr φ' g w b := fun b hb => ⟨hb.1, fun id hl => by
      obtain ⟨id0, l0, e0, _⟩ := lv id hl
      rw [e0]
      exact hb.2.1 id0 l0, hb.2.2⟩
    have mv : ∀ v cv, v.refs ≤ n0 → RVh φ h w v cv → RVh φ' g w v cv := fun v cv hv hrv => hrv.mono (fun id q1 q2 => ⟨old id (by omega), by rw [h6]; omega⟩) fun b hb => ⟨pr b hb, rfl⟩
    have rowOf : ∀ id id0 cs, φ' id = φ id0 → h.get id0 = some (.row cs) → AV.refsL cs ≤ n0 → RowOK φ' g w id cs := fun id id0 cs e0 hg0 hrf => by
      obtain ⟨cc, el, fz, r1, r2, r3, r4, r5, r6⟩ := hr.rows id0 cs hg0
      refine ⟨cc, el, fz, by rw [e0]; exact r1, by rw [e0]; exact r2, by rw [e0]; exact r3, r4, by rw [e0]; exact r5, fun j hj => ?_⟩
      rw [e0]
      refine mv _ _ ?_ (r6 j hj)
      have := AV.refsL_mem (List.getElem_mem hj)
      omega
    have mapOf : ∀ id id0 es, φ' id = φ id0 → h.get id0 = some (.map es) → (∀ e ∈ es, e.1.refs ≤ n0 ∧ e.2.refs ≤ n0) → MapOK φ' g w id es := fun id id0 es e0 hg0 hrf => by
      obtain ⟨ents, clk, r1, r2, r3⟩ := hr.maps id0 es hg0
      refine ⟨ents, clk, by rw [e0]; exact r1, r2, fun j hj => ?_⟩
      have := hrf _ (List.getElem_mem hj)
      exact ⟨mv _ _ this.1 (r3 j hj).1, mv _ _ this.2 (r3 j hj).2⟩
    have kept : ∀ id o, n0 ≤ id → g.get id = some o → ∃ id0, ks[id - n0]? = some id0 ∧ h.get id0 = some o ∧ lowObj n0 o = true ∧ φ' id = φ id0 := fun id o hid ho => by
      have e : id = n0 + (id - n0) := by omega
      have ho' := ho
      rw [e, h11] at ho'
      have hlt := (List.getElem?_eq_some_iff.1 ho').1
      have hk := List.getElem?_eq_getElem (show id - n0 < ks.length by omega)
      obtain ⟨o', q1, q2, q3⟩ := o2 _ _ hk
      rw [ho'] at q1
      cases q1
      refine ⟨_, hk, q2, q3, ?_⟩
      have := new (id - n0) _ hk
      rw [← e] at this
      exact this
    have idx : ∀ id, n0 ≤ id → id ∈ ks → φ' (n0 + ks.idxOf id) = φ id ∧ n0 + ks.idxOf id < g.next := fun id hid hm => by
      have hlt := List.idxOf_lt_length_of_mem hm
      exact ⟨new _ _ (by rw [List.getElem?_eq_getElem hlt, List.getElem_idxOf]), by rw [h6]; omega⟩
    have rid : ∀ v : AV, (∀ id, v.top = some id → n0 ≤ id → id ∈ ks) → ∀ id, v.top = some id → φ' (renId n0 ks id) = φ id ∧ renId n0 ks id < g.next := fun v hv id ht => by
      unfold renId
      split
      · rename_i hid
        exact ⟨old id hid, by rw [h6]; omega⟩
      · rename_i hid
        exact idx id (by omega) (hv id ht (by omega))
    have val : ∀ v : AV, ((v.top.isSome = true ∨ v.refs ≤ n0) ∧ ∀ id, v.top = some id → n0 ≤ id → id ∈ ks) → ∀ cv, RVh φ h w v cv → RVh φ' g w (ren n0 ks v) cv := fun v hv cv hrv => by
      cases ht : v.top with
      | none =>
        have hlow : v.refs ≤ n0 := by
          rcases hv.1 with e | e
          · rw [ht] at e; cases e
          · exact e
        have e : ren n0 ks v = v := by cases v <;> first | rfl | cases ht
        rw [e]
        exact mv v cv hlow hrv
      | some id =>
        obtain ⟨q1, q2⟩ := rid v hv.2 id ht
        cases v <;> simp only [AV.top, Option.some.injEq, reduceCtorEq] at ht
        · subst ht
          obtain ⟨rfl, _⟩ := hrv.ptr_inv
          rw [← q1]
          exact .ptr _ _ q2
        · subst ht
          obtain ⟨cap, ad, rfl, _, r2, r3, r4, r5⟩ := hrv.vec_inv
          rw [← q1] at r4 r5
          exact .vec _ _ _ _ _ cap ad q2 r2 r3 r4 r5
        · subst ht
          obtain ⟨rfl, _⟩ := hrv.map_inv
          rw [← q1]
          exact .map _ q2
    have hr' : HR φ' g w := by
      refine ⟨h9, fun id cs hgi => ?_, fun id es hgi => ?_, fun i j hi hj hij => ?_, fun b hb => ⟨(hr.gh b hb).1, fun id hl => ?_⟩⟩
      · rcases Nat.lt_or_ge id n0 with hid | hid
        · rw [h10 id hid] at hgi
          obtain ⟨o, ho, e⟩ := Option.map_eq_some_iff.1 hgi
          have hvs := h4o id o hid ho
          cases o <;> simp only [renObj, AObj.row.injEq, reduceCtorEq] at e
          rename_i cs0
          subst e
          obtain ⟨cc, el, fz, r1, r2, r3, r4, r5, r6⟩ := hr.rows id cs0 ho
          refine ⟨cc, el, fz, by rw [old id hid]; exact r1, by rw [old id hid]; exact r2, by rw [old id hid, List.length_map]; exact r3, r4, by rw [old id hid]; exact r5, fun j hj => ?_⟩
          rw [old id hid, List.getElem_map]
          rw [List.length_map] at hj
          exact val _ (hvs _ (by simp [objCells])) _ (r6 j hj)
        · obtain ⟨id0, _, q2, q3, q4⟩ := kept id _ hid hgi
          exact rowOf id id0 cs q4 q2 (by simpa [lowObj] using q3)
      · rcases Nat.lt_or_ge id n0 with hid | hid
        · rw [h10 id hid] at hgi
          obtain ⟨o, ho, e⟩ := Option.map_eq_some_iff.1 hgi
          have hvs := h4o id o hid ho
          cases o <;> simp only [renObj, AObj.map.injEq, reduceCtorEq] at e
          rename_i es0
          subst e
          obtain ⟨ents, clk, r1, r2, r3⟩ := hr.maps id es0 ho
          refine ⟨ents, clk, by rw [old id hid]; exact r1, by rw [List.length_map]; exact r2, fun j hj => ?_⟩
          rw [List.length_map] at hj
          have hm : es0[j] ∈ es0 := List.getElem_mem hj
          rw [List.getElem_map]
          exact ⟨val _ (hvs _ (by simp only [objCells, List.mem_flatMap]; exact ⟨_, hm, by simp⟩)) _ (r3 j hj).1, val _ (hvs _ (by simp only [objCells, List.mem_flatMap]; exact ⟨_, hm, by simp⟩)) _ (r3 j hj).2⟩
        · obtain ⟨id0, _, q2, q3, q4⟩ := kept id _ hid hgi
          refine mapOf id id0 es q4 q2 fun e hem => ?_
          simp only [lowObj, List.all_eq_true] at q3
          simpa using q3 e hem
      · obtain ⟨i0, li, ei, ci⟩ := lv i hi
        obtain ⟨j0, lj, ej, cj⟩ := lv j hj
        rw [ei, ej] at hij
        have hij0 := hr.inj i0 j0 li lj hij
        rcases ci with ⟨ci1, ci2⟩ | ⟨ci1, ci2⟩ <;> rcases cj with ⟨cj1, cj2⟩ | ⟨cj1, cj2⟩
        · omega
        · have := k2 j0 (List.mem_of_getElem? cj2)
          omega
        · have := k2 i0 (List.mem_of_getElem? ci2)
          omega
        · rw [hij0] at ci2
          obtain ⟨x1, y1⟩ := List.getElem?_eq_some_iff.1 ci2
          obtain ⟨x2, y2⟩ := List.getElem?_eq_some_iff.1 cj2
          have := (List.getElem_inj (h₀ := x1) (h₁ := x2) k1).1 (y1.trans y2.symm)
          omega
      · obtain ⟨id0, l0, e0, _⟩ := lv id hl
        rw [e0]
        exact (hr.gh b hb).2 id0 l0
    refine ⟨φ', hr', ⟨by simp [hf.1], fun t => ?_⟩, ⟨hx.os, hx.tape, hx.output, hx.size, by rw [h6]; omega, fun id hid => ?_, fun b hb => ⟨pr b (hx.pr b hb).1, (hx.pr b hb).2⟩, hx.gh⟩⟩
    · have := hf.2 t
      rw [List.getD_eq_getElem?_getD] at this ⊢
      rw [List.getElem?_map]
      cases hv : fr[t]? with
      | none => exact .undef _
      | some v =>
        rw [hv] at this
        exact val v (h4 v (List.mem_of_getElem? hv)) _ this
    · rw [hn0] at hid
      exact (old id hid).trans (hx.phi id (by omega))
theorem gc_ok {φ φe : Phi} {h he : Heap} {w we : World} {fr : List AV} {tm : Array Value} (hr : HR φ h w) (hf : FR φ h w fr tm) (hx : Ext φe he we φ h w) (hre : HR φe he we) (c : CL he h) :
    ∃ φ', HR φ' (gc he.next fr h).2 w ∧ FR φ' (gc he.next fr h).2 w (gc he.next fr h).1 tm ∧ Ext φe he we φ' (gc he.next fr h).2 w := by
  unfold gc
  split
  · exact gc1_ok hr hf hx hre c
  · exact gc2_ok hr hf hx hre
theorem loop_ok (hCL : CallCL C) {n : Nat} {ac : ACode} {c : Code} {live : List Bool} (hb : CodeOK P X C n ac c) {φe : Phi} {he : Heap} {we : World} (hre : HR φe he we) (hG : Glob P X φe he we) :
    ∀ (m : Nat) {φ : Phi} {h h' : Heap} {w : World} {fr fr' : List AV} {a : Act} {ex : Ex}, loopN (evCode C n ac) live he.next m fr h = some (ex, fr', h') →
    FR φ h w fr a.tmps → HR φ h w → Ext φe he we φ h w → CW he h → ∀ {Q : Exit → Act → World → Prop},
    (∀ φ' a' w', FR φ' h' w' fr' a'.tmps → HR φ' h' w' → Ext φe he we φ' h' w' → a'.defers = a.defers → Q (exOf ex) a' w') → Code.rounds P c Q m a w
  | 0, φ, h, h', w, fr, fr', a, ex, hev, hf, hr, hx, hc, Q, hQ => by simp [loopN] at hev
  | m + 1, φ, h, h', w, fr, fr', a, ex, hev, hf, hr, hx, hc, Q, hQ => by
    rw [rounds_succ]
    simp only [loopN] at hev
    obtain ⟨φ0, r0, f0, x0⟩ := gc_ok hr (clear_ok (live := live) hf) hx hre (hc hre.wf).1
    have c0 := gc_cw (fr := clear live fr) hc
    split at hev
    · rename_i fr1 h1 h2
      refine hb h2 f0 r0 (hG.ext x0) fun φ1 a1 w1 f1 r1 e1 d1 => ?_
      exact loop_ok hCL hb hre hG m hev f1 r1 (x0.trans e1) (c0.trans (code_cl hCL h2)) fun φ2 a2 w2 f2 r2 e2 d2 => hQ φ2 a2 w2 f2 r2 e2 (d2.trans d1)
    · rename_i hne
      refine hb hev f0 r0 (hG.ext x0) fun φ1 a1 w1 f1 r1 e1 d1 => ?_
      have := hQ φ1 a1 w1 f1 r1 (x0.trans e1) d1
      cases ex with
      | normal => exact (hne _ _ hev).elim
      | exit id => exact this
      | ret => exact this
theorem die_none {n : Nat} {ac : ACode} {fr fr' : List AV} {h h' : Heap} {ex : Ex} (hc : ACode.reg [dieStep] = ac.strip) (he : evCode C n ac fr h = some (ex, fr', h')) : False := by
  cases ac <;> simp [ACode.strip] at hc
  subst hc
  simp [evCode, evSteps, evStep, dieStep, unwanted, evOp] at he
theorem code_ok (hC : CallOK P X C) (hCL : CallCL C) (hm : P.follows .mixedOrders = true) (n : Nat) : ∀ (c : Code) (ac : ACode), compCode P c = some ac.strip → CodeOK P X C n ac c
  | .skip, ac, hc => by
    simp only [compCode, Option.some.injEq] at hc
    cases ac <;> simp [ACode.strip] at hc
    intro φ h h' w fr fr' a ex he hf hr hG Q hQ
    simp only [evCode, Option.some.injEq, Prod.mk.injEq] at he
    obtain ⟨rfl, rfl, rfl⟩ := he
    exact wp_skip (hQ φ a w hf hr (.refl _ _ _) rfl)
  | .exit id, ac, hc => by
    simp only [compCode, Option.some.injEq] at hc
    cases ac <;> simp [ACode.strip] at hc
    subst hc
    intro φ h h' w fr fr' a ex he hf hr hG Q hQ
    simp only [evCode, Option.some.injEq, Prod.mk.injEq] at he
    obtain ⟨rfl, rfl, rfl⟩ := he
    exact wp_exit (hQ φ a w (clear_ok hf) hr (.refl _ _ _) rfl)
  | .ret, ac, hc => by
    simp only [compCode, Option.some.injEq] at hc
    cases ac <;> simp [ACode.strip] at hc
    intro φ h h' w fr fr' a ex he hf hr hG Q hQ
    simp only [evCode, Option.some.injEq, Prod.mk.injEq] at he
    obtain ⟨rfl, rfl, rfl⟩ := he
    exact wp_ret (hQ φ a w (clear_ok hf) hr (.refl _ _ _) rfl)
  | .region id ops draw, ac, hc => by
    simp only [compCode] at hc
    split at hc
    · rename_i as has
      split at hc
      · rename_i hd
        subst hd
        split at hc
        · rename_i hok
          simp only [Option.some.injEq] at hc
          intro φ h h' w fr fr' a ex he hf hr hG Q hQ
          unfold dregOf at hc
          split at hc
          · rename_i hp
            cases ac <;> simp [ACode.strip] at hc
            subst hc
            simp only [evCode, Option.map_eq_some_iff] at he
            obtain ⟨⟨fr1, h1⟩, he, e⟩ := he
            cases e
            obtain ⟨F, H, rfl, rfl, rfl, rfl, hst⟩ := steps_seq he
            exact region_ok hC hm has hok (Tr.of_steps hst hp) hf hr hG hQ
          · cases ac <;> simp [ACode.strip] at hc
            obtain ⟨rfl, rfl⟩ := hc
            simp only [evCode] at he
            split at he
            · rename_i fr1 h1 tr htr
              split at he
              · rename_i hchk
                cases he
                obtain ⟨F, H, rfl, rfl, rfl, rfl, hst⟩ := tr_seq htr
                exact region_ok hC hm has hok (Tr.of_tr hCL hst hr.wf hchk) hf hr hG hQ
              · cases he
            · cases he
        · simp only [Option.some.injEq] at hc
          intro φ h h' w fr fr' a ex he
          exact (die_none hc he).elim
      · rename_i hd
        have hd' : draw = false := by simpa using hd
        subst hd'
        simp only [Option.some.injEq] at hc
        cases ac <;> simp [ACode.strip] at hc
        subst hc
        intro φ h h' w fr fr' a ex he hf hr hG Q hQ
        simp only [evCode, Option.map_eq_some_iff] at he
        obtain ⟨⟨fr1, h1⟩, he, e⟩ := he
        cases e
        exact wp_region_list (steps_ok hC has he hf hr hG hQ)
    · simp only [Option.some.injEq] at hc
      intro φ h h' w fr fr' a ex he
      exact (die_none hc he).elim
  | .seq x y, ac, hc => by
    simp only [compCode] at hc
    split at hc
    · rename_i x' y' hx hy
      simp only [Option.some.injEq] at hc
      cases ac <;> simp [ACode.strip] at hc
      rename_i p q
      obtain ⟨rfl, rfl⟩ := hc
      have ihx := code_ok hC hCL hm n x p hx
      have ihy := code_ok hC hCL hm n y q hy
      intro φ h h' w fr fr' a ex he hf hr hG Q hQ
      refine wp_seq ?_
      simp only [evCode] at he
      split at he
      · rename_i fr1 h1 h2
        refine ihx h2 hf hr hG fun φ1 a1 w1 f1 r1 e1 d1 => ?_
        exact ihy he f1 r1 (hG.ext e1) fun φ2 a2 w2 f2 r2 e2 d2 => hQ φ2 a2 w2 f2 r2 (e1.trans e2) (d2.trans d1)
      · rename_i hne
        refine ihx he hf hr hG fun φ1 a1 w1 f1 r1 e1 d1 => ?_
        have := hQ φ1 a1 w1 f1 r1 e1 d1
        cases ex with
        | normal => exact (hne _ _ he).elim
        | exit id => exact this
        | ret => exact this
    · cases hc
  | .cond c x y, ac, hc => by
    simp only [compCode] at hc
    split at hc
    · rename_i c' x' y' h1 hx hy
      simp only [Option.some.injEq] at hc
      cases ac <;> simp [ACode.strip] at hc
      rename_i c2 p q
      obtain ⟨rfl, rfl, rfl⟩ := hc
      have ihx := code_ok hC hCL hm n x p hx
      have ihy := code_ok hC hCL hm n y q hy
      intro φ h h' w fr fr' a ex he hf hr hG Q hQ
      simp only [evCode] at he
      split at he
      · rename_i t ht
        have g := opd_ok h1 hf
        rw [ht] at g
        refine wp_cond g.bool_inv ?_
        cases t with
        | true =>
          simp only [if_true] at he ⊢
          exact ihx he hf hr hG hQ
        | false =>
          simp only [Bool.false_eq_true, if_false] at he ⊢
          exact ihy he hf hr hG hQ
      · cases he
    · cases hc
  | .block id x, ac, hc => by
    simp only [compCode, Option.map_eq_some_iff] at hc
    obtain ⟨x', hx, hc⟩ := hc
    cases ac <;> simp [ACode.strip] at hc
    rename_i id' p
    obtain ⟨rfl, rfl⟩ := hc
    have ihx := code_ok hC hCL hm n x p hx
    intro φ h h' w fr fr' a ex he hf hr hG Q hQ
    refine wp_block ?_
    simp only [evCode] at he
    split at he
    · rename_i i fr1 h1 h2
      cases he
      refine ihx h2 hf hr hG fun φ1 a1 w1 f1 r1 e1 d1 => ?_
      have := hQ φ1 a1 w1 f1 r1 e1 d1
      show Exit.inBlock id Q (.exit i) a1 w1
      unfold Exit.inBlock
      dsimp only
      by_cases hi : i = id
      · rw [if_pos hi] at this ⊢; exact this
      · rw [if_neg hi] at this ⊢; exact this
    · rename_i hne
      refine ihx he hf hr hG fun φ1 a1 w1 f1 r1 e1 d1 => ?_
      have := hQ φ1 a1 w1 f1 r1 e1 d1
      cases ex with
      | normal => exact this
      | exit i => exact (hne _ _ _ he).elim
      | ret => exact this
  | .loop x, ac, hc => by
    simp only [compCode, Option.map_eq_some_iff] at hc
    obtain ⟨x', hx, hc⟩ := hc
    cases ac <;> simp [ACode.strip] at hc
    rename_i live p
    subst hc
    have ihx := code_ok hC hCL hm n x p hx
    intro φ h h' w fr fr' a ex he hf hr hG Q hQ
    simp only [evCode] at he
    obtain ⟨⟨ex1, fr1, h1⟩, h2, e⟩ := Option.map_eq_some_iff.1 he
    cases e
    obtain ⟨s1, s2⟩ := hr.setwl h.next h.md
    have hcw := loop_cl (he := { h with wl := h.next }) (fun fr h ex fr' h' he => code_cl hCL he) h2 (.refl _)
    refine wp_loop_rounds n (loop_ok hCL ihx (he := { h with wl := h.next }) s1 (hG.ext s2) n h2 (hf.ext s2) s1 (.refl _ _ _) (.refl _) fun φ1 a1 w1 f1 r1 e1 d1 => ?_)
    obtain ⟨φ2, r2, f2, e2⟩ := gc_ok r1 f1 e1 s1 (hcw s1.wf).1
    obtain ⟨t1, t2⟩ := r2.setwl (min h.wl (gc h.next fr1 h1).2.wl) (gc h.next fr1 h1).2.md
    exact hQ φ2 a1 w1 (f2.ext t2) t1 ((s2.trans e2).trans t2) d1
  | .rangeFunc .., ac, hc => by
    simp only [compCode, Option.some.injEq] at hc
    intro φ h h' w fr fr' a ex he
    exact (die_none hc he).elim
  | .scope .., ac, hc => by
    simp only [compCode, Option.some.injEq] at hc
    intro φ h h' w fr fr' a ex he
    exact (die_none hc he).elim
  | .label .., ac, hc => by
    simp only [compCode, Option.some.injEq] at hc
    intro φ h h' w fr fr' a ex he
    exact (die_none hc he).elim
  | .goto .., ac, hc => by
    simp only [compCode, Option.some.injEq] at hc
    intro φ h h' w fr fr' a ex he
    exact (die_none hc he).elim
  | .refuse .., ac, hc => by
    simp only [compCode, Option.some.injEq] at hc
    intro φ h h' w fr fr' a ex he
    exact (die_none hc he).elim
end
end Sz

/- The abstract run is sound: calls. No program is named here. -/
namespace Sz
open Go
theorem chunk_length (sz : Nat) : ∀ (n : Nat) (cs : List AV), (chunk sz n cs).length = n
  | 0, _ => rfl
  | n + 1, cs => by simp [chunk, chunk_length sz n]
theorem chunk_get {sz : Nat} : ∀ (n : Nat) (cs : List AV) (i : Nat) (hi : i < (chunk sz n cs).length), (chunk sz n cs)[i] = if sz = 1 then (cs.drop (i * sz)).headD .undef else .agg ((cs.drop (i * sz)).take sz)
  | 0, cs, i, hi => by simp [chunk] at hi
  | n + 1, cs, 0, hi => by simp [chunk]
  | n + 1, cs, i + 1, hi => by
    simp only [chunk, List.getElem_cons_succ]
    rw [chunk_get n (cs.drop sz) i (by simpa [chunk] using hi), List.drop_drop]
    rw [show sz + i * sz = (i + 1) * sz by rw [Nat.add_mul]; omega]
theorem refsL_chunk (sz : Nat) : ∀ (n : Nat) (cs : List AV), AV.refsL (chunk sz n cs) ≤ AV.refsL cs
  | 0, _ => by simp [chunk, AV.refsL]
  | n + 1, cs => by
    have h1 := refsL_chunk sz n (cs.drop sz)
    have h2 : AV.refsL (cs.drop sz) ≤ AV.refsL cs := AV.refsL_le fun v hv => AV.refsL_mem (List.mem_of_mem_drop hv)
    simp only [chunk, AV.refsL]
    have h3 : (if sz = 1 then cs.headD .undef else AV.agg (cs.take sz)).refs ≤ AV.refsL cs := by
      split
      · cases cs with
        | nil => simp [AV.refs]
        | cons x r => simp only [List.headD_cons, AV.refsL]; omega
      · simp only [AV.refs]
        exact AV.refsL_le fun v hv => AV.refsL_mem (List.mem_of_mem_take hv)
    omega
section
variable {φ : Phi} {h : Heap} {w : World}
theorem frzL_ok {F : AV → Option (AV × List Nat)} {nx : Nat} {pr pr' : Nat → Prop} (hF : ∀ v cv v' ids, F v = some (v', ids) → RV φ nx pr w v cv → (∀ id ∈ ids, pr' (φ id).blk) → RV φ nx pr' w v' cv) :
    ∀ (cs : List AV) (cs' : List AV) (ids : List Nat) (f : Nat → Value), frzL F cs = some (cs', ids) → (∀ j (hj : j < cs.length), RV φ nx pr w cs[j] (f j)) → (∀ id ∈ ids, pr' (φ id).blk) →
      cs'.length = cs.length ∧ ∀ j (hj : j < cs'.length), RV φ nx pr' w cs'[j] (f j)
  | [], cs', ids, f, he, _, _ => by
    simp only [frzL, Option.some.injEq, Prod.mk.injEq] at he
    obtain ⟨rfl, rfl⟩ := he
    exact ⟨rfl, fun j hj => by simp at hj⟩
  | v :: r, cs', ids, f, he, hv, hids => by
    simp only [frzL] at he
    split at he
    · rename_i v' i r' j h1 h2
      cases he
      obtain ⟨g1, g2⟩ := frzL_ok hF r r' j (fun k => f (k + 1)) h2 (fun k hk => hv (k + 1) (Nat.succ_lt_succ hk)) (fun id hid => hids id (by simp [hid]))
      refine ⟨by simp [g1], fun k hk => ?_⟩
      cases k with
      | zero => exact hF _ _ _ _ h1 (hv 0 (by simp)) (fun id hid => hids id (by simp [hid]))
      | succ k => exact g2 k (by simpa using hk)
    · cases he
theorem frzL_ids {F : AV → Option (AV × List Nat)} {p : Nat → Prop} (hF : ∀ v v' ids, F v = some (v', ids) → ∀ id ∈ ids, p id) : ∀ (cs cs' : List AV) (ids : List Nat), frzL F cs = some (cs', ids) → ∀ id ∈ ids, p id
  | [], cs', ids, he => by
    simp only [frzL, Option.some.injEq, Prod.mk.injEq] at he
    obtain ⟨rfl, rfl⟩ := he
    intro id hid; cases hid
  | v :: r, cs', ids, he => by
    simp only [frzL] at he
    split at he
    · rename_i v' i r' j h1 h2
      cases he
      intro id hid
      rcases List.mem_append.1 hid with hid | hid
      · exact hF _ _ _ h1 id hid
      · exact frzL_ids hF r r' j h2 id hid
    · cases he
theorem frz_ids {n0 : Nat} : ∀ (d : Nat) (v v' : AV) (ids : List Nat), frz h n0 d v = some (v', ids) → ∀ id ∈ ids, n0 ≤ id ∧ live h id
  | 0, v, v', ids, he => by simp [frz] at he
  | d + 1, v, v', ids, he => by
    unfold frz at he
    split at he
    · split at he
      · cases he; intro id hid; cases hid
      · rename_i hlt
        split at he
        · rename_i cs hrow
          split at he
          · split at he
            · rename_i cs' ids' h1
              split at he
              · cases he
                intro id hid
                cases hid with
                | head => exact ⟨by omega, _, row_get hrow, fun e => by cases e⟩
                | tail _ hid => exact frzL_ids (fun v v' ids he => frz_ids d v v' ids he) _ _ _ h1 id hid
              · cases he
            · cases he
          · cases he
        · cases he
    · obtain ⟨⟨cs', ids'⟩, h1, e⟩ := Option.map_eq_some_iff.1 he
      cases e
      exact frzL_ids (fun v v' ids he => frz_ids d v v' ids he) _ _ _ h1
    · obtain ⟨⟨cs', ids'⟩, h1, e⟩ := Option.map_eq_some_iff.1 he
      cases e
      exact frzL_ids (fun v v' ids he => frz_ids d v v' ids he) _ _ _ h1
    · cases he; intro id hid; cases hid
theorem frz_ok (hr : HR φ h w) {n0 : Nat} {pr' : Nat → Prop} (hpr : ∀ b, Pr φ h w b → pr' b) : ∀ (d : Nat) (v : AV) (cv : Value) (v' : AV) (ids : List Nat), frz h n0 d v = some (v', ids) → RVh φ h w v cv → (∀ id ∈ ids, pr' (φ id).blk) → RV φ h.next pr' w v' cv
  | 0, v, cv, v', ids, he, _, _ => by simp [frz] at he
  | d + 1, v, cv, v', ids, he, hv, hids => by
    have keep : RV φ h.next pr' w v cv := hv.mono (fun _ _ hid => ⟨rfl, hid⟩) fun b hb => ⟨hpr b hb, rfl⟩
    have ih := fun v cv v' ids => frz_ok hr (n0 := n0) hpr d v cv v' ids
    unfold frz at he
    split at he
    · rename_i id off len sz lb
      split at he
      · cases he; exact keep
      · split at he
        · rename_i cs hrow
          have hg := row_get hrow
          split at he
          · rename_i hc
            split at he
            · rename_i cs' ids' h1
              split at he
              · rename_i hc2
                cases he
                obtain ⟨c, el, fz, k1, k2, k3, k4, k5, k6⟩ := hr.rows id cs hg
                obtain ⟨cap, ad, rfl, hid, hl, hlb, hroom, ha⟩ := hv.vec_inv
                have hlen : ((cs.drop off).take (len * sz)).length = len * sz := by simp; omega
                obtain ⟨g1, g2⟩ := frzL_ok ih _ _ _ (fun j => c.getD ((φ id).base + off + j) default) h1 (fun j hj => by
                  have hj' : off + j < cs.length := by omega
                  have := k6 (off + j) hj'
                  rw [Nat.add_assoc]
                  simpa using this) (fun i hi => hids i (by simp [hi]))
                rw [hlen] at g1
                rcases Nat.eq_zero_or_pos len with h0 | h0
                · subst h0
                  exact .slnil _ _
                · rw [ha (by omega)]
                  have hcl := chunk_length sz len cs'
                  have one : ∀ j (hj : j < cs'.length), cs'[j].cells = [cs'[j]] := fun j hj => by
                    have q1 := g2 j hj
                    have q2 := k5 (off + j) (by omega)
                    rw [← Nat.add_assoc] at q2
                    generalize cs'[j] = y at q1 ⊢
                    cases y <;> try rfl
                    obtain ⟨cvs, q3, _⟩ := q1.agg_inv
                    rw [q3] at q2
                    cases q2
                  have hcell : ∀ i j (hi : i < (chunk sz len cs').length) (hj : j < sz), ∃ hk : i * sz + j < cs'.length, ((chunk sz len cs')[i]).cells[j]? = some cs'[i * sz + j] := fun i j hi hj => by
                    rw [hcl] at hi
                    have h2 : (i + 1) * sz ≤ len * sz := Nat.mul_le_mul_right _ hi
                    rw [Nat.add_mul] at h2
                    refine ⟨by omega, ?_⟩
                    rw [chunk_get]
                    split
                    · rename_i h1
                      subst h1
                      obtain rfl : j = 0 := by omega
                      have hk : i * 1 < cs'.length := by omega
                      have e : (cs'.drop (i * 1)).headD .undef = cs'[i * 1] := by rw [List.drop_eq_getElem_cons hk]; rfl
                      rw [e, one]
                      simp
                    · simp only [AV.cells]
                      rw [List.getElem?_take, if_pos hj, List.getElem?_drop, List.getElem?_eq_getElem]
                  have hszs : ∀ i (hi : i < (chunk sz len cs').length), ((chunk sz len cs')[i]).cells?.map List.length = some sz := fun i hi => by
                    have hi' : i < len := by omega
                    have h2 : (i + 1) * sz ≤ len * sz := Nat.mul_le_mul_right _ hi'
                    rw [Nat.add_mul] at h2
                    rw [chunk_get]
                    split
                    · rename_i h1
                      subst h1
                      have hk : i * 1 < cs'.length := by omega
                      have e : (cs'.drop (i * 1)).headD .undef = cs'[i * 1] := by rw [List.drop_eq_getElem_cons hk]; rfl
                      rw [e]
                      have := List.all_eq_true.1 hc2.2 _ (List.getElem_mem hk)
                      simpa using this
                    · simp only [AV.cells?, Option.map_some, Option.some.injEq]
                      simp
                      omega
                  have key := RV.sl (φ := φ) (nx := h.next) (pr := pr') (w := w) (chunk sz len cs') (φ id).blk ((φ id).base + off) cap sz (fun i j => if i * sz + j < len * sz then c.getD ((φ id).base + off + (i * sz + j)) default else default) (hids id (by simp)) (by omega)
                    (by have := refsL_chunk sz len cs'; omega) (fun i j => ?_) hszs (fun i j hi hj => ?_) fun i hi j hj => ?_
                  · rw [hcl] at key
                    exact key
                  · split
                    · have := k5 (off + (i * sz + j)) (by omega)
                      rw [← Nat.add_assoc] at this
                      exact this
                    · rfl
                  · obtain ⟨hk, _⟩ := hcell i j hi hj
                    have hlt : (φ id).base + off + (i * sz + j) < c.size := by omega
                    have hin : i * sz + j < len * sz := by omega
                    rw [if_pos hin, Nat.add_assoc ((φ id).base + off)]
                    unfold World.cell?
                    simp only [k1]
                    simp [Array.getD, hlt]
                  · have hjs : j < sz := by
                      have q := hszs i hi
                      have : (chunk sz len cs')[i].cells.length = sz := by
                        generalize (chunk sz len cs')[i] = y at q ⊢
                        cases y <;> simp [AV.cells?] at q <;> simp [AV.cells, q]
                      omega
                    obtain ⟨hk, e⟩ := hcell i j hi hjs
                    rw [List.getElem?_eq_getElem hj] at e
                    have e := Option.some.inj e
                    have hin : i * sz + j < len * sz := by omega
                    rw [e, if_pos hin]
                    exact g2 _ hk
              · cases he
            · cases he
          · cases he
        · cases he
    · rename_i cs
      obtain ⟨⟨cs', ids'⟩, h1, e⟩ := Option.map_eq_some_iff.1 he
      cases e
      obtain ⟨cvs, rfl, g1, g2, g3⟩ := hv.agg_inv
      obtain ⟨q1, q2⟩ := frzL_ok ih _ _ _ (fun j => cvs.getD j default) h1 g3 hids
      exact .agg _ _ (by dsimp only; omega) g2 q2
    · rename_i cs
      obtain ⟨⟨cs', ids'⟩, h1, e⟩ := Option.map_eq_some_iff.1 he
      cases e
      obtain ⟨cvs, rfl, g1, g2⟩ := hv.tuple_inv
      obtain ⟨q1, q2⟩ := frzL_ok ih _ _ _ (fun j => cvs.getD j default) h1 g2 hids
      exact .tuple _ _ (by dsimp only; omega) q2
    · cases he; exact keep
theorem Pr.of_kill {ids : List Nat} {b : Nat} (hb : b < w.heap.size) (hno : ∀ id, live h id → (φ id).blk = b → id ∈ ids) (hgh : ¬ φ.gh b) : Pr φ (kill h ids) w b :=
  ⟨hb, fun i hi e => by
    obtain ⟨h1, h2⟩ := live_kill ids hi
    exact h2 (hno i h1 e), hgh⟩
theorem trunc_ok (hr : HR φ h w) {n : Nat} (hn : n ≤ h.next) (hle : ∀ id, id < n → ObjLe h id n) :
    HR φ (h.trunc n) w ∧ (∀ b, Pr φ h w b → Pr φ (h.trunc n) w b) ∧ (∀ id, n ≤ id → live h id → Pr φ (h.trunc n) w (φ id).blk) := by
  have lv : ∀ i, live (h.trunc n) i → i < n ∧ live h i := fun i ⟨o, hg, ho⟩ => by
    have hlt := Heap.get_lt hg
    simp only [Heap.next_trunc] at hlt
    have hi : i < n := by omega
    rw [Heap.get_trunc hi] at hg
    exact ⟨hi, o, hg, ho⟩
  have pr : ∀ b, Pr φ h w b → Pr φ (h.trunc n) w b := fun b hb => ⟨hb.1, fun i hi => hb.2.1 i (lv i hi).2, hb.2.2⟩
  have mv : ∀ v cv, v.refs ≤ n → RVh φ h w v cv → RVh φ (h.trunc n) w v cv := fun v cv hv hrv => hrv.mono (fun id h1 h2 => ⟨rfl, by simp only [Heap.next_trunc]; omega⟩) fun b hb => ⟨pr b hb, rfl⟩
  refine ⟨⟨Heap.wf_trunc n hr.wf, fun i cs hg => ?_, fun i es hg => ?_, fun i j hi hj e => hr.inj i j (lv i hi).2 (lv j hj).2 e, fun b hb => ⟨(hr.gh b hb).1, fun i hi => (hr.gh b hb).2 i (lv i hi).2⟩⟩, pr, fun id hid hl => ⟨hr.blk_lt hl, fun i hi e => ?_, fun hg => (hr.gh _ hg).2 id hl rfl⟩⟩
  · have hi := (lv i ⟨_, hg, fun e => by cases e⟩).1
    rw [Heap.get_trunc hi] at hg
    obtain ⟨c, el, fz, k1, k2, k3, k4, k5, k6⟩ := hr.rows i cs hg
    refine ⟨c, el, fz, k1, k2, k3, k4, k5, fun j hj => mv _ _ ?_ (k6 j hj)⟩
    have h1 := (hle i hi).1 cs hg
    have h2 := AV.refsL_mem (List.getElem_mem hj)
    omega
  · have hi := (lv i ⟨_, hg, fun e => by cases e⟩).1
    rw [Heap.get_trunc hi] at hg
    obtain ⟨ents, clk, k1, k2, k3⟩ := hr.maps i es hg
    refine ⟨ents, clk, k1, k2, fun j hj => ?_⟩
    have h1 := (hle i hi).2 es hg es[j] (List.getElem_mem hj)
    exact ⟨mv _ _ h1.1 (k3 j hj).1, mv _ _ h1.2 (k3 j hj).2⟩
  · have hlt := (lv i hi).1
    have := hr.inj i id (lv i hi).2 hl e
    omega
theorem finish_ok {φ0 : Phi} {h0 : Heap} {w0 : World} (hr : HR φ h w) (hx : Ext φ0 h0 w0 φ h w) (hcl : CL { h0 with wl := h0.next, md := h0.next } h) (hr0 : HR φ0 h0 w0) {keep : Bool} {v : AV} {cv : Value} (hv : RVh φ h w v cv) :
    RVh φ (finish keep h0 v h).2 w (finish keep h0 v h).1 cv ∧ HR φ (finish keep h0 v h).2 w ∧ Ext φ0 h0 w0 φ (finish keep h0 v h).2 w := by
  have plain : RVh φ { h with wl := min h0.wl h.wl, md := min h0.md h.md } w v cv ∧ HR φ { h with wl := min h0.wl h.wl, md := min h0.md h.md } w ∧ Ext φ0 h0 w0 φ { h with wl := min h0.wl h.wl, md := min h0.md h.md } w := by
    obtain ⟨a1, a2⟩ := hr.setwl (min h0.wl h.wl) (min h0.md h.md)
    exact ⟨hv.ext a2, a1, hx.trans a2⟩
  unfold finish
  cases keep with
  | true => simpa using plain
  | false =>
    simp only [Bool.false_eq_true, if_false]
    split
    · exact plain
    · rename_i v' ids hfz
      have hids := frz_ids 8 v v' ids hfz
      split
      · rename_i hc
        obtain ⟨t1, t2, t3⟩ := trunc_ok hr hcl.next (hcl.le h0.next (Nat.le_refl _) hc.1 hr0.objLe)
        obtain ⟨s1, s2⟩ := t1.setwl h0.wl (if h.md < h0.next then min h0.md h.md else h0.md)
        have q := frz_ok hr (pr' := Pr φ (h.trunc h0.next) w) t2 8 v cv v' ids hfz hv fun id hid => t3 id (hids id hid).1 (hids id hid).2
        have hnx : min h.next h0.next = h0.next := Nat.min_eq_right hcl.next
        have hext : Ext φ0 h0 w0 φ (h.trunc h0.next) w := by
          refine ⟨hx.os, hx.tape, hx.output, hx.size, ?_, hx.phi, fun b hb => ⟨t2 b (hx.pr b hb).1, (hx.pr b hb).2⟩, hx.gh⟩
          simp only [Heap.next_trunc]
          omega
        refine ⟨?_, s1, hext.trans s2⟩
        refine (q.mono (fun id h1 h2 => ⟨rfl, ?_⟩) fun b hb => ⟨hb, rfl⟩ : RVh φ { h.trunc h0.next with wl := h0.wl, md := (if h.md < h0.next then min h0.md h.md else h0.md) } w v' cv)
        show id < min h.next h0.next
        omega
      · obtain ⟨k1, k2⟩ := kills ids hr
        obtain ⟨s1, s2⟩ := k1.setwl (min h0.wl h.wl) (min h0.md h.md)
        have q := frz_ok hr (pr' := Pr φ (kill h ids) w) (fun b hb => (k2.pr b hb).1) 8 v cv v' ids hfz hv fun id hid =>
          Pr.of_kill (hr.blk_lt (hids id hid).2) (fun i hi e => (by rw [hr.inj i id hi (hids id hid).2 e]; exact hid)) fun hg => (hr.gh _ hg).2 id (hids id hid).2 rfl
        have hnk : ∀ (ids : List Nat) (h : Heap), (kill h ids).next = h.next := by
          intro ids
          induction ids with
          | nil => exact fun h => rfl
          | cons i r ih => intro h; simp only [kill]; rw [ih]; simp
        refine ⟨?_, s1, hx.trans (k2.trans s2)⟩
        have q2 : RVh φ (kill h ids) w v' cv := q.mono (fun id _ h2 => ⟨rfl, by rw [hnk]; exact h2⟩) fun b hb => ⟨hb, rfl⟩
        exact q2.ext s2
end
end Sz

/- A call on a pointer: the objects behind it as a small heap of their own. No program is named here. -/
namespace Sz
open Go
def lowV (n : Nat) : AV → Bool
  | .ptr id _ => decide (id < n)
  | .vec id _ _ _ _ => decide (id < n)
  | .map id => decide (id < n)
  | v => v.refs == 0
def lowO (n : Nat) : AObj → Bool
  | .row cs => cs.all (lowV n)
  | .map es => es.all fun e => lowV n e.1 && lowV n e.2
  | .dead => true
def mkH (os : List AObj) : Heap := ⟨os.length, os.reverse, os.length, os.length⟩
theorem mkH_get (os : List AObj) (i : Nat) : (mkH os).get i = os[i]? := by
  unfold Heap.get mkH
  dsimp only
  by_cases h : i < os.length
  · rw [if_pos h, List.getElem?_reverse (by omega), show os.length - 1 - (os.length - 1 - i) = i by omega]
  · rw [if_neg h, List.getElem?_eq_none (by omega)]
structure SubH (h : Heap) (g : Nat → Nat) (os : List AObj) : Prop where
  obj : ∀ i o, os[i]? = some o → (∀ _ : o = .dead, False) → h.get (g i) = some (sigO g o) ∧ lowO os.length o = true
  inj : ∀ i j o o', os[i]? = some o → os[j]? = some o' → (∀ _ : o = .dead, False) → (∀ _ : o' = .dead, False) → g i = g j → i = j
theorem sigO_dead {g : Nat → Nat} {o : AObj} (h : ∀ _ : o = .dead, False) : ∀ _ : sigO g o = .dead, False := fun e => by
  cases o with
  | dead => exact h rfl
  | row cs => cases e
  | map es => cases e
theorem RV.swap {φ φ' : Phi} {nx nx' m : Nat} {pr pr' : Nat → Prop} {w : World} {a b : Nat → Nat} (hφ : ∀ i, i < m → φ' (b i) = φ (a i) ∧ b i < nx') (hpr : ∀ x, pr x → pr' x) {v : AV} {cv : Value} (hl : lowV m v = true)
    (h : RV φ nx pr w (sig a v) cv) : RV φ' nx' pr' w (sig b v) cv := by
  have plain : sig a v = v → sig b v = v → v.refs = 0 → RV φ' nx' pr' w (sig b v) cv := fun e1 e2 e3 => by
    rw [e1] at h
    rw [e2]
    exact h.mono (fun id hid _ => by omega) fun x hx => ⟨hpr x hx, rfl⟩
  cases v with
  | ptr id off =>
    obtain ⟨rfl, _⟩ := RV.ptr_inv h
    obtain ⟨e, hb⟩ := hφ id (of_decide_eq_true hl)
    rw [← e]
    exact .ptr _ _ hb
  | vec id off len sz lb =>
    obtain ⟨cap, ad, rfl, _, h1, h2, h3, h4⟩ := RV.vec_inv h
    obtain ⟨e, hb⟩ := hφ id (of_decide_eq_true hl)
    rw [← e] at h3 h4
    exact .vec _ _ _ _ _ cap ad hb h1 h2 h3 h4
  | map id =>
    obtain ⟨rfl, _⟩ := RV.map_inv h
    obtain ⟨e, hb⟩ := hφ id (of_decide_eq_true hl)
    rw [← e]
    exact .map _ hb
  | _ => exact plain rfl rfl (by simpa [lowV] using hl)
theorem sig_id {v : AV} : sig (fun i => i) v = v := by cases v <;> rfl
section
variable {φ : Phi} {h : Heap} {w : World} {g : Nat → Nat} {os : List AObj}
def subPhi (φ : Phi) (h : Heap) (g : Nat → Nat) (os : List AObj) : Phi :=
  ⟨fun i => φ (g i), fun b => φ.gh b ∨ ∃ id, live h id ∧ (∀ i o, os[i]? = some o → (∀ _ : o = .dead, False) → g i ≠ id) ∧ (φ id).blk = b⟩
theorem live_mk {i : Nat} (hl : live (mkH os) i) : ∃ o, os[i]? = some o ∧ ∀ _ : o = .dead, False := by
  obtain ⟨o, h1, h2⟩ := hl
  rw [mkH_get] at h1
  exact ⟨o, h1, h2⟩
theorem SubH.live (S : SubH h g os) {i : Nat} (hl : Sz.live (mkH os) i) : Sz.live h (g i) := by
  obtain ⟨o, h1, h2⟩ := live_mk hl
  exact ⟨_, (S.obj i o h1 h2).1, sigO_dead h2⟩
theorem sub_pr (hr : HR φ h w) (S : SubH h g os) {b : Nat} (hb : Pr φ h w b) : Pr (subPhi φ h g os) (mkH os) w b :=
  ⟨hb.1, fun i hl => hb.2.1 _ (S.live hl), fun hc => by
    rcases hc with hc | ⟨id, hl, _, e⟩
    · exact hb.2.2 hc
    · exact hb.2.1 id hl e⟩
theorem sub_HR (hr : HR φ h w) (S : SubH h g os) : HR (subPhi φ h g os) (mkH os) w := by
  have swap : ∀ (v : AV) (cv : Value), lowV os.length v = true → RVh φ h w (sig g v) cv → RVh (subPhi φ h g os) (mkH os) w v cv := fun v cv hl hv => by
    have := RV.swap (φ' := subPhi φ h g os) (nx' := os.length) (m := os.length) (pr' := Pr (subPhi φ h g os) (mkH os) w) (a := g) (b := fun i => i) (fun i hi => ⟨rfl, hi⟩) (fun x hx => sub_pr hr S hx) hl hv
    rw [sig_id] at this
    exact this
  refine ⟨by simp [Heap.wf, mkH], fun i cs hg => ?_, fun i es hg => ?_, fun i j hi hj e => ?_, fun b hb => ?_⟩
  · rw [mkH_get] at hg
    obtain ⟨h1, h2⟩ := S.obj i _ hg fun e => by cases e
    obtain ⟨c, el, fr, g1, g2, g3, g4, g5, g6⟩ := hr.rows (g i) _ h1
    rw [List.length_map] at g3
    refine ⟨c, el, fr, g1, g2, g3, g4, g5, fun j hj => ?_⟩
    have := g6 j (by simpa using hj)
    rw [List.getElem_map] at this
    exact swap _ _ (List.all_eq_true.1 h2 _ (List.getElem_mem hj)) this
  · rw [mkH_get] at hg
    obtain ⟨h1, h2⟩ := S.obj i _ hg fun e => by cases e
    obtain ⟨ents, clk, g1, g2, g3⟩ := hr.maps (g i) _ h1
    refine ⟨ents, clk, g1, by simpa using g2, fun j hj => ?_⟩
    have := g3 j (by simpa using hj)
    rw [List.getElem_map] at this
    have h3 := List.all_eq_true.1 h2 _ (List.getElem_mem hj)
    rw [Bool.and_eq_true] at h3
    exact ⟨swap _ _ h3.1 this.1, swap _ _ h3.2 this.2⟩
  · have := hr.inj _ _ (S.live hi) (S.live hj) e
    obtain ⟨o, h1, h2⟩ := live_mk hi
    obtain ⟨o', h3, h4⟩ := live_mk hj
    exact S.inj i j o o' h1 h3 h2 h4 this
  · rcases hb with hb | ⟨id, hl, hn, e⟩
    · exact ⟨(hr.gh b hb).1, fun i hi => (hr.gh b hb).2 _ (S.live hi)⟩
    · refine ⟨e ▸ hr.blk_lt hl, fun i hi e2 => ?_⟩
      obtain ⟨o, h1, h2⟩ := live_mk hi
      exact hn i o h1 h2 (hr.inj _ _ (S.live hi) hl (e2.trans e.symm))
theorem jPut_next (h : Heap) (k : Nat) (o : AObj) : (jPut h k o).next = h.next := by
  unfold jPut Heap.set
  split <;> rfl
theorem jPut_other (h : Heap) (k : Nat) (o : AObj) {i : Nat} (hne : i ≠ k) : (jPut h k o).get i = h.get i := by
  show ({ h.set k o with wl := _ } : Heap).get i = _
  exact Heap.get_set_other (Ne.symm hne)
theorem jPut_same (h : Heap) (k : Nat) (o : AObj) {o' : AObj} (hg : h.get k = some o') : (jPut h k o).get k = some o := by
  show ({ h.set k o with wl := _ } : Heap).get k = _
  exact Heap.get_set_same hg
theorem jSet_next (g : Nat → Nat) : ∀ (ks : List Nat) (os : List AObj) (h : Heap), (jSet g ks os h).next = h.next
  | [], _, h => by unfold jSet; rfl
  | k :: ks, [], h => by unfold jSet; rfl
  | k :: ks, o :: os, h => by
    show (jSet g ks os (jPut h k (sigO g o))).next = _
    rw [jSet_next g ks os, jPut_next]
theorem jSet_other (g : Nat → Nat) : ∀ (ks : List Nat) (os : List AObj) (h : Heap) {i : Nat}, i ∉ ks → (jSet g ks os h).get i = h.get i
  | [], _, h, _, _ => by unfold jSet; rfl
  | k :: ks, [], h, _, _ => by unfold jSet; rfl
  | k :: ks, o :: os, h, i, hi => by
    simp only [List.mem_cons, not_or] at hi
    show (jSet g ks os (jPut h k (sigO g o))).get i = _
    rw [jSet_other g ks os _ hi.2, jPut_other _ _ _ hi.1]
theorem jSet_at (g : Nat → Nat) : ∀ (ks : List Nat) (os : List AObj) (h : Heap), ks.Nodup → (∀ k ∈ ks, ∃ o, h.get k = some o) → ∀ (i k : Nat) (o : AObj), ks[i]? = some k → os[i]? = some o → (jSet g ks os h).get k = some (sigO g o)
  | [], _, h, _, _, i, k, o, h1, _ => by simp at h1
  | k :: ks, [], h, _, _, i, _, o, _, h2 => by simp at h2
  | k :: ks, o :: os, h, hn, hx, i, k', o', h1, h2 => by
    rw [List.nodup_cons] at hn
    show (jSet g ks os (jPut h k (sigO g o))).get k' = _
    cases i with
    | zero =>
      simp only [List.getElem?_cons_zero, Option.some.injEq] at h1 h2
      subst h1 h2
      obtain ⟨q, hq⟩ := hx k (by simp)
      rw [jSet_other g ks os _ hn.1]
      exact jPut_same _ _ _ hq
    | succ i =>
      simp only [List.getElem?_cons_succ] at h1 h2
      refine jSet_at g ks os _ hn.2 (fun j hj => ?_) i k' o' h1 h2
      obtain ⟨q, hq⟩ := hx j (by simp [hj])
      have hne : j ≠ k := fun e => hn.1 (by rw [← e]; exact hj)
      exact ⟨q, (jPut_other _ _ _ hne).trans hq⟩
theorem jNew_next (g : Nat → Nat) : ∀ (os : List AObj) (h : Heap), (jNew g os h).next = h.next + os.length
  | [], h => rfl
  | o :: os, h => by
    show (jNew g os (h.alloc (sigO g o))).next = _
    rw [jNew_next g os]
    show h.next + 1 + os.length = _
    simp only [List.length_cons]
    omega
theorem jNew_old (g : Nat → Nat) : ∀ (os : List AObj) (h : Heap) {i : Nat}, i < h.next → (jNew g os h).get i = h.get i
  | [], h, _, _ => rfl
  | o :: os, h, i, hi => by
    show (jNew g os (h.alloc (sigO g o))).get i = _
    rw [jNew_old g os _ (show i < h.next + 1 by omega), Heap.get_alloc_old hi]
theorem jNew_new (g : Nat → Nat) : ∀ (os : List AObj) (h : Heap) {j : Nat} {o : AObj}, os[j]? = some o → (jNew g os h).get (h.next + j) = some (sigO g o)
  | [], h, j, o, hj => by simp at hj
  | o :: os, h, j, o', hj => by
    show (jNew g os (h.alloc (sigO g o))).get (h.next + j) = _
    cases j with
    | zero =>
      simp only [List.getElem?_cons_zero, Option.some.injEq] at hj
      subst hj
      rw [jNew_old g os _ (show h.next + 0 < h.next + 1 by omega)]
      exact Heap.get_alloc_new
    | succ j =>
      have := jNew_new g os (h.alloc (sigO g o)) (j := j) (o := o') (by simpa using hj)
      rw [← this]
      show _ = (jNew g os (h.alloc (sigO g o))).get (h.next + 1 + j)
      congr 1
      omega
theorem jNew_wf (g : Nat → Nat) : ∀ (os : List AObj) {h : Heap}, h.wf → (jNew g os h).wf
  | [], _, hw => hw
  | o :: os, h, hw => jNew_wf g os (Heap.wf_alloc _ hw)
theorem jPut_wf {h : Heap} (k : Nat) (o : AObj) (hw : h.wf) : (jPut h k o).wf := Heap.wf_set k o hw
theorem jSet_wf (g : Nat → Nat) : ∀ (ks : List Nat) (os : List AObj) {h : Heap}, h.wf → (jSet g ks os h).wf
  | [], _, _, hw => by unfold jSet; exact hw
  | k :: ks, [], _, hw => by unfold jSet; exact hw
  | k :: ks, o :: os, h, hw => jSet_wf g ks os (jPut_wf k _ hw)
theorem join_wf {τ : List Nat} {os' : List AObj} (hw : h.wf) : (join h τ os').wf := jNew_wf _ _ (jSet_wf _ _ _ hw)
theorem join_next {τ : List Nat} {os' : List AObj} : (join h τ os').next = h.next + (os'.length - τ.length) := by
  unfold join
  rw [jNew_next, jSet_next, List.length_drop]
theorem join_other {τ : List Nat} {os' : List AObj} {i : Nat} (hi : i < h.next) (hn : i ∉ τ) : (join h τ os').get i = h.get i := by
  unfold join
  rw [jNew_old _ _ _ (by rw [jSet_next]; exact hi), jSet_other _ _ _ _ hn]
theorem join_at {τ : List Nat} {os' : List AObj} (hn : τ.Nodup) (hx : ∀ k ∈ τ, ∃ o, h.get k = some o) {i : Nat} {o : AObj} (ho : os'[i]? = some o) : (join h τ os').get (newG h τ i) = some (sigO (newG h τ) o) := by
  unfold join
  by_cases hi : i < τ.length
  · have e : newG h τ i = τ[i] := by unfold newG; rw [if_pos hi]; simp [List.getD, hi]
    rw [e]
    obtain ⟨q, hq⟩ := hx τ[i] (List.getElem_mem hi)
    rw [jNew_old _ _ _ (by rw [jSet_next]; exact Heap.get_lt hq)]
    exact jSet_at _ _ _ _ hn hx i _ o (by simp [hi]) (by rw [List.getElem?_take_of_lt hi]; exact ho)
  · have e : newG h τ i = h.next + (i - τ.length) := by unfold newG; rw [if_neg hi]
    rw [e]
    have := jNew_new (newG h τ) (os'.drop τ.length) (jSet (newG h τ) τ (os'.take τ.length) h) (j := i - τ.length) (o := o) (by rw [List.getElem?_drop, show τ.length + (i - τ.length) = i by omega]; exact ho)
    rw [jSet_next] at this
    exact this
def runG (m : Nat) (qs : List Nat) (i : Nat) : Nat := if i < m then i else qs.getD (i - m) 0
def upPhi (φ φ1 : Phi) (n : Nat) (qs : List Nat) : Phi := ⟨fun id => if id < n then φ id else φ1 (qs.getD (id - n) 0), φ.gh⟩
section
variable {φ1 : Phi} {h1 : Heap} {w' : World} {τ qs : List Nat} {os' : List AObj}
theorem meth_up (hr : HR φ h w) (S : SubH h (fun i => τ.getD i 0) os) (hτ : τ.length = os.length) (hall : ∀ o ∈ os, ∀ _ : o = .dead, False) (hle : os.length ≤ os'.length)
    (hx : Ext (subPhi φ h (fun i => τ.getD i 0) os) (mkH os) w φ1 h1 w') (hr1 : HR φ1 h1 w') (S1 : SubH h1 (runG os.length qs) os') :
    HR (upPhi φ φ1 h.next qs) (join h τ os') w' ∧ Ext φ h w (upPhi φ φ1 h.next qs) (join h τ os') w' ∧ (∀ b, Pr φ1 h1 w' b → Pr (upPhi φ φ1 h.next qs) (join h τ os') w' b) := by
  -- the objects of the small heap, in the great one
  have hget : ∀ k ∈ τ, ∃ o, h.get k = some o ∧ ∀ _ : o = .dead, False := fun k hk => by
    obtain ⟨i, hi, rfl⟩ := List.getElem_of_mem hk
    have hi' : i < os.length := by omega
    have ho : os[i]? = some os[i] := List.getElem?_eq_getElem hi'
    have hn := hall _ (List.getElem_mem hi')
    have := (S.obj i _ ho hn).1
    have e : τ.getD i 0 = τ[i] := by simp [List.getD, hi]
    rw [e] at this
    exact ⟨_, this, sigO_dead hn⟩
  have hnd : τ.Nodup := by
    rw [List.nodup_iff_pairwise_ne, List.pairwise_iff_getElem]
    intro i j hi hj hij e
    have hi' : i < os.length := by omega
    have hj' : j < os.length := by omega
    have e1 : τ.getD i 0 = τ[i] := by simp [List.getD, hi]
    have e2 : τ.getD j 0 = τ[j] := by simp [List.getD, hj]
    have := S.inj i j _ _ (List.getElem?_eq_getElem hi') (List.getElem?_eq_getElem hj') (hall _ (List.getElem_mem hi')) (hall _ (List.getElem_mem hj')) (by rw [e1, e2]; exact e)
    omega
  have hlt : ∀ k ∈ τ, k < h.next := fun k hk => by
    obtain ⟨o, h1, _⟩ := hget k hk
    exact Heap.get_lt h1
  have hgx : ∀ k ∈ τ, ∃ o, h.get k = some o := fun k hk => by
    obtain ⟨o, h1, _⟩ := hget k hk
    exact ⟨o, h1⟩
  have hnx : (join h τ os').next = h.next + (os'.length - os.length) := by rw [join_next, hτ]
  have hnew : ∀ i, i < os'.length → newG h τ i < (join h τ os').next := fun i hi => by
    rw [hnx]
    unfold newG
    split
    · rename_i hl
      have e : τ.getD i 0 = τ[i] := by simp [List.getD, hl]
      rw [e]
      have := hlt _ (List.getElem_mem hl)
      omega
    · omega
  have hphi : ∀ i, i < os'.length → (upPhi φ φ1 h.next qs) (newG h τ i) = φ1 (runG os.length qs i) := fun i hi => by
    unfold newG runG
    by_cases hl : i < τ.length
    · rw [if_pos hl, if_pos (by omega)]
      have e : τ.getD i 0 = τ[i] := by simp [List.getD, hl]
      have hk := hlt _ (List.getElem_mem hl)
      show (if τ.getD i 0 < h.next then φ (τ.getD i 0) else _) = _
      rw [if_pos (by rw [e]; exact hk)]
      have := hx.phi i (show i < os.length by omega)
      exact this.symm
    · rw [if_neg hl, if_neg (by omega)]
      show (if h.next + (i - τ.length) < h.next then _ else φ1 (qs.getD (h.next + (i - τ.length) - h.next) 0)) = _
      rw [if_neg (by omega), show h.next + (i - τ.length) - h.next = i - os.length by omega]
  -- what lies in the great heap after the call
  have cases' : ∀ id o, (join h τ os').get id = some o → (id < h.next ∧ id ∉ τ ∧ h.get id = some o) ∨ ∃ i o', os'[i]? = some o' ∧ id = newG h τ i ∧ o = sigO (newG h τ) o' := fun id o hg => by
    have hid := Heap.get_lt hg
    rw [hnx] at hid
    by_cases hm : id ∈ τ
    · obtain ⟨i, hi, rfl⟩ := List.getElem_of_mem hm
      have hi' : i < os'.length := by omega
      have e : newG h τ i = τ[i] := by unfold newG; rw [if_pos hi]; simp [List.getD, hi]
      have := join_at (os' := os') hnd hgx (List.getElem?_eq_getElem hi')
      rw [e, hg] at this
      cases this
      exact .inr ⟨i, _, List.getElem?_eq_getElem hi', e.symm, rfl⟩
    · by_cases hl : id < h.next
      · rw [join_other hl hm] at hg
        exact .inl ⟨hl, hm, hg⟩
      · have hi' : id - h.next + τ.length < os'.length := by omega
        have e : newG h τ (id - h.next + τ.length) = id := by unfold newG; rw [if_neg (by omega)]; omega
        have := join_at (os' := os') hnd hgx (List.getElem?_eq_getElem hi')
        rw [e, hg] at this
        cases this
        exact .inr ⟨_, _, List.getElem?_eq_getElem hi', e.symm, rfl⟩
  have lv : ∀ id, live (join h τ os') id → (id < h.next ∧ id ∉ τ ∧ live h id) ∨ ∃ i o', os'[i]? = some o' ∧ (∀ _ : o' = .dead, False) ∧ id = newG h τ i := fun id ⟨o, hg, ho⟩ => by
    rcases cases' id o hg with ⟨a1, a2, a3⟩ | ⟨i, o', a1, a2, a3⟩
    · exact .inl ⟨a1, a2, o, a3, ho⟩
    · refine .inr ⟨i, o', a1, fun e => ?_, a2⟩
      subst e
      exact ho a3
  have lv1 : ∀ i o', os'[i]? = some o' → (∀ _ : o' = .dead, False) → live h1 (runG os.length qs i) := fun i o' a1 a2 => ⟨_, (S1.obj i o' a1 a2).1, sigO_dead a2⟩
  -- other objects' blocks are spoken of by none
  have gho : ∀ id, id ∉ τ → live h id → φ1.gh (φ id).blk := fun id hn hl => by
    rw [hx.gh.1]
    refine .inr ⟨id, hl, fun i o ho hno e => hn ?_, rfl⟩
    have hi : i < os.length := (List.getElem?_eq_some_iff.1 ho).1
    have hi' : i < τ.length := by omega
    have e1 : τ.getD i 0 = τ[i] := by simp [List.getD, hi']
    have e2 : τ[i] = id := e1.symm.trans e
    rw [← e2]
    exact List.getElem_mem hi'
  have pr1 : ∀ b, Pr φ1 h1 w' b → Pr (upPhi φ φ1 h.next qs) (join h τ os') w' b := fun b hb => by
    refine ⟨hb.1, fun id hl => ?_, fun hg => hb.2.2 (by rw [hx.gh.1]; exact .inl hg)⟩
    rcases lv id hl with ⟨a1, a2, a3⟩ | ⟨i, o', a1, a2, rfl⟩
    · show (if id < h.next then φ id else _).blk ≠ b
      rw [if_pos a1]
      intro e
      exact hb.2.2 (e ▸ gho id a2 a3)
    · rw [hphi i (List.getElem?_eq_some_iff.1 a1).1]
      exact hb.2.1 _ (lv1 i o' a1 a2)
  have ext : Ext φ h w (upPhi φ φ1 h.next qs) (join h τ os') w' := by
    refine ⟨hx.os, hx.tape, hx.output, hx.size, by rw [hnx]; omega, fun id hid => if_pos hid, fun b hb => ?_, rfl, fun b hb => hx.gh.2 b (.inl hb)⟩
    obtain ⟨g1, g2⟩ := hx.pr b (sub_pr hr S hb)
    exact ⟨pr1 b g1, g2⟩
  have swap : ∀ (v : AV) (cv : Value), lowV os'.length v = true → RVh φ1 h1 w' (sig (runG os.length qs) v) cv → RVh (upPhi φ φ1 h.next qs) (join h τ os') w' (sig (newG h τ) v) cv := fun v cv hl hv =>
    RV.swap (fun i hi => ⟨hphi i hi, hnew i hi⟩) pr1 hl hv
  refine ⟨⟨join_wf hr.wf, fun id cs hg => ?_, fun id es hg => ?_, fun i j hi hj e => ?_, fun b hb => ?_⟩, ext, pr1⟩
  · rcases cases' id _ hg with ⟨a1, a2, a3⟩ | ⟨i, o', a1, rfl, a3⟩
    · have hl : live h id := ⟨_, a3, fun e => by cases e⟩
      exact (hr.rows id cs a3).ext ext a1 (hx.gh.2 _ (by have := gho id a2 hl; rw [hx.gh.1] at this; exact this))
    · cases o' with
      | dead => cases a3
      | map es => cases a3
      | row cs' =>
        cases a3
        have hil := (List.getElem?_eq_some_iff.1 a1).1
        obtain ⟨b1, b2⟩ := S1.obj i _ a1 fun e => by cases e
        obtain ⟨c, el, fr, g1, g2, g3, g4, g5, g6⟩ := hr1.rows _ _ b1
        have hp := hphi i hil
        rw [List.length_map] at g3
        refine ⟨c, el, fr, by rw [hp]; exact g1, by rw [hp]; exact g2, by rw [hp, List.length_map]; exact g3, g4, by rw [hp]; exact g5, fun j hj => ?_⟩
        have hj' : j < cs'.length := by simpa using hj
        have := g6 j (by simpa using hj')
        rw [List.getElem_map] at this ⊢
        rw [hp]
        exact swap _ _ (List.all_eq_true.1 b2 _ (List.getElem_mem hj')) this
  · rcases cases' id _ hg with ⟨a1, a2, a3⟩ | ⟨i, o', a1, rfl, a3⟩
    · have hl : live h id := ⟨_, a3, fun e => by cases e⟩
      exact (hr.maps id es a3).ext ext a1 (hx.gh.2 _ (by have := gho id a2 hl; rw [hx.gh.1] at this; exact this))
    · cases o' with
      | dead => cases a3
      | row cs => cases a3
      | map es' =>
        cases a3
        have hil := (List.getElem?_eq_some_iff.1 a1).1
        obtain ⟨b1, b2⟩ := S1.obj i _ a1 fun e => by cases e
        obtain ⟨ents, clk, g1, g2, g3⟩ := hr1.maps _ _ b1
        have hp := hphi i hil
        rw [List.length_map] at g2
        refine ⟨ents, clk, by rw [hp]; exact g1, by rw [List.length_map]; exact g2, fun j hj => ?_⟩
        have hj' : j < es'.length := by simpa using hj
        have := g3 j (by simpa using hj')
        rw [List.getElem_map] at this ⊢
        have b3 := List.all_eq_true.1 b2 _ (List.getElem_mem hj')
        rw [Bool.and_eq_true] at b3
        exact ⟨swap _ _ b3.1 this.1, swap _ _ b3.2 this.2⟩
  · rcases lv i hi with ⟨a1, a2, a3⟩ | ⟨p, o, a1, a2, rfl⟩
    · have ei : (upPhi φ φ1 h.next qs) i = φ i := if_pos a1
      rcases lv j hj with ⟨b1, b2, b3⟩ | ⟨q, o', b1, b2, rfl⟩
      · have ej : (upPhi φ φ1 h.next qs) j = φ j := if_pos b1
        rw [ei, ej] at e
        exact hr.inj i j a3 b3 e
      · rw [ei, hphi q (List.getElem?_eq_some_iff.1 b1).1] at e
        exact absurd e.symm ((hr1.gh _ (gho i a2 a3)).2 _ (lv1 q o' b1 b2))
    · rcases lv j hj with ⟨b1, b2, b3⟩ | ⟨q, o', b1, b2, rfl⟩
      · have ej : (upPhi φ φ1 h.next qs) j = φ j := if_pos b1
        rw [ej, hphi p (List.getElem?_eq_some_iff.1 a1).1] at e
        exact absurd e ((hr1.gh _ (gho j b2 b3)).2 _ (lv1 p o a1 a2))
      · rw [hphi p (List.getElem?_eq_some_iff.1 a1).1, hphi q (List.getElem?_eq_some_iff.1 b1).1] at e
        have := hr1.inj _ _ (lv1 p o a1 a2) (lv1 q o' b1 b2) e
        rw [S1.inj p q o o' a1 b1 a2 b2 this]
  · refine ⟨Nat.lt_of_lt_of_le (hr.gh b hb).1 hx.size, fun id hl => ?_⟩
    rcases lv id hl with ⟨a1, a2, a3⟩ | ⟨i, o', a1, a2, rfl⟩
    · have ei : (upPhi φ φ1 h.next qs) id = φ id := if_pos a1
      rw [ei]
      exact (hr.gh b hb).2 id a3
    · rw [hphi i (List.getElem?_eq_some_iff.1 a1).1]
      exact (hr1.gh b (by rw [hx.gh.1]; exact .inl hb)).2 _ (lv1 i o' a1 a2)
end
end
end Sz

/- The abstract run is sound. No program is named here. -/
namespace Sz
open Go
variable {X : World → Prop}
def FnOK (P : Program) (f : Nat) (F : AFun) : Prop :=
  ∃ fn c, P.funcs[f]? = some fn ∧ (fn.name == "runtime.NumGoroutine") = false ∧ fn.body = some c ∧ fn.ntmps = F.ntmps ∧ compCode P c = some F.code.strip ∧ allSome (compRes P) fn.results.toList = some F.results
def PrimPost (φ : Phi) (h : Heap) (w : World) (v : AV) (cv : Value) (w' : World) : Prop := RVh φ h w' v cv ∧ HR φ h w' ∧ Ext φ h w φ h w' ∧ Same w w'
def PrimOKX (P : Program) (X : World → Prop) (f : Nat) (args : List AV) (v : AV) : Prop := ∀ φ h w cargs, HR φ h w → Glob P X φ h w → ArgsR φ h w args cargs →
    ((callFunc f cargs).run P w = .ok (.enter f cargs) w ∧ Calls P f cargs w fun e w' => ∃ cv, e = .returned cv ∧ PrimPost φ h w v cv w') ∨
    ∃ cv w', (callFunc f cargs).run P w = .ok (.value cv) w' ∧ PrimPost φ h w v cv w'
abbrev PrimOK (P : Program) (f : Nat) (args : List AV) (v : AV) : Prop := PrimOKX P (fun _ => True) f args v
def MethOKX (P : Program) (X : World → Prop) (f : Nat) (args : List AV) (os : List AObj) (v : AV) (r : Option (List AObj)) : Prop :=
  ∀ φ h w τ cargs, HR φ h w → Glob P X φ h w → SubH h (fun i => τ.getD i 0) os → τ.length = os.length → (∀ o ∈ os, ∀ _ : o = .dead, False) → ArgsR φ h w (args.map (sig fun i => τ.getD i 0)) cargs →
    ((callFunc f cargs).run P w = .ok (.enter f cargs) w ∧ Calls P f cargs w (CallPost φ h w v (methH h τ r))) ∨
    ∃ cv w' φ', (callFunc f cargs).run P w = .ok (.value cv) w' ∧ RVh φ' (methH h τ r) w' v cv ∧ HR φ' (methH h τ r) w' ∧ Ext φ h w φ' (methH h τ r) w'
def MapsCloneOK (P : Program) (f : Nat) : Prop := ∀ (b : Nat) (es : Array MapEntry) (clk : Nat) (w : World), w.heap[b]? = some (.map es clk) →
  (callFunc f #[.map (some b)]).run P w = .ok (.enter f #[.map (some b)]) w ∧ Calls P f #[.map (some b)] w fun e w' => e = .returned (.map (some w.heap.size)) ∧ w' = w.alloc (.map es clk)
structure EnvOKX (P : Program) (X : World → Prop) (E : Env) : Prop where
  mixed : P.follows .mixedOrders = true
  fn : ∀ f F, E.fn f = some F → FnOK P f F
  prim : ∀ f args v, E.prim f args = some v → PrimOKX P X f args v
  meth : ∀ f args os v r, E.meth f args os = some (v, r) → MethOKX P X f args os v r
  mcl : ∀ f, E.mcl f = true → MapsCloneOK P f
theorem scal1_ok {φ φ' : Phi} {nx nx' : Nat} {pr pr' : Nat → Prop} {w w' : World} {v : AV} {cv : Value} (hs : scal1 v = true) (h : RV φ nx pr w v cv) : RV φ' nx' pr' w' v cv := by
  cases h <;> first | cases hs | skip
  · exact .bool _
  · exact .int _ _
  · exact .str _
  · exact .nilp
  · exact .nils _
  · exact .nilm
  · exact .nilfn
  · exact .nili
theorem scal_ok {φ φ' : Phi} {nx nx' : Nat} {pr pr' : Nat → Prop} {w w' : World} {v : AV} {cv : Value} (hs : scal v = true) (h : RV φ nx pr w v cv) : RV φ' nx' pr' w' v cv := by
  cases v with
  | tuple vs =>
    obtain ⟨cvs, rfl, h1, h2⟩ := h.tuple_inv
    exact .tuple _ _ h1 fun j hj => scal1_ok (List.all_eq_true.1 hs _ (List.getElem_mem hj)) (h2 j hj)
  | agg vs =>
    obtain ⟨cvs, rfl, h1, h2, h3⟩ := h.agg_inv
    exact .agg _ _ h1 h2 fun j hj => scal1_ok (List.all_eq_true.1 hs _ (List.getElem_mem hj)) (h3 j hj)
  | _ => exact scal1_ok hs h
theorem kill_cl (ids : List Nat) : ∀ h : Heap, CL h (kill h ids) := by
  induction ids with
  | nil => exact fun h => .refl _
  | cons i r ih => exact fun h => (CL.kill h i).trans (ih _)
section
variable {P : Program} {φ : Phi} {h : Heap} {w : World}
def resF (tm : Array Value) : ResultVar → Sem Value
  | .tmp t => Pure.pure (tm.getD t undef)
  | .cell a t => do loadVar t (← asAddr (tm.getD a undef))
theorem results_eq (fn : Func) (tm : Array Value) : results fn tm = (fn.results.mapM (resF tm) >>= fun vs => Pure.pure (if h : vs.size = 1 then vs[0] else .tuple vs)) := by
  unfold results
  congr 1
theorem res_ok {fr : List AV} {tm : Array Value} (hf : FR φ h w fr tm) (hr : HR φ h w) : ∀ (rs : List ResultVar) (rs' : List ARes) (vs : List AV), allSome (compRes P) rs = some rs' → resAll fr h rs' = some vs →
    ∃ cvs : List Value, (rs.mapM (resF tm)).run P w = .ok cvs w ∧ cvs.length = vs.length ∧ ∀ j (h1 : j < vs.length) (h2 : j < cvs.length), RVh φ h w vs[j] cvs[j]
  | [], rs', vs, hc, he => by
    simp only [allSome, Option.some.injEq] at hc
    subst hc
    simp only [resAll, Option.some.injEq] at he
    subst he
    exact ⟨[], by simp, rfl, fun j h1 => by simp at h1⟩
  | r :: rs, rs', vs, hc, he => by
    unfold allSome at hc
    split at hc
    · rename_i r' rs'' h1 h2
      cases hc
      simp only [resAll] at he
      split at he
      · rename_i v vs' h3 h4
        cases he
        obtain ⟨cvs, g1, g2, g3⟩ := res_ok hf hr rs rs'' vs' h2 h4
        have key : ∃ cv, (resF tm r).run P w = .ok cv w ∧ RVh φ h w v cv := by
          cases r with
          | tmp t =>
            simp only [compRes, Option.some.injEq] at h1
            subst h1
            simp only [resA, Option.some.injEq] at h3
            subst h3
            exact ⟨_, by simp [resF], hf.2 t⟩
          | cell a t =>
            simp only [compRes, Option.map_eq_some_iff] at h1
            obtain ⟨n, hn, rfl⟩ := h1
            simp only [resA] at h3
            obtain ⟨ad, cv, e1, e2, e3⟩ := ldA_ok hn (hf.2 a) hr h3
            exact ⟨cv, by simp [resF, e1, asAddr, e2], e3⟩
        obtain ⟨cv, k1, k2⟩ := key
        refine ⟨cv :: cvs, ?_, by simp [g2], fun j j1 j2 => ?_⟩
        · rw [List.mapM_cons]
          simp only [Sem.run_bind, k1, Result.andThen_ok, g1, Sem.run_pure]
        · cases j with
          | zero => exact k2
          | succ j => exact g3 j (Nat.lt_of_succ_lt_succ j1) (Nat.lt_of_succ_lt_succ j2)
      · cases he
    · cases hc
end
theorem finish_cl {h0 h : Heap} (hcl : CL { h0 with wl := h0.next, md := h0.next } h) {keep : Bool} {v : AV} : CL h0 (finish keep h0 v h).2 := by
  have plain : CL h0 { h with wl := min h0.wl h.wl, md := min h0.md h.md } := ⟨hcl.next, Nat.min_le_left _ _, fun n hn hw k id hid => by
    have := hcl.le n hn (by dsimp only at hw; omega) (fun i hi => k i hi) id hid
    exact this, Nat.min_le_left _ _, fun id h1 h2 => hcl.same id (by dsimp only at h1; omega) h2⟩
  unfold finish
  cases keep with
  | true => simpa using plain
  | false =>
    simp only [Bool.false_eq_true, if_false]
    split
    · exact plain
    · rename_i v' ids hfz
      split
      · rename_i hc
        have hnx : min h.next h0.next = h0.next := Nat.min_eq_right hcl.next
        refine ⟨?_, Nat.le_refl _, fun n hn hw k id hid => ?_, ?_, fun id h1 h2 => ?_⟩
        · show h0.next ≤ min h.next h0.next
          omega
        · have hn' : n ≤ h0.next := hn
          have := hcl.le n hn (by omega) (fun i hi => k i hi) id hid
          unfold ObjLe at this ⊢
          have e : ({ h.trunc h0.next with wl := h0.wl, md := (if h.md < h0.next then min h0.md h.md else h0.md) } : Heap).get id = h.get id := Heap.get_trunc (by omega)
          rw [e]
          exact this
        · dsimp only
          split <;> omega
        · have e : ({ h.trunc h0.next with wl := h0.wl, md := (if h.md < h0.next then min h0.md h.md else h0.md) } : Heap).get id = h.get id := Heap.get_trunc h2
          rw [e]
          refine hcl.same id ?_ h2
          dsimp only at h1
          split at h1 <;> omega
      · have hnk : ∀ (ids : List Nat) (h : Heap), (kill h ids).wl = h.wl ∧ CL h (kill h ids) := by
          intro ids
          induction ids with
          | nil => exact fun h => ⟨rfl, .refl _⟩
          | cons i r ih =>
            intro h
            obtain ⟨a1, a2⟩ := ih (h.set i .dead)
            exact ⟨by simp only [kill]; rw [a1]; simp, (CL.kill h i).trans a2⟩
        have hko : ∀ (ids : List Nat) (h : Heap) (i : Nat), i ∉ ids → (kill h ids).get i = h.get i := by
          intro ids
          induction ids with
          | nil => exact fun h i _ => rfl
          | cons j r ih =>
            intro h i hi
            simp only [List.mem_cons, not_or] at hi
            simp only [kill]
            rw [ih _ i hi.2, Heap.get_set_other (Ne.symm hi.1)]
        obtain ⟨n1, n2⟩ := hnk ids h
        have hc2 := hcl.trans n2
        refine ⟨hc2.next, Nat.min_le_left _ _, fun n hn hw k id hid => ?_, Nat.min_le_left _ _, fun id h1 h2 => ?_⟩
        · have := hc2.le n hn (by rw [n1]; dsimp only at hw; omega) (fun i hi => k i hi) id hid
          exact this
        · have hids := frz_ids 8 v v' ids hfz
          have e : (kill h ids).get id = h.get id := hko ids h id fun hm => by have := (hids id hm).1; omega
          show (kill h ids).get id = h0.get id
          rw [e]
          exact hcl.same id (by dsimp only at h1; omega) h2
theorem kill_wf : ∀ (ids : List Nat) {h : Heap}, h.wf → (kill h ids).wf
  | [], _, hw => hw
  | i :: r, _, hw => kill_wf r (Heap.wf_set i .dead hw)
theorem finish_wf {h0 h : Heap} {keep : Bool} {v : AV} (hw : h.wf) : (finish keep h0 v h).2.wf := by
  unfold finish
  cases keep with
  | true => exact hw
  | false =>
    simp only [Bool.false_eq_true, if_false]
    split
    · exact hw
    · split
      · exact Heap.wf_trunc _ hw
      · exact kill_wf _ hw
theorem hasN_mem : ∀ {τ : List Nat} {id : Nat}, hasN τ id = true ↔ id ∈ τ
  | [], id => by simp [hasN]
  | k :: r, id => by
    unfold hasN
    by_cases e : k = id
    · rw [if_pos e]; simp [e]
    · rw [if_neg e, hasN_mem]
      simp [Ne.symm e]
theorem posN_at : ∀ {τ : List Nat} {id : Nat}, id ∈ τ → posN τ id < τ.length ∧ τ.getD (posN τ id) 0 = id
  | k :: r, id, h => by
    unfold posN
    by_cases e : k = id
    · rw [if_pos e]; simp [e]
    · rw [if_neg e]
      have h' : id ∈ r := by
        rcases List.mem_cons.1 h with h | h
        · exact absurd h.symm e
        · exact h
      obtain ⟨a, b⟩ := posN_at h'
      exact ⟨by simp; omega, by simpa [List.getD] using b⟩
theorem tops_spec : ∀ (cs : List AV) (acc : List Nat), acc.Nodup → (tops cs acc).Nodup ∧ ∃ r, tops cs acc = acc ++ r
  | [], acc, h => ⟨h, [], by simp [tops]⟩
  | v :: cs, acc, h => by
    unfold tops
    cases hv : v.top with
    | none => exact tops_spec cs acc h
    | some j =>
      dsimp only
      split
      · exact tops_spec cs acc h
      · rename_i hn
        have hj : j ∉ acc := fun hm => hn (hasN_mem.2 hm)
        have h2 : (acc ++ [j]).Nodup := by
          rw [List.nodup_append]
          refine ⟨h, by simp, fun a ha b hb e => ?_⟩
          simp at hb
          exact hj (hb ▸ e ▸ ha)
        obtain ⟨a, r, e⟩ := tops_spec cs (acc ++ [j]) h2
        exact ⟨a, j :: r, by rw [e]; simp⟩
theorem okV_sig {τ : List Nat} {v : AV} (h : okV τ v = true) : sig (fun i => τ.getD i 0) (sig (posN τ) v) = v ∧ lowV τ.length (sig (posN τ) v) = true := by
  unfold okV at h
  cases v with
  | ptr id off =>
    obtain ⟨a, b⟩ := posN_at (hasN_mem.1 h)
    exact ⟨by simp only [sig, b], by simpa [sig, lowV] using a⟩
  | vec id off len sz lb =>
    obtain ⟨a, b⟩ := posN_at (hasN_mem.1 h)
    exact ⟨by simp only [sig, b], by simpa [sig, lowV] using a⟩
  | map id =>
    obtain ⟨a, b⟩ := posN_at (hasN_mem.1 h)
    exact ⟨by simp only [sig, b], by simpa [sig, lowV] using a⟩
  | _ => exact ⟨rfl, h⟩
theorem okO_sig {τ : List Nat} {o : AObj} (h : okO τ o = true) : sigO (fun i => τ.getD i 0) (sigO (posN τ) o) = o ∧ lowO τ.length (sigO (posN τ) o) = true ∧ ∀ _ : sigO (posN τ) o = .dead, False := by
  cases o with
  | dead => cases h
  | row cs =>
    have hc : ∀ v ∈ cs, okV τ v = true := List.all_eq_true.1 h
    refine ⟨?_, ?_, fun e => by cases e⟩
    · simp only [sigO, List.map_map]
      congr 1
      conv => rhs; rw [← List.map_id cs]
      exact List.map_congr_left fun v hv => (okV_sig (hc v hv)).1
    · simp only [sigO, lowO, List.all_map]
      exact List.all_eq_true.2 fun v hv => (okV_sig (hc v hv)).2
  | map es =>
    have hc : ∀ e ∈ es, (okV τ e.1 && okV τ e.2) = true := List.all_eq_true.1 h
    refine ⟨?_, ?_, fun e => by cases e⟩
    · simp only [sigO, List.map_map]
      congr 1
      conv => rhs; rw [← List.map_id es]
      refine List.map_congr_left fun e he => ?_
      have := hc e he
      rw [Bool.and_eq_true] at this
      show (sig _ (sig _ e.1), sig _ (sig _ e.2)) = e
      rw [(okV_sig this.1).1, (okV_sig this.2).1]
    · simp only [sigO, lowO, List.all_map]
      refine List.all_eq_true.2 fun e he => ?_
      have := hc e he
      rw [Bool.and_eq_true] at this
      show (lowV _ (sig _ e.1) && lowV _ (sig _ e.2)) = true
      rw [(okV_sig this.1).2, (okV_sig this.2).2]
      rfl
theorem subOf_spec {h : Heap} {τ : List Nat} : ∀ {ks : List Nat} {os : List AObj}, subOf h τ ks = some os → os.length = ks.length ∧ ∀ (i : Nat) (o : AObj), os[i]? = some o → ∃ id o0, ks[i]? = some id ∧ h.get id = some o0 ∧ okO τ o0 = true ∧ o = sigO (posN τ) o0
  | [], os, h1 => by
    simp only [subOf, Option.some.injEq] at h1
    subst h1
    exact ⟨rfl, fun i o ho => by simp at ho⟩
  | k :: ks, os, h1 => by
    simp only [subOf] at h1
    split at h1
    · rename_i o0 os0 h2 h3
      split at h1
      · rename_i hok
        cases h1
        obtain ⟨a, b⟩ := subOf_spec h3
        refine ⟨by simp [a], fun i o ho => ?_⟩
        cases i with
        | zero =>
          simp only [List.getElem?_cons_zero, Option.some.injEq] at ho
          exact ⟨k, o0, rfl, h2, hok, ho.symm⟩
        | succ i => exact b i o (by simpa using ho)
      · cases h1
    · cases h1
theorem sig_plain {g : Nat → Nat} {v : AV} (h : v.refs = 0) : sig g v = v := by
  cases v with
  | ptr id off => simp [AV.refs] at h
  | vec id off len sz lb => simp [AV.refs] at h
  | map id => simp [AV.refs] at h
  | _ => rfl
theorem jPut_cl (h : Heap) (k : Nat) (o : AObj) : CL h (jPut h k o) := by
  refine ⟨by rw [jPut_next]; exact Nat.le_refl _, ?_, fun n hn hw hk id hid => ?_, Heap.md_set_le h k o, fun id h1 _ => Heap.get_set_md h k o id h1⟩
  · show (if o.refs ≤ k + 1 then h.wl else min h.wl k) ≤ h.wl
    split
    · exact Nat.le_refl _
    · exact Nat.min_le_left _ _
  · have hw' : n ≤ (if o.refs ≤ k + 1 then h.wl else min h.wl k) := hw
    by_cases e : id = k
    · subst e
      have hr : o.refs ≤ id + 1 := by
        by_cases hc : o.refs ≤ id + 1
        · exact hc
        · rw [if_neg hc] at hw'
          have := Nat.le_trans hw' (Nat.min_le_right _ _)
          omega
      cases hg : h.get id with
      | none =>
        have : (jPut h id o).get id = none := by
          show (h.set id o).get id = none
          unfold Heap.set
          split
          · rename_i hlt
            unfold Heap.get at hg ⊢
            simp only [hlt, if_true] at hg ⊢
            rw [List.getElem?_eq_none_iff] at hg
            exact List.getElem?_eq_none (by simpa using hg)
          · exact hg
        unfold ObjLe
        rw [this]
        exact ⟨fun _ e => (by cases e), fun _ e => (by cases e)⟩
      | some o' =>
        unfold ObjLe
        rw [jPut_same h id o hg]
        refine ⟨fun cs e => ?_, fun es e p hp => ?_⟩
        · cases e
          have : AV.refsL cs ≤ id + 1 := hr
          omega
        · cases e
          have h3 : AV.refsL (es.flatMap fun e => [e.1, e.2]) ≤ id + 1 := hr
          have m1 : p.1 ∈ es.flatMap fun e => [e.1, e.2] := List.mem_flatMap.2 ⟨p, hp, by simp⟩
          have m2 : p.2 ∈ es.flatMap fun e => [e.1, e.2] := List.mem_flatMap.2 ⟨p, hp, by simp⟩
          have := AV.refsL_mem m1
          have := AV.refsL_mem m2
          omega
    · have := hk id hid
      unfold ObjLe at this ⊢
      rw [jPut_other h k o e]
      exact this
theorem jSet_cl (g : Nat → Nat) : ∀ (ks : List Nat) (os : List AObj) (h : Heap), CL h (jSet g ks os h)
  | [], _, h => by unfold jSet; exact .refl _
  | k :: ks, [], h => by unfold jSet; exact .refl _
  | k :: ks, o :: os, h => (jPut_cl h k (sigO g o)).trans (jSet_cl g ks os _)
theorem jNew_cl (g : Nat → Nat) : ∀ (os : List AObj) (h : Heap), CL h (jNew g os h)
  | [], h => .refl _
  | o :: os, h => (CL.alloc h (sigO g o)).trans (jNew_cl g os _)
theorem methH_cl (h : Heap) (τ : List Nat) : ∀ r, CL h (methH h τ r)
  | none => .refl _
  | some os' => (jSet_cl _ _ _ h).trans (jNew_cl _ _ _)
theorem methH_wf {h : Heap} (hw : h.wf) (τ : List Nat) : ∀ r, (methH h τ r).wf
  | none => hw
  | some os' => join_wf hw
theorem methA_inv {M : List AV → List AObj → Option (AV × Option (List AObj))} {mc : Bool} {args : List AV} {h h' : Heap} {v : AV} (he : methA M mc args h = some (v, h')) :
    (∃ k rest cs os r, args = .ptr k 0 :: rest ∧ h.get k = some (.row cs) ∧ subOf h (tops cs [k]) (tops cs [k]) = some os ∧ AV.refsL rest = 0 ∧ M (.ptr 0 0 :: rest) os = some (v, r) ∧ h' = methH h (tops cs [k]) r) ∨
    ∃ id, mc = true ∧ args = [.map id] ∧ h.get id = some (.map []) ∧ v = .map h.next ∧ h' = h.alloc (.map []) := by
  unfold methA at he
  split at he
  · rename_i id
    split at he
    · rename_i hmc
      split at he
      · rename_i hg
        cases he
        exact .inr ⟨id, hmc, rfl, mapAt_get hg, rfl, rfl⟩
      · cases he
    · cases he
  · rename_i k rest
    split at he
    · rename_i cs hg
      split at he
      · rename_i os hs
        split at he
        · rename_i hr
          obtain ⟨⟨v', r⟩, h1, e⟩ := Option.map_eq_some_iff.1 he
          cases e
          exact .inl ⟨k, rest, cs, os, r, rfl, hg, hs, hr, h1, rfl⟩
        · cases he
      · cases he
    · cases he
  · cases he
theorem methA_ok {P : Program} {E : Env} (hE : EnvOKX P X E) {f : Nat} {args : List AV} {h h' : Heap} {v : AV} (he : methA (E.meth f) (E.mcl f) args h = some (v, h')) {φ : Phi} {w : World} {cargs : Array Value} (hr : HR φ h w) (hG : Glob P X φ h w)
    (ha : ArgsR φ h w args cargs) : ((callFunc f cargs).run P w = .ok (.enter f cargs) w ∧ Calls P f cargs w (CallPost φ h w v h')) ∨
      ∃ cv w' φ', (callFunc f cargs).run P w = .ok (.value cv) w' ∧ RVh φ' h' w' v cv ∧ HR φ' h' w' ∧ Ext φ h w φ' h' w' := by
  rcases methA_inv he with ⟨k, rest, cs, os, r, rfl, hg, hs, hrest, hm, rfl⟩ | ⟨id, hmc, rfl, hg, rfl, rfl⟩
  rotate_left
  · obtain ⟨ents, clk, m1, m2, _⟩ := hr.maps id [] hg
    have hz : ents = #[] := Array.eq_empty_of_size_eq_zero m2
    subst hz
    have hc : cargs = #[.map (some (φ id).blk)] := by
      have h1 := ha.1
      have h2 := (ha.2 0 (by simp)).map_inv.1
      have hs : cargs.size = 1 := h1
      rw [Array.getD_eq_getD_getElem?, Array.getElem?_eq_getElem (by omega), Option.getD_some] at h2
      exact Array.ext (by simpa using hs) fun i hi hi2 => by
        have : i = 0 := by omega
        subst this
        simpa using h2
    rw [hc]
    obtain ⟨c1, c2⟩ := hE.mcl f hmc (φ id).blk #[] clk w m1
    refine .inl ⟨c1, c2.mono fun e w' ⟨he, hw⟩ => ?_⟩
    subst hw
    obtain ⟨g1, g2⟩ := new_map (w' := w.alloc (.map #[] clk)) hr rfl rfl rfl rfl
    refine ⟨_, _, he, ?_, g1, g2⟩
    have := RV.map (φ := addPE φ h.next ⟨w.heap.size, 0, 0⟩) (nx := (h.alloc (.map [])).next) (pr := Pr (addPE φ h.next ⟨w.heap.size, 0, 0⟩) (h.alloc (.map [])) (w.alloc (.map #[] clk))) (w := w.alloc (.map #[] clk)) h.next (by simp)
    have e : addPE φ h.next ⟨w.heap.size, 0, 0⟩ h.next = ⟨w.heap.size, 0, 0⟩ := by simp [addPE]
    rw [e] at this
    exact this
  obtain ⟨hn, q, hq⟩ := tops_spec cs [k] (by simp)
  obtain ⟨hl, hso⟩ := subOf_spec hs
  have hg0 : ∀ i, i < (tops cs [k]).length → ∀ id, (tops cs [k])[i]? = some id → (tops cs [k]).getD i 0 = id := fun i hi id hid => by simp [List.getD, hid]
  refine hE.meth f _ os v r hm φ h w (tops cs [k]) cargs hr hG ⟨fun i o ho hno => ?_, fun i j o o' ho ho' _ _ e => ?_⟩ hl.symm (fun o ho e => ?_) ?_
  · obtain ⟨id, o0, a1, a2, a3, rfl⟩ := hso i o ho
    obtain ⟨b1, b2, _⟩ := okO_sig a3
    refine ⟨?_, by rw [hl]; exact b2⟩
    show h.get ((tops cs [k]).getD i 0) = _
    rw [hg0 i (List.getElem?_eq_some_iff.1 a1).1 id a1, b1]
    exact a2
  · have hi : i < (tops cs [k]).length := by have := (List.getElem?_eq_some_iff.1 ho).1; omega
    have hj : j < (tops cs [k]).length := by have := (List.getElem?_eq_some_iff.1 ho').1; omega
    have e' : (tops cs [k])[i] = (tops cs [k])[j] := by
      have e : (tops cs [k]).getD i 0 = (tops cs [k]).getD j 0 := e
      simpa [List.getD, hi, hj] using e
    exact (List.getElem_inj hn).1 e'
  · obtain ⟨i, hi, rfl⟩ := List.getElem_of_mem ho
    obtain ⟨id, o0, a1, a2, a3, a4⟩ := hso i _ (List.getElem?_eq_getElem hi)
    rw [a4] at e
    exact (okO_sig a3).2.2 e
  · have e0 : (AV.ptr 0 0 :: rest).map (sig fun i => (tops cs [k]).getD i 0) = .ptr k 0 :: rest := by
      rw [List.map_cons]
      have h1 : sig (fun i => (tops cs [k]).getD i 0) (.ptr 0 0) = .ptr k 0 := by
        show AV.ptr ((tops cs [k]).getD 0 0) 0 = _
        rw [hq]
        rfl
      have h2 : rest.map (sig fun i => (tops cs [k]).getD i 0) = rest := by
        conv => rhs; rw [← List.map_id rest]
        exact List.map_congr_left fun v hv => sig_plain (by have := AV.refsL_mem hv; omega)
      rw [h1, h2]
    rw [e0]
    exact ha
theorem call_ok {P : Program} {E : Env} (hE : EnvOKX P X E) : ∀ n, CallOK P X (evCall E n) ∧ CallCL (evCall E n)
  | 0 => ⟨fun f args h v h' he => by simp [evCall] at he, fun f args h v h' he => by simp [evCall] at he⟩
  | n + 1 => by
    obtain ⟨ih1, ih2⟩ := call_ok hE n
    have both : ∀ f args h v h', evCall E (n + 1) f args h = some (v, h') → (∀ φ w cargs, HR φ h w → Glob P X φ h w → ArgsR φ h w args cargs →
        ((callFunc f cargs).run P w = .ok (.enter f cargs) w ∧ Calls P f cargs w (CallPost φ h w v h')) ∨
        ∃ cv w' φ', (callFunc f cargs).run P w = .ok (.value cv) w' ∧ RVh φ' h' w' v cv ∧ HR φ' h' w' ∧ Ext φ h w φ' h' w') := by
      intro f args h v h' he φ w cargs hr hG ha
      simp only [evCall] at he
      split at he
      · rename_i r hp
        cases he
        obtain ⟨⟨args', ids⟩, h1, h2⟩ := Option.bind_eq_some_iff.1 hp
        obtain ⟨v, hpv, e⟩ := Option.map_eq_some_iff.1 h2
        simp only [Prod.mk.injEq] at e
        obtain ⟨rfl, rfl⟩ := e
        obtain ⟨k1, k2⟩ := kills ids hr
        have hids : ∀ id ∈ ids, live h id := fun id hid => (frzL_ids (p := fun id => 0 ≤ id ∧ live h id) (fun v v' ids he => frz_ids 8 v v' ids he) args args' ids h1 id hid).2
        have hnk : (kill h ids).next = h.next := by
          have : ∀ (ids : List Nat) (h : Heap), (kill h ids).next = h.next := by
            intro ids
            induction ids with
            | nil => exact fun h => rfl
            | cons i r ih => intro h; simp only [kill]; rw [ih]; simp
          exact this ids h
        obtain ⟨q1, q2⟩ := frzL_ok (φ := φ) (nx := h.next) (pr := Pr φ h w) (pr' := Pr φ (kill h ids) w) (w := w) (fun v cv v' ids' he hv hi => frz_ok hr (n0 := 0) (pr' := Pr φ (kill h ids) w) (fun b hb => (k2.pr b hb).1) 8 v cv v' ids' he hv hi) args args' ids (fun j => cargs.getD j default) h1 ha.2
          fun id hid => Pr.of_kill (hr.blk_lt (hids id hid)) (fun i hi e => (by rw [hr.inj i id hi (hids id hid) e]; exact hid)) fun hg => (hr.gh _ hg).2 id (hids id hid) rfl
        have ha' : ArgsR φ (kill h ids) w args' cargs := ⟨ha.1.trans q1.symm, fun j hj => (q2 j hj).mono (fun id _ hid => ⟨rfl, by rw [hnk]; exact hid⟩) fun b hb => ⟨hb, rfl⟩⟩
        have fin : ∀ cv w', PrimPost φ (kill h ids) w v cv w' → RVh φ (if scal v then h else kill h ids) w' v cv ∧ HR φ (if scal v then h else kill h ids) w' ∧ Ext φ h w φ (if scal v then h else kill h ids) w' := fun cv w' ⟨g1, g2, g3, g4⟩ => by
          by_cases hs : scal v = true
          · obtain ⟨s1, s2⟩ := same_ok hr g3.os g3.tape g3.output g3.size g4
            rw [if_pos hs]
            exact ⟨scal_ok hs g1, s1, s2⟩
          · rw [if_neg hs]
            exact ⟨g1, g2, k2.trans g3⟩
        rcases hE.prim f args' v hpv φ (kill h ids) w cargs k1 (hG.ext k2) ha' with ⟨e1, e2⟩ | ⟨cv, w', e1, e2⟩
        · exact .inl ⟨e1, e2.mono fun e w' ⟨cv, he, hp⟩ => ⟨φ, cv, he, fin cv w' hp⟩⟩
        · exact .inr ⟨cv, w', φ, e1, fin cv w' e2⟩
      · split at he
        · rename_i r hm
          cases he
          exact methA_ok hE hm hr hG ha
        split at he
        · cases he
        · rename_i F hF
          obtain ⟨fn, c, hfn, hname, hbody, hnt, hcode, hres⟩ := hE.fn f F hF
          left
          have hcall : (callFunc f cargs).run P w = .ok (.enter f cargs) w := by
            have hne : ¬ fn.name = "runtime.NumGoroutine" := by simpa using hname
            simp [callFunc, hfn, hne, hbody]
          refine ⟨hcall, ?_⟩
          have hbegin : ∃ ex fr hh vs, evCode (evCall E n) n F.code (args ++ List.replicate (F.ntmps - args.length) .undef) { h with wl := h.next, md := h.next } = some (ex, fr, hh) ∧ (ex = .normal ∨ ex = .ret) ∧ resAll fr hh F.results = some vs ∧
              (v, h') = finish F.keep h (oneOf vs) hh := by
            cases hev : evCode (evCall E n) n F.code (args ++ List.replicate (F.ntmps - args.length) .undef) { h with wl := h.next, md := h.next } with
            | none => rw [hev] at he; cases he
            | some r =>
              obtain ⟨ex, fr, hh⟩ := r
              rw [hev] at he
              cases ex with
              | exit id => cases he
              | normal =>
                obtain ⟨vs, hvs, e⟩ := Option.map_eq_some_iff.1 he
                exact ⟨.normal, fr, hh, vs, rfl, .inl rfl, hvs, e.symm⟩
              | ret =>
                obtain ⟨vs, hvs, e⟩ := Option.map_eq_some_iff.1 he
                exact ⟨.ret, fr, hh, vs, rfl, .inr rfl, hvs, e.symm⟩
          obtain ⟨ex, fr, hh, vs, hev, hex, hvs, hfin⟩ := hbegin
          obtain ⟨s1, s2⟩ := hr.setwl h.next h.next
          have hfr : FR φ { h with wl := h.next, md := h.next } w (args ++ List.replicate (F.ntmps - args.length) .undef) (cargs ++ Array.replicate (fn.ntmps - cargs.size) undef) := by
            refine ⟨by simp [ha.1, hnt], fun t => ?_⟩
            by_cases ht : t < args.length
            · have := (ha.2 t ht).ext s2
              rw [List.getD_eq_getElem?_getD, List.getElem?_append_left ht, List.getElem?_eq_getElem ht, Option.getD_some]
              have ht2 : t < cargs.size := by rw [ha.1]; exact ht
              rw [Array.getD_eq_getD_getElem?] at this ⊢
              rw [Array.getElem?_append_left ht2, Array.getElem?_eq_getElem ht2, Option.getD_some]
              rw [Array.getElem?_eq_getElem ht2, Option.getD_some] at this
              exact this
            · have hu : (args ++ List.replicate (F.ntmps - args.length) AV.undef).getD t .undef = .undef := by
                rw [List.getD_eq_getElem?_getD, List.getElem?_append_right (by omega), List.getElem?_replicate]
                split <;> rfl
              rw [hu]
              exact .undef _
          refine calls_of_wp hfn hbody ?_
          refine code_ok ih1 ih2 hE.mixed n c F.code hcode hev hfr s1 (hG.ext s2) fun φ' a' w' f1 r1 e1 d1 => ?_
          have hcl := (code_cl ih2 hev s1.wf).1
          obtain ⟨cvs, g1, g2, g3⟩ := res_ok (P := P) f1 r1 fn.results.toList F.results vs hres hvs
          have hresrun : ∃ cv, (results fn a'.tmps).run P w' = .ok cv w' ∧ RVh φ' hh w' (oneOf vs) cv := by
            have hm : (fn.results.mapM (resF a'.tmps)).run P w' = .ok cvs.toArray w' := by
              rw [Array.mapM_eq_mapM_toList]
              simp only [Sem.run_map, g1, Result.andThen_ok]
            refine ⟨if h : cvs.toArray.size = 1 then cvs.toArray[0] else .tuple cvs.toArray, ?_, ?_⟩
            · rw [results_eq]
              simp only [Sem.run_bind, hm, Result.andThen_ok, Sem.run_pure]
            · match vs, cvs, g2, g3 with
              | [v1], [c1], _, g3 =>
                exact g3 0 (by simp) (by simp)
              | [], [], _, _ => exact .tuple _ _ rfl fun j hj => by simp at hj
              | v1 :: v2 :: vr, cvs, g2, g3 =>
                have hsz : ¬ (cvs.toArray.size = 1) := by
                  simp at g2 ⊢; omega
                rw [dif_neg hsz]
                refine .tuple _ _ (by simpa using g2) fun j hj => ?_
                have hj2 : j < cvs.length := by omega
                have := g3 j hj hj2
                simpa [Array.getD, hj2] using this
          obtain ⟨cv, q1, q2⟩ := hresrun
          obtain ⟨t1, t2, t3⟩ := finish_ok (keep := F.keep) (h0 := h) (φ0 := φ) (w0 := w) r1 (s2.trans e1) hcl hr q2
          rw [← hfin] at t1 t2 t3
          have post : CallPost φ h w v h' (.returned cv) w' := ⟨φ', cv, rfl, t1, t2, t3⟩
          have hd : a'.defers = [] := d1
          rcases hex with rfl | rfl
          · exact ⟨hd, cv, q1, post⟩
          · exact ⟨hd, cv, q1, post⟩
    refine ⟨both, fun f args h v h' he hwf => ?_⟩
    simp only [evCall] at he
    split at he
    · rename_i r hp
      cases he
      obtain ⟨⟨args', ids⟩, h1, h2⟩ := Option.bind_eq_some_iff.1 hp
      obtain ⟨v, hpv, e⟩ := Option.map_eq_some_iff.1 h2
      simp only [Prod.mk.injEq] at e
      obtain ⟨rfl, rfl⟩ := e
      by_cases hs : scal v = true
      · rw [if_pos hs]; exact ⟨.refl _, hwf⟩
      · rw [if_neg hs]; exact ⟨kill_cl ids h, kill_wf ids hwf⟩
    · split at he
      · rename_i r hm
        cases he
        rcases methA_inv hm with ⟨k, rest, cs, os, r, rfl, hg, hs, hrest, hm, rfl⟩ | ⟨id, hmc, rfl, hg, rfl, rfl⟩
        · exact ⟨methH_cl h _ r, methH_wf hwf _ r⟩
        · exact ⟨.alloc _ _, Heap.wf_alloc _ hwf⟩
      split at he
      · cases he
      · rename_i F hF
        cases hev : evCode (evCall E n) n F.code (args ++ List.replicate (F.ntmps - args.length) .undef) { h with wl := h.next, md := h.next } with
        | none => rw [hev] at he; cases he
        | some r =>
          obtain ⟨ex, fr, hh⟩ := r
          rw [hev] at he
          obtain ⟨hcl, hw'⟩ := code_cl ih2 hev hwf
          cases ex with
          | exit id => cases he
          | normal =>
            obtain ⟨vs, hvs, e⟩ := Option.map_eq_some_iff.1 he
            have := finish_cl (keep := F.keep) (v := oneOf vs) hcl
            have w2 := finish_wf (keep := F.keep) (v := oneOf vs) (h0 := h) hw'
            rw [e] at this w2
            exact ⟨this, w2⟩
          | ret =>
            obtain ⟨vs, hvs, e⟩ := Option.map_eq_some_iff.1 he
            have := finish_cl (keep := F.keep) (v := oneOf vs) hcl
            have w2 := finish_wf (keep := F.keep) (v := oneOf vs) (h0 := h) hw'
            rw [e] at this w2
            exact ⟨this, w2⟩
abbrev EnvOK (P : Program) (E : Env) : Prop := EnvOKX P (fun _ => True) E
end Sz

/- slices.Clone of an empty slice, nil or not. No program is named here. -/
namespace Sz
open Go
variable {X : World → Prop}
def C0 : Nat → List AV → Heap → Option (AV × Heap) := fun _ _ _ => none
structure CloneAt (P : Program) (f : Nat) : Prop where
  mk :: ok : ∃ (fn : Func) (r0 r2 r3 : Code) (i1 : Nat) (o1 o2 : Oper) (t e ty : TypeId) (a0 a2 a3 : ACode), P.funcs[f]? = some fn ∧ (fn.name == "runtime.NumGoroutine") = false ∧
    fn.body = some (.seq r0 (.seq (.seq (.region i1 #[o1, o2] false) (.cond (.tmp 4) r2 .skip)) r3)) ∧ fn.ntmps = 8 ∧ fn.results = #[.tmp 2] ∧
    compStep P #[o1, o2] o1 = some ⟨some 3, .op (.mov (.tmp 0)), none⟩ ∧ o2.op = .binOp .eql t (.tmp 3) (.const (.slice none 0 0)) ty ∧ o2.dst = some 4 ∧ o2.guard = none ∧ P.underlying t = some (.slice e) ∧
    compCode P r0 = some a0.strip ∧ compCode P r2 = some a2.strip ∧ compCode P r3 = some a3.strip ∧
    (∀ v h, evCode C0 1 a0 [v, .undef, .undef, .undef, .undef, .undef, .undef, .undef] h = some (.normal, [v, .undef, .nils, .undef, .undef, .undef, .undef, .undef], h)) ∧
    (∀ v h, evCode C0 1 a2 [v, .undef, .nils, v, .bool true, .undef, .undef, .undef] h = some (.ret, [v, .undef, .nils, v, .bool true, .undef, .undef, .undef], h)) ∧
    (∀ v, v = .nils ∨ v = .sl [] → ∀ h, evCode C0 1 a3 [v, .undef, .nils, v, .bool false, .undef, .undef, .undef] h = some (.ret, [v, .undef, .nils, v, .bool false, .nils, v, .nils], h))
theorem clone_prim {P : Program} (hm : P.follows .mixedOrders = true) {f : Nat} (hc : CloneAt P f) {v : AV} (hv : v = .nils ∨ v = .sl []) {φ : Phi} {h : Heap} {w : World} {cargs : Array Value} (hr : HR φ h w) (hG : Glob P X φ h w) (ha : ArgsR φ h w [v] cargs) :
    (callFunc f cargs).run P w = .ok (.enter f cargs) w ∧ Calls P f cargs w (CallPost φ h w .nils h) := by
  obtain ⟨fn, r0, r2, r3, i1, o1, o2, t, e, ty, a0, a2, a3, hfn, hname, hbody, hnt, hres, hs1, hop, hd2, hg2, ht, c0, c2, c3, e0, e2, e3⟩ := hc.ok
  have hC : CallOK P X C0 := fun f args h v h' he => by cases he
  have hCL : CallCL C0 := fun f args h v h' he => by cases he
  have hcall : (callFunc f cargs).run P w = .ok (.enter f cargs) w := by
    have hne : ¬ fn.name = "runtime.NumGoroutine" := by simpa using hname
    simp [callFunc, hfn, hne, hbody]
  refine ⟨hcall, ?_⟩
  have hargs : cargs.size = 1 := ha.1
  have hv0 : RVh φ h w v (cargs.getD 0 default) := ha.2 0 (by simp)
  have hfr : FR φ h w [v, .undef, .undef, .undef, .undef, .undef, .undef, .undef] (cargs ++ Array.replicate (fn.ntmps - cargs.size) undef) := by
    refine ⟨by simp [hargs, hnt], fun t => ?_⟩
    cases t with
    | zero =>
      rw [Array.getD_eq_getD_getElem?] at hv0 ⊢
      rw [Array.getElem?_append_left (by omega)]
      rw [Array.getElem?_eq_getElem (by omega : 0 < cargs.size)] at hv0 ⊢
      exact hv0
    | succ t =>
      have : ([v, .undef, .undef, .undef, .undef, .undef, .undef, .undef] : List AV).getD (t + 1) .undef = .undef := by
        match t with
        | 0 | 1 | 2 | 3 | 4 | 5 | 6 => rfl
        | n + 7 => rfl
      rw [this]
      exact .undef _
  refine calls_of_wp hfn hbody ?_
  refine wp_seq ?_
  refine code_ok hC hCL hm 1 r0 a0 c0 (e0 v h) hfr hr hG fun φ1 a1 w1 f1 r1 x1 d1 => ?_
  refine wp_seq ?_
  refine wp_seq ?_
  refine wp_region_list ?_
  refine wpList_step fun K hK => ?_
  have h1 : evStep C0 ⟨some 3, .op (.mov (.tmp 0)), none⟩ [v, .undef, .nils, .undef, .undef, .undef, .undef, .undef] h = some ([v, .undef, .nils, v, .undef, .undef, .undef, .undef], h) := rfl
  refine step_ok hC hs1 h1 f1 r1 (hG.ext x1) fun φ2 cv w2 f2 r2' x2 => hK _ _ ?_
  refine wpList_step fun K2 hK2 => ?_
  have hw : Region.wanted o2 (yielded #[o1, o2] (a1.put o1.dst cv).tmps) = true := by simp [Region.wanted, hg2]
  rw [if_pos hw]
  have x12 := x1.trans x2
  -- what is tested
  have hx : ∃ ad n c, (a1.put o1.dst cv).eval (.tmp 3) = .slice ad n c := by
    have q := opd_ok (x := .tmp 3) (x' := .tmp 3) rfl f2
    have q' : RVh φ2 h w2 v ((a1.put o1.dst cv).eval (.tmp 3)) := q
    rcases hv with rfl | rfl
    · obtain ⟨ad, e⟩ := q'.nils_inv
      exact ⟨ad, 0, 0, e⟩
    · rcases q'.sl_inv with ⟨ad, c, _, e⟩ | ⟨b, o', c, sz, vs, e, _⟩
      · exact ⟨ad, 0, c, e⟩
      · exact ⟨_, _, c, e⟩
  obtain ⟨ad, n, c, hx⟩ := hx
  have hrun := run_snil (neg := false) hop ht hx w2
  unfold Oper.wp
  rw [hrun, Oper.upon_value]
  refine hK2 _ _ (wpList_nil ?_)
  have f3 : FR φ2 h w2 [v, .undef, .nils, v, .bool ad.isNone, .undef, .undef, .undef] ((a1.put o1.dst cv).put o2.dst (.bool ad.isNone)).tmps := by
    rw [hd2]
    exact f2.put (RV.bool _) 4
  have d3 : ((a1.put o1.dst cv).put o2.dst (.bool ad.isNone)).defers = [] := by
    rw [put_defers, put_defers]
    exact d1
  have fin : ∀ (fr : List AV) (φ' : Phi) (a' : Act) (w' : World), fr.getD 2 .undef = .nils → FR φ' h w' fr a'.tmps → HR φ' h w' → Ext φ h w φ' h w' → a'.defers = [] →
      a'.defers = [] ∧ ∃ v, (results fn a'.tmps).run P w' = .ok v w' ∧ CallPost φ h w .nils h (.returned v) w' := fun fr φ' a' w' hfr' hf' hr' hx' hd' => by
    refine ⟨hd', a'.tmps.getD 2 undef, ?_, φ', _, rfl, ?_, hr', hx'⟩
    · rw [results_eq, hres]
      simp [resF]
    · have := hf'.2 2
      rw [hfr'] at this
      exact this
  cases hn : ad.isNone with
  | true =>
    rw [hn] at f3 d3
    refine wp_cond (RV.bool_inv (opd_ok (x := .tmp 4) (x' := .tmp 4) rfl f3 : RVh φ2 h w2 (.bool true) _)) ?_
    refine code_ok hC hCL hm 1 r2 a2 c2 (e2 v h) f3 r2' (hG.ext x12) fun φ4 a4 w4 f4 r4 x4 d4 => ?_
    exact fin _ φ4 a4 w4 rfl f4 r4 (x12.trans x4) (d4.trans d3)
  | false =>
    rw [hn] at f3 d3
    refine wp_cond (RV.bool_inv (opd_ok (x := .tmp 4) (x' := .tmp 4) rfl f3 : RVh φ2 h w2 (.bool false) _)) ?_
    refine wp_skip ?_
    refine code_ok hC hCL hm 1 r3 a3 c3 (e3 v hv h) f3 r2' (hG.ext x12) fun φ4 a4 w4 f4 r4 x4 d4 => ?_
    exact fin _ φ4 a4 w4 rfl f4 r4 (x12.trans x4) (d4.trans d3)
end Sz
