import Derived.Test.YtmbccebjkenofaaGreatDoorSz3
set_option linter.unusedVariables false
set_option linter.unusedSimpArgs false
set_option linter.unusedSectionVars false

/- A call's answer in the empty abstract heap is its answer in any. No program is named here. -/
namespace Sz
open Go
variable {X : World → Prop}
def h0 : Heap := ⟨0, [], 0, 0⟩
theorem prim_weak {P : Program} {f : Nat} {args : List AV} {v : AV} {h' : Heap} (hv : v.refs = 0) (ha : AV.refsL args = 0)
    (he : ∀ φ w cargs, HR φ h0 w → Glob P X φ h0 w → ArgsR φ h0 w args cargs → ((callFunc f cargs).run P w = .ok (.enter f cargs) w ∧ Calls P f cargs w (CallPost φ h0 w v h')) ∨
        ∃ cv w' φ', (callFunc f cargs).run P w = .ok (.value cv) w' ∧ RVh φ' h' w' v cv ∧ HR φ' h' w' ∧ Ext φ h0 w φ' h' w') : PrimOKX P X f args v := by
  intro φ h w cargs hr hG hargs
  let φ0 : Phi := ⟨φ.at_, fun b => φ.gh b ∨ ∃ id, live h id ∧ (φ id).blk = b⟩
  have nol : ∀ id, ¬ live h0 id := fun id ⟨o, hg, _⟩ => by simp [Heap.get, h0] at hg
  have hr0 : HR φ0 h0 w := by
    refine ⟨rfl, fun id cs hg => by simp [Heap.get, h0] at hg, fun id es hg => by simp [Heap.get, h0] at hg, fun i j hi => absurd hi (nol i), fun b hb => ⟨?_, fun id hl => absurd hl (nol id)⟩⟩
    rcases hb with hb | ⟨id, hl, rfl⟩
    · exact (hr.gh b hb).1
    · exact hr.blk_lt hl
  have pr0 : ∀ b, Pr φ h w b → Pr φ0 h0 w b := fun b hb => ⟨hb.1, fun id hl => absurd hl (nol id), fun hc => by
    rcases hc with hc | ⟨id, hl, e⟩
    · exact hb.2.2 hc
    · exact hb.2.1 id hl e⟩
  have ha0 : ArgsR φ0 h0 w args cargs := ⟨hargs.1, fun j hj => (hargs.2 j hj).mono (fun id hid _ => by
    have := AV.refsL_mem (List.getElem_mem hj)
    omega) fun b hb => ⟨pr0 b hb, rfl⟩⟩
  have back : ∀ (φ' : Phi) (cv : Value) (w' : World), RVh φ' h' w' v cv → Ext φ0 h0 w φ' h' w' → PrimPost φ h w v cv w' := fun φ' cv w' g1 g3 => by
    have hsame : Same w w' := fun b hb => by
      by_cases hg : φ0.gh b
      · exact g3.gh.2 b hg
      · exact (g3.pr b ⟨hb, fun id hl => absurd hl (nol id), hg⟩).2
    obtain ⟨s1, s2⟩ := same_ok hr g3.os g3.tape g3.output g3.size hsame
    refine ⟨g1.mono (fun id hid _ => by omega) fun b hb => ⟨⟨hb.1, fun id hl e => ?_, fun hg => ?_⟩, rfl⟩, s1, s2, hsame⟩
    · exact hb.2.2 (by rw [g3.gh.1]; exact .inr ⟨id, hl, e⟩)
    · exact hb.2.2 (by rw [g3.gh.1]; exact .inl hg)
  have hG0 : Glob P X φ0 h0 w := by
    obtain ⟨w1, g1, g2⟩ := hG
    refine ⟨w1, g1, fun b hb => ?_⟩
    obtain ⟨a1, a2, a3⟩ := g2 b hb
    refine ⟨a1, ?_, a3⟩
    rcases a2 with a2 | a2
    · exact .inl (.inl a2)
    · exact .inr (pr0 b a2)
  rcases he φ0 w cargs hr0 hG0 ha0 with ⟨e1, e2⟩ | ⟨cv, w', φ', e1, e2, e3, e4⟩
  · refine .inl ⟨e1, e2.mono fun e w' he => ?_⟩
    obtain ⟨φ', cv, rfl, g1, g2, g3⟩ := he
    exact ⟨cv, rfl, back φ' cv w' g1 g3⟩
  · exact .inr ⟨cv, w', e1, back φ' cv w' e2 e4⟩
theorem prim_of {P : Program} {E : Env} (hE : EnvOKX P X E) {n f : Nat} {args : List AV} {v : AV} {h' : Heap} (he : evCall E n f args h0 = some (v, h')) (hv : v.refs = 0) (ha : AV.refsL args = 0) : PrimOKX P X f args v :=
  prim_weak (h' := h') hv ha fun φ w cargs hr hG hargs => (call_ok hE n).1 f args h0 v h' he φ w cargs hr hG hargs
theorem Pr_congr {φ : Phi} {h h' : Heap} {w : World} (hg : ∀ id, h'.get id = h.get id) : Pr φ h' w = Pr φ h w := by
  funext b
  unfold Pr live
  simp only [hg]
theorem HR.congr {φ : Phi} {h h' : Heap} {w : World} (hg : ∀ id, h'.get id = h.get id) (hn : h'.next = h.next) (hw : h.wf) (hr : HR φ h' w) : HR φ h w := by
  have hp := Pr_congr (φ := φ) (w := w) hg
  refine ⟨hw, fun id cs hi => ?_, fun id es hi => ?_, fun i j hi hj e => hr.inj i j ?_ ?_ e, fun b hb => ⟨(hr.gh b hb).1, fun id hl => (hr.gh b hb).2 id ?_⟩⟩
  · have := hr.rows id cs (by rw [hg]; exact hi)
    unfold RowOK RVh at this ⊢
    rw [hp, hn] at this
    exact this
  · have := hr.maps id es (by rw [hg]; exact hi)
    unfold MapOK RVh at this ⊢
    rw [hp, hn] at this
    exact this
  · unfold live at hi ⊢; rw [hg]; exact hi
  · unfold live at hj ⊢; rw [hg]; exact hj
  · unfold live at hl ⊢; rw [hg]; exact hl
theorem lowV_sig {m : Nat} {g g' : Nat → Nat} (hg : ∀ i, i < m → g i = g' i) {v : AV} (h : lowV m v = true) : sig g v = sig g' v := by
  cases v with
  | ptr id off => simp only [sig]; rw [hg id (of_decide_eq_true h)]
  | vec id off len sz lb => simp only [sig]; rw [hg id (of_decide_eq_true h)]
  | map id => simp only [sig]; rw [hg id (of_decide_eq_true h)]
  | _ => rfl
theorem lowO_sig {m : Nat} {g g' : Nat → Nat} (hg : ∀ i, i < m → g i = g' i) {o : AObj} (h : lowO m o = true) : sigO g o = sigO g' o := by
  cases o with
  | dead => rfl
  | row cs =>
    simp only [sigO]
    congr 1
    exact List.map_congr_left fun v hv => lowV_sig hg (List.all_eq_true.1 h v hv)
  | map es =>
    simp only [sigO]
    congr 1
    refine List.map_congr_left fun e he => ?_
    have := List.all_eq_true.1 h e he
    rw [Bool.and_eq_true] at this
    rw [lowV_sig hg this.1, lowV_sig hg this.2]
theorem meth_of {P : Program} {E : Env} (hE : EnvOKX P X E) {n f : Nat} {args : List AV} {os : List AObj} {v : AV} {h1 : Heap} {r : Option (List AObj)} {qs : List Nat} (he : evCall E n f args (mkH os) = some (v, h1)) (hv : v.refs = 0)
    (ha : ∀ a ∈ args, lowV os.length a = true) (hle : os.length ≤ (r.getD os).length) (hs : SubH h1 (runG os.length qs) (r.getD os)) : MethOKX P X f args os v r := by
  intro φ h w τ cargs hr hG S hτ hall hargs
  have hr0 := sub_HR hr S
  have hG0 : Glob P X (subPhi φ h (fun i => τ.getD i 0) os) (mkH os) w := by
    obtain ⟨w1, g1, g2⟩ := hG
    refine ⟨w1, g1, fun b hb => ?_⟩
    obtain ⟨a1, a2, a3⟩ := g2 b hb
    refine ⟨a1, ?_, a3⟩
    rcases a2 with a2 | a2
    · exact .inl (.inl a2)
    · exact .inr (sub_pr hr S a2)
  have ha0 : ArgsR (subPhi φ h (fun i => τ.getD i 0) os) (mkH os) w args cargs := by
    refine ⟨by rw [hargs.1, List.length_map], fun j hj => ?_⟩
    have h2 := hargs.2 j (by simpa using hj)
    rw [List.getElem_map] at h2
    have := RV.swap (φ' := subPhi φ h (fun i => τ.getD i 0) os) (nx' := os.length) (m := os.length) (pr' := Pr (subPhi φ h (fun i => τ.getD i 0) os) (mkH os) w) (a := fun i => τ.getD i 0) (b := fun i => i) (fun i hi => ⟨rfl, hi⟩)
      (fun x hx => sub_pr hr S hx) (ha _ (List.getElem_mem hj)) h2
    rw [sig_id] at this
    exact this
  have back : ∀ (φ1 : Phi) (cv : Value) (w' : World), RVh φ1 h1 w' v cv → HR φ1 h1 w' → Ext (subPhi φ h (fun i => τ.getD i 0) os) (mkH os) w φ1 h1 w' →
      ∃ φ', RVh φ' (methH h τ r) w' v cv ∧ HR φ' (methH h τ r) w' ∧ Ext φ h w φ' (methH h τ r) w' := fun φ1 cv w' g1 g2 g3 => by
    obtain ⟨u1, u2, u3⟩ := meth_up hr S hτ hall hle g3 g2 hs
    have hvv : RVh (upPhi φ φ1 h.next qs) (join h τ (r.getD os)) w' v cv := g1.mono (fun id hid _ => by omega) fun b hb => ⟨u3 b hb, rfl⟩
    cases r with
    | some os' => exact ⟨_, hvv, u1, u2⟩
    | none =>
      have hnx : (join h τ os).next = h.next := by rw [join_next]; omega
      have hget : ∀ k ∈ τ, ∃ o, h.get k = some o := fun k hk => by
        obtain ⟨i, hi, rfl⟩ := List.getElem_of_mem hk
        have hi' : i < os.length := by omega
        have := (S.obj i _ (List.getElem?_eq_getElem hi') (hall _ (List.getElem_mem hi'))).1
        have e : τ.getD i 0 = τ[i] := by simp [List.getD, hi]
        rw [e] at this
        exact ⟨_, this⟩
      have hnd : τ.Nodup := by
        rw [List.nodup_iff_pairwise_ne, List.pairwise_iff_getElem]
        intro i j hi hj hij e
        have hi' : i < os.length := by omega
        have hj' : j < os.length := by omega
        have e1 : τ.getD i 0 = τ[i] := by simp [List.getD, hi]
        have e2 : τ.getD j 0 = τ[j] := by simp [List.getD, hj]
        have := S.inj i j _ _ (List.getElem?_eq_getElem hi') (List.getElem?_eq_getElem hj') (hall _ (List.getElem_mem hi')) (hall _ (List.getElem_mem hj')) (by rw [e1, e2]; exact e)
        omega
      have hgt : ∀ id, (join h τ os).get id = h.get id := fun id => by
        by_cases hm : id ∈ τ
        · obtain ⟨i, hi, rfl⟩ := List.getElem_of_mem hm
          have hi' : i < os.length := by omega
          have e : newG h τ i = τ[i] := by unfold newG; rw [if_pos hi]; simp [List.getD, hi]
          have e1 : τ.getD i 0 = τ[i] := by simp [List.getD, hi]
          have j1 := join_at (os' := os) hnd hget (List.getElem?_eq_getElem hi')
          obtain ⟨s1, s2⟩ := S.obj i _ (List.getElem?_eq_getElem hi') (hall _ (List.getElem_mem hi'))
          rw [e] at j1
          rw [e1] at s1
          rw [j1, s1, lowO_sig (g' := fun i => τ.getD i 0) (fun p hp => ?_) s2]
          unfold newG
          rw [if_pos (by omega)]
        · by_cases hl : id < h.next
          · exact join_other hl hm
          · have n1 : h.get id = none := by unfold Heap.get; rw [if_neg hl]
            have n2 : (join h τ os).get id = none := by unfold Heap.get; rw [if_neg (by rw [hnx]; exact hl)]
            rw [n1, n2]
      have hp := Pr_congr (φ := upPhi φ φ1 h.next qs) (w := w') hgt
      refine ⟨upPhi φ φ1 h.next qs, ?_, HR.congr hgt hnx hr.wf u1, ?_⟩
      · have := hvv
        unfold RVh at this ⊢
        dsimp only [Option.getD] at this
        rw [hp, hnx] at this
        exact this
      · refine ⟨u2.os, u2.tape, u2.output, u2.size, Nat.le_refl _, u2.phi, fun b hb => ?_, u2.gh⟩
        obtain ⟨p1, p2⟩ := u2.pr b hb
        dsimp only [Option.getD] at p1
        rw [hp] at p1
        exact ⟨p1, p2⟩
  rcases (call_ok hE n).1 f args (mkH os) v h1 he _ w cargs hr0 hG0 ha0 with ⟨e1, e2⟩ | ⟨cv, w', φ1, e1, e2, e3, e4⟩
  · refine .inl ⟨e1, e2.mono fun e w' he => ?_⟩
    obtain ⟨φ1, cv, rfl, g1, g2, g3⟩ := he
    obtain ⟨φ', b1, b2, b3⟩ := back φ1 cv w' g1 g2 g3
    exact ⟨φ', cv, rfl, b1, b2, b3⟩
  · obtain ⟨φ', b1, b2, b3⟩ := back φ1 cv w' e2 e3 e4
    exact .inr ⟨cv, w', φ', e1, b1, b2, b3⟩
theorem subH_of {h1 : Heap} {m : Nat} {qs : List Nat} {os' : List AObj} (hq : qs.Nodup) (hm : ∀ q ∈ qs, m ≤ q) (hl : os'.length ≤ m + qs.length)
    (ho : ∀ i o, os'[i]? = some o → (∀ _ : o = .dead, False) → h1.get (runG m qs i) = some (sigO (runG m qs) o) ∧ lowO os'.length o = true) : SubH h1 (runG m qs) os' := by
  refine ⟨ho, fun i j o o' h2 h3 _ _ e => ?_⟩
  have hi := (List.getElem?_eq_some_iff.1 h2).1
  have hj := (List.getElem?_eq_some_iff.1 h3).1
  unfold runG at e
  have at' : ∀ p, p < os'.length → ¬ p < m → ∃ hp : p - m < qs.length, qs.getD (p - m) 0 = qs[p - m] := fun p hp hn => ⟨by omega, by simp [List.getD, show p - m < qs.length by omega]⟩
  split at e
  · rename_i a
    split at e
    · exact e
    · rename_i b
      obtain ⟨hp, e1⟩ := at' j hj b
      rw [e1] at e
      have := hm _ (List.getElem_mem hp)
      omega
  · rename_i a
    obtain ⟨hp, e1⟩ := at' i hi a
    split at e
    · rename_i b
      rw [e1] at e
      have := hm _ (List.getElem_mem hp)
      omega
    · rename_i b
      obtain ⟨hp2, e2⟩ := at' j hj b
      rw [e1, e2] at e
      have := (List.getElem_inj hq).1 e
      omega
def mrK (M : List AV → List AObj → Option (AV × Option (List AObj))) (k : Nat) (rest : List AV) (h : Heap) : Option AObj → Option (AV × Heap)
  | some (.row cs) => (match subOf h (tops cs [k]) (tops cs [k]) with
    | some os => if AV.refsL rest = 0 then (M (.ptr 0 0 :: rest) os).map fun r => (r.1, methH h (tops cs [k]) r.2) else none
    | none => none)
  | _ => none
def msK (M : List AV → List AObj → Option (AV × Option (List AObj))) (rest : List AV) (h : Heap) (τ : List Nat) : Option (List AObj) → Option (AV × Heap)
  | some os => if AV.refsL rest = 0 then (M (.ptr 0 0 :: rest) os).map fun r => (r.1, methH h τ r.2) else none
  | none => none
def meK (h : Heap) (τ : List Nat) : Option (AV × Option (List AObj)) → Option (AV × Heap)
  | some r => some (r.1, methH h τ r.2)
  | none => none
theorem methA_ptr (M : List AV → List AObj → Option (AV × Option (List AObj))) (mc : Bool) (k : Nat) (rest : List AV) (h : Heap) : methA M mc (.ptr k 0 :: rest) h = mrK M k rest h (h.get k) := by
  cases hg : h.get k with
  | none => simp only [methA, hg, mrK]
  | some o =>
    cases o with
    | row cs =>
      simp only [methA, hg, mrK]
      cases subOf h (tops cs [k]) (tops cs [k]) <;> rfl
    | _ => simp only [methA, hg, mrK]
theorem mrK_row (M : List AV → List AObj → Option (AV × Option (List AObj))) (k : Nat) (rest : List AV) (h : Heap) (cs : List AV) : mrK M k rest h (some (.row cs)) = msK M rest h (tops cs [k]) (subOf h (tops cs [k]) (tops cs [k])) := by
  rfl
theorem msK_some (M : List AV → List AObj → Option (AV × Option (List AObj))) (rest : List AV) (h : Heap) (τ : List Nat) (os : List AObj) (hr : AV.refsL rest = 0) : msK M rest h τ (some os) = meK h τ (M (.ptr 0 0 :: rest) os) := by
  show (if AV.refsL rest = 0 then (M (.ptr 0 0 :: rest) os).map fun r => (r.1, methH h τ r.2) else none) = _
  rw [if_pos hr]
  cases M (.ptr 0 0 :: rest) os <;> rfl
theorem msK_nil (M : List AV → List AObj → Option (AV × Option (List AObj))) (h : Heap) (τ : List Nat) (os : List AObj) : msK M [] h τ (some os) = meK h τ (M [.ptr 0 0] os) := msK_some M [] h τ os (by simp [AV.refsL])
theorem meK_s (h : Heap) (τ : List Nat) (r : AV × Option (List AObj)) : meK h τ (some r) = some (r.1, methH h τ r.2) := rfl
theorem meK_n (h : Heap) (τ : List Nat) : meK h τ none = none := rfl
theorem methH_n (h : Heap) (τ : List Nat) : methH h τ none = h := rfl
theorem methH_s (h : Heap) (τ : List Nat) (os : List AObj) : methH h τ (some os) = join h τ os := rfl
theorem tops_nil (acc : List Nat) : tops [] acc = acc := rfl
theorem tops_cons (v : AV) (r : List AV) (acc : List Nat) : tops (v :: r) acc = match v.top with | some j => if hasN acc j then tops r acc else tops r (acc ++ [j]) | none => tops r acc := rfl
theorem hasN_nil (id : Nat) : hasN [] id = false := rfl
theorem hasN_cons (k : Nat) (r : List Nat) (id : Nat) : hasN (k :: r) id = if k = id then true else hasN r id := rfl
theorem posN_nil (id : Nat) : posN [] id = 0 := rfl
theorem posN_cons (k : Nat) (r : List Nat) (id : Nat) : posN (k :: r) id = if k = id then 0 else posN r id + 1 := rfl
theorem subOf_nil (h : Heap) (τ : List Nat) : subOf h τ [] = some [] := rfl
theorem subOf_cons (h : Heap) (τ : List Nat) (id : Nat) (r : List Nat) : subOf h τ (id :: r) = match h.get id, subOf h τ r with | some o, some os => if okO τ o then some (sigO (posN τ) o :: os) else none | _, _ => none := rfl
theorem okO_row (τ : List Nat) (cs : List AV) : okO τ (.row cs) = cs.all (okV τ) := rfl
theorem okO_map (τ : List Nat) (es : List (AV × AV)) : okO τ (.map es) = es.all fun e => okV τ e.1 && okV τ e.2 := rfl
theorem okV_top (τ : List Nat) (v : AV) : okV τ v = match v.top with | some id => hasN τ id | none => v.refs == 0 := rfl
theorem sigO_row (g : Nat → Nat) (cs : List AV) : sigO g (.row cs) = .row (cs.map (sig g)) := rfl
theorem sigO_map (g : Nat → Nat) (es : List (AV × AV)) : sigO g (.map es) = .map (es.map fun e => (sig g e.1, sig g e.2)) := rfl
theorem sigO_d (g : Nat → Nat) : sigO g .dead = .dead := rfl
theorem jSet_nil (g : Nat → Nat) (os : List AObj) (h : Heap) : jSet g [] os h = h := by unfold jSet; rfl
theorem jSet_cons (g : Nat → Nat) (k : Nat) (ks : List Nat) (o : AObj) (os : List AObj) (h : Heap) : jSet g (k :: ks) (o :: os) h = jSet g ks os (jPut h k (sigO g o)) := rfl
theorem jNew_nil (g : Nat → Nat) (h : Heap) : jNew g [] h = h := rfl
theorem jNew_cons (g : Nat → Nat) (o : AObj) (os : List AObj) (h : Heap) : jNew g (o :: os) h = jNew g os (h.alloc (sigO g o)) := rfl
theorem mkH_one (o : AObj) : mkH [o] = ⟨1, [o], 1, 1⟩ := rfl
theorem mkH_two (o p : AObj) : mkH [o, p] = ⟨2, [p, o], 2, 2⟩ := rfl
theorem lowV_plain {v : AV} (n : Nat) (h : v.refs = 0) : lowV n v = true := by
  cases v with
  | ptr id off => simp [AV.refs] at h
  | vec id off len sz lb => simp [AV.refs] at h
  | map id => simp [AV.refs] at h
  | _ => simpa [lowV] using h
theorem row_plain {cs : List AV} (g : Nat → Nat) (h : AV.refsL cs = 0) : sigO g (.row cs) = .row cs := by
  have e : cs.map (sig g) = cs := by
    conv => rhs; rw [← List.map_id cs]
    exact List.map_congr_left fun v hv => (sig_plain (v := v) (by have h2 := AV.refsL_mem (v := v) (l := cs) hv; omega) : sig g v = v)
  show AObj.row (cs.map (sig g)) = _
  rw [e]
theorem low_plain {cs : List AV} (n : Nat) (h : AV.refsL cs = 0) : lowO n (.row cs) = true :=
  List.all_eq_true.2 fun v hv => lowV_plain n (by have := AV.refsL_mem hv; omega)
theorem args_low {rest : List AV} (hr : AV.refsL rest = 0) : ∀ a ∈ AV.ptr 0 0 :: rest, lowV 1 a = true := fun a ha => by
  rcases List.mem_cons.1 ha with rfl | ha
  · rfl
  · exact lowV_plain 1 (by have := AV.refsL_mem ha; omega)
theorem meth_row {P : Program} {E : Env} (hE : EnvOKX P X E) {n f : Nat} {rest cs cs' : List AV} {v : AV} {h1 : Heap} (he : evCall E n f (.ptr 0 0 :: rest) (mkH [.row cs]) = some (v, h1)) (hg : h1.get 0 = some (.row cs'))
    (hv : v.refs = 0) (hr : AV.refsL rest = 0) (hc : AV.refsL cs' = 0) : MethOKX P X f (.ptr 0 0 :: rest) [.row cs] v (some [.row cs']) :=
  meth_of (qs := []) hE he hv (args_low hr) (Nat.le_refl _) (subH_of (by simp) (by simp) (by simp) fun i o ho _ => by
    cases i with
    | succ i => simp at ho
    | zero =>
      simp only [Option.getD, List.getElem?_cons_zero, Option.some.injEq] at ho
      subst ho
      refine ⟨?_, low_plain _ hc⟩
      rw [row_plain _ hc]
      exact hg)
theorem meth_same {P : Program} {E : Env} (hE : EnvOKX P X E) {n f : Nat} {rest cs : List AV} {v : AV} {h1 : Heap} (he : evCall E n f (.ptr 0 0 :: rest) (mkH [.row cs]) = some (v, h1)) (hg : h1.get 0 = some (.row cs))
    (hv : v.refs = 0) (hr : AV.refsL rest = 0) (hc : AV.refsL cs = 0) : MethOKX P X f (.ptr 0 0 :: rest) [.row cs] v none :=
  meth_of (qs := []) hE he hv (args_low hr) (Nat.le_refl _) (subH_of (by simp) (by simp) (by simp) fun i o ho _ => by
    cases i with
    | succ i => simp at ho
    | zero =>
      simp only [Option.getD, List.getElem?_cons_zero, Option.some.injEq] at ho
      subst ho
      refine ⟨?_, low_plain _ hc⟩
      rw [row_plain _ hc]
      exact hg)
end Sz

/- Equations by which an abstract run is worked out. No program is named here. -/
namespace Sz
open Go
theorem get_new (n : Nat) (o : AObj) (os : List AObj) (a b : Nat) : Heap.get ⟨n + 1, o :: os, a, b⟩ n = some o := by simp [Heap.get]
theorem get_old {n id : Nat} (o : AObj) (os : List AObj) (a b : Nat) (h : id < n) : Heap.get ⟨n + 1, o :: os, a, b⟩ id = Heap.get ⟨n, os, a, b⟩ id := Heap.get_alloc_old (h := ⟨n, os, a, b⟩) h
theorem get_eta (h : Heap) (a b id : Nat) : Heap.get ⟨h.next, h.objs, a, b⟩ id = h.get id := rfl
theorem set_new (n : Nat) (o o' : AObj) (os : List AObj) (a b : Nat) : Heap.set ⟨n + 1, o :: os, a, b⟩ n o' = ⟨n + 1, o' :: os, a, min b n⟩ := by simp [Heap.set]
theorem set_old {n id : Nat} (o o' : AObj) (os : List AObj) (a b : Nat) (h : id < n) : Heap.set ⟨n + 1, o :: os, a, b⟩ id o' = ⟨n + 1, o :: (Heap.set ⟨n, os, a, b⟩ id o').objs, a, min b id⟩ := by
  have e : n - id = (n - 1 - id) + 1 := by omega
  simp only [Heap.set, show id < n + 1 by omega, h, if_true]
  rw [show n + 1 - 1 - id = (n - 1 - id) + 1 by omega, List.set_cons_succ]
theorem row_def (h : Heap) (id : Nat) : h.row id = (match h.get id with | some (.row cs) => some cs | _ => none) := rfl
theorem alloc_mk (n : Nat) (os : List AObj) (a b : Nat) (o : AObj) : Heap.alloc ⟨n, os, a, b⟩ o = ⟨n + 1, o :: os, a, b⟩ := rfl
theorem alloc_def (h : Heap) (o : AObj) : h.alloc o = ⟨h.next + 1, o :: h.objs, h.wl, h.md⟩ := rfl
theorem mark_low {h : Heap} {id : Nat} {v : AV} (hv : v.refs ≤ id + 1) : h.mark id v = h := by unfold Heap.mark; rw [if_neg (by omega)]
theorem le_step {a b : Nat} (h : a ≤ b) : a ≤ b + 1 := Nat.le_succ_of_le h
theorem lt_step {a b : Nat} (h : a < b) : a < b + 1 := Nat.lt_succ_of_lt h
theorem lt_self1 (a : Nat) : a < a + 1 := Nat.lt_succ_self a
theorem trunc_cons {n m : Nat} (o : AObj) (os : List AObj) (a b : Nat) (h : n ≤ m) : Heap.trunc ⟨m + 1, o :: os, a, b⟩ n = Heap.trunc ⟨m, os, a, b⟩ n := by
  unfold Heap.trunc
  dsimp only
  rw [show m + 1 - n = (m - n) + 1 by omega, List.drop_succ_cons]
  congr 1
  omega
theorem trunc_eta (h : Heap) (a b : Nat) : Heap.trunc ⟨h.next, h.objs, a, b⟩ h.next = ⟨h.next, h.objs, a, b⟩ := by simp [Heap.trunc]
theorem heap_eta (h : Heap) : (⟨h.next, h.objs, h.wl, h.md⟩ : Heap) = h := rfl
theorem min_step {a b : Nat} (h : a ≤ b) : min a b = a := Nat.min_eq_left h
end Sz

/- Loops as they stand at their heads; specs as primitive calls. No program is named here. -/
namespace Sz
open Go
variable {X : World → Prop}
def loopH (B : List AV → Heap → Option (Ex × List AV × Heap)) (live : List Bool) (n0 : Nat) : Nat → List AV → Heap → Option (Ex × List AV × Heap)
  | 0, _, _ => none
  | n + 1, fr, h =>
    match B fr h with
    | some (.normal, fr', h') => loopH B live n0 n (gc n0 (clear live fr') h').1 (gc n0 (clear live fr') h').2
    | r => r
theorem loopN_loopH (B : List AV → Heap → Option (Ex × List AV × Heap)) (live : List Bool) (n0 : Nat) : ∀ n fr h, loopN B live n0 n fr h = loopH B live n0 n (gc n0 (clear live fr) h).1 (gc n0 (clear live fr) h).2
  | 0, _, _ => rfl
  | n + 1, fr, h => by
    unfold loopN loopH
    cases hb : B (gc n0 (clear live fr) h).1 (gc n0 (clear live fr) h).2 with
    | none => rfl
    | some r =>
      obtain ⟨ex, fr1, h1⟩ := r
      cases ex with
      | normal => exact loopN_loopH B live n0 n fr1 h1
      | exit id => rfl
      | ret => rfl
def aft (n0 wl : Nat) : Option (Ex × List AV × Heap) → Option (Ex × List AV × Heap)
  | none => none
  | some (ex, fr, h) => some (ex, (gc n0 fr h).1, ⟨(gc n0 fr h).2.next, (gc n0 fr h).2.objs, min wl (gc n0 fr h).2.wl, (gc n0 fr h).2.md⟩)
def bgn (B : List AV → Heap → Option (Ex × List AV × Heap)) (live : List Bool) (n0 n : Nat) (s : List AV × Heap) : Option (Ex × List AV × Heap) := loopH B live n0 n s.1 s.2
theorem bgn_mk (B : List AV → Heap → Option (Ex × List AV × Heap)) (live : List Bool) (n0 n : Nat) (fr : List AV) (h : Heap) : bgn B live n0 n (fr, h) = loopH B live n0 n fr h := rfl
theorem evCode_loop (C : Nat → List AV → Heap → Option (AV × Heap)) (n : Nat) (live : List Bool) (a : ACode) (fr : List AV) (h : Heap) :
    evCode C n (.loop live a) fr h = aft h.next h.wl (bgn (evCode C n a) live h.next n (gc h.next (clear live fr) ⟨h.next, h.objs, h.next, h.md⟩)) := by
  conv => lhs; unfold evCode
  rw [loopN_loopH]
  unfold bgn aft
  split
  · rename_i e; rw [e]; rfl
  · rename_i e; rw [e]; rfl
theorem aft_mk (n0 wl : Nat) (ex : Ex) (fr : List AV) (h : Heap) : aft n0 wl (some (ex, fr, h)) =
    match gc n0 fr h with
    | (fr', ⟨nx, os, w, md⟩) => some (ex, fr', ⟨nx, os, min wl w, md⟩) := rfl
theorem loopH_succ (B : List AV → Heap → Option (Ex × List AV × Heap)) (live : List Bool) (n0 n : Nat) (fr : List AV) (h : Heap) : loopH B live n0 (n + 1) fr h =
    match B fr h with
    | some (.normal, fr', h') => bgn B live n0 n (gc n0 (clear live fr') h')
    | r => r := rfl
structure KSpec where
  f : Nat
  S : List AV → Option AV
def KSpecOKX (P : Program) (X : World → Prop) (s : KSpec) : Prop := ∀ args v, s.S args = some v → PrimOKX P X s.f args v
abbrev KSpecOK (P : Program) (s : KSpec) : Prop := KSpecOKX P (fun _ => True) s
open Classical in
noncomputable def KSpec.of {α : Type} (f : Nat) (enc : α → List AV) (pre : α → Prop) (val : α → AV) : KSpec := ⟨f, fun args => if h : ∃ a, args = enc a ∧ pre a then some (val h.choose) else none⟩
theorem KSpec.of_ok {P : Program} {α : Type} {f : Nat} {enc : α → List AV} {pre : α → Prop} {val : α → AV} (h : ∀ a, pre a → PrimOKX P X f (enc a) (val a)) : KSpecOKX P X (KSpec.of f enc pre val) := fun args v hv => by
  unfold KSpec.of at hv
  dsimp only at hv
  split at hv
  · rename_i hx
    cases hv
    have := h hx.choose hx.choose_spec.2
    rw [← hx.choose_spec.1] at this
    exact this
  · cases hv
theorem KSpec.of_at {α : Type} {f : Nat} {enc : α → List AV} {pre : α → Prop} {val : α → AV} (inj : ∀ a b, pre a → pre b → enc a = enc b → val a = val b) (a : α) (ha : pre a) : (KSpec.of f enc pre val).S (enc a) = some (val a) := by
  unfold KSpec.of
  dsimp only
  have hx : ∃ b, enc a = enc b ∧ pre b := ⟨a, rfl, ha⟩
  rw [dif_pos hx]
  exact congrArg some (inj _ _ ha hx.choose_spec.2 hx.choose_spec.1).symm
def lookS : List KSpec → Nat → List AV → Option AV
  | [], _, _ => none
  | s :: r, f, args => if s.f = f then (match s.S args with | some v => some v | none => lookS r f args) else lookS r f args
def lookF : List KSpec → Nat → List KSpec
  | [], _ => []
  | s :: r, f => if s.f == f then s :: lookF r f else lookF r f
theorem lookF_nil (f : Nat) : lookF [] f = [] := rfl
theorem lookF_cons (s : KSpec) (r : List KSpec) (f : Nat) : lookF (s :: r) f = if s.f == f then s :: lookF r f else lookF r f := rfl
theorem lookF_eq (f : Nat) (args : List AV) : ∀ ss : List KSpec, lookS (lookF ss f) f args = lookS ss f args
  | [] => rfl
  | s :: r => by
    rw [lookF_cons]
    by_cases h : s.f = f
    · rw [if_pos (by simpa using h)]
      simp only [lookS, h, if_true, lookF_eq f args r]
    · rw [if_neg (by simpa using h), lookF_eq f args r]
      simp only [lookS, h, if_false]
def mkEnv (fn : Nat → Option AFun) (ss : List KSpec) : Env := ⟨fn, lookS ss, fun _ _ _ => none, fun _ => false⟩
theorem mkEnv_ok {P : Program} {fn : Nat → Option AFun} (hm : P.follows .mixedOrders = true) (hfn : ∀ f F, fn f = some F → FnOK P f F) {ss : List KSpec} (hs : ∀ s ∈ ss, KSpecOKX P X s) : EnvOKX P X (mkEnv fn ss) := by
  refine ⟨hm, hfn, fun f args v hp => ?_, (fun f args os v r h => by cases h), fun f h => by cases h⟩
  have key : ∀ ss : List KSpec, (∀ s ∈ ss, KSpecOKX P X s) → lookS ss f args = some v → PrimOKX P X f args v := by
    intro ss
    induction ss with
    | nil => intro _ h; cases h
    | cons s r ih =>
      intro hs hl
      unfold lookS at hl
      split at hl
      · rename_i hf
        split at hl
        · rename_i v' hv'
          cases hl
          rw [← hf]
          exact hs s (by simp) args v hv'
        · exact ih (fun t ht => hs t (by simp [ht])) hl
      · exact ih (fun t ht => hs t (by simp [ht])) hl
  exact key ss hs hp
structure MSpec where
  f : Nat
  S : List AV → List AObj → Option (AV × Option (List AObj))
def lookM : List MSpec → Nat → List AV → List AObj → Option (AV × Option (List AObj))
  | [], _, _, _ => none
  | m :: r, f, args, os => if m.f = f then (match m.S args os with | some v => some v | none => lookM r f args os) else lookM r f args os
def lookMF : List MSpec → Nat → List MSpec
  | [], _ => []
  | m :: r, f => if m.f == f then m :: lookMF r f else lookMF r f
theorem lookMF_nil (f : Nat) : lookMF [] f = [] := rfl
theorem lookMF_cons (m : MSpec) (r : List MSpec) (f : Nat) : lookMF (m :: r) f = if m.f == f then m :: lookMF r f else lookMF r f := rfl
theorem lookMF_eq (f : Nat) (args : List AV) (os : List AObj) : ∀ ms : List MSpec, lookM (lookMF ms f) f args os = lookM ms f args os
  | [] => rfl
  | m :: r => by
    rw [lookMF_cons]
    by_cases h : m.f = f
    · rw [if_pos (by simpa using h)]
      simp only [lookM, h, if_true, lookMF_eq f args os r]
    · rw [if_neg (by simpa using h), lookMF_eq f args os r]
      simp only [lookM, h, if_false]
def MSpecOKX (P : Program) (X : World → Prop) (m : MSpec) : Prop := ∀ args os v r, m.S args os = some (v, r) → MethOKX P X m.f args os v r
abbrev MSpecOK (P : Program) (m : MSpec) : Prop := MSpecOKX P (fun _ => True) m
def mkEnvM (fn : Nat → Option AFun) (ss : List KSpec) (ms : List MSpec) : Env := ⟨fn, lookS ss, lookM ms, fun _ => false⟩
theorem mkEnvM_ok {P : Program} {fn : Nat → Option AFun} (hm : P.follows .mixedOrders = true) (hfn : ∀ f F, fn f = some F → FnOK P f F) {ss : List KSpec} (hs : ∀ s ∈ ss, KSpecOKX P X s) {ms : List MSpec} (hms : ∀ m ∈ ms, MSpecOKX P X m) :
    EnvOKX P X (mkEnvM fn ss ms) := by
  refine ⟨hm, hfn, (mkEnv_ok hm hfn hs).prim, (fun f args os v r hp => ?_), fun f h => by cases h⟩
  have key : ∀ ms : List MSpec, (∀ m ∈ ms, MSpecOKX P X m) → lookM ms f args os = some (v, r) → MethOKX P X f args os v r := by
    intro ms
    induction ms with
    | nil => intro _ h; cases h
    | cons s q ih =>
      intro hs hl
      unfold lookM at hl
      split at hl
      · rename_i hf
        split at hl
        · rename_i v' hv'
          cases hl
          rw [← hf]
          exact hs s (by simp) args os v r hv'
        · exact ih (fun t ht => hs t (by simp [ht])) hl
      · exact ih (fun t ht => hs t (by simp [ht])) hl
  exact key ms hms hp
theorem methA_none (args : List AV) (h : Heap) : methA (fun _ _ => none) false args h = none := by
  unfold methA
  split
  · rfl
  · split
    · split
      · split <;> rfl
      · rfl
    · rfl
  · rfl
def mkEnvC (fn : Nat → Option AFun) (ss : List KSpec) (mcl : Nat → Bool) : Env := ⟨fn, lookS ss, fun _ _ _ => none, mcl⟩
theorem mkEnvC_ok {P : Program} {fn : Nat → Option AFun} (hm : P.follows .mixedOrders = true) (hfn : ∀ f F, fn f = some F → FnOK P f F) {ss : List KSpec} (hs : ∀ s ∈ ss, KSpecOKX P X s) {mcl : Nat → Bool} (hc : ∀ f, mcl f = true → MapsCloneOK P f) :
    EnvOKX P X (mkEnvC fn ss mcl) := ⟨hm, hfn, (mkEnv_ok hm hfn hs).prim, (fun f args os v r h => by cases h), hc⟩
@[simp] theorem mkEnv_fn (fn : Nat → Option AFun) (ss : List KSpec) (f : Nat) : (mkEnv fn ss).fn f = fn f := rfl
@[simp] theorem mkEnv_prim (fn : Nat → Option AFun) (ss : List KSpec) : (mkEnv fn ss).prim = lookS ss := rfl
theorem Glob.mono {P : Program} {Y : World → Prop} (hXY : ∀ w, X w → Y w) {φ : Phi} {h : Heap} {w : World} (g : Glob P X φ h w) : Glob P Y φ h w := by
  obtain ⟨w1, h1, h2⟩ := g
  exact ⟨w1, ⟨h1.1, hXY _ h1.2⟩, h2⟩
theorem KSpecOK.lift {P : Program} {s : KSpec} (h : KSpecOK P s) : KSpecOKX P X s := fun args v hv φ hh w cargs hr hG ha => h args v hv φ hh w cargs hr (hG.mono fun _ _ => trivial) ha
theorem MSpecOK.lift {P : Program} {m : MSpec} (h : MSpecOK P m) : MSpecOKX P X m := fun args os v r hv φ hh w τ cargs hr hG S h1 h2 ha => h args os v r hv φ hh w τ cargs hr (hG.mono fun _ _ => trivial) S h1 h2 ha
end Sz
