import Derived.Test.YtlakiipofcibhaaGreatDoorFast
import Derived.Test.YtlakiipofcibhaaGreatDoorSz3
set_option linter.unusedVariables false
set_option linter.unusedSimpArgs false
set_option linter.unusedSectionVars false

/- A closed run, cut into pieces. No program is named here. -/
namespace Sz
open Go
def runK (C : Nat → List AV → Heap → Option (AV × Heap)) (n : Nat) : Nat → ACode → List AV → Heap → Option (ACode × List AV × Heap)
  | 0, c, fr, h => some (c, fr, h)
  | k + 1, .seq a b, fr, h => (match evCode C n a fr h with
    | some (.normal, fr', h') => runK C n k b fr' h'
    | _ => none)
  | _ + 1, _, _, _ => none
theorem runK_ok {C : Nat → List AV → Heap → Option (AV × Heap)} {n : Nat} : ∀ {k : Nat} {c : ACode} {fr : List AV} {h : Heap} {c' : ACode} {fr' : List AV} {h' : Heap}, runK C n k c fr h = some (c', fr', h') → evCode C n c fr h = evCode C n c' fr' h'
  | 0, c, fr, h, c', fr', h', e => by
    simp only [runK, Option.some.injEq, Prod.mk.injEq] at e
    obtain ⟨rfl, rfl, rfl⟩ := e
    rfl
  | k + 1, c, fr, h, c', fr', h', e => by
    cases c with
    | seq a b =>
      simp only [runK] at e
      split at e
      · rename_i fr1 h1 ha
        rw [seqF, ha, seqK_n]
        exact runK_ok e
      · cases e
    | _ => simp [runK] at e
def stepL (C : Nat → List AV → Heap → Option (AV × Heap)) (n : Nat) (b : ACode) (live : List Bool) (n0 : Nat) (s : List AV × Heap) : Option (List AV × Heap) :=
  match evCode C n b s.1 s.2 with
  | some (.normal, fr', h') => some (gc n0 (clear live fr') h')
  | _ => none
theorem stepL_ok {C : Nat → List AV → Heap → Option (AV × Heap)} {n : Nat} {b : ACode} {live : List Bool} {n0 : Nat} {s s' : List AV × Heap} (e : stepL C n b live n0 s = some s') (m : Nat) :
    loopH (evCode C n b) live n0 (m + 1) s.1 s.2 = loopH (evCode C n b) live n0 m s'.1 s'.2 := by
  unfold stepL at e
  split at e
  · rename_i fr' h' ha
    cases e
    conv => lhs; unfold loopH
    rw [ha]
  · cases e
def stepsL (C : Nat → List AV → Heap → Option (AV × Heap)) (n : Nat) (b : ACode) (live : List Bool) (n0 : Nat) : Nat → List AV × Heap → Option (List AV × Heap)
  | 0, s => some s
  | k + 1, s => match stepL C n b live n0 s with
    | some s' => stepsL C n b live n0 k s'
    | none => none
theorem stepsL_ok {C : Nat → List AV → Heap → Option (AV × Heap)} {n : Nat} {b : ACode} {live : List Bool} {n0 : Nat} : ∀ {k : Nat} {s s' : List AV × Heap}, stepsL C n b live n0 k s = some s' → ∀ m,
    loopH (evCode C n b) live n0 (m + k) s.1 s.2 = loopH (evCode C n b) live n0 m s'.1 s'.2
  | 0, s, s', e, m => by
    simp only [stepsL, Option.some.injEq] at e
    subst e
    rfl
  | k + 1, s, s', e, m => by
    simp only [stepsL] at e
    split at e
    · rename_i s1 h1
      rw [show m + (k + 1) = (m + k) + 1 by omega, stepL_ok h1]
      exact stepsL_ok e m
    · cases e
theorem stepsL_add {C : Nat → List AV → Heap → Option (AV × Heap)} {n : Nat} {b : ACode} {live : List Bool} {n0 : Nat} : ∀ {k j : Nat} {s s1 s2 : List AV × Heap}, stepsL C n b live n0 k s = some s1 → stepsL C n b live n0 j s1 = some s2 → stepsL C n b live n0 (k + j) s = some s2
  | 0, j, s, s1, s2, h1, h2 => by
    simp only [stepsL, Option.some.injEq] at h1
    subst h1
    rw [Nat.zero_add]
    exact h2
  | k + 1, j, s, s1, s2, h1, h2 => by
    simp only [stepsL] at h1
    split at h1
    · rename_i s' e
      rw [show k + 1 + j = (k + j) + 1 by omega]
      simp only [stepsL, e]
      exact stepsL_add h1 h2
    · cases h1
theorem loop_cut {C : Nat → List AV → Heap → Option (AV × Heap)} {n m k : Nat} {b : ACode} {live : List Bool} {fr : List AV} {nx wl md : Nat} {os : List AObj} {s s' : List AV × Heap} {r : Option (Ex × List AV × Heap)}
    (h1 : gc nx (clear live fr) ⟨nx, os, nx, md⟩ = s) (h2 : stepsL C n b live nx k s = some s') (hn : n = m + k) (h3 : aft nx wl (loopH (evCode C n b) live nx m s'.1 s'.2) = r) :
    evCode C n (.loop live b) fr ⟨nx, os, wl, md⟩ = r := by
  rw [evCode_loop, h1]
  unfold bgn
  have := stepsL_ok h2 m
  rw [← hn] at this
  rw [this, h3]
end Sz

/- A call's run with one of the frame's values laid down for good on the way. No program is named here. -/
namespace Sz
open Go
variable {X : World → Prop}
def layF (t : Nat) (fr : List AV) (h : Heap) : Option (List AV × Heap) :=
  match frz h 0 8 (fr.getD t .undef) with
  | some (v, ids) => some (fr.set t v, kill h ids)
  | none => none
theorem kill_next : ∀ (ids : List Nat) (h : Heap), (kill h ids).next = h.next
  | [], h => rfl
  | i :: r, h => by simp only [kill]; rw [kill_next r]; simp
theorem layF_ok {φ : Phi} {h h' : Heap} {w : World} {fr fr' : List AV} {tm : Array Value} {t : Nat} (hf : FR φ h w fr tm) (hr : HR φ h w) (he : layF t fr h = some (fr', h')) : FR φ h' w fr' tm ∧ HR φ h' w ∧ Ext φ h w φ h' w := by
  unfold layF at he
  split at he
  · rename_i v ids hz
    cases he
    obtain ⟨k1, k2⟩ := kills ids hr
    have hids : ∀ id ∈ ids, live h id := fun id hid => (frz_ids 8 _ v ids hz id hid).2
    have q := frz_ok hr (n0 := 0) (pr' := Pr φ (kill h ids) w) (fun b hb => (k2.pr b hb).1) 8 _ (tm.getD t undef) v ids hz (hf.2 t)
      (fun id hid => Pr.of_kill (hr.blk_lt (hids id hid)) (fun i hi e => (by rw [hr.inj i id hi (hids id hid) e]; exact hid)) fun hg => (hr.gh _ hg).2 id (hids id hid) rfl)
    have hv : RVh φ (kill h ids) w v (tm.getD t undef) := q.mono (fun id _ hid => ⟨rfl, by rw [kill_next]; exact hid⟩) fun b hb => ⟨hb, rfl⟩
    refine ⟨⟨by simp [hf.1], fun j => ?_⟩, k1, k2⟩
    by_cases hj : j = t
    · subst hj
      by_cases hl : j < fr.length
      · rw [List.getD_eq_getElem?_getD, List.getElem?_set_self hl, Option.getD_some]
        exact hv
      · rw [List.getD_eq_getElem?_getD, List.getElem?_eq_none (by simp; omega), Option.getD_none]
        exact .undef _
    · have := (hf.ext k2).2 j
      rw [List.getD_eq_getElem?_getD] at this ⊢
      rw [List.getElem?_set_ne (fun e => hj e.symm)]
      exact this
  · cases he
section
variable {P : Program} {C : Nat → List AV → Heap → Option (AV × Heap)}
theorem cut_ok (hC : CallOK P X C) (hCL : CallCL C) (hm : P.follows .mixedOrders = true) (n t : Nat) : ∀ (k : Nat) (c : Code) (ac : ACode), compCode P c = some ac.strip → ∀ {φ : Phi} {h h1 h2 h' : Heap} {w : World} {fr fr1 fr2 fr' : List AV} {a : Act} {ex : Ex} {ac1 : ACode},
    runK C n k ac fr h = some (ac1, fr1, h1) → layF t fr1 h1 = some (fr2, h2) → evCode C n ac1 fr2 h2 = some (ex, fr', h') → FR φ h w fr a.tmps → HR φ h w → Glob P X φ h w → ∀ {Q : Exit → Act → World → Prop},
    (∀ φ' a' w', FR φ' h' w' fr' a'.tmps → HR φ' h' w' → Ext φ h w φ' h' w' → a'.defers = a.defers → Q (exOf ex) a' w') → c.wp P Q a w
  | 0, c, ac, hc => fun hrun hlay hev hf hr hG Q hQ => by
    simp only [runK, Option.some.injEq, Prod.mk.injEq] at hrun
    obtain ⟨rfl, rfl, rfl⟩ := hrun
    obtain ⟨f2, r2, e2⟩ := layF_ok hf hr hlay
    exact code_ok hC hCL hm n c ac hc hev f2 r2 (hG.ext e2) fun φ' a' w' f1 r1 e1 d1 => hQ φ' a' w' f1 r1 (e2.trans e1) d1
  | k + 1, c, ac, hc => fun hrun hlay hev hf hr hG Q hQ => by
    cases ac with
    | seq p q =>
      have hs : ∃ x y, c = .seq x y ∧ compCode P x = some p.strip ∧ compCode P y = some q.strip := by
        cases c with
        | seq x y =>
          simp only [compCode] at hc
          split at hc
          · rename_i x' y' hx hy
            simp only [Option.some.injEq, ACode.strip, ACode.seq.injEq] at hc
            exact ⟨x, y, rfl, by rw [hx, hc.1], by rw [hy, hc.2]⟩
          · cases hc
        | skip => simp [compCode, ACode.strip] at hc
        | region i ops draw =>
          simp only [compCode] at hc
          split at hc
          · split at hc
            · split at hc
              · unfold dregOf at hc
                split at hc <;> simp [ACode.strip] at hc
              · simp [ACode.strip] at hc
            · simp [ACode.strip] at hc
          · simp [ACode.strip] at hc
        | cond z x y =>
          simp only [compCode] at hc
          split at hc
          · simp [ACode.strip] at hc
          · cases hc
        | block i x => simp only [compCode, Option.map_eq_some_iff] at hc; obtain ⟨_, _, e⟩ := hc; simp [ACode.strip] at e
        | loop x => simp only [compCode, Option.map_eq_some_iff] at hc; obtain ⟨_, _, e⟩ := hc; simp [ACode.strip] at e
        | exit i => simp [compCode, ACode.strip] at hc
        | ret => simp [compCode, ACode.strip] at hc
        | _ => simp [compCode, ACode.strip] at hc
      obtain ⟨x, y, rfl, hx, hy⟩ := hs
      simp only [runK] at hrun
      split at hrun
      · rename_i fr0 hh0 hev0
        refine wp_seq ?_
        refine code_ok hC hCL hm n x p hx hev0 hf hr hG fun φ1 a1 w1 f1 r1 e1 d1 => ?_
        exact cut_ok hC hCL hm n t k y q hy hrun hlay hev f1 r1 (hG.ext e1) fun φ2 a2 w2 f2 r2 e2 d2 => hQ φ2 a2 w2 f2 r2 (e1.trans e2) (d2.trans d1)
      · cases hrun
    | _ => simp [runK] at hrun
end
theorem prim_cut {P : Program} {E : Env} (hE : EnvOKX P X E) {n t k f : Nat} {args : List AV} {h1 h2 hh : Heap} {F : AFun} {ac1 : ACode} {fr1 fr2 fr : List AV} {ex : Ex} {vs : List AV} (hF : E.fn f = some F)
    (hrun : runK (evCall E n) n k F.code (args ++ List.replicate (F.ntmps - args.length) .undef) h0 = some (ac1, fr1, h1)) (hlay : layF t fr1 h1 = some (fr2, h2)) (hev : evCode (evCall E n) n ac1 fr2 h2 = some (ex, fr, hh)) (hex : ex = .normal ∨ ex = .ret)
    (hvs : resAll fr hh F.results = some vs) (hv : (oneOf vs).refs = 0) (hA : AV.refsL args = 0) : PrimOKX P X f args (oneOf vs) := by
  refine prim_weak (h' := hh) hv hA fun φ w cargs hr hG ha => .inl ?_
  obtain ⟨ih1, ih2⟩ := call_ok hE n
  obtain ⟨fn, c, hfn, hname, hbody, hnt, hcode, hres⟩ := hE.fn f F hF
  have hcall : (callFunc f cargs).run P w = .ok (.enter f cargs) w := by
    have hne : ¬ fn.name = "runtime.NumGoroutine" := by simpa using hname
    simp [callFunc, hfn, hne, hbody]
  refine ⟨hcall, ?_⟩
  obtain ⟨s1, s2⟩ := hr.setwl 0 0
  have hfr : FR φ { Sz.h0 with wl := 0, md := 0 } w (args ++ List.replicate (F.ntmps - args.length) .undef) (cargs ++ Array.replicate (fn.ntmps - cargs.size) undef) := by
    refine ⟨by simp [ha.1, hnt], fun t => ?_⟩
    by_cases ht : t < args.length
    · have := (ha.2 t ht).ext s2
      rw [List.getD_eq_getElem?_getD, List.getElem?_append_left ht, List.getElem?_eq_getElem ht, Option.getD_some]
      have ht2 : t < cargs.size := by rw [ha.1]; exact ht
      rw [Array.getD_eq_getD_getElem?] at this ⊢
      rw [Array.getElem?_append_left ht2, Array.getElem?_eq_getElem ht2, Option.getD_some]
      rw [Array.getElem?_eq_getElem ht2, Option.getD_some] at this
      exact this
    · have hu : (args ++ List.replicate (F.ntmps - args.length) AV.undef).getD t .undef = .undef := by
        rw [List.getD_eq_getElem?_getD, List.getElem?_append_right (by omega), List.getElem?_replicate]
        split <;> rfl
      rw [hu]
      exact .undef _
  refine calls_of_wp hfn hbody ?_
  refine cut_ok ih1 ih2 hE.mixed n t k c F.code hcode hrun hlay hev hfr s1 (hG.ext s2) fun φ' a' w' f1 r1 e1 d1 => ?_
  obtain ⟨cvs, g1, g2, g3⟩ := res_ok (P := P) f1 r1 fn.results.toList F.results vs hres hvs
  have hresrun : ∃ cv, (results fn a'.tmps).run P w' = .ok cv w' ∧ RVh φ' hh w' (oneOf vs) cv := by
    have hm : (fn.results.mapM (resF a'.tmps)).run P w' = .ok cvs.toArray w' := by
      rw [Array.mapM_eq_mapM_toList]
      simp only [Sem.run_map, g1, Result.andThen_ok]
    refine ⟨if h : cvs.toArray.size = 1 then cvs.toArray[0] else .tuple cvs.toArray, ?_, ?_⟩
    · rw [results_eq]
      simp only [Sem.run_bind, hm, Result.andThen_ok, Sem.run_pure]
    · match vs, cvs, g2, g3 with
      | [v1], [c1], _, g3 =>
        exact g3 0 (by simp) (by simp)
      | [], [], _, _ => exact .tuple _ _ rfl fun j hj => by simp at hj
      | v1 :: v2 :: vr, cvs, g2, g3 =>
        have hsz : ¬ (cvs.toArray.size = 1) := by
          simp at g2 ⊢; omega
        rw [dif_neg hsz]
        refine .tuple _ _ (by simpa using g2) fun j hj => ?_
        have hj2 : j < cvs.length := by omega
        have := g3 j hj hj2
        simpa [Array.getD, hj2] using this
  obtain ⟨cv, q1, q2⟩ := hresrun
  have post : CallPost φ h0 w (oneOf vs) hh (.returned cv) w' := ⟨φ', cv, rfl, q2, r1, s2.trans e1⟩
  have hd : a'.defers = [] := d1
  rcases hex with rfl | rfl
  · exact ⟨hd, cv, q1, post⟩
  · exact ⟨hd, cv, q1, post⟩
end Sz
