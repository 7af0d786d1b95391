import Derived.Test.YtleeinkdkllcdaaGreatDoorSz2
import Derived.Tactics
set_option linter.unusedVariables false
set_option linter.unusedSimpArgs false
set_option linter.unusedSectionVars false
set_option maxHeartbeats 16000000
set_option maxRecDepth 100000

/- The abstract run is sound. No program is named here. -/
namespace Sz
open Go
variable {X : World → Prop}
def FnOK (P : Program) (f : Nat) (F : AFun) : Prop :=
 ∃ fn c, P.funcs[f]? = some fn ∧ (fn.name == "runtime.NumGoroutine") = false ∧ fn.body = some c ∧ fn.ntmps = F.ntmps ∧ compCode P c = some F.code.strip ∧ allSome (compRes P) fn.results.toList = some F.results
def Same (w w' : World) : Prop := ∀ b, b < w.heap.size → w'.heap[b]? = w.heap[b]?
def PrimPost (φ : Phi) (h : Heap) (w : World) (v : AV) (cv : Value) (w' : World) : Prop := RVh φ h w' v cv ∧ HR φ h w' ∧ Ext φ h w φ h w' ∧ Same w w'
def PrimOKX (P : Program) (X : World → Prop) (f : Nat) (args : List AV) (v : AV) : Prop := ∀ φ h w cargs, HR φ h w → Glob P X φ h w → ArgsR φ h w args cargs →
    ((callFunc f cargs).run P w = .ok (.enter f cargs) w ∧ Calls P f cargs w fun e w' => ∃ cv, e = .returned cv ∧ PrimPost φ h w v cv w') ∨
    ∃ cv w', (callFunc f cargs).run P w = .ok (.value cv) w' ∧ PrimPost φ h w v cv w'
abbrev PrimOK (P : Program) (f : Nat) (args : List AV) (v : AV) : Prop := PrimOKX P (fun _ => True) f args v
structure EnvOKX (P : Program) (X : World → Prop) (E : Env) : Prop where
 mixed : P.follows .mixedOrders = true
 fn : ∀ f F, E.fn f = some F → FnOK P f F
 prim : ∀ f args v, E.prim f args = some v → PrimOKX P X f args v
theorem same_ok {φ : Phi} {h : Heap} {w w' : World} (hr : HR φ h w) (ho : w'.os = w.os) (ht : w'.tape = w.tape) (hu : w'.output = w.output) (hs : w.heap.size ≤ w'.heap.size) (hsame : Same w w') : HR φ h w' ∧ Ext φ h w φ h w' := by
 have x : Ext φ h w φ h w' := ⟨ho, ht, hu, hs, Nat.le_refl _, fun _ _ => rfl, fun b hb => ⟨⟨Nat.lt_of_lt_of_le hb.1 hs, hb.2⟩, hsame b hb.1⟩, rfl, fun b hb => hsame b (hr.gh b hb).1⟩
 exact ⟨⟨hr.wf, fun i cs hi => (hr.rows i cs hi).ext x (Heap.get_lt hi) (hsame _ (hr.blk_lt ⟨_, hi, fun e => by cases e⟩)),
  fun i es hi => (hr.maps i es hi).ext x (Heap.get_lt hi) (hsame _ (hr.blk_lt ⟨_, hi, fun e => by cases e⟩)), hr.inj, fun b hb => ⟨Nat.lt_of_lt_of_le (hr.gh b hb).1 hs, (hr.gh b hb).2⟩⟩, x⟩
theorem scal1_ok {φ φ' : Phi} {nx nx' : Nat} {pr pr' : Nat → Prop} {w w' : World} {v : AV} {cv : Value} (hs : scal1 v = true) (h : RV φ nx pr w v cv) : RV φ' nx' pr' w' v cv := by
 cases h <;> first | cases hs | skip
 ·exact .bool _
 ·exact .int _ _
 ·exact .str _
 ·exact .nilp
 ·exact .nils _
 ·exact .nilm
 ·exact .nilfn
 ·exact .nili
theorem scal_ok {φ φ' : Phi} {nx nx' : Nat} {pr pr' : Nat → Prop} {w w' : World} {v : AV} {cv : Value} (hs : scal v = true) (h : RV φ nx pr w v cv) : RV φ' nx' pr' w' v cv := by
 cases v with
 | tuple vs =>
   obtain ⟨cvs, rfl, h1, h2⟩ := h.tuple_inv
   exact .tuple _ _ h1 fun j hj => scal1_ok (List.all_eq_true.1 hs _ (List.getElem_mem hj)) (h2 j hj)
 | agg vs =>
   obtain ⟨cvs, rfl, h1, h2, h3⟩ := h.agg_inv
   exact .agg _ _ h1 h2 fun j hj => scal1_ok (List.all_eq_true.1 hs _ (List.getElem_mem hj)) (h3 j hj)
 | _ => exact scal1_ok hs h
theorem kill_cl (ids : List Nat) : ∀ h : Heap, CL h (kill h ids) := by
 induction ids with
 | nil => exact fun h => .refl _
 | cons i r ih => exact fun h => (CL.kill h i).trans (ih _)
section
variable {P : Program} {φ : Phi} {h : Heap} {w : World}
def resF (tm : Array Value) : ResultVar → Sem Value
 | .tmp t => Pure.pure (tm.getD t undef)
 | .cell a t => do loadVar t (← asAddr (tm.getD a undef))
theorem results_eq (fn : Func) (tm : Array Value) : results fn tm = (fn.results.mapM (resF tm) >>= fun vs => Pure.pure (if h : vs.size = 1 then vs[0] else .tuple vs)) := by
 unfold results
 congr 1
theorem res_ok {fr : List AV} {tm : Array Value} (hf : FR φ h w fr tm) (hr : HR φ h w) : ∀ (rs : List ResultVar) (rs' : List ARes) (vs : List AV), allSome (compRes P) rs = some rs' → resAll fr h rs' = some vs →
 ∃ cvs : List Value, (rs.mapM (resF tm)).run P w = .ok cvs w ∧ cvs.length = vs.length ∧ ∀ j (h1 : j < vs.length) (h2 : j < cvs.length), RVh φ h w vs[j] cvs[j]
 | [], rs', vs, hc, he => by
   simp only [allSome, Option.some.injEq] at hc
   subst hc
   simp only [resAll, Option.some.injEq] at he
   subst he
   exact ⟨[], by simp, rfl, fun j h1 => by simp at h1⟩
 | r :: rs, rs', vs, hc, he => by
   unfold allSome at hc
   split at hc
   ·rename_i r' rs'' h1 h2
    cases hc
    simp only [resAll] at he
    split at he
    ·rename_i v vs' h3 h4
     cases he
     obtain ⟨cvs, g1, g2, g3⟩ := res_ok hf hr rs rs'' vs' h2 h4
     have key : ∃ cv, (resF tm r).run P w = .ok cv w ∧ RVh φ h w v cv := by
      cases r with
      | tmp t =>
        simp only [compRes, Option.some.injEq] at h1
        subst h1
        simp only [resA, Option.some.injEq] at h3
        subst h3
        exact ⟨_, by simp [resF], hf.2 t⟩
      | cell a t =>
        simp only [compRes, Option.map_eq_some_iff] at h1
        obtain ⟨n, hn, rfl⟩ := h1
        simp only [resA] at h3
        obtain ⟨ad, cv, e1, e2, e3⟩ := ldA_ok hn (hf.2 a) hr h3
        exact ⟨cv, by simp [resF, e1, asAddr, e2], e3⟩
     obtain ⟨cv, k1, k2⟩ := key
     refine ⟨cv :: cvs, ?_, by simp [g2], fun j j1 j2 => ?_⟩
     ·rw [List.mapM_cons]
      simp only [Sem.run_bind, k1, Result.andThen_ok, g1, Sem.run_pure]
     ·cases j with
      | zero => exact k2
      | succ j => exact g3 j (Nat.lt_of_succ_lt_succ j1) (Nat.lt_of_succ_lt_succ j2)
    ·cases he
   ·cases hc
end
theorem finish_cl {h0 h : Heap} (hcl : CL { h0 with wl := h0.next, md := h0.next } h) {keep : Bool} {v : AV} : CL h0 (finish keep h0 v h).2 := by
 have plain : CL h0 { h with wl := min h0.wl h.wl, md := min h0.md h.md } := ⟨hcl.next, Nat.min_le_left _ _, fun n hn hw k id hid => by
  have := hcl.le n hn (by dsimp only at hw; omega) (fun i hi => k i hi) id hid
  exact this, Nat.min_le_left _ _, fun id h1 h2 => hcl.same id (by dsimp only at h1; omega) h2⟩
 unfold finish
 cases keep with
 | true => simpa using plain
 | false =>
   simp only [Bool.false_eq_true, if_false]
   split
   ·exact plain
   ·rename_i v' ids hfz
    split
    ·rename_i hc
     have hnx : min h.next h0.next = h0.next := Nat.min_eq_right hcl.next
     refine ⟨?_, Nat.le_refl _, fun n hn hw k id hid => ?_, ?_, fun id h1 h2 => ?_⟩
     ·show h0.next ≤ min h.next h0.next
      omega
     ·have hn' : n ≤ h0.next := hn
      have := hcl.le n hn (by omega) (fun i hi => k i hi) id hid
      unfold ObjLe at this ⊢
      have e : ({ h.trunc h0.next with wl := h0.wl, md := (if h.md < h0.next then min h0.md h.md else h0.md) } : Heap).get id = h.get id := Heap.get_trunc (by omega)
      rw [e]
      exact this
     ·dsimp only
      split <;> omega
     ·have e : ({ h.trunc h0.next with wl := h0.wl, md := (if h.md < h0.next then min h0.md h.md else h0.md) } : Heap).get id = h.get id := Heap.get_trunc h2
      rw [e]
      refine hcl.same id ?_ h2
      dsimp only at h1
      split at h1 <;> omega
    ·have hnk : ∀ (ids : List Nat) (h : Heap), (kill h ids).wl = h.wl ∧ CL h (kill h ids) := by
      intro ids
      induction ids with
      | nil => exact fun h => ⟨rfl, .refl _⟩
      | cons i r ih =>
        intro h
        obtain ⟨a1, a2⟩ := ih (h.set i .dead)
        exact ⟨by simp only [kill]; rw [a1]; simp, (CL.kill h i).trans a2⟩
     have hko : ∀ (ids : List Nat) (h : Heap) (i : Nat), i ∉ ids → (kill h ids).get i = h.get i := by
      intro ids
      induction ids with
      | nil => exact fun h i _ => rfl
      | cons j r ih =>
        intro h i hi
        simp only [List.mem_cons, not_or] at hi
        simp only [kill]
        rw [ih _ i hi.2, Heap.get_set_other (Ne.symm hi.1)]
     obtain ⟨n1, n2⟩ := hnk ids h
     have hc2 := hcl.trans n2
     refine ⟨hc2.next, Nat.min_le_left _ _, fun n hn hw k id hid => ?_, Nat.min_le_left _ _, fun id h1 h2 => ?_⟩
     ·have := hc2.le n hn (by rw [n1]; dsimp only at hw; omega) (fun i hi => k i hi) id hid
      exact this
     ·have hids := frz_ids 8 v v' ids hfz
      have e : (kill h ids).get id = h.get id := hko ids h id fun hm => by have := (hids id hm).1; omega
      show (kill h ids).get id = h0.get id
      rw [e]
      exact hcl.same id (by dsimp only at h1; omega) h2
theorem kill_wf : ∀ (ids : List Nat) {h : Heap}, h.wf → (kill h ids).wf
 | [], _, hw => hw
 | i :: r, _, hw => kill_wf r (Heap.wf_set i .dead hw)
theorem finish_wf {h0 h : Heap} {keep : Bool} {v : AV} (hw : h.wf) : (finish keep h0 v h).2.wf := by
 unfold finish
 cases keep with
 | true => exact hw
 | false =>
   simp only [Bool.false_eq_true, if_false]
   split
   ·exact hw
   ·split
    ·exact Heap.wf_trunc _ hw
    ·exact kill_wf _ hw
theorem call_ok {P : Program} {E : Env} (hE : EnvOKX P X E) : ∀ n, CallOK P X (evCall E n) ∧ CallCL (evCall E n)
 | 0 => ⟨fun f args h v h' he => by simp [evCall] at he, fun f args h v h' he => by simp [evCall] at he⟩
 | n + 1 => by
   obtain ⟨ih1, ih2⟩ := call_ok hE n
   have both : ∀ f args h v h', evCall E (n + 1) f args h = some (v, h') → (∀ φ w cargs, HR φ h w → Glob P X φ h w → ArgsR φ h w args cargs →
    ((callFunc f cargs).run P w = .ok (.enter f cargs) w ∧ Calls P f cargs w (CallPost φ h w v h')) ∨
    ∃ cv w' φ', (callFunc f cargs).run P w = .ok (.value cv) w' ∧ RVh φ' h' w' v cv ∧ HR φ' h' w' ∧ Ext φ h w φ' h' w') := by
    intro f args h v h' he φ w cargs hr hG ha
    simp only [evCall] at he
    split at he
    ·rename_i r hp
     cases he
     obtain ⟨⟨args', ids⟩, h1, h2⟩ := Option.bind_eq_some_iff.1 hp
     obtain ⟨v, hpv, e⟩ := Option.map_eq_some_iff.1 h2
     simp only [Prod.mk.injEq] at e
     obtain ⟨rfl, rfl⟩ := e
     obtain ⟨k1, k2⟩ := kills ids hr
     have hids : ∀ id ∈ ids, live h id := fun id hid => (frzL_ids (p := fun id => 0 ≤ id ∧ live h id) (fun v v' ids he => frz_ids 8 v v' ids he) args args' ids h1 id hid).2
     have hnk : (kill h ids).next = h.next := by
      have : ∀ (ids : List Nat) (h : Heap), (kill h ids).next = h.next := by
       intro ids
       induction ids with
       | nil => exact fun h => rfl
       | cons i r ih => intro h; simp only [kill]; rw [ih]; simp
      exact this ids h
     obtain ⟨q1, q2⟩ := frzL_ok (φ := φ) (nx := h.next) (pr := Pr φ h w) (pr' := Pr φ (kill h ids) w) (w := w) (fun v cv v' ids' he hv hi => frz_ok hr (n0 := 0) (pr' := Pr φ (kill h ids) w) (fun b hb => (k2.pr b hb).1) 8 v cv v' ids' he hv hi) args args' ids (fun j => cargs.getD j default) h1 ha.2
      fun id hid => Pr.of_kill (hr.blk_lt (hids id hid)) (fun i hi e => (by rw [hr.inj i id hi (hids id hid) e]; exact hid)) fun hg => (hr.gh _ hg).2 id (hids id hid) rfl
     have ha' : ArgsR φ (kill h ids) w args' cargs := ⟨ha.1.trans q1.symm, fun j hj => (q2 j hj).mono (fun id _ hid => ⟨rfl, by rw [hnk]; exact hid⟩) fun b hb => ⟨hb, rfl⟩⟩
     have fin : ∀ cv w', PrimPost φ (kill h ids) w v cv w' → RVh φ (if scal v then h else kill h ids) w' v cv ∧ HR φ (if scal v then h else kill h ids) w' ∧ Ext φ h w φ (if scal v then h else kill h ids) w' := fun cv w' ⟨g1, g2, g3, g4⟩ => by
      by_cases hs : scal v = true
      ·obtain ⟨s1, s2⟩ := same_ok hr g3.os g3.tape g3.output g3.size g4
       rw [if_pos hs]
       exact ⟨scal_ok hs g1, s1, s2⟩
      ·rw [if_neg hs]
       exact ⟨g1, g2, k2.trans g3⟩
     rcases hE.prim f args' v hpv φ (kill h ids) w cargs k1 (hG.ext k2) ha' with ⟨e1, e2⟩ | ⟨cv, w', e1, e2⟩
     ·exact .inl ⟨e1, e2.mono fun e w' ⟨cv, he, hp⟩ => ⟨φ, cv, he, fin cv w' hp⟩⟩
     ·exact .inr ⟨cv, w', φ, e1, fin cv w' e2⟩
    ·split at he
     ·cases he
     ·rename_i F hF
      obtain ⟨fn, c, hfn, hname, hbody, hnt, hcode, hres⟩ := hE.fn f F hF
      left
      have hcall : (callFunc f cargs).run P w = .ok (.enter f cargs) w := by
       have hne : ¬ fn.name = "runtime.NumGoroutine" := by simpa using hname
       simp [callFunc, hfn, hne, hbody]
      refine ⟨hcall, ?_⟩
      have hbegin : ∃ ex fr hh vs, evCode (evCall E n) n F.code (args ++ List.replicate (F.ntmps - args.length) .undef) { h with wl := h.next, md := h.next } = some (ex, fr, hh) ∧ (ex = .normal ∨ ex = .ret) ∧ resAll fr hh F.results = some vs ∧
       (v, h') = finish F.keep h (oneOf vs) hh := by
       cases hev : evCode (evCall E n) n F.code (args ++ List.replicate (F.ntmps - args.length) .undef) { h with wl := h.next, md := h.next } with
       | none => rw [hev] at he; cases he
       | some r =>
         obtain ⟨ex, fr, hh⟩ := r
         rw [hev] at he
         cases ex with
         | exit id => cases he
         | normal =>
           obtain ⟨vs, hvs, e⟩ := Option.map_eq_some_iff.1 he
           exact ⟨.normal, fr, hh, vs, rfl, .inl rfl, hvs, e.symm⟩
         | ret =>
           obtain ⟨vs, hvs, e⟩ := Option.map_eq_some_iff.1 he
           exact ⟨.ret, fr, hh, vs, rfl, .inr rfl, hvs, e.symm⟩
      obtain ⟨ex, fr, hh, vs, hev, hex, hvs, hfin⟩ := hbegin
      obtain ⟨s1, s2⟩ := hr.setwl h.next h.next
      have hfr : FR φ { h with wl := h.next, md := h.next } w (args ++ List.replicate (F.ntmps - args.length) .undef) (cargs ++ Array.replicate (fn.ntmps - cargs.size) undef) := by
       refine ⟨by simp [ha.1, hnt], fun t => ?_⟩
       by_cases ht : t < args.length
       ·have := (ha.2 t ht).ext s2
        rw [List.getD_eq_getElem?_getD, List.getElem?_append_left ht, List.getElem?_eq_getElem ht, Option.getD_some]
        have ht2 : t < cargs.size := by rw [ha.1]; exact ht
        rw [Array.getD_eq_getD_getElem?] at this ⊢
        rw [Array.getElem?_append_left ht2, Array.getElem?_eq_getElem ht2, Option.getD_some]
        rw [Array.getElem?_eq_getElem ht2, Option.getD_some] at this
        exact this
       ·have hu : (args ++ List.replicate (F.ntmps - args.length) AV.undef).getD t .undef = .undef := by
         rw [List.getD_eq_getElem?_getD, List.getElem?_append_right (by omega), List.getElem?_replicate]
         split <;> rfl
        rw [hu]
        exact .undef _
      refine calls_of_wp hfn hbody ?_
      refine code_ok ih1 ih2 hE.mixed n c F.code hcode hev hfr s1 (hG.ext s2) fun φ' a' w' f1 r1 e1 d1 => ?_
      have hcl := (code_cl ih2 hev s1.wf).1
      obtain ⟨cvs, g1, g2, g3⟩ := res_ok (P := P) f1 r1 fn.results.toList F.results vs hres hvs
      have hresrun : ∃ cv, (results fn a'.tmps).run P w' = .ok cv w' ∧ RVh φ' hh w' (oneOf vs) cv := by
       have hm : (fn.results.mapM (resF a'.tmps)).run P w' = .ok cvs.toArray w' := by
        rw [Array.mapM_eq_mapM_toList]
        simp only [Sem.run_map, g1, Result.andThen_ok]
       refine ⟨if h : cvs.toArray.size = 1 then cvs.toArray[0] else .tuple cvs.toArray, ?_, ?_⟩
       ·rw [results_eq]
        simp only [Sem.run_bind, hm, Result.andThen_ok, Sem.run_pure]
       ·match vs, cvs, g2, g3 with
        | [v1], [c1], _, g3 =>
          exact g3 0 (by simp) (by simp)
        | [], [], _, _ => exact .tuple _ _ rfl fun j hj => by simp at hj
        | v1 :: v2 :: vr, cvs, g2, g3 =>
          have hsz : ¬ (cvs.toArray.size = 1) := by
           simp at g2 ⊢; omega
          rw [dif_neg hsz]
          refine .tuple _ _ (by simpa using g2) fun j hj => ?_
          have hj2 : j < cvs.length := by omega
          have := g3 j hj hj2
          simpa [Array.getD, hj2] using this
      obtain ⟨cv, q1, q2⟩ := hresrun
      obtain ⟨t1, t2, t3⟩ := finish_ok (keep := F.keep) (h0 := h) (φ0 := φ) (w0 := w) r1 (s2.trans e1) hcl hr q2
      rw [← hfin] at t1 t2 t3
      have post : CallPost φ h w v h' (.returned cv) w' := ⟨φ', cv, rfl, t1, t2, t3⟩
      have hd : a'.defers = [] := d1
      rcases hex with rfl | rfl
      ·exact ⟨hd, cv, q1, post⟩
      ·exact ⟨hd, cv, q1, post⟩
   refine ⟨both, fun f args h v h' he hwf => ?_⟩
   simp only [evCall] at he
   split at he
   ·rename_i r hp
    cases he
    obtain ⟨⟨args', ids⟩, h1, h2⟩ := Option.bind_eq_some_iff.1 hp
    obtain ⟨v, hpv, e⟩ := Option.map_eq_some_iff.1 h2
    simp only [Prod.mk.injEq] at e
    obtain ⟨rfl, rfl⟩ := e
    by_cases hs : scal v = true
    ·rw [if_pos hs]; exact ⟨.refl _, hwf⟩
    ·rw [if_neg hs]; exact ⟨kill_cl ids h, kill_wf ids hwf⟩
   ·split at he
    ·cases he
    ·rename_i F hF
     cases hev : evCode (evCall E n) n F.code (args ++ List.replicate (F.ntmps - args.length) .undef) { h with wl := h.next, md := h.next } with
     | none => rw [hev] at he; cases he
     | some r =>
       obtain ⟨ex, fr, hh⟩ := r
       rw [hev] at he
       obtain ⟨hcl, hw'⟩ := code_cl ih2 hev hwf
       cases ex with
       | exit id => cases he
       | normal =>
         obtain ⟨vs, hvs, e⟩ := Option.map_eq_some_iff.1 he
         have := finish_cl (keep := F.keep) (v := oneOf vs) hcl
         have w2 := finish_wf (keep := F.keep) (v := oneOf vs) (h0 := h) hw'
         rw [e] at this w2
         exact ⟨this, w2⟩
       | ret =>
         obtain ⟨vs, hvs, e⟩ := Option.map_eq_some_iff.1 he
         have := finish_cl (keep := F.keep) (v := oneOf vs) hcl
         have w2 := finish_wf (keep := F.keep) (v := oneOf vs) (h0 := h) hw'
         rw [e] at this w2
         exact ⟨this, w2⟩
abbrev EnvOK (P : Program) (E : Env) : Prop := EnvOKX P (fun _ => True) E
end Sz

/- slices.Clone of an empty slice, nil or not. No program is named here. -/
namespace Sz
open Go
variable {X : World → Prop}
def C0 : Nat → List AV → Heap → Option (AV × Heap) := fun _ _ _ => none
structure CloneAt (P : Program) (f : Nat) : Prop where
 mk :: ok : ∃ (fn : Func) (r0 r2 r3 : Code) (i1 : Nat) (o1 o2 : Oper) (t e ty : TypeId) (a0 a2 a3 : ACode), P.funcs[f]? = some fn ∧ (fn.name == "runtime.NumGoroutine") = false ∧
  fn.body = some (.seq r0 (.seq (.seq (.region i1 #[o1, o2] false) (.cond (.tmp 4) r2 .skip)) r3)) ∧ fn.ntmps = 8 ∧ fn.results = #[.tmp 2] ∧
  compStep P #[o1, o2] o1 = some ⟨some 3, .op (.mov (.tmp 0)), none⟩ ∧ o2.op = .binOp .eql t (.tmp 3) (.const (.slice none 0 0)) ty ∧ o2.dst = some 4 ∧ o2.guard = none ∧ P.underlying t = some (.slice e) ∧
  compCode P r0 = some a0.strip ∧ compCode P r2 = some a2.strip ∧ compCode P r3 = some a3.strip ∧
  (∀ v h, evCode C0 1 a0 [v, .undef, .undef, .undef, .undef, .undef, .undef, .undef] h = some (.normal, [v, .undef, .nils, .undef, .undef, .undef, .undef, .undef], h)) ∧
  (∀ v h, evCode C0 1 a2 [v, .undef, .nils, v, .bool true, .undef, .undef, .undef] h = some (.ret, [v, .undef, .nils, v, .bool true, .undef, .undef, .undef], h)) ∧
  (∀ v, v = .nils ∨ v = .sl [] → ∀ h, evCode C0 1 a3 [v, .undef, .nils, v, .bool false, .undef, .undef, .undef] h = some (.ret, [v, .undef, .nils, v, .bool false, .nils, v, .nils], h))
theorem clone_prim {P : Program} (hm : P.follows .mixedOrders = true) {f : Nat} (hc : CloneAt P f) {v : AV} (hv : v = .nils ∨ v = .sl []) {φ : Phi} {h : Heap} {w : World} {cargs : Array Value} (hr : HR φ h w) (hG : Glob P X φ h w) (ha : ArgsR φ h w [v] cargs) :
 (callFunc f cargs).run P w = .ok (.enter f cargs) w ∧ Calls P f cargs w (CallPost φ h w .nils h) := by
 obtain ⟨fn, r0, r2, r3, i1, o1, o2, t, e, ty, a0, a2, a3, hfn, hname, hbody, hnt, hres, hs1, hop, hd2, hg2, ht, c0, c2, c3, e0, e2, e3⟩ := hc.ok
 have hC : CallOK P X C0 := fun f args h v h' he => by cases he
 have hCL : CallCL C0 := fun f args h v h' he => by cases he
 have hcall : (callFunc f cargs).run P w = .ok (.enter f cargs) w := by
  have hne : ¬ fn.name = "runtime.NumGoroutine" := by simpa using hname
  simp [callFunc, hfn, hne, hbody]
 refine ⟨hcall, ?_⟩
 have hargs : cargs.size = 1 := ha.1
 have hv0 : RVh φ h w v (cargs.getD 0 default) := ha.2 0 (by simp)
 have hfr : FR φ h w [v, .undef, .undef, .undef, .undef, .undef, .undef, .undef] (cargs ++ Array.replicate (fn.ntmps - cargs.size) undef) := by
  refine ⟨by simp [hargs, hnt], fun t => ?_⟩
  cases t with
  | zero =>
    rw [Array.getD_eq_getD_getElem?] at hv0 ⊢
    rw [Array.getElem?_append_left (by omega)]
    rw [Array.getElem?_eq_getElem (by omega : 0 < cargs.size)] at hv0 ⊢
    exact hv0
  | succ t =>
    have : ([v, .undef, .undef, .undef, .undef, .undef, .undef, .undef] : List AV).getD (t + 1) .undef = .undef := by
     match t with
     | 0 | 1 | 2 | 3 | 4 | 5 | 6 => rfl
     | n + 7 => rfl
    rw [this]
    exact .undef _
 refine calls_of_wp hfn hbody ?_
 refine wp_seq ?_
 refine code_ok hC hCL hm 1 r0 a0 c0 (e0 v h) hfr hr hG fun φ1 a1 w1 f1 r1 x1 d1 => ?_
 refine wp_seq ?_
 refine wp_seq ?_
 refine wp_region_list ?_
 refine wpList_step fun K hK => ?_
 have h1 : evStep C0 ⟨some 3, .op (.mov (.tmp 0)), none⟩ [v, .undef, .nils, .undef, .undef, .undef, .undef, .undef] h = some ([v, .undef, .nils, v, .undef, .undef, .undef, .undef], h) := rfl
 refine step_ok hC hs1 h1 f1 r1 (hG.ext x1) fun φ2 cv w2 f2 r2' x2 => hK _ _ ?_
 refine wpList_step fun K2 hK2 => ?_
 have hw : Region.wanted o2 (yielded #[o1, o2] (a1.put o1.dst cv).tmps) = true := by simp [Region.wanted, hg2]
 rw [if_pos hw]
 have x12 := x1.trans x2
 -- what is tested
 have hx : ∃ ad n c, (a1.put o1.dst cv).eval (.tmp 3) = .slice ad n c := by
  have q := opd_ok (x := .tmp 3) (x' := .tmp 3) rfl f2
  have q' : RVh φ2 h w2 v ((a1.put o1.dst cv).eval (.tmp 3)) := q
  rcases hv with rfl | rfl
  ·obtain ⟨ad, e⟩ := q'.nils_inv
   exact ⟨ad, 0, 0, e⟩
  ·rcases q'.sl_inv with ⟨ad, c, _, e⟩ | ⟨b, o', c, sz, vs, e, _⟩
   ·exact ⟨ad, 0, c, e⟩
   ·exact ⟨_, _, c, e⟩
 obtain ⟨ad, n, c, hx⟩ := hx
 have hrun := run_snil (neg := false) hop ht hx w2
 unfold Oper.wp
 rw [hrun, Oper.upon_value]
 refine hK2 _ _ (wpList_nil ?_)
 have f3 : FR φ2 h w2 [v, .undef, .nils, v, .bool ad.isNone, .undef, .undef, .undef] ((a1.put o1.dst cv).put o2.dst (.bool ad.isNone)).tmps := by
  rw [hd2]
  exact f2.put (RV.bool _) 4
 have d3 : ((a1.put o1.dst cv).put o2.dst (.bool ad.isNone)).defers = [] := by
  rw [put_defers, put_defers]
  exact d1
 have fin : ∀ (fr : List AV) (φ' : Phi) (a' : Act) (w' : World), fr.getD 2 .undef = .nils → FR φ' h w' fr a'.tmps → HR φ' h w' → Ext φ h w φ' h w' → a'.defers = [] →
  a'.defers = [] ∧ ∃ v, (results fn a'.tmps).run P w' = .ok v w' ∧ CallPost φ h w .nils h (.returned v) w' := fun fr φ' a' w' hfr' hf' hr' hx' hd' => by
  refine ⟨hd', a'.tmps.getD 2 undef, ?_, φ', _, rfl, ?_, hr', hx'⟩
  ·rw [results_eq, hres]
   simp [resF]
  ·have := hf'.2 2
   rw [hfr'] at this
   exact this
 cases hn : ad.isNone with
 | true =>
   rw [hn] at f3 d3
   refine wp_cond (RV.bool_inv (opd_ok (x := .tmp 4) (x' := .tmp 4) rfl f3 : RVh φ2 h w2 (.bool true) _)) ?_
   refine code_ok hC hCL hm 1 r2 a2 c2 (e2 v h) f3 r2' (hG.ext x12) fun φ4 a4 w4 f4 r4 x4 d4 => ?_
   exact fin _ φ4 a4 w4 rfl f4 r4 (x12.trans x4) (d4.trans d3)
 | false =>
   rw [hn] at f3 d3
   refine wp_cond (RV.bool_inv (opd_ok (x := .tmp 4) (x' := .tmp 4) rfl f3 : RVh φ2 h w2 (.bool false) _)) ?_
   refine wp_skip ?_
   refine code_ok hC hCL hm 1 r3 a3 c3 (e3 v hv h) f3 r2' (hG.ext x12) fun φ4 a4 w4 f4 r4 x4 d4 => ?_
   exact fin _ φ4 a4 w4 rfl f4 r4 (x12.trans x4) (d4.trans d3)
end Sz

/- A call's answer in the empty abstract heap is its answer in any. No program is named here. -/
namespace Sz
open Go
variable {X : World → Prop}
def h0 : Heap := ⟨0, [], 0, 0⟩
theorem prim_weak {P : Program} {f : Nat} {args : List AV} {v : AV} {h' : Heap} (hv : v.refs = 0) (ha : AV.refsL args = 0)
 (he : ∀ φ w cargs, HR φ h0 w → Glob P X φ h0 w → ArgsR φ h0 w args cargs → ((callFunc f cargs).run P w = .ok (.enter f cargs) w ∧ Calls P f cargs w (CallPost φ h0 w v h')) ∨
     ∃ cv w' φ', (callFunc f cargs).run P w = .ok (.value cv) w' ∧ RVh φ' h' w' v cv ∧ HR φ' h' w' ∧ Ext φ h0 w φ' h' w') : PrimOKX P X f args v := by
 intro φ h w cargs hr hG hargs
 let φ0 : Phi := ⟨φ.at_, fun b => φ.gh b ∨ ∃ id, live h id ∧ (φ id).blk = b⟩
 have nol : ∀ id, ¬ live h0 id := fun id ⟨o, hg, _⟩ => by simp [Heap.get, h0] at hg
 have hr0 : HR φ0 h0 w := by
  refine ⟨rfl, fun id cs hg => by simp [Heap.get, h0] at hg, fun id es hg => by simp [Heap.get, h0] at hg, fun i j hi => absurd hi (nol i), fun b hb => ⟨?_, fun id hl => absurd hl (nol id)⟩⟩
  rcases hb with hb | ⟨id, hl, rfl⟩
  ·exact (hr.gh b hb).1
  ·exact hr.blk_lt hl
 have pr0 : ∀ b, Pr φ h w b → Pr φ0 h0 w b := fun b hb => ⟨hb.1, fun id hl => absurd hl (nol id), fun hc => by
  rcases hc with hc | ⟨id, hl, e⟩
  ·exact hb.2.2 hc
  ·exact hb.2.1 id hl e⟩
 have ha0 : ArgsR φ0 h0 w args cargs := ⟨hargs.1, fun j hj => (hargs.2 j hj).mono (fun id hid _ => by
  have := AV.refsL_mem (List.getElem_mem hj)
  omega) fun b hb => ⟨pr0 b hb, rfl⟩⟩
 have back : ∀ (φ' : Phi) (cv : Value) (w' : World), RVh φ' h' w' v cv → Ext φ0 h0 w φ' h' w' → PrimPost φ h w v cv w' := fun φ' cv w' g1 g3 => by
  have hsame : Same w w' := fun b hb => by
   by_cases hg : φ0.gh b
   ·exact g3.gh.2 b hg
   ·exact (g3.pr b ⟨hb, fun id hl => absurd hl (nol id), hg⟩).2
  obtain ⟨s1, s2⟩ := same_ok hr g3.os g3.tape g3.output g3.size hsame
  refine ⟨g1.mono (fun id hid _ => by omega) fun b hb => ⟨⟨hb.1, fun id hl e => ?_, fun hg => ?_⟩, rfl⟩, s1, s2, hsame⟩
  ·exact hb.2.2 (by rw [g3.gh.1]; exact .inr ⟨id, hl, e⟩)
  ·exact hb.2.2 (by rw [g3.gh.1]; exact .inl hg)
 have hG0 : Glob P X φ0 h0 w := by
  obtain ⟨w1, g1, g2⟩ := hG
  refine ⟨w1, g1, fun b hb => ?_⟩
  obtain ⟨a1, a2, a3⟩ := g2 b hb
  refine ⟨a1, ?_, a3⟩
  rcases a2 with a2 | a2
  ·exact .inl (.inl a2)
  ·exact .inr (pr0 b a2)
 rcases he φ0 w cargs hr0 hG0 ha0 with ⟨e1, e2⟩ | ⟨cv, w', φ', e1, e2, e3, e4⟩
 ·refine .inl ⟨e1, e2.mono fun e w' he => ?_⟩
  obtain ⟨φ', cv, rfl, g1, g2, g3⟩ := he
  exact ⟨cv, rfl, back φ' cv w' g1 g3⟩
 ·exact .inr ⟨cv, w', e1, back φ' cv w' e2 e4⟩
theorem prim_of {P : Program} {E : Env} (hE : EnvOKX P X E) {n f : Nat} {args : List AV} {v : AV} {h' : Heap} (he : evCall E n f args h0 = some (v, h')) (hv : v.refs = 0) (ha : AV.refsL args = 0) : PrimOKX P X f args v :=
 prim_weak (h' := h') hv ha fun φ w cargs hr hG hargs => (call_ok hE n).1 f args h0 v h' he φ w cargs hr hG hargs
end Sz

/- Equations by which an abstract run is worked out. No program is named here. -/
namespace Sz
open Go
end Sz

/- Loops as they stand at their heads; specs as primitive calls. No program is named here. -/
namespace Sz
open Go
variable {X : World → Prop}
def loopH (B : List AV → Heap → Option (Ex × List AV × Heap)) (live : List Bool) (n0 : Nat) : Nat → List AV → Heap → Option (Ex × List AV × Heap)
 | 0, _, _ => none
 | n + 1, fr, h =>
   match B fr h with
   | some (.normal, fr', h') => loopH B live n0 n (gc n0 (clear live fr') h').1 (gc n0 (clear live fr') h').2
   | r => r
theorem loopN_loopH (B : List AV → Heap → Option (Ex × List AV × Heap)) (live : List Bool) (n0 : Nat) : ∀ n fr h, loopN B live n0 n fr h = loopH B live n0 n (gc n0 (clear live fr) h).1 (gc n0 (clear live fr) h).2
 | 0, _, _ => rfl
 | n + 1, fr, h => by
   unfold loopN loopH
   cases hb : B (gc n0 (clear live fr) h).1 (gc n0 (clear live fr) h).2 with
   | none => rfl
   | some r =>
     obtain ⟨ex, fr1, h1⟩ := r
     cases ex with
     | normal => exact loopN_loopH B live n0 n fr1 h1
     | exit id => rfl
     | ret => rfl
def aft (n0 wl : Nat) : Option (Ex × List AV × Heap) → Option (Ex × List AV × Heap)
 | none => none
 | some (ex, fr, h) => some (ex, (gc n0 fr h).1, ⟨(gc n0 fr h).2.next, (gc n0 fr h).2.objs, min wl (gc n0 fr h).2.wl, (gc n0 fr h).2.md⟩)
def bgn (B : List AV → Heap → Option (Ex × List AV × Heap)) (live : List Bool) (n0 n : Nat) (s : List AV × Heap) : Option (Ex × List AV × Heap) := loopH B live n0 n s.1 s.2
theorem bgn_mk (B : List AV → Heap → Option (Ex × List AV × Heap)) (live : List Bool) (n0 n : Nat) (fr : List AV) (h : Heap) : bgn B live n0 n (fr, h) = loopH B live n0 n fr h := rfl
theorem evCode_loop (C : Nat → List AV → Heap → Option (AV × Heap)) (n : Nat) (live : List Bool) (a : ACode) (fr : List AV) (h : Heap) :
 evCode C n (.loop live a) fr h = aft h.next h.wl (bgn (evCode C n a) live h.next n (gc h.next (clear live fr) ⟨h.next, h.objs, h.next, h.md⟩)) := by
 conv => lhs; unfold evCode
 rw [loopN_loopH]
 unfold bgn aft
 split
 ·rename_i e; rw [e]; rfl
 ·rename_i e; rw [e]; rfl
theorem aft_mk (n0 wl : Nat) (ex : Ex) (fr : List AV) (h : Heap) : aft n0 wl (some (ex, fr, h)) =
 match gc n0 fr h with
 | (fr', ⟨nx, os, w, md⟩) => some (ex, fr', ⟨nx, os, min wl w, md⟩) := rfl
theorem loopH_succ (B : List AV → Heap → Option (Ex × List AV × Heap)) (live : List Bool) (n0 n : Nat) (fr : List AV) (h : Heap) : loopH B live n0 (n + 1) fr h =
 match B fr h with
 | some (.normal, fr', h') => bgn B live n0 n (gc n0 (clear live fr') h')
 | r => r := rfl
structure KSpec where
 f : Nat
 S : List AV → Option AV
def KSpecOKX (P : Program) (X : World → Prop) (s : KSpec) : Prop := ∀ args v, s.S args = some v → PrimOKX P X s.f args v
abbrev KSpecOK (P : Program) (s : KSpec) : Prop := KSpecOKX P (fun _ => True) s
open Classical in
noncomputable def KSpec.of {α : Type} (f : Nat) (enc : α → List AV) (pre : α → Prop) (val : α → AV) : KSpec := ⟨f, fun args => if h : ∃ a, args = enc a ∧ pre a then some (val h.choose) else none⟩
def lookS : List KSpec → Nat → List AV → Option AV
 | [], _, _ => none
 | s :: r, f, args => if s.f = f then (match s.S args with | some v => some v | none => lookS r f args) else lookS r f args
def lookF : List KSpec → Nat → List KSpec
 | [], _ => []
 | s :: r, f => if s.f == f then s :: lookF r f else lookF r f
theorem lookF_nil (f : Nat) : lookF [] f = [] := rfl
theorem lookF_cons (s : KSpec) (r : List KSpec) (f : Nat) : lookF (s :: r) f = if s.f == f then s :: lookF r f else lookF r f := rfl
theorem lookF_eq (f : Nat) (args : List AV) : ∀ ss : List KSpec, lookS (lookF ss f) f args = lookS ss f args
 | [] => rfl
 | s :: r => by
   rw [lookF_cons]
   by_cases h : s.f = f
   ·rw [if_pos (by simpa using h)]
    simp only [lookS, h, if_true, lookF_eq f args r]
   ·rw [if_neg (by simpa using h), lookF_eq f args r]
    simp only [lookS, h, if_false]
def mkEnv (fn : Nat → Option AFun) (ss : List KSpec) : Env := ⟨fn, lookS ss⟩
theorem mkEnv_ok {P : Program} {fn : Nat → Option AFun} (hm : P.follows .mixedOrders = true) (hfn : ∀ f F, fn f = some F → FnOK P f F) {ss : List KSpec} (hs : ∀ s ∈ ss, KSpecOKX P X s) : EnvOKX P X (mkEnv fn ss) := by
 refine ⟨hm, hfn, fun f args v hp => ?_⟩
 have key : ∀ ss : List KSpec, (∀ s ∈ ss, KSpecOKX P X s) → lookS ss f args = some v → PrimOKX P X f args v := by
  intro ss
  induction ss with
  | nil => intro _ h; cases h
  | cons s r ih =>
    intro hs hl
    unfold lookS at hl
    split at hl
    ·rename_i hf
     split at hl
     ·rename_i v' hv'
      cases hl
      rw [← hf]
      exact hs s (by simp) args v hv'
     ·exact ih (fun t ht => hs t (by simp [ht])) hl
    ·exact ih (fun t ht => hs t (by simp [ht])) hl
 exact key ss hs hp
@[simp] theorem mkEnv_fn (fn : Nat → Option AFun) (ss : List KSpec) (f : Nat) : (mkEnv fn ss).fn f = fn f := rfl
@[simp] theorem mkEnv_prim (fn : Nat → Option AFun) (ss : List KSpec) : (mkEnv fn ss).prim = lookS ss := rfl
theorem Glob.mono {P : Program} {Y : World → Prop} (hXY : ∀ w, X w → Y w) {φ : Phi} {h : Heap} {w : World} (g : Glob P X φ h w) : Glob P Y φ h w := by
 obtain ⟨w1, h1, h2⟩ := g
 exact ⟨w1, ⟨h1.1, hXY _ h1.2⟩, h2⟩
theorem KSpecOK.lift {P : Program} {s : KSpec} (h : KSpecOK P s) : KSpecOKX P X s := fun args v hv φ hh w cargs hr hG ha => h args v hv φ hh w cargs hr (hG.mono fun _ _ => trivial) ha
end Sz

/- Rules by which a run is worked out, step by step. No program is named here. -/
namespace Sz
open Go
section
variable (C : Nat → List AV → Heap → Option (AV × Heap)) (n : Nat) (fr : List AV) (h : Heap)
theorem evCode_skip : evCode C n .skip fr h = some (.normal, fr, h) := rfl
theorem evCode_reg (ops : List AStep) : evCode C n (.reg ops) fr h = match evSteps C ops fr h with | some (fr', h') => some (.normal, fr', h') | none => none := by
 simp only [evCode]; cases evSteps C ops fr h <;> rfl
theorem evCode_dreg (ops : List AStep) (chk : List (Nat × Nat)) : evCode C n (.dreg ops chk) fr h = match evTr C ops fr h with | some (fr', h', tr) => if chkTr tr chk then some (.normal, fr', h') else none | none => none := rfl
theorem evCode_seq (a b : ACode) : evCode C n (.seq a b) fr h = match evCode C n a fr h with | some (.normal, fr', h') => evCode C n b fr' h' | r => r := rfl
theorem evCode_cond (c : Opd) (a b : ACode) : evCode C n (.cond c a b) fr h = match c.ev fr with | .bool t => if t then evCode C n a fr h else evCode C n b fr h | _ => none := rfl
theorem evCode_block (id : Nat) (a : ACode) : evCode C n (.block id a) fr h = match evCode C n a fr h with | some (.exit i, fr', h') => some (if i = id then .normal else .exit i, fr', h') | r => r := rfl
theorem evCode_exit (id : Nat) (live : List Bool) : evCode C n (.exit id live) fr h = some (.exit id, clear live fr, h) := rfl
theorem evCode_ret (live : List Bool) : evCode C n (.ret live) fr h = some (.ret, clear live fr, h) := rfl
theorem evSteps_nil : evSteps C [] fr h = some (fr, h) := rfl
theorem evSteps_op (d : Option Nat) (o : AOp) (r : List AStep) : evSteps C (⟨d, .op o, none⟩ :: r) fr h = match evOp fr h o with | some (v, h') => evSteps C r (putA fr d v) h' | none => none := by
 simp only [evSteps, evStep, unwanted]; cases evOp fr h o <;> rfl
theorem evSteps_call (d : Option Nat) (f : Nat) (args : List Opd) (r : List AStep) : evSteps C (⟨d, .call f args, none⟩ :: r) fr h = match C f (args.map (·.ev fr)) h with | some (v, h') => evSteps C r (putA fr d v) h' | none => none := by
 simp only [evSteps, evStep, unwanted]; cases C f (args.map (·.ev fr)) h <;> rfl
theorem evSteps_callv (d : Option Nat) (x : Opd) (args : List Opd) (r : List AStep) : evSteps C (⟨d, .callv x args, none⟩ :: r) fr h = match x.ev fr with
 | .fn f caps => (match C f (args.map (·.ev fr) ++ caps) h with | some (v, h') => evSteps C r (putA fr d v) h' | none => none)
 | _ => none := by
 simp only [evSteps, evStep, unwanted]
 cases x.ev fr with
 | fn f caps => dsimp only; cases C f (args.map (·.ev fr) ++ caps) h <;> rfl
 | _ => rfl
theorem evTr_nil : evTr C [] fr h = some (fr, h, []) := rfl
theorem evTr_cons (s : AStep) (r : List AStep) : evTr C (s :: r) fr h = match evStep C s fr ⟨h.next, h.objs, h.wl, h.next⟩ with
 | some (fr', h') => (match evTr C r fr' ⟨h'.next, h'.objs, h'.wl, min h.md h'.md⟩ with | some (fr2, h2, tr) => some (fr2, h2, (ldId s fr, h, h') :: tr) | none => none)
 | none => none := by
 simp only [evTr]
 cases evStep C s fr ⟨h.next, h.objs, h.wl, h.next⟩ with
 | none => rfl
 | some p =>
   dsimp only
   cases evTr C r p.1 ⟨p.2.next, p.2.objs, p.2.wl, min h.md p.2.md⟩ <;> rfl
theorem evStep_op (d : Option Nat) (o : AOp) : evStep C ⟨d, .op o, none⟩ fr h = match evOp fr h o with | some (v, h') => some (putA fr d v, h') | none => none := by
 simp only [evStep, unwanted]; cases evOp fr h o <;> rfl
theorem evStep_call (d : Option Nat) (f : Nat) (args : List Opd) : evStep C ⟨d, .call f args, none⟩ fr h = match C f (args.map (·.ev fr)) h with | some (v, h') => some (putA fr d v, h') | none => none := by
 simp only [evStep, unwanted]; cases C f (args.map (·.ev fr)) h <;> rfl
theorem evStep_callv (d : Option Nat) (x : Opd) (args : List Opd) : evStep C ⟨d, .callv x args, none⟩ fr h = match x.ev fr with
 | .fn f caps => (match C f (args.map (·.ev fr) ++ caps) h with | some (v, h') => some (putA fr d v, h') | none => none)
 | _ => none := by
 simp only [evStep, unwanted]
 cases x.ev fr with
 | fn f caps => dsimp only; cases C f (args.map (·.ev fr) ++ caps) h <;> rfl
 | _ => rfl
theorem evOp_mov (x : Opd) : evOp fr h (.mov x) = some (x.ev fr, h) := rfl
theorem evOp_pick (c x y : Opd) : evOp fr h (.pick c x y) = match c.ev fr with | .bool b => some (if b then x.ev fr else y.ev fr, h) | _ => none := rfl
theorem evOp_box (x : Opd) : evOp fr h (.box x) = match (x.ev fr).cells? with | some cs => some (.ptr h.next 0, ⟨h.next + 1, .row cs :: h.objs, h.wl, h.md⟩) | none => none := rfl
theorem evOp_bld (z : List AV) (ps : List (Nat × Nat × Opd)) : evOp fr h (.bld z ps) = match fillA z (ps.map fun p => (p.1, p.2.1, p.2.2.ev fr)) with | some cs => some (.agg cs, h) | none => none := by
 simp only [evOp]; cases fillA z (ps.map fun p => (p.1, p.2.1, p.2.2.ev fr)) <;> rfl
theorem evOp_bsl (sz len : Nat) (z : List AV) (ps : List (Nat × Opd)) : evOp fr h (.bsl sz len z ps) = match fillA z (ps.map fun p => (p.1 * sz, sz, p.2.ev fr)) with | some cs => some (.vec h.next 0 len sz len, ⟨h.next + 1, .row cs :: h.objs, h.wl, h.md⟩) | none => none := by
 simp only [evOp]; cases fillA z (ps.map fun p => (p.1 * sz, sz, p.2.ev fr)) <;> rfl
theorem evOp_ld (m : Option Nat) (x : Opd) : evOp fr h (.ld m x) = match ldA h m (x.ev fr) with | some v => some (v, h) | none => none := by
 simp only [evOp]; cases ldA h m (x.ev fr) <;> rfl
theorem evOp_st (m : Nat) (x v : Opd) : evOp fr h (.st m x v) = match x.ev fr, (v.ev fr).cells? with
 | .ptr id off, some vs => match h.row id with
   | some cs => if vs.length = m ∧ off + m ≤ cs.length then some (.undef, (h.set id (.row (putAt cs off vs))).mark id (v.ev fr)) else none
   | none => none
 | _, _ => none := rfl
theorem evOp_nck (x : Opd) : evOp fr h (.nck x) = match nilA (x.ev fr) with | some false => some (x.ev fr, h) | _ => none := rfl
theorem evOp_bin (op : BinOp) (x y : Opd) : evOp fr h (.bin op x y) = match binA op (x.ev fr) (y.ev fr) with | some v => some (v, h) | none => none := by
 simp only [evOp]; cases binA op (x.ev fr) (y.ev fr) <;> rfl
theorem evOp_beq (neg : Bool) (x y : Opd) : evOp fr h (.beq neg x y) = match x.ev fr, y.ev fr with | .bool a, .bool b => some (.bool (if neg then !(a == b) else a == b), h) | _, _ => none := rfl
theorem evOp_ceq (ks : List Nat) (neg : Bool) (x y : Opd) : evOp fr h (.ceq ks neg x y) = match x.ev fr, y.ev fr with
 | .agg a, .agg b => (match eqCells ks a b with | some r => some (.bool (if neg then !r else r), h) | none => none)
 | _, _ => none := by
 simp only [evOp]
 cases x.ev fr <;> try rfl
 cases y.ev fr <;> try rfl
 rename_i a b
 dsimp only
 cases eqCells ks a b <;> rfl
theorem evOp_peq (k : Nat) (neg : Bool) (x y : Opd) : evOp fr h (.peq k neg x y) = match nilK k (x.ev fr), nilK k (y.ev fr) with | some p, some true => some (.bool (if neg then !p else p), h) | _, _ => none := rfl
theorem evOp_not (x : Opd) : evOp fr h (.un .not x) = match x.ev fr with | .bool b => some (.bool (!b), h) | _ => none := by
 simp only [evOp]; cases x.ev fr <;> rfl
theorem evOp_neg (x : Opd) : evOp fr h (.un .neg x) = match x.ev fr with | .int k n => some (.int k (k.wrap (0 - n)), h) | _ => none := by
 simp only [evOp]; cases x.ev fr <;> rfl
theorem evOp_xor (x : Opd) : evOp fr h (.un .xor x) = match x.ev fr with | .int k n => some (.int k (bitsI .xor k (if k.signed then -1 else k.max) n), h) | _ => none := by
 simp only [evOp]; cases x.ev fr <;> rfl
theorem evOp_cvi (k : IntKind) (x : Opd) : evOp fr h (.cvi k x) = match x.ev fr with | .int _ n => some (.int k (k.wrap n), h) | _ => none := rfl
theorem evOp_cvss (x : Opd) : evOp fr h (.cvss x) = match x.ev fr with | .str s => some (.str s, h) | _ => none := rfl
theorem evOp_cvis (x : Opd) : evOp fr h (.cvis x) = match x.ev fr with | .int _ n => if 0 ≤ n ∧ n < 128 then some (.str [UInt8.ofNat n.toNat], h) else none | _ => none := rfl
theorem evOp_cvsb (x : Opd) : evOp fr h (.cvsb x) = match x.ev fr with | .str s => some (.sl (s.map fun b => .int .u8 b.toNat), h) | _ => none := rfl
theorem evOp_cvbs (x : Opd) : evOp fr h (.cvbs x) = match elemsA h 1 (x.ev fr), x.ev fr with
 | _, .str _ => none
 | some (_, cs), _ => (bytesOf cs).map fun s => (.str s, h)
 | none, _ => none := rfl
theorem evOp_lkp (kd : Nat) (zero : AV) (ok : Bool) (m k : Opd) : evOp fr h (.lkp kd zero ok m k) = match (match m.ev fr with | .nilm => some [] | .map id => h.mapAt id | _ => none) with
 | some es => (lookA kd (k.ev fr) es).map fun r => (match r with
   | some v => (if ok then .tuple [v, .bool true] else v, h)
   | none => (if ok then .tuple [zero, .bool false] else zero, h))
 | none => none := rfl
theorem evOp_mki (t : Nat) (x : Opd) : evOp fr h (.mki t x) = some (.iface t (x.ev fr), h) := rfl
theorem evOp_mkf (f : Nat) (caps : List Opd) : evOp fr h (.mkf f caps) = some (.fn f (caps.map (·.ev fr)), h) := rfl
theorem evOp_mkm : evOp fr h .mkm = some (.map h.next, ⟨h.next + 1, .map [] :: h.objs, h.wl, h.md⟩) := rfl
theorem evOp_mks (bytes : Nat) (z : List AV) (l c : Opd) : evOp fr h (.mks bytes z l c) = match l.ev fr, c.ev fr with
 | .int .i64 l, .int .i64 c => if 0 ≤ l ∧ l ≤ c ∧ c * bytes ≤ 140737488355328 ∧ c < 2 ^ 63 then
  some (.vec h.next 0 l.toNat z.length c.toNat, ⟨h.next + 1, .row (List.replicate c.toNat z).flatten :: h.objs, h.wl, h.md⟩) else none
 | _, _ => none := rfl
theorem evOp_sls (x : Opd) (lo hi : Option Opd) : evOp fr h (.sls x lo hi) = match x.ev fr with
 | .str s => (match sliceB s.length (lo.map (·.ev fr)) (hi.map (·.ev fr)) with | some (l, u) => some (.str ((s.take u).drop l), h) | none => none)
 | _ => none := by
 simp only [evOp]
 cases x.ev fr <;> try rfl
 dsimp only
 rename_i s
 cases sliceB s.length (lo.map (·.ev fr)) (hi.map (·.ev fr)) <;> rfl
theorem evOp_slv (sz : Nat) (x : Opd) (lo hi mx : Option Opd) : evOp fr h (.slv sz x lo hi mx) = match x.ev fr with
 | .nils => (match sliceC 0 0 (lo.map (·.ev fr)) (hi.map (·.ev fr)) (mx.map (·.ev fr)) with | some _ => some (.nils, h) | none => none)
 | .sl xs => if (xs.all fun x => (x.cells?.map List.length) == some sz) then
  (match sliceC xs.length xs.length (lo.map (·.ev fr)) (hi.map (·.ev fr)) (mx.map (·.ev fr)) with | some (l, u, m) => some (if m = some l then .nils else .sl ((xs.take u).drop l), h) | none => none) else none
 | .vec id off len s lb => if s = sz then
  (match sliceC len lb (lo.map (·.ev fr)) (hi.map (·.ev fr)) (mx.map (·.ev fr)) with | some (l, u, m) => some (if m = some l then .nils else .vec id (off + l * sz) (u - l) sz (m.getD lb - l), h) | none => none) else none
 | _ => none := by
 simp only [evOp]
 cases x.ev fr <;> try rfl
 ·dsimp only
  cases sliceC 0 0 (lo.map (·.ev fr)) (hi.map (·.ev fr)) (mx.map (·.ev fr)) <;> rfl
 ·dsimp only
  split
  ·rename_i xs _
   cases sliceC xs.length xs.length (lo.map (·.ev fr)) (hi.map (·.ev fr)) (mx.map (·.ev fr)) <;> rfl
  ·rfl
 ·dsimp only
  rename_i len _ lb
  split
  ·cases sliceC len lb (lo.map (·.ev fr)) (hi.map (·.ev fr)) (mx.map (·.ev fr)) <;> rfl
  ·rfl
theorem evOp_fad (off : Nat) (x : Opd) : evOp fr h (.fad off x) = match x.ev fr with | .ptr id o => some (.ptr id (o + off), h) | .ip cs => some (.ip (cs.drop off), h) | _ => none := rfl
theorem evOp_fld1 (off : Nat) (x : Opd) : evOp fr h (.fld off none x) = match x.ev fr with
 | .agg cs => (match cs[off]? with | some v => some (v, h) | none => none)
 | _ => none := by
 simp only [evOp]
 cases x.ev fr <;> try rfl
 dsimp only
 rename_i cs
 cases cs[off]? <;> rfl
theorem evOp_fldn (off n : Nat) (x : Opd) : evOp fr h (.fld off (some n) x) = match x.ev fr with
 | .agg cs => if off + n ≤ cs.length then some (.agg ((cs.drop off).take n), h) else none
 | _ => none := rfl
theorem evOp_iad (sz : Nat) (x i : Opd) : evOp fr h (.iad sz x i) = match x.ev fr, i.ev fr with
 | .sl xs, .int _ i => if 0 ≤ i then (match xs[i.toNat]? with
  | some v => (match v.cells? with
    | some cs => if cs.length = sz then some (.ip cs, h) else none
    | none => none)
  | none => none) else none
 | .vec id off len s _, .int _ i => if 0 ≤ i ∧ i < len ∧ s = sz then some (.ptr id (off + i.toNat * sz), h) else none
 | _, _ => none := rfl
theorem evOp_ixs (x i : Opd) : evOp fr h (.ixs x i) = match x.ev fr, i.ev fr with
 | .str s, .int _ i => if 0 ≤ i then (match s[i.toNat]? with | some b => some (.int .u8 b.toNat, h) | none => none) else none
 | _, _ => none := by
 simp only [evOp]
 cases x.ev fr <;> try rfl
 cases i.ev fr <;> try rfl
 rename_i s k i
 dsimp only
 cases s[i.toNat]? <;> rfl
theorem evOp_ext (x : Opd) (i : Nat) : evOp fr h (.ext x i) = match x.ev fr with
 | .tuple vs => (match vs[i]? with | some v => some (v, h) | none => none)
 | _ => none := by
 simp only [evOp]
 cases x.ev fr <;> try rfl
 rename_i vs
 dsimp only
 cases vs[i]? <;> rfl
theorem evOp_lens (x : Opd) : evOp fr h (.lens x) = match x.ev fr with | .str s => some (.int .i64 s.length, h) | _ => none := rfl
theorem evOp_lenv (x : Opd) : evOp fr h (.lenv x) = match x.ev fr with
 | .nils => some (.int .i64 0, h)
 | .sl xs => some (.int .i64 xs.length, h)
 | .vec _ _ n _ _ => some (.int .i64 n, h)
 | _ => none := rfl
theorem evOp_mx (x y : Opd) : evOp fr h (.mx x y) = match x.ev fr, y.ev fr with | .int k a, .int _ b => some (.int k (if a < b then b else a), h) | _, _ => none := rfl
theorem evOp_mn (x y : Opd) : evOp fr h (.mn x y) = match x.ev fr, y.ev fr with | .int k a, .int _ b => some (.int k (if b < a then b else a), h) | _, _ => none := rfl
theorem evOp_app (sz bytes : Nat) (x y : Opd) : evOp fr h (.app sz bytes x y) = match elemsA h sz (y.ev fr) with
 | none => none
 | some (n, news) =>
   match x.ev fr with
   | .nils => if n = 0 then some (.nils, h) else
     if n * bytes ≤ 140737488355328 ∧ n < 2 ^ 63 then some (.vec h.next 0 n sz n, ⟨h.next + 1, .row news :: h.objs, h.wl, h.md⟩) else none
   | .vec id off len s lb => match h.row id with
     | some cs => if s = sz ∧ off + len * sz ≤ cs.length then
      if n = 0 then some (.vec id off len s lb, h) else
      if len + n ≤ lb ∧ off + (len + n) * sz ≤ cs.length then some (.vec id off (len + n) sz lb, (h.set id (.row (putAt cs (off + len * sz) news))).mark id (.agg news)) else
      if (len + n) * bytes ≤ 140737488355328 ∧ len + n < 2 ^ 63 then
       some (.vec h.next 0 (len + n) sz (len + n), (h.set id .dead).alloc (.row ((cs.drop off).take (len * sz) ++ news))) else none
       else none
     | none => none
   | _ => none := rfl
theorem evOp_fsl (len : Nat) (z : List AV) (ps : List (Nat × Opd)) : evOp fr h (.fsl len z ps) = match fillA z (ps.map fun p => (p.1 * 1, 1, p.2.ev fr)) with | some cs => if (bytesOf cs).isSome then some (.sl cs, h) else none | none => none := rfl
theorem evOp_cvfs (x : Opd) : evOp fr h (.cvfs x) = match x.ev fr with | .sl cs => (bytesOf cs).map fun s => (.str s, h) | _ => none := rfl
theorem evOp_bs0 : evOp fr h .bs0 = some (.nils, h) := rfl
theorem evOp_snil (neg : Bool) (x : Opd) : evOp fr h (.snil neg x) = match x.ev fr with
 | .sl (_ :: _) => some (.bool neg, h)
 | .vec _ _ (_ + 1) _ _ => some (.bool neg, h)
 | _ => none := rfl
theorem evOp_clr (z : List AV) (x : Opd) : evOp fr h (.clr z x) = match x.ev fr with
 | .nils => some (.tuple [], h)
 | .vec id off len s _ => match h.row id with
   | some cs => if s = z.length ∧ off + len * s ≤ cs.length then some (.tuple [], (h.set id (.row (putAt cs off (List.replicate len z).flatten))).mark id (.agg z)) else none
   | none => none
 | _ => none := rfl
theorem row_mk (h : Heap) (id : Nat) : h.row id = match h.get id with | some (.row cs) => some cs | _ => none := rfl
theorem get_mk (nx : Nat) (os : List AObj) (wl md id : Nat) : Heap.get ⟨nx, os, wl, md⟩ id = if id < nx then os[nx - 1 - id]? else none := rfl
theorem set_mk (nx : Nat) (os : List AObj) (wl md id : Nat) (o : AObj) : Heap.set ⟨nx, os, wl, md⟩ id o = if id < nx then ⟨nx, os.set (nx - 1 - id) o, wl, min md id⟩ else ⟨nx, os, wl, md⟩ := by
 unfold Heap.set; split <;> rfl
theorem mark_mk (nx : Nat) (os : List AObj) (wl md id : Nat) (v : AV) : Heap.mark ⟨nx, os, wl, md⟩ id v = if id + 1 < v.refs then ⟨nx, os, min wl id, md⟩ else ⟨nx, os, wl, md⟩ := by
 unfold Heap.mark; split <;> rfl
theorem alloc_mk' (nx : Nat) (os : List AObj) (wl md : Nat) (o : AObj) : Heap.alloc ⟨nx, os, wl, md⟩ o = ⟨nx + 1, o :: os, wl, md⟩ := rfl
theorem trunc_mk (nx : Nat) (os : List AObj) (wl md n : Nat) : Heap.trunc ⟨nx, os, wl, md⟩ n = ⟨min nx n, os.drop (nx - n), wl, md⟩ := rfl
theorem resAll_nil : resAll fr h [] = some [] := rfl
theorem resAll_cons (r : ARes) (rs : List ARes) : resAll fr h (r :: rs) = match resA fr h r with
 | some v => (match resAll fr h rs with | some vs => some (v :: vs) | none => none)
 | none => none := by
 simp only [resAll]
 cases resA fr h r with
 | none => rfl
 | some v => cases resAll fr h rs <;> rfl
theorem finish_mk (a b c : Nat) (os0 os : List AObj) (nx wl md : Nat) (v : AV) : finish false ⟨a, os0, b, c⟩ v ⟨nx, os, wl, md⟩ =
 match frz ⟨nx, os, wl, md⟩ a 8 v with
 | none => (v, ⟨nx, os, min b wl, min c md⟩)
 | some (v', ids) =>
   if a ≤ wl ∧ v'.refs ≤ a then (v', ⟨min nx a, os.drop (nx - a), b, if md < a then min c md else c⟩)
   else match kill ⟨nx, os, wl, md⟩ ids with | ⟨nx', os', _, _⟩ => (v', ⟨nx', os', min b wl, min c md⟩) := by
 simp only [finish, Bool.false_eq_true, if_false]
 cases frz ⟨nx, os, wl, md⟩ a 8 v with
 | none => rfl
 | some p =>
   obtain ⟨v', ids⟩ := p
   dsimp only
   split <;> rfl
theorem cells_agg (cs : List AV) : (AV.agg cs).cells? = some cs := rfl
theorem cells_bool (b : Bool) : (AV.bool b).cells? = some [.bool b] := rfl
theorem cells_int (k : IntKind) (n : Int) : (AV.int k n).cells? = some [.int k n] := rfl
theorem cells_str (s : List UInt8) : (AV.str s).cells? = some [.str s] := rfl
theorem cells_nilp : AV.nilp.cells? = some [.nilp] := rfl
theorem cells_ptr (i o : Nat) : (AV.ptr i o).cells? = some [.ptr i o] := rfl
theorem cells_ip (cs : List AV) : (AV.ip cs).cells? = some [.ip cs] := rfl
theorem cells_nils : AV.nils.cells? = some [.nils] := rfl
theorem cells_sl (xs : List AV) : (AV.sl xs).cells? = some [.sl xs] := rfl
theorem cells_vec (a b c d e : Nat) : (AV.vec a b c d e).cells? = some [.vec a b c d e] := rfl
theorem cells_nilm : AV.nilm.cells? = some [.nilm] := rfl
theorem cells_map (i : Nat) : (AV.map i).cells? = some [.map i] := rfl
theorem cells_nilfn : AV.nilfn.cells? = some [.nilfn] := rfl
theorem cells_fn (f : Nat) (cs : List AV) : (AV.fn f cs).cells? = some [.fn f cs] := rfl
theorem cells_nili : AV.nili.cells? = some [.nili] := rfl
theorem cells_iface (t : Nat) (v : AV) : (AV.iface t v).cells? = some [.iface t v] := rfl
section
variable (n0 d : Nat)
theorem frz_undef : frz h n0 (d + 1) .undef = some (.undef, []) := rfl
theorem frz_bool (b : Bool) : frz h n0 (d + 1) (.bool b) = some (.bool b, []) := rfl
theorem frz_int (k : IntKind) (n : Int) : frz h n0 (d + 1) (.int k n) = some (.int k n, []) := rfl
theorem frz_str (s : List UInt8) : frz h n0 (d + 1) (.str s) = some (.str s, []) := rfl
theorem frz_nilp : frz h n0 (d + 1) .nilp = some (.nilp, []) := rfl
theorem frz_ptr (i o : Nat) : frz h n0 (d + 1) (.ptr i o) = some (.ptr i o, []) := rfl
theorem frz_ip (cs : List AV) : frz h n0 (d + 1) (.ip cs) = some (.ip cs, []) := rfl
theorem frz_nils : frz h n0 (d + 1) .nils = some (.nils, []) := rfl
theorem frz_sl (xs : List AV) : frz h n0 (d + 1) (.sl xs) = some (.sl xs, []) := rfl
theorem frz_nilm : frz h n0 (d + 1) .nilm = some (.nilm, []) := rfl
theorem frz_map (i : Nat) : frz h n0 (d + 1) (.map i) = some (.map i, []) := rfl
theorem frz_nilfn : frz h n0 (d + 1) .nilfn = some (.nilfn, []) := rfl
theorem frz_fn (f : Nat) (cs : List AV) : frz h n0 (d + 1) (.fn f cs) = some (.fn f cs, []) := rfl
theorem frz_nili : frz h n0 (d + 1) .nili = some (.nili, []) := rfl
theorem frz_iface (t : Nat) (v : AV) : frz h n0 (d + 1) (.iface t v) = some (.iface t v, []) := rfl
theorem frz_old {id : Nat} (off len sz lb : Nat) (hid : id < n0) : frz h n0 (d + 1) (.vec id off len sz lb) = some (.vec id off len sz lb, []) := by
 simp only [frz, hid, if_true]
theorem frz_vecR (id off len sz lb : Nat) : frz h n0 (d + 1) (.vec id off len sz lb) = if id < n0 then some (.vec id off len sz lb, []) else
 match h.row id with
 | some cs => if off + len * sz ≤ cs.length ∧ sz ≠ 0 then
  (match frzL (frz h n0 d) ((cs.drop off).take (len * sz)) with
  | some (cs', ids) => if AV.refsL cs' = 0 ∧ (cs'.all fun c => c.cells?.map List.length == some 1) then some (.sl (chunk sz len cs'), id :: ids) else none
  | none => none) else none
 | none => none := rfl
theorem frz_agg (cs : List AV) : frz h n0 (d + 1) (.agg cs) = match frzL (frz h n0 d) cs with | some (cs', ids) => some (.agg cs', ids) | none => none := by
 simp only [frz]; cases frzL (frz h n0 d) cs <;> rfl
theorem frz_tuple (cs : List AV) : frz h n0 (d + 1) (.tuple cs) = match frzL (frz h n0 d) cs with | some (cs', ids) => some (.tuple cs', ids) | none => none := by
 simp only [frz]; cases frzL (frz h n0 d) cs <;> rfl
theorem frzL_nil (F : AV → Option (AV × List Nat)) : frzL F [] = some ([], []) := rfl
theorem frzL_cons (F : AV → Option (AV × List Nat)) (v : AV) (r : List AV) : frzL F (v :: r) = match F v with
 | some (v', i) => (match frzL F r with | some (r', j) => some (v' :: r', i ++ j) | none => none)
 | none => none := by
 simp only [frzL]
 cases F v with
 | none => rfl
 | some p => obtain ⟨v', i⟩ := p; cases frzL F r <;> rfl
end
theorem elemsA_nils (sz : Nat) : elemsA h sz .nils = some (0, []) := rfl
theorem elemsA_vec (sz id off len s lb : Nat) : elemsA h sz (.vec id off len s lb) = match h.row id with
 | some cs => if s = sz ∧ off + len * sz ≤ cs.length then some (len, (cs.drop off).take (len * sz)) else none
 | none => none := rfl
theorem elemsA_str (sz : Nat) (s : List UInt8) : elemsA h sz (.str s) = if sz = 1 then some (s.length, s.map fun b => .int .u8 b.toNat) else none := rfl
theorem kill_nil : kill h [] = h := rfl
theorem kill_cons (id : Nat) (r : List Nat) : kill h (id :: r) = kill (h.set id .dead) r := rfl
theorem chunk_zero (sz : Nat) (cs : List AV) : chunk sz 0 cs = [] := rfl
theorem chunk_succ (sz n : Nat) (cs : List AV) : chunk sz (n + 1) cs = (if sz = 1 then (cs.headD .undef) else .agg (cs.take sz)) :: chunk sz n (cs.drop sz) := rfl
theorem scal_bool (b : Bool) : scal (.bool b) = true := rfl
theorem scal_int (k : IntKind) (n : Int) : scal (.int k n) = true := rfl
theorem scal_str (s : List UInt8) : scal (.str s) = true := rfl
theorem scal_nils : scal .nils = true := rfl
theorem scal_sl (xs : List AV) : scal (.sl xs) = false := rfl
theorem scal_tuple (vs : List AV) : scal (.tuple vs) = vs.all scal1 := rfl
theorem scal_agg (vs : List AV) : scal (.agg vs) = vs.all scal1 := rfl
theorem scal1_bool (b : Bool) : scal1 (.bool b) = true := rfl
theorem scal1_int (k : IntKind) (n : Int) : scal1 (.int k n) = true := rfl
theorem scal1_str (s : List UInt8) : scal1 (.str s) = true := rfl
theorem scal1_nils : scal1 .nils = true := rfl
theorem scal1_sl (xs : List AV) : scal1 (.sl xs) = false := rfl
theorem scal1_agg (vs : List AV) : scal1 (.agg vs) = false := rfl
theorem evOp_die : evOp fr h .die = none := rfl
theorem putAt_nil (cs : List AV) (k : Nat) : putAt cs k [] = cs := rfl
theorem putAt_cons (x : AV) (cs : List AV) (k : Nat) (v : AV) (vs : List AV) : putAt (x :: cs) k (v :: vs) = putAt ((x :: cs).set k v) (k + 1) vs := rfl
end
end Sz

/- Small lemmas for runs over lists. No program is named here. -/
namespace Sz
open Go
theorem wrap_i64 {n : Int} (h1 : -9223372036854775808 ≤ n) (h2 : n < 9223372036854775808) : IntKind.i64.wrap n = n := by
 rw [IntKind.wrap_i64]; omega
theorem wrap_succ {k : Nat} (h : k < 4611686018427387904) : IntKind.i64.wrap ((k : Int) + 1) = ((k + 1 : Nat) : Int) := by
 rw [wrap_i64 (by omega) (by omega)]; rfl
def find1 {α : Type} (p : α → Bool) : List α → Option Nat
 | [] => none
 | x :: r => if p x then some 0 else (find1 p r).map (· + 1)
def basic : AV → Bool
 | .bool _ | .int .. | .str _ | .nilp | .nils | .sl _ | .ip _ | .nilm | .nilfn | .nili => true
 | _ => false
theorem basic_frz {h : Heap} {n0 d : Nat} {v : AV} (hv : basic v = true) : frz h n0 (d + 1) v = some (v, []) := by cases v <;> first | rfl | cases hv
theorem basic_refs {v : AV} (hv : basic v = true) : v.refs = 0 := by cases v <;> first | rfl | cases hv
theorem basic_cells {v : AV} (hv : basic v = true) : v.cells? = some [v] := by cases v <;> first | rfl | cases hv
theorem frzL_basic {h : Heap} {n0 d : Nat} : ∀ {cs : List AV}, cs.all basic = true → frzL (frz h n0 (d + 1)) cs = some (cs, [])
 | [], _ => rfl
 | v :: r, hb => by
   simp only [List.all_cons, Bool.and_eq_true] at hb
   simp only [frzL, basic_frz hb.1, frzL_basic hb.2, List.append_nil]
theorem refsL_basic : ∀ {cs : List AV}, cs.all basic = true → AV.refsL cs = 0
 | [], _ => rfl
 | v :: r, hb => by
   simp only [List.all_cons, Bool.and_eq_true] at hb
   simp only [AV.refsL, basic_refs hb.1, refsL_basic hb.2]
   rfl
theorem all_basic1 : ∀ {cs : List AV}, cs.all basic = true → (cs.all fun c => c.cells?.map List.length == some 1) = true
 | [], _ => rfl
 | v :: r, hb => by
   simp only [List.all_cons, Bool.and_eq_true] at hb ⊢
   exact ⟨by rw [basic_cells hb.1]; rfl, all_basic1 hb.2⟩
def Elem (sz : Nat) (v : AV) : Prop := v.cells.length = sz ∧ v.cells.all basic = true ∧ (sz = 1 → v.cells = [v]) ∧ (sz ≠ 1 → v = .agg v.cells) ∧ v.cells? = some v.cells
theorem flat_all {sz : Nat} {xs : List AV} (h : ∀ x ∈ xs, Elem sz x) : (xs.flatMap AV.cells).all basic = true := by
 rw [List.all_eq_true]
 intro v hv
 obtain ⟨x, hx, hv⟩ := List.mem_flatMap.1 hv
 exact List.all_eq_true.1 (h x hx).2.1 v hv
theorem flat_len {sz : Nat} : ∀ {xs : List AV}, (∀ x ∈ xs, Elem sz x) → (xs.flatMap AV.cells).length = xs.length * sz
 | [], _ => by simp
 | x :: r, h => by
   have := flat_len (xs := r) fun y hy => h y (by simp [hy])
   simp only [List.flatMap_cons, List.length_append, List.length_cons, this, (h x (by simp)).1, Nat.add_mul]
   omega
theorem chunk_flat {sz : Nat} : ∀ {xs : List AV}, (∀ x ∈ xs, Elem sz x) → chunk sz xs.length (xs.flatMap AV.cells) = xs
 | [], _ => rfl
 | x :: r, h => by
   have hx := h x (by simp)
   have ih := chunk_flat (xs := r) fun y hy => h y (by simp [hy])
   simp only [List.length_cons, List.flatMap_cons, chunk]
   have hd : (x.cells ++ r.flatMap AV.cells).drop sz = r.flatMap AV.cells := by rw [← hx.1]; simp
   rw [hd, ih]
   congr 1
   split
   ·rename_i h1
    rw [hx.2.2.1 h1]; rfl
   ·rename_i h1
    have ht : (x.cells ++ r.flatMap AV.cells).take sz = x.cells := by rw [← hx.1]; simp
    rw [ht]
    exact (hx.2.2.2.1 h1).symm
theorem elem_all {sz : Nat} {xs : List AV} (h : ∀ x ∈ xs, Elem sz x) : (xs.all fun x => (x.cells?.map List.length) == some sz) = true := by
 rw [List.all_eq_true]
 intro x hx
 have := h x hx
 rw [this.2.2.2.2]
 simp [this.1]
theorem putAt_eq (vs : List AV) : ∀ (cs : List AV) (k : Nat), k + vs.length ≤ cs.length → putAt cs k vs = cs.take k ++ vs ++ cs.drop (k + vs.length) := by
 induction vs with
 | nil => intro cs k _; simp [putAt]
 | cons v r ih =>
   intro cs k h
   simp only [List.length_cons] at h
   rw [putAt, ih _ _ (by simp; omega)]
   have hk : k < cs.length := by omega
   have e1 : (cs.set k v).take (k + 1) = cs.take k ++ [v] := by
    rw [List.take_set, List.take_succ_eq_append_getElem hk, List.set_append_right _ _ (by simp; omega)]
    simp [Nat.min_eq_left (Nat.le_of_lt hk)]
   have e2 : (cs.set k v).drop (k + 1 + r.length) = cs.drop (k + (r.length + 1)) := by
    rw [List.drop_set_of_lt (by omega)]
    congr 1
    omega
   rw [e1, e2]
   simp
theorem frz_vec {h : Heap} {n0 d id len sz lb : Nat} {xs : List AV} {cs : List AV} (hid : n0 ≤ id) (hg : h.get id = some (.row cs)) (hsz : sz ≠ 0) (hx : ∀ x ∈ xs, Elem sz x) (hl : xs.length = len) (hle : len * sz ≤ cs.length) (hc : cs.take (len * sz) = xs.flatMap AV.cells) :
 frz h n0 (d + 2) (.vec id 0 len sz lb) = some (.sl xs, [id]) := by
 subst hl
 have hb := flat_all hx
 have e : frz h n0 (d + 2) (.vec id 0 xs.length sz lb) = if id < n0 then some (.vec id 0 xs.length sz lb, []) else match h.row id with
  | some cs => if 0 + xs.length * sz ≤ cs.length ∧ sz ≠ 0 then
   (match frzL (frz h n0 (d + 1)) ((cs.drop 0).take (xs.length * sz)) with
   | some (cs', ids) => if AV.refsL cs' = 0 ∧ (cs'.all fun c => c.cells?.map List.length == some 1) then some (.sl (chunk sz xs.length cs'), id :: ids) else none
   | none => none) else none
  | none => none := rfl
 rw [e, if_neg (by omega), row_mk, hg]
 dsimp only
 rw [if_pos ⟨by omega, hsz⟩, List.drop_zero, hc, frzL_basic hb]
 dsimp only
 rw [if_pos ⟨refsL_basic hb, all_basic1 hb⟩, chunk_flat hx]
theorem putAt_takeTo (vs : List AV) {cs : List AV} {k : Nat} (h : k + vs.length ≤ cs.length) : (putAt cs k vs).take (k + vs.length) = cs.take k ++ vs := by
 rw [putAt_eq vs cs k h]
 exact List.take_left' (by simp; omega)
theorem succ_le_f (n : Nat) : (n + 1 ≤ n) = False := eq_false (by omega)
end Sz

/- Frames by what is set in them. No program is named here. -/
namespace Sz
open Go
def lk : List (Nat × AV) → Nat → AV
 | [], _ => .undef
 | (k, v) :: m, t => if k = t then v else lk m t
def FM (n : Nat) (m : List (Nat × AV)) : List AV := (List.range n).map (lk m)
def mk (n : Nat) (ks : List Nat) : List Bool := (List.range n).map fun t => ks.contains t
def pick (m : List (Nat × AV)) : List Nat → List (Nat × AV)
 | [] => []
 | k :: ks => (k, lk m k) :: pick m ks
def enumA : Nat → List AV → List (Nat × AV)
 | _, [] => []
 | k, a :: r => (k, a) :: enumA (k + 1) r
def incK (n : Nat) : Nat → List (Nat × AV) → Bool
 | _, [] => true
 | lo, (k, _) :: r => decide (lo ≤ k) && decide (k < n) && incK n (k + 1) r
def snds : List (Nat × AV) → List AV
 | [] => []
 | (_, v) :: r => v :: snds r
def renM (n0 : Nat) (ks : List Nat) : List (Nat × AV) → List (Nat × AV)
 | [] => []
 | (k, v) :: r => (k, ren n0 ks v) :: renM n0 ks r
theorem lk_hit (t : Nat) (v : AV) (m : List (Nat × AV)) : lk ((t, v) :: m) t = v := if_pos rfl
theorem lk_miss {k t : Nat} (v : AV) (m : List (Nat × AV)) (h : (k == t) = false) : lk ((k, v) :: m) t = lk m t := if_neg (by simpa using h)
theorem lk_nil (t : Nat) : lk [] t = .undef := rfl
theorem FM_length (n : Nat) (m : List (Nat × AV)) : (FM n m).length = n := by simp [FM]
theorem FM_get {n t : Nat} (m : List (Nat × AV)) (h : t < n) : (FM n m)[t]? = some (lk m t) := by simp [FM, h]
theorem FM_getD {n t : Nat} (m : List (Nat × AV)) (h : t < n) : (FM n m).getD t .undef = lk m t := by
 rw [List.getD_eq_getElem?_getD, FM_get m h]; rfl
theorem FM_set (n : Nat) (m : List (Nat × AV)) (t : Nat) (v : AV) : (FM n m).set t v = FM n ((t, v) :: m) := by
 apply List.ext_getElem?
 intro i
 rw [List.getElem?_set, FM_length]
 by_cases hi : i < n
 ·rw [FM_get _ hi, FM_get _ hi]
  by_cases e : t = i
  ·subst e; simp [hi, lk]
  ·simp [e, lk]
 ·have h1 : (FM n m)[i]? = none := List.getElem?_eq_none (by rw [FM_length]; omega)
  have h2 : (FM n ((t, v) :: m))[i]? = none := List.getElem?_eq_none (by rw [FM_length]; omega)
  rw [h1, h2]
  split
  ·split
   ·omega
   ·rfl
  ·rfl
theorem FM_ev {n t : Nat} (m : List (Nat × AV)) (h : t < n) : Opd.ev (FM n m) (.tmp t) = lk m t := FM_getD m h
theorem ev_const (fr : List AV) (v : AV) : Opd.ev fr (.const v) = v := rfl
theorem FM_put (n : Nat) (m : List (Nat × AV)) (d : Nat) (v : AV) : putA (FM n m) (some d) v = FM n ((d, v) :: m) := FM_set n m d v
theorem put_none (fr : List AV) (v : AV) : putA fr none v = fr := rfl
theorem FM_unwanted {n t : Nat} (m : List (Nat × AV)) (want : Bool) (h : t < n) : unwanted (FM n m) (some (t, want)) = match lk m t with
 | .bool b => some (b != want)
 | .tuple [] => some true
 | _ => none := by
 simp only [unwanted, FM_get m h]
 cases lk m t with
 | tuple vs => cases vs <;> rfl
 | _ => rfl
theorem FM_resT {n t : Nat} (m : List (Nat × AV)) (hp : Heap) (h : t < n) : resA (FM n m) hp (.tmp t) = some (lk m t) := by
 simp only [resA, FM_getD m h]
theorem FM_resC {n t : Nat} (m : List (Nat × AV)) (hp : Heap) (k : Option Nat) (h : t < n) : resA (FM n m) hp (.cell t k) = ldA hp k (lk m t) := by
 simp only [resA, FM_getD m h]
theorem lk_pick (m : List (Nat × AV)) (t : Nat) : ∀ ks : List Nat, lk (pick m ks) t = if ks.contains t then lk m t else .undef
 | [] => by simp [pick, lk]
 | k :: ks => by
   simp only [pick, lk, lk_pick m t ks, List.contains_cons]
   by_cases e : k = t
   ·subst e; simp
   ·have e' : ¬ t = k := fun h => e h.symm
    simp [e, e']
theorem clear_get : ∀ (bs : List Bool) (fr : List AV) (t : Nat), bs.length = fr.length → (clear bs fr)[t]? = (fr[t]?).map fun v => if bs.getD t false then v else .undef
 | [], [], t, _ => by simp [clear]
 | b :: bs, v :: fr, 0, _ => by simp [clear]
 | b :: bs, v :: fr, t + 1, h => by
   simp only [clear, List.getElem?_cons_succ, List.getD_cons_succ]
   exact clear_get bs fr t (by simpa using h)
theorem FM_clear (n : Nat) (m : List (Nat × AV)) (ks : List Nat) : clear (mk n ks) (FM n m) = FM n (pick m ks) := by
 apply List.ext_getElem?
 intro t
 rw [clear_get _ _ _ (by simp [mk, FM])]
 by_cases ht : t < n
 ·rw [FM_get _ ht, FM_get _ ht, lk_pick]
  have : (mk n ks).getD t false = ks.contains t := by
   rw [List.getD_eq_getElem?_getD]; simp [mk, ht]
  simp only [this, Option.map_some]
 ·have h1 : (FM n m)[t]? = none := List.getElem?_eq_none (by rw [FM_length]; omega)
  have h2 : (FM n (pick m ks))[t]? = none := List.getElem?_eq_none (by rw [FM_length]; omega)
  rw [h1, h2]; rfl
def trues : Nat → List Bool → List Nat
 | _, [] => []
 | k, true :: r => k :: trues (k + 1) r
 | k, false :: r => trues (k + 1) r
theorem mem_trues : ∀ (bs : List Bool) (k t : Nat), (trues k bs).contains t = (decide (k ≤ t) && bs.getD (t - k) false)
 | [], k, t => by simp [trues]
 | true :: r, k, t => by
   rw [trues, List.contains_cons, mem_trues r (k + 1) t]
   by_cases e : t = k
   ·subst e; simp
   ·by_cases hl : k ≤ t
    ·have : t - k = (t - (k + 1)) + 1 := by omega
     have h2 : k + 1 ≤ t := by omega
     simp [e, hl, this, h2]
    ·have h2 : ¬ k + 1 ≤ t := by omega
     simp [e, hl, h2]
 | false :: r, k, t => by
   rw [trues, mem_trues r (k + 1) t]
   by_cases e : t = k
   ·subst e
    have h2 : ¬ t + 1 ≤ t := by omega
    simp only [h2, decide_false, Bool.false_and, Nat.sub_self, List.getD_cons_zero, Bool.and_false]
   ·by_cases hl : k ≤ t
    ·have : t - k = (t - (k + 1)) + 1 := by omega
     have h2 : k + 1 ≤ t := by omega
     simp [hl, this, h2]
    ·have h2 : ¬ k + 1 ≤ t := by omega
     simp [hl, h2]
theorem FM_clearB {n : Nat} (m : List (Nat × AV)) (bs : List Bool) (h : bs.length = n) : clear bs (FM n m) = FM n (pick m (trues 0 bs)) := by
 rw [← FM_clear]
 congr 1
 apply List.ext_getElem?
 intro t
 by_cases ht : t < n
 ·have : t < bs.length := by omega
  simp only [mk, List.getElem?_map, List.getElem?_range ht, Option.map_some, mem_trues]
  simp [List.getD_eq_getElem?_getD, this]
 ·rw [List.getElem?_eq_none (by omega), List.getElem?_eq_none (by simp [mk]; omega)]
theorem lk_enumA : ∀ (as : List AV) (k t : Nat), lk (enumA k as) t = if k ≤ t then as.getD (t - k) .undef else .undef
 | [], k, t => by simp [enumA, lk]
 | a :: r, k, t => by
   simp only [enumA, lk, lk_enumA r (k + 1) t]
   by_cases e : k = t
   ·subst e; simp
   ·by_cases hl : k ≤ t
    ·have : t - k = (t - (k + 1)) + 1 := by omega
     have h2 : k + 1 ≤ t := by omega
     simp [e, hl, this, h2]
    ·have h2 : ¬ k + 1 ≤ t := by omega
     simp [e, hl, h2]
theorem FM_args {n : Nat} (as : List AV) (h : as.length ≤ n) : as ++ List.replicate (n - as.length) .undef = FM n (enumA 0 as) := by
 apply List.ext_getElem?
 intro t
 by_cases ht : t < n
 ·rw [FM_get _ ht, lk_enumA]
  simp only [Nat.zero_le, if_true, Nat.sub_zero]
  by_cases h2 : t < as.length
  ·rw [List.getElem?_append_left h2, List.getD_eq_getElem?_getD, List.getElem?_eq_getElem h2]; rfl
  ·rw [List.getElem?_append_right (by omega), List.getElem?_replicate, if_pos (by omega), List.getD_eq_getElem?_getD, List.getElem?_eq_none (by omega)]; rfl
 ·rw [List.getElem?_eq_none (by simp; omega), List.getElem?_eq_none (by rw [FM_length]; omega)]
theorem keeps_FM (n0 : Nat) : ∀ (len lo : Nat) (m : List (Nat × AV)) (acc : List Nat), incK (lo + len) lo m = true → keeps n0 ((List.range' lo len).map (lk m)) acc = keeps n0 (snds m) acc
 | 0, lo, [], acc, _ => rfl
 | 0, lo, (k, v) :: m, acc, h => by
   simp only [incK, Bool.and_eq_true, decide_eq_true_eq] at h
   omega
 | len + 1, lo, m, acc, h => by
   rw [List.range'_succ, List.map_cons]
   cases m with
   | nil =>
     have := keeps_FM n0 len (lo + 1) [] acc rfl
     simp only [lk, keeps, AV.top]
     exact this
   | cons p r =>
     obtain ⟨k, v⟩ := p
     simp only [incK, Bool.and_eq_true, decide_eq_true_eq] at h
     obtain ⟨⟨h1, h2⟩, h3⟩ := h
     by_cases e : k = lo
     ·subst e
      have tl : (List.range' (k + 1) len).map (lk ((k, v) :: r)) = (List.range' (k + 1) len).map (lk r) := by
       apply List.map_congr_left
       intro t ht
       have := List.mem_range'_1.1 ht
       simp only [lk]
       rw [if_neg (by omega)]
      have ih := fun acc => keeps_FM n0 len (k + 1) r acc (by rw [show k + 1 + len = k + (len + 1) by omega]; exact h3)
      rw [tl]
      have e0 : lk ((k, v) :: r) k = v := if_pos rfl
      rw [e0]
      simp only [snds]
      unfold keeps
      cases v.top with
      | none => dsimp only; exact ih acc
      | some id => dsimp only; split <;> exact ih _
     ·have ih := keeps_FM n0 len (lo + 1) ((k, v) :: r) acc (by
       simp only [incK, Bool.and_eq_true, decide_eq_true_eq]
       rw [show lo + 1 + len = lo + (len + 1) by omega]
       exact ⟨⟨by omega, h2⟩, h3⟩)
      have hz : lk ((k, v) :: r) lo = .undef := by
       have : ∀ (m : List (Nat × AV)) (a t : Nat), incK (lo + (len + 1)) a m = true → t < a → lk m t = .undef := by
        intro m
        induction m with
        | nil => intro a t _ _; rfl
        | cons p r ih =>
          obtain ⟨k, v⟩ := p
          intro a t h ht
          simp only [incK, Bool.and_eq_true, decide_eq_true_eq] at h
          simp only [lk]
          rw [if_neg (by omega)]
          exact ih (k + 1) t h.2 (by omega)
       simp only [lk]
       rw [if_neg e]
       exact this r (k + 1) lo h3 (by omega)
      rw [hz]
      simp only [keeps, AV.top]
      exact ih
theorem lk_renM (n0 : Nat) (ks : List Nat) (t : Nat) : ∀ m : List (Nat × AV), lk (renM n0 ks m) t = ren n0 ks (lk m t)
 | [] => rfl
 | (k, v) :: m => by
   simp only [renM, lk]
   split
   ·rfl
   ·exact lk_renM n0 ks t m
theorem FM_ren (n n0 : Nat) (ks : List Nat) (m : List (Nat × AV)) : (FM n m).map (ren n0 ks) = FM n (renM n0 ks m) := by
 unfold FM
 rw [List.map_map]
 apply List.map_congr_left
 intro t _
 exact (lk_renM n0 ks t m).symm
def allM (n0 : Nat) : List (Nat × AV) → Bool
 | [] => true
 | (_, v) :: r => (v.top.isSome || decide (v.refs ≤ n0)) && allM n0 r
theorem lk_mem {m : List (Nat × AV)} {n lo t : Nat} : incK n lo m = true → lk m t = .undef ∨ ∃ p ∈ m, p.2 = lk m t := by
 induction m generalizing lo with
 | nil => exact fun _ => .inl rfl
 | cons p r ih =>
   obtain ⟨k, v⟩ := p
   intro h
   simp only [incK, Bool.and_eq_true, decide_eq_true_eq] at h
   simp only [lk]
   split
   ·exact .inr ⟨_, List.mem_cons_self, rfl⟩
   ·rcases ih h.2 with h | ⟨p, hp, e⟩
    ·exact .inl h
    ·exact .inr ⟨p, List.mem_cons_of_mem _ hp, e⟩
theorem lk_of_mem {m : List (Nat × AV)} {n lo : Nat} : incK n lo m = true → ∀ p ∈ m, p.1 < n ∧ lk m p.1 = p.2 := by
 induction m generalizing lo with
 | nil => intro _ p hp; cases hp
 | cons q r ih =>
   obtain ⟨k, v⟩ := q
   intro h p hp
   simp only [incK, Bool.and_eq_true, decide_eq_true_eq] at h
   have low : ∀ (r : List (Nat × AV)) (a : Nat), incK n a r = true → ∀ p ∈ r, a ≤ p.1 := by
    intro r
    induction r with
    | nil => intro a _ p hp; cases hp
    | cons q r ih =>
      obtain ⟨k, v⟩ := q
      intro a h p hp
      simp only [incK, Bool.and_eq_true, decide_eq_true_eq] at h
      cases hp with
      | head => exact h.1.1
      | tail _ hp => have := ih (k + 1) h.2 p hp; omega
   cases hp with
   | head => exact ⟨h.1.2, if_pos rfl⟩
   | tail _ hp =>
     obtain ⟨g1, g2⟩ := ih h.2 p hp
     have := low r (k + 1) h.2 p hp
     refine ⟨g1, ?_⟩
     simp only [lk]
     rw [if_neg (by omega)]
     exact g2
theorem FM_all {n : Nat} {m : List (Nat × AV)} (n0 : Nat) (h : incK n 0 m = true) : ((FM n m).all fun v => v.top.isSome || decide (v.refs ≤ n0)) = allM n0 m := by
 have e : allM n0 m = m.all fun p => p.2.top.isSome || decide (p.2.refs ≤ n0) := by
  clear h
  induction m with
  | nil => rfl
  | cons p r ih => obtain ⟨k, v⟩ := p; simp [allM, ih]
 rw [e, Bool.eq_iff_iff, List.all_eq_true, List.all_eq_true]
 constructor
 ·intro H p hp
  obtain ⟨h1, h2⟩ := lk_of_mem h p hp
  rw [← h2]
  exact H _ (List.mem_map.2 ⟨p.1, by simpa using h1, rfl⟩)
 ·intro H v hv
  obtain ⟨t, _, rfl⟩ := List.mem_map.1 hv
  rcases lk_mem (t := t) h with e | ⟨p, hp, e⟩
  ·rw [e]; simp [AV.refs]
  ·rw [← e]; exact H p hp
def oldK (n0 : Nat) : List AObj → List Nat → List Nat
 | [], acc => acc
 | o :: r, acc => if lowCells n0 o = true then oldK n0 r acc else oldK n0 r (keeps n0 (objCells o) acc)
def oldAll (n0 : Nat) : List AObj → Bool
 | [] => true
 | o :: r => (lowCells n0 o || (objCells o).all (topLow n0)) && oldAll n0 r
def oldLow (n0 : Nat) : List AObj → Bool
 | [] => true
 | o :: r => lowCells n0 o && oldLow n0 r
def oldRen (n0 : Nat) (ks : List Nat) : List AObj → List AObj
 | [] => []
 | o :: r => (if lowCells n0 o = true then o else renObj n0 ks o) :: oldRen n0 ks r
theorem keeps_low {n0 : Nat} : ∀ {l : List AV} {acc : List Nat}, (l.all fun v => decide (v.refs ≤ n0)) = true → keeps n0 l acc = acc
 | [], acc, _ => rfl
 | v :: r, acc, h => by
   rw [List.all_cons, Bool.and_eq_true] at h
   simp only [keeps]
   split
   ·rename_i id ht
    have hlt : id + 1 ≤ n0 := by
     have := of_decide_eq_true h.1
     cases v <;> simp only [AV.top, Option.some.injEq, reduceCtorEq] at ht <;> subst ht <;> exact this
    rw [if_neg (by omega)]
    exact keeps_low h.2
   ·exact keeps_low h.2
theorem keeps_old (n0 : Nat) : ∀ (os : List AObj) (acc : List Nat), keeps n0 (oldCells os) acc = oldK n0 os acc
 | [], acc => rfl
 | o :: r, acc => by
   rw [oldCells, keeps_append, oldK]
   split
   ·rename_i h
    rw [keeps_low h]
    exact keeps_old n0 r acc
   ·exact keeps_old n0 r _
theorem all_old (n0 : Nat) : ∀ os : List AObj, (oldCells os).all (topLow n0) = oldAll n0 os
 | [] => rfl
 | o :: r => by
   rw [oldCells, List.all_append, all_old n0 r, oldAll]
   congr 1
   by_cases h : lowCells n0 o = true
   ·rw [h, Bool.true_or, List.all_eq_true]
    intro v hv
    unfold lowCells at h
    have := List.all_eq_true.1 h v hv
    unfold topLow
    rw [this, Bool.or_true]
   ·rw [Bool.not_eq_true] at h
    rw [h, Bool.false_or]
theorem low_old (n0 : Nat) : ∀ os : List AObj, os.all (lowCells n0) = oldLow n0 os
 | [] => rfl
 | o :: r => by rw [List.all_cons, low_old n0 r, oldLow]
theorem ren_old (n0 : Nat) (ks : List Nat) : ∀ os : List AObj, os.map (renObj n0 ks) = oldRen n0 ks os
 | [] => rfl
 | o :: r => by
   rw [List.map_cons, ren_old n0 ks r, oldRen]
   congr 1
   split
   ·rename_i h; exact renObj_low h
   ·rfl
theorem lowCells_row (n0 : Nat) (cs : List AV) : lowCells n0 (.row cs) = decide (AV.refsL cs ≤ n0) := by
 show (cs.all fun v => decide (v.refs ≤ n0)) = _
 rw [Bool.eq_iff_iff, List.all_eq_true, decide_eq_true_eq]
 constructor
 ·intro h
  exact AV.refsL_le fun v hv => by simpa using h v hv
 ·intro h v hv
  have := AV.refsL_mem hv
  simp only [decide_eq_true_eq]
  omega
theorem lowCells_map (n0 : Nat) (es : List (AV × AV)) : lowCells n0 (.map es) = es.all fun e => decide (e.1.refs ≤ n0) && decide (e.2.refs ≤ n0) := by
 show ((es.flatMap fun e => [e.1, e.2]).all fun v => decide (v.refs ≤ n0)) = _
 induction es with
 | nil => rfl
 | cons e r ih => rw [List.flatMap_cons, List.all_append, ih]; simp
theorem lowCells_dead (n0 : Nat) : lowCells n0 .dead = true := rfl
theorem gc_FM (n0 : Nat) {n : Nat} {m : List (Nat × AV)} (nx : Nat) (os : List AObj) (wl md : Nat) (hs : incK n 0 m = true) : gc n0 (FM n m) ⟨nx, os, wl, md⟩ =
 if n0 ≤ wl then
  match objsAt ⟨nx, os, wl, md⟩ n0 (keeps n0 (snds m) []) with
  | some ks => if n0 ≤ wl ∧ n0 ≤ nx ∧ allM n0 m = true then
   (FM n (renM n0 (keeps n0 (snds m) []) m), ⟨n0 + ks.length, ks.reverse ++ os.drop (nx - n0), wl, md⟩) else (FM n m, ⟨nx, os, wl, md⟩)
  | none => (FM n m, ⟨nx, os, wl, md⟩)
 else
  match objsAt ⟨nx, os, wl, md⟩ n0 (oldK n0 (os.drop (nx - n0)) (keeps n0 (snds m) [])) with
  | some ks => if n0 ≤ nx ∧ allM n0 m = true ∧ oldAll n0 (os.drop (nx - n0)) = true ∧ oldLow n0 ((os.drop (nx - n0)).drop (n0 - wl)) = true then
   (FM n (renM n0 (oldK n0 (os.drop (nx - n0)) (keeps n0 (snds m) [])) m),
    ⟨n0 + ks.length, ks.reverse ++ oldRen n0 (oldK n0 (os.drop (nx - n0)) (keeps n0 (snds m) [])) (os.drop (nx - n0)), wl, min md wl⟩) else (FM n m, ⟨nx, os, wl, md⟩)
  | none => (FM n m, ⟨nx, os, wl, md⟩) := by
 have hk : keeps n0 (FM n m) [] = keeps n0 (snds m) [] := by
  have := keeps_FM n0 n 0 m [] (by rw [Nat.zero_add]; exact hs)
  rw [← List.range_eq_range'] at this
  exact this
 have ha : (FM n m).all (topLow n0) = allM n0 m := FM_all n0 hs
 unfold gc
 split
 ·unfold gc1
  rw [hk, FM_all n0 hs, FM_ren]
  rfl
 ·unfold gc2
  dsimp only
  rw [hk, ha, FM_ren, all_old, low_old, ren_old, keeps_old]
  rfl
theorem gc_FM0 (n0 n nx : Nat) (os : List AObj) (wl md : Nat) (hw : n0 ≤ wl) : gc n0 (FM n []) ⟨nx, os, wl, md⟩ = if n0 ≤ wl ∧ n0 ≤ nx then (FM n [], ⟨n0, os.drop (nx - n0), wl, md⟩) else (FM n [], ⟨nx, os, wl, md⟩) := by
 rw [gc_FM (m := []) n0 nx os wl md rfl]
 simp [keeps, snds, objsAt, allM, renM, hw]
end Sz
