import Derived.Test.YtlakiipofcibhaaGreatDoorAt
import Derived.Test.YtlakiipofcibhaaGreatDoorSd
set_option linter.unusedVariables false
set_option linter.unusedSimpArgs false
set_option linter.unusedSectionVars false
set_option maxHeartbeats 16000000
set_option maxRecDepth 100000

namespace Go.Proofs.YtlakiipofcibhaaGreatDoor
open Go Sz Srt
attribute [local simp] evCall_specK callS_nilK callS_oneFK spK_sK spK_nK frK_sK frK_nK evB_fmK
def keyT (x : Tm) : Tm := x.args.headD zeroT
def keyE1 (x : Tm) : Int := if x.kind = 0 then 6 else if x.kind = 1 ∨ ¬ x.name = [45] ∨ ¬ x.args.length = 2 then 5 else 0
def keyE : List Tm → Int
 | [] => 0
 | x :: r => if keyE1 x = 0 then keyE r else keyE1 x
theorem keyE_cons (x : Tm) (r : List Tm) : keyE (x :: r) = if keyE1 x = 0 then keyE r else keyE1 x := rfl
theorem keyE1_zero {x : Tm} (h : keyE1 x = 0) : ∃ k m s a b, x = .mk k m s [a, b] := by
 unfold keyE1 at h
 split at h
 ·cases h
 ·split at h
  ·cases h
  ·rename_i h2
   have h3 : x.args.length = 2 := Classical.not_not.1 fun h => h2 (.inr (.inr h))
   cases x with
   | nl k m s => cases h3
   | mk k m s us =>
     match us, h3 with
     | [a, b], _ => exact ⟨k, m, s, a, b, rfl⟩
theorem keyE_zero : ∀ {l : List Tm}, keyE l = 0 → ∀ x ∈ l, keyE1 x = 0
 | [], _, x, hx => by cases hx
 | y :: r, h, x, hx => by
   rw [keyE_cons] at h
   split at h
   ·rename_i h1
    rcases List.mem_cons.1 hx with rfl | hx
    ·exact h1
    ·exact keyE_zero h x hx
   ·contradiction
def kcmpS : KSpec := ⟨60, fun | [a, b] => (match decTm a, decTm b with | some x, some y => (match x.args, y.args with | p :: _, q :: _ => if p.bulk < 1000000000 ∧ q.bulk < 1000000000 then some (.int .i64 (if goodT p && goodT q then cmpT p q else 0)) else none | _, _ => none) | _, _ => none) | _ => none⟩
theorem kcmpS_f : kcmpS.f = 60 := (rfl)
theorem kcmpS_at (x y p q : Tm) (r s : List Tm) (hx : x.args = p :: r) (hy : y.args = q :: s) (h : p.bulk < 1000000000 ∧ q.bulk < 1000000000) : kcmpS.S [x.enc, y.enc] = some (.int .i64 (if goodT p && goodT q then cmpT p q else 0)) := by
 simp only [kcmpS, decTm_enc, hx, hy, if_pos h]
theorem kcmpS_ok : KSpecOK Tryz.prog kcmpS := fun args v hv => by
 unfold kcmpS at hv ⊢
 dsimp only at hv ⊢
 split at hv
 ·rename_i a b
  split at hv
  ·rename_i x y ha hb
   split at hv
   ·rename_i p _ q _ hx hy
    split at hv
    ·rename_i hc
     cases hv
     rw [decTm_eq ha, decTm_eq hb]
     refine prim_of (n := 5) (h' := h0) (envOf_ok (ss := [cmpS]) (by simp [cmpS_ok])) ?_ rfl (by simp [AV.refsL, Tm.enc_refs])
     have hq := cmpS_at p q hc
     have hpe := Tm.enc_eq p
     have hpc := Tm.cells_is p
     have hpr := argV_refs p
     have hqe := Tm.enc_eq q
     have hqc := Tm.cells_is q
     have hqr := argV_refs q
     cases x with
     | nl k m s => cases hx
     | mk k m s us =>
       cases y with
       | nl k2 m2 s2 => cases hy
       | mk k2 m2 s2 ws =>
         simp only [Tm.args] at hx hy
         subst hx hy
         rename_i r1 r2
         have h5 := encs_refs r1
         have h6 := encs_refs r2
         have e1 : (Tm.mk k m s (p :: r1)).enc = .agg [.int .i64 k, .int .i64 m, .str s, .sl (p.enc :: r1.map Tm.enc)] := by simp [Tm.enc, Tm.encL, encL_map]
         have e2 : (Tm.mk k2 m2 s2 (q :: r2)).enc = .agg [.int .i64 k2, .int .i64 m2, .str s2, .sl (q.enc :: r2.map Tm.enc)] := by simp [Tm.enc, Tm.encL, encL_map]
         rw [e1, e2]
         rw [hpe, hpc, hqe, hqc] at hq
         rw [hpe, hpc, hqe, hqc]
         generalize hR : (if goodT p && goodT q then cmpT p q else 0 : Int) = R at hq ⊢
         simp [run60, c60, hpr, hqr, h5, h6, frz_argV, cmpS_f, hq]
    ·cases hv
   ·cases hv
  ·cases hv
 ·cases hv
def ordK (x y : Tm) : Int := cmpT (keyT x) (keyT y)
theorem ordK_ord (o : Ord cmpT) : Ord ordK := ⟨fun x y => o.anti (keyT x) (keyT y), fun x y z => o.trans (keyT x) (keyT y) (keyT z)⟩
def okK (x : Tm) : Prop := okT x ∧ keyE1 x = 0
theorem okT_arg {k m : Int} {s : List UInt8} {a b : Tm} (h : okT (.mk k m s [a, b])) : okT a := by
 obtain ⟨h1, h2⟩ := h
 unfold goodT at h1
 simp only [Bool.and_eq_true, decide_eq_true_eq] at h1
 have h3 : (Tm.mk k m s [a, b]).size = 1 + (a.size + b.size) := by simp [Tm.size, Tm.sizeL]
 have h4 : (Tm.mk k m s [a, b]).depth = max a.depth b.depth + 1 := by simp [Tm.depth, Tm.depthL]; omega
 have h5 : (Tm.mk k m s [a, b]).allT oneK = (oneK (.mk k m s [a, b]) && (a.allT oneK && (b.allT oneK && true))) := by simp [Tm.allT, Tm.allL]
 have h6 : a.bulk + b.bulk ≤ (Tm.mk k m s [a, b]).bulk := by simp [Tm.bulk, Tm.bulkL]
 rw [h5] at h1
 simp only [Bool.and_eq_true] at h1
 refine ⟨?_, by omega⟩
 unfold goodT
 simp only [Bool.and_eq_true, decide_eq_true_eq]
 exact ⟨⟨by omega, by omega⟩, h1.2.2.1⟩
theorem cmpAt60 (ss : List KSpec) (n : Nat) (h60 : lookF (ss ++ clones) 60 = [kcmpS]) (nx V : Nat) (os : List AObj) : CmpAt (evCall (envK ss) (n + 1)) 60 ordK okK nx V os := fun x y hx hy l wl md => by
 obtain ⟨k, m, s, a, b, rfl⟩ := keyE1_zero hx.2
 obtain ⟨k2, m2, s2, a2, b2, rfl⟩ := keyE1_zero hy.2
 have g1 := okT_arg hx.1
 have g2 := okT_arg hy.1
 have hs := kcmpS_at (.mk k m s [a, b]) (.mk k2 m2 s2 [a2, b2]) a a2 [b] [b2] rfl rfl ⟨g1.2, g2.2⟩
 rw [g1.1, g2.1] at hs
 have e : ordK (.mk k m s [a, b]) (.mk k2 m2 s2 [a2, b2]) = cmpT a a2 := rfl
 rw [e]
 simp [h60, -lookF_cons, -clones, enc_frz, hs, kcmpS_f]
theorem c32_loop (C : Nat → List AV → Heap → Option (AV × Heap)) (n : Nat) (us : List Tm) (hl : us.length < 1000000000) (A B1 B2 B3 B4 : AObj) : ∀ (post pre : List Tm) (m md : Nat), us = pre ++ post → post.length < m →
 ∃ md', aft 7 0 (loopH (evCode C n c32_b0) c32_m0 7 m (c32_f0 (.ptr 1 0) (.vec 5 0 us.length 4 us.length) (.vec 5 0 us.length 4 us.length) (.int .i64 us.length) (.int .i64 pre.length)) ⟨7, [B1, .row (flatT us), B2, B3, B4, .row zT, A], 7, md⟩) =
   some (if keyE post = 0 then .exit 0 else .ret, if keyE post = 0 then FM 49 [(2, .ptr 1 0), (4, .vec 5 0 us.length 4 us.length)] else FM 49 [(2, .ptr 1 0), (3, .int .i64 (keyE post))], ⟨7, [B1, .row (flatT us), B2, B3, B4, .row zT, A], 0, md'⟩)
 | [], pre, m + 1, md, e, _ => by
   refine ⟨md, ?_⟩
   simp at e
   subst e
   simp [-ldA, loopH_succ, c32_b0, keyE]
 | x :: post, pre, m + 1, md, e, hm => by
   have hpl : pre.length < us.length := by rw [e]; simp
   have g1 : us[pre.length]? = some x := by rw [e]; simp
   have hld := fun (wl md : Nat) => ldA_row (nx := 7) (V := 5) (os := [B1, .row (flatT us), B2, B3, B4, .row zT, A]) (by omega) (by simp) us pre.length wl md
   simp only [Row, Nat.reduceSub, List.set_cons_succ, List.set_cons_zero, g1, Option.map_some] at hld
   have h6 : ((pre.length : Int) < (us.length : Int)) = True := eq_true (by omega)
   have h3 : IntKind.i64.wrap ((pre.length : Int) + 1) = (pre.length : Int) + 1 := wrap_i64 (by omega) (by omega)
   have hxe := enc_kind x
   have hxr := argV_refs x
   have hxn := argV_lenv x
   have hrow := flatT_get us pre.length
   rw [g1, Option.map_some, hxe] at hrow
   have hlen4 : (pre.length * 4 + 4 ≤ (flatT us).length) = True := eq_true (by rw [flatT_len]; omega)
   rw [if_pos (of_eq_true hlen4)] at hrow
   simp only [Option.some.injEq, AV.agg.injEq] at hrow
   rw [loopH_succ, keyE_cons]
   unfold keyE1
   by_cases k0 : x.kind = 0
   ·refine ⟨min (min md 7) 1, ?_⟩
    simp [c32_b0, h6, g1, hxr, hxn, hrow, hlen4, k0, zT]
   ·by_cases k1 : x.kind = 1
    ·refine ⟨min (min md 7) 1, ?_⟩
     simp [c32_b0, h6, g1, hxr, hxn, hrow, hlen4, k0, k1, zT]
    ·by_cases k2 : x.name = [45]
     ·by_cases k3 : x.args.length = 2
      ·obtain ⟨md', ih⟩ := c32_loop C n us hl A B1 B2 B3 B4 post (pre ++ [x]) m (min md 7) (by simp [e]) (by simp at hm; omega)
       refine ⟨md', ?_⟩
       simp only [List.length_append, List.length_cons, List.length_nil, Nat.zero_add, Int.natCast_add, c32_m0, zT] at ih
       simp [c32_b0, c32_m0, h6, h3, g1, hxr, hxn, hrow, hlen4, k0, k1, k2, k3, zT]
       exact ih
      ·have k3' : ((x.args.length : Int) = 2) = False := eq_false (by omega)
       refine ⟨min (min md 7) 1, ?_⟩
       simp [c32_b0, h6, g1, hxr, hxn, hrow, hlen4, k0, k1, k2, k3, k3', zT]
     ·have k2' : (x.name == [45]) = false := by simpa using k2
      refine ⟨min (min md 7) 1, ?_⟩
      simp [c32_b0, h6, g1, hxr, hxn, hrow, hlen4, k0, k1, k2, k2', zT]
def keysE (t : Tm) : Int := if (sItems t).2 = 0 then keyE (sItems t).1 else (sItems t).2
noncomputable def sortKeys (t : Tm) : Tm := if keysE t = 0 then listT (sortT ordK (sItems t).1) emptyT else zeroT
open Classical in
noncomputable def keysS : KSpec := ⟨32, fun | [v] => (match decTm v with | some t => if t.bulk < 1000000000 ∧ Ord cmpT then some (.tuple [(sortKeys t).enc, .int .i64 (keysE t)]) else none | none => none) | _ => none⟩
theorem keysS_f : keysS.f = 32 := (rfl)
theorem keysS_at (t : Tm) (h : t.bulk < 1000000000) (o : Ord cmpT) : keysS.S [t.enc] = some (.tuple [(sortKeys t).enc, .int .i64 (keysE t)]) := by
 simp only [keysS, decTm_enc]
 exact if_pos ⟨h, o⟩
def ssK : List KSpec := [goodTS, kcmpS, sListS]
theorem ssK_ok : ∀ s ∈ ssK, KSpecOK Tryz.prog s := by simp [ssK, goodTS_ok, kcmpS_ok, sListS_ok]
theorem keysS_ok : KSpecOK Tryz.prog keysS := fun args v hv => by
 unfold keysS at hv ⊢
 dsimp only at hv ⊢
 split at hv
 ·rename_i x
  split at hv
  ·rename_i t ht
   split at hv
   ·rename_i hc
    obtain ⟨hb, o⟩ := hc
    cases hv
    rw [decTm_eq ht]
    have hsb := size_bulk t
    have hrefs : (AV.tuple [(sortKeys t).enc, .int .i64 (keysE t)]).refs = 0 := by simp [AV.refs, AV.refsL, Tm.enc_refs]
    refine prim_of (n := 4 * t.size + 40 + 3) (h' := h0) (envK_okX (X := fun _ => True) (ss := ssK) ssK_ok) ?_ hrefs (by simp [AV.refsL, Tm.enc_refs])
    have hkk : 4 * t.size + 30 < 4 * t.size + 40 := by omega
    generalize 4 * t.size + 40 = k at hkk
    have hxe := Tm.enc_eq t
    have hcl := Tm.cells_is t
    have hxr := argV_refs t
    have ezT : zeroT.enc = .agg [.int .i64 0, .int .i64 0, .str [], .nils] := rfl
    have h32 : lookF (ssK ++ clones) 32 = [] := by rfl
    have h57 : lookF (ssK ++ clones) 57 = [sListS] := by rfl
    unfold sortKeys keysE sItems
    cases hg : goodT t with
    | false =>
      have hi := items_bad ssK k t (.row t.cells) (.row zT) rfl rfl hb hg
      rw [evCall_specK, hxe, hcl] at hi
      rw [hxe, hcl]
      simp only [zT] at hi
      simp [run32K, c32, h32, -lookF_cons, -clones, hxr, hi, ezT]
    | true =>
      by_cases he : tailE (itemsT t).2 = 0
      ·obtain ⟨md, hi⟩ := items_ok ssK (k + 1) t (.row t.cells) (.row zT) rfl rfl rfl hb hg (by omega) he
       obtain ⟨hm1, hm2⟩ := items_mem hb hg
       simp only [he, if_true]
       generalize itemsT t = q at hi hm1 hm2 he
       obtain ⟨us, tl⟩ := q
       dsimp only at hi hm1 hm2 ⊢
       have htc := Tm.cells_is tl
       have htr := argV_refs tl
       cases us with
       | nil =>
         have hz : sortT ordK [] = [] := by
          unfold sortT
          rw [srt_eq (ordK_ord o) (l := [].zipIdx) (m := []) (List.Perm.refl _) (by simp [Sd])]
          rfl
         have hl : (listT [] emptyT).enc = .agg [.int .i64 2, .int .i64 0, .str [91, 93], .nils] := rfl
         have h5 := fun (n nx : Nat) (os : List AObj) (wl md : Nat) => c56_nil ssK n 60 nx os wl md rfl rfl rfl
         obtain ⟨k', rfl⟩ : ∃ q, k = q + 4 := ⟨k - 4, by omega⟩
         have ee : emptyT.enc = .agg [.int .i64 2, .int .i64 0, .str [91, 93], .nils] := rfl
         rw [hz]
         rw [evCall_specK, hxe, hcl] at hi
         rw [hxe, hcl]
         simp only [evCall_specK] at h5
         simp only [zT, vT, iOs, hT, hcl] at hi
         simp [run32K, c32, h32, h57, -lookF_cons, -clones, hxr, hi, h5, c32_m0, c32_b0, loopH_succ, keyE, sListS_nil, sListS_f, hl, ee]
       | cons y r =>
         obtain ⟨md2, hlp⟩ := c32_loop (evCall (envK ssK) (k + 2)) (k + 2) (y :: r) (by simp at hm2 ⊢; omega) (.row t.cells) (.row tl.cells) (.row tl.cells) (.row tl.cells) (.row t.cells) (y :: r) [] (k + 2) md rfl (by simp at hm2 ⊢; omega)
         simp only [c32_m0, zT, hcl, List.length_nil, List.length_cons] at hlp
         rw [show ((0 : Nat) : Int) = 0 from rfl, show ((r.length + 1 : Nat) : Int) = (r.length : Int) + 1 from rfl] at hlp
         by_cases hk0 : keyE (y :: r) = 0
         ·simp only [hk0, if_true] at hlp ⊢
          obtain ⟨md', q1, q2, q3⟩ := sort_run ssK k 60 ordK (ordK_ord o) okK rfl rfl rfl rfl rfl rfl (fun n nx V os => cmpAt60 ssK n rfl nx V os) y r (by simp at hm2 ⊢; omega) (by simp at hm2 ⊢; omega) (fun x hx => ⟨hm1 x hx, keyE_zero hk0 x hx⟩) tl t [.row zT, .row t.cells] 0 md2 7 rfl rfl
          have hL : (sortT ordK (y :: r)).length < 1000000000 := by simp at hm2; omega
          have hs := sListS_at (sortT ordK (y :: r)) hL
          have hxe2 := (listT (sortT ordK (y :: r)) emptyT).enc_eq
          have hxc2 : (listT (sortT ordK (y :: r)) emptyT).cells = [.int .i64 (listT (sortT ordK (y :: r)) emptyT).kind, .int .i64 (listT (sortT ordK (y :: r)) emptyT).num, .str (listT (sortT ordK (y :: r)) emptyT).name, (listT (sortT ordK (y :: r)) emptyT).argV] := rfl
          have hxr2 := argV_refs (listT (sortT ordK (y :: r)) emptyT)
          have hsc : scal1 (listT (sortT ordK (y :: r)) emptyT).argV = false := by
           cases hz : sortT ordK (y :: r) with
           | nil => rw [hz] at q1; simp at q1
           | cons z q => rfl
          generalize listT (sortT ordK (y :: r)) emptyT = R at hs hxe2 hxc2 hxr2 hsc
          have hf := fun (h : Heap) (n0 d : Nat) (hid : n0 ≤ 5) (hg : h.get 5 = some (.row (flatT (sortT ordK (y :: r))))) => frz_L (lb := r.length + 1) (d := d) (sortT ordK (y :: r)) q1 hid hg
          rw [hxe2, hxc2] at hs ⊢
          rw [evCall_specK, hxe, hcl] at hi
          rw [evCall_specK] at q3
          rw [hxe, hcl]
          simp only [iOs, hT] at q3
          simp only [zT, vT, iOs, hT, hcl] at hi
          simp only [zT, hcl] at q3
          simp [run32K, c32, h32, h57, -lookF_cons, -clones, hxr, hi, c32_m0, hlp, q3, hf, hs, sListS_f, hxr2, hsc, frz_argV]
         ·simp only [hk0, if_false] at hlp ⊢
          rw [evCall_specK, hxe, hcl] at hi
          rw [hxe, hcl]
          simp only [zT, vT, iOs, hT, hcl] at hi
          simp [run32K, c32, h32, -lookF_cons, -clones, hxr, hi, c32_m0, hlp, ezT]
      ·obtain ⟨md, hi⟩ := items_err ssK (k + 1) t (.row t.cells) (.row zT) rfl rfl rfl hb hg (by omega) he
       simp only [he, if_false, if_true]
       generalize itemsT t = q at hi he
       obtain ⟨us, tl⟩ := q
       dsimp only at hi he ⊢
       have he' : (tailE tl = 0) = False := eq_false he
       have htc := Tm.cells_is tl
       have htr := argV_refs tl
       cases us with
       | nil =>
         rw [evCall_specK, hxe, hcl] at hi
         rw [hxe, hcl]
         simp only [zT, iOs, hT, hcl] at hi
         simp [run32K, c32, h32, -lookF_cons, -clones, hxr, hi, ezT, he']
       | cons y r =>
         rw [evCall_specK, hxe, hcl] at hi
         rw [hxe, hcl]
         simp only [zT, iOs, hT, hcl] at hi
         simp [run32K, c32, h32, -lookF_cons, -clones, hxr, hi, ezT, he']
   ·cases hv
  ·cases hv
 ·cases hv
def lenS : KSpec := ⟨33, fun | [v] => (match decTm v with | some t => if t.bulk < 1000000000 then some (.tuple [.int .i64 (sItems t).1.length, .int .i64 (sItems t).2]) else none | none => none) | _ => none⟩
theorem lenS_f : lenS.f = 33 := (rfl)
theorem lenS_at (t : Tm) (h : t.bulk < 1000000000) : lenS.S [t.enc] = some (.tuple [.int .i64 (sItems t).1.length, .int .i64 (sItems t).2]) := by
 simp only [lenS, decTm_enc, if_pos h]
theorem slT_lenv (us : List Tm) (fr : List AV) (h : Heap) (o : Opd) (ho : o.ev fr = slT us) : evOp fr h (.lenv o) = some (.int .i64 us.length, h) := by
 rw [evOp_lenv, ho]
 cases us with
 | nil => rfl
 | cons x r => simp [slT]
theorem lenS_ok : KSpecOK Tryz.prog lenS := fun args v hv => by
 unfold lenS at hv ⊢
 dsimp only at hv ⊢
 split at hv
 ·rename_i x
  split at hv
  ·rename_i t ht
   split at hv
   ·rename_i hl
    cases hv
    rw [decTm_eq ht]
    refine prim_of (n := 5) (h' := h0) (envOf_ok (ss := [sItemsS]) (by simp [sItemsS_ok])) ?_ rfl (by simp [AV.refsL, Tm.enc_refs])
    have c1 := sItemsS_at t hl
    have hxe := Tm.enc_eq t
    have hcl := Tm.cells_is t
    have hxr := argV_refs t
    generalize sItems t = p at c1 ⊢
    obtain ⟨us, e⟩ := p
    dsimp only at c1 ⊢
    have us1 := slT_refs us
    have us2 := slT_cells us
    have us3 := slT_frz us
    have us4 := slT_lenv us
    rw [hxe, hcl] at c1 ⊢
    simp [run33, c33, c1, hxr, us1, us2, us3, us4, frz_argV, sItemsS_f]
   ·cases hv
  ·cases hv
 ·cases hv
end Go.Proofs.YtlakiipofcibhaaGreatDoor
