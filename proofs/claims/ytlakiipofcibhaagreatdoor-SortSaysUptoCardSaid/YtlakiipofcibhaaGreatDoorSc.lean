import Derived.Test.YtlakiipofcibhaaGreatDoorAt
import Derived.Test.YtlakiipofcibhaaGreatDoorTm
import Derived.Test.YtlakiipofcibhaaGreatDoorFn
import Derived.Test.YtlakiipofcibhaaGreatDoorSb
import Derived.Test.YtlakiipofcibhaaGreatDoorLs
set_option linter.unusedVariables false
set_option linter.unusedSimpArgs false
set_option linter.unusedSectionVars false
set_option maxHeartbeats 16000000
set_option maxRecDepth 100000

namespace Go.Proofs.YtlakiipofcibhaaGreatDoor
open Go Sz
def cmpI (a b : Int) : Int := if a < b then -1 else if b < a then 1 else 0
def cmpB (a b : List UInt8) : Int := if Op.bytesLess a b then -1 else if a == b then 0 else 1
def nanS (f : Nat) : KSpec := ⟨f, fun | [.int .i64 _] => some (.bool false) | _ => none⟩
theorem nanS_f (f : Nat) : (nanS f).f = f := (rfl)
theorem nanS_at (f : Nat) (n : Int) : (nanS f).S [.int .i64 n] = some (.bool false) := rfl
theorem nan119_ok : KSpecOK Tryz.prog (nanS 119) := fun args v hv => by
 unfold nanS at hv ⊢
 dsimp only at hv ⊢
 split at hv
 ·rename_i n
  cases hv
  refine prim_of (n := 3) (h' := h0) (envOf_ok (ss := []) (by simp)) ?_ rfl rfl
  simp [run119, c119]
 ·cases hv
theorem nan120_ok : KSpecOK Tryz.prog (nanS 120) := fun args v hv => by
 unfold nanS at hv ⊢
 dsimp only at hv ⊢
 split at hv
 ·rename_i n
  cases hv
  refine prim_of (n := 3) (h' := h0) (envOf_ok (ss := []) (by simp)) ?_ rfl rfl
  simp [run120, c120]
 ·cases hv
def cmpIS (f : Nat) : KSpec := ⟨f, fun | [.int .i64 a, .int .i64 b] => some (.int .i64 (cmpI a b)) | _ => none⟩
theorem cmpIS_f (f : Nat) : (cmpIS f).f = f := (rfl)
theorem cmpIS_at (f : Nat) (a b : Int) : (cmpIS f).S [.int .i64 a, .int .i64 b] = some (.int .i64 (cmpI a b)) := rfl
theorem cmp84_ok : KSpecOK Tryz.prog (cmpIS 84) := fun args v hv => by
 unfold cmpIS at hv ⊢
 dsimp only at hv ⊢
 split at hv
 ·rename_i a b
  cases hv
  refine prim_of (n := 4) (h' := h0) (envOf_ok (ss := [nanS 119]) (by simp [nan119_ok])) ?_ rfl rfl
  unfold cmpI
  by_cases c1 : a < b
  ·simp [run84, c84, nanS_f, nanS_at, c1]
  ·by_cases c2 : b < a
   ·simp [run84, c84, nanS_f, nanS_at, c1, c2]
   ·simp [run84, c84, nanS_f, nanS_at, c1, c2]
 ·cases hv
theorem cmp86_ok : KSpecOK Tryz.prog (cmpIS 86) := fun args v hv => by
 unfold cmpIS at hv ⊢
 dsimp only at hv ⊢
 split at hv
 ·rename_i a b
  cases hv
  refine prim_of (n := 4) (h' := h0) (envOf_ok (ss := [nanS 120]) (by simp [nan120_ok])) ?_ rfl rfl
  unfold cmpI
  by_cases c1 : a < b
  ·simp [run86, c86, nanS_f, nanS_at, c1]
  ·by_cases c2 : b < a
   ·simp [run86, c86, nanS_f, nanS_at, c1, c2]
   ·simp [run86, c86, nanS_f, nanS_at, c1, c2]
 ·cases hv
def nanB : KSpec := ⟨121, fun | [.str _] => some (.bool false) | _ => none⟩
theorem nanB_f : nanB.f = 121 := (rfl)
theorem nanB_at (s : List UInt8) : nanB.S [.str s] = some (.bool false) := rfl
theorem nanB_ok : KSpecOK Tryz.prog nanB := fun args v hv => by
 unfold nanB at hv ⊢
 dsimp only at hv ⊢
 split at hv
 ·rename_i n
  cases hv
  refine prim_of (n := 3) (h' := h0) (envOf_ok (ss := []) (by simp)) ?_ rfl rfl
  simp [run121, c121]
 ·cases hv
def cmpBS : KSpec := ⟨87, fun | [.str a, .str b] => some (.int .i64 (cmpB a b)) | _ => none⟩
theorem cmpBS_f : cmpBS.f = 87 := (rfl)
theorem cmpBS_at (a b : List UInt8) : cmpBS.S [.str a, .str b] = some (.int .i64 (cmpB a b)) := rfl
theorem cmpBS_ok : KSpecOK Tryz.prog cmpBS := fun args v hv => by
 unfold cmpBS at hv ⊢
 dsimp only at hv ⊢
 split at hv
 ·rename_i a b
  cases hv
  refine prim_of (n := 4) (h' := h0) (envOf_ok (ss := [nanB]) (by simp [nanB_ok])) ?_ rfl rfl
  unfold cmpB
  cases c1 : Op.bytesLess a b with
  | true => simp [run87, c87, nanB_f, nanB_at, c1]
  | false =>
    cases c2 : (a == b) with
    | true => simp [run87, c87, nanB_f, nanB_at, c1, c2]
    | false => simp [run87, c87, nanB_f, nanB_at, c1, c2]
 ·cases hv
def placeK (t : Tm) : Int := if (t.kind = 2 ∧ t.args.length = 0) ∨ t.kind < 2 then t.kind else 3
def placeS : KSpec := ⟨85, fun | [v] => (decTm v).map fun t => .int .i64 (placeK t) | _ => none⟩
theorem placeS_f : placeS.f = 85 := (rfl)
theorem placeS_at (t : Tm) : placeS.S [t.enc] = some (.int .i64 (placeK t)) := by simp only [placeS, decTm_enc, Option.map_some]
theorem argV_lenv (t : Tm) (fr : List AV) (h : Heap) (o : Opd) (ho : o.ev fr = t.argV) : evOp fr h (.lenv o) = some (.int .i64 t.args.length, h) := by
 rw [evOp_lenv, ho]
 cases t with
 | nl k n s => rfl
 | mk k n s us => simp [Tm.argV, Tm.args]
theorem placeS_ok : KSpecOK Tryz.prog placeS := fun args v hv => by
 unfold placeS at hv ⊢
 dsimp only at hv ⊢
 split at hv
 ·rename_i x
  obtain ⟨t, ht, rfl⟩ := Option.map_eq_some_iff.1 hv
  rw [decTm_eq ht]
  refine prim_of (n := 4) (h' := h0) (envOf_ok (ss := []) (by simp)) ?_ rfl (by simp [AV.refsL, Tm.enc_refs])
  have hxe := Tm.enc_eq t
  have hxc := Tm.cells_is t
  have hxr := argV_refs t
  have hl := argV_lenv t
  unfold placeK
  rw [hxe, hxc]
  by_cases c1 : t.kind = 2
  ·by_cases c2 : t.args.length = 0
   ·simp [run85, c85, hxr, hl, c1, c2]
   ·have c2' : ((t.args.length : Int) = 0) = False := eq_false (by omega)
    simp [run85, c85, hxr, hl, c1, c2, c2']
  ·by_cases c2 : t.kind < 2
   ·simp [run85, c85, hxr, hl, c1, c2]
   ·simp [run85, c85, hxr, hl, c1, c2]
 ·cases hv
def orL : List Int → Int
 | [] => 0
 | x :: r => if x = 0 then orL r else x
def orS : KSpec := ⟨83, fun | [.sl [.int .i64 a, .int .i64 b, .int .i64 c, .int .i64 d]] => some (.int .i64 (orL [a, b, c, d])) | _ => none⟩
theorem orS_f : orS.f = 83 := (rfl)
theorem orS_at (a b c d : Int) : orS.S [.sl [.int .i64 a, .int .i64 b, .int .i64 c, .int .i64 d]] = some (.int .i64 (orL [a, b, c, d])) := rfl
theorem wr1 : IntKind.i64.wrap 1 = 1 := by decide
theorem wr2 : IntKind.i64.wrap 2 = 2 := by decide
theorem wr3 : IntKind.i64.wrap 3 = 3 := by decide
theorem wr4 : IntKind.i64.wrap 4 = 4 := by decide
theorem orS_ok : KSpecOK Tryz.prog orS := fun args v hv => by
 unfold orS at hv ⊢
 dsimp only at hv ⊢
 split at hv
 ·rename_i a b c d
  cases hv
  refine prim_of (n := 8) (h' := h0) (envOf_ok (ss := []) (by simp)) ?_ rfl rfl
  by_cases c1 : a = 0
  ·by_cases c2 : b = 0
   ·by_cases c3 : c = 0
    ·by_cases c4 : d = 0
     ·simp [run83, c83, c83_m0, c83_b0, loopH_succ, orL, c1, c2, c3, c4, wr1, wr2, wr3, wr4]
     ·simp [run83, c83, c83_m0, c83_b0, loopH_succ, orL, c1, c2, c3, c4, wr1, wr2, wr3, wr4]
    ·simp [run83, c83, c83_m0, c83_b0, loopH_succ, orL, c1, c2, c3, wr1, wr2, wr3, wr4]
   ·simp [run83, c83, c83_m0, c83_b0, loopH_succ, orL, c1, c2, wr1, wr2, wr3, wr4]
  ·simp [run83, c83, c83_m0, c83_b0, loopH_succ, orL, c1, wr1, wr2, wr3, wr4]
 ·cases hv
mutual
def cmpT : Tm → Tm → Int
 | .nl k n s, b => orL [cmpI (placeK (.nl k n s)) (placeK b), cmpI n b.num, cmpI 0 b.args.length, cmpB s b.name]
 | .mk k n s us, b => if orL [cmpI (placeK (.mk k n s us)) (placeK b), cmpI n b.num, cmpI us.length b.args.length, cmpB s b.name] = 0 then cmpL us b.args else orL [cmpI (placeK (.mk k n s us)) (placeK b), cmpI n b.num, cmpI us.length b.args.length, cmpB s b.name]
def cmpL : List Tm → List Tm → Int
 | [], ws => if ws.isEmpty then 0 else -1
 | x :: r, ws => match ws with
   | [] => 1
   | y :: q => if cmpT x y = 0 then cmpL r q else cmpT x y
end
def headC (a b : Tm) : Int := orL [cmpI (placeK a) (placeK b), cmpI a.num b.num, cmpI a.args.length b.args.length, cmpB a.name b.name]
theorem cmpL_nil (ws : List Tm) : cmpL [] ws = if ws.isEmpty then 0 else -1 := by simp [cmpL]
theorem cmpL_cons (x y : Tm) (r q : List Tm) : cmpL (x :: r) (y :: q) = if cmpT x y = 0 then cmpL r q else cmpT x y := by simp [cmpL]
theorem orL_len {a b : Int} {c d : Int} (h : orL [a, b, c, d] = 0) : c = 0 := by
 unfold orL at h
 split at h
 ·unfold orL at h
  split at h
  ·unfold orL at h
   split at h
   ·assumption
   ·contradiction
  ·contradiction
 ·contradiction
theorem cmpI_zero {a b : Int} : cmpI a b = 0 ↔ a = b := by
 unfold cmpI
 split
 ·omega
 ·split <;> omega
theorem cmpT_eq (a b : Tm) : cmpT a b = if headC a b = 0 then cmpL a.args b.args else headC a b := by
 cases a with
 | nl k n s =>
   rw [cmpT]
   have e : orL [cmpI (placeK (.nl k n s)) (placeK b), cmpI n b.num, cmpI 0 b.args.length, cmpB s b.name] = headC (.nl k n s) b := rfl
   rw [e]
   split
   ·rename_i h
    have hl : cmpI 0 (b.args.length : Int) = 0 := orL_len h
    rw [cmpI_zero] at hl
    have : b.args = [] := List.eq_nil_of_length_eq_zero (by omega)
    rw [h, this]
    simp [cmpL_nil, Tm.args]
   ·rfl
 | mk k n s us =>
   rw [cmpT]
   rfl
def cmpKS (N : Nat) : KSpec := ⟨59, fun | [a, b] => (match decTm a, decTm b with | some x, some y => if x.size < N ∧ y.size < 1000000000 then some (.int .i64 (cmpT x y)) else none | _, _ => none) | _ => none⟩
theorem cmpKS_f (N : Nat) : (cmpKS N).f = 59 := (rfl)
theorem cmpKS_at (N : Nat) (x y : Tm) (h : x.size < N ∧ y.size < 1000000000) : (cmpKS N).S [x.enc, y.enc] = some (.int .i64 (cmpT x y)) := by
 simp only [cmpKS, decTm_enc, if_pos h]
theorem c88_loop (n N : Nat) (us ws : List Tm) (hl : us.length = ws.length) (hN : N ≤ 1000000000) (h1 : Tm.sizeL us < N) (h2 : Tm.sizeL ws < 1000000000) : ∀ (post postw pre prew : List Tm) (k : Nat), us = pre ++ post → ws = prew ++ postw → pre.length = prew.length → post.length < k →
 aft 0 0 (loopH (evCode (evCall (envOf [cmpKS N]) (n + 1)) (n + 1) c88_b0) c88_m0 0 k (c88_f0 (.sl (us.map Tm.enc)) (.sl (ws.map Tm.enc)) (.fn 59 []) (.sl (us.map Tm.enc)) (.int .i64 us.length) (.int .i64 pre.length)) ⟨0, [], 0, 0⟩) =
  some (if cmpL post postw = 0 then .exit 0 else .ret, if cmpL post postw = 0 then FM 39 [(0, .sl (us.map Tm.enc)), (1, .sl (ws.map Tm.enc))] else FM 39 [(6, .int .i64 (cmpL post postw))], ⟨0, [], 0, 0⟩)
 | [], [], pre, prew, k + 1, e, e2, hp, _ => by
   simp at e
   subst e
   have h5 : AV.refsL (us.map Tm.enc) = 0 := encs_refs _
   have h6 : AV.refsL (ws.map Tm.enc) = 0 := encs_refs _
   simp [loopH_succ, c88_b0, h5, h6, cmpL_nil]
 | [], y :: postw, pre, prew, k, e, e2, hp, _ => by
   rw [e, e2] at hl
   simp at hl
   omega
 | x :: post, [], pre, prew, k + 1, e, e2, hp, _ => by
   rw [e, e2] at hl
   simp at hl
   omega
 | x :: post, y :: postw, pre, prew, k + 1, e, e2, hp, hk => by
   have ih := c88_loop n N us ws hl hN h1 h2 post postw (pre ++ [x]) (prew ++ [y]) k (by simp [e]) (by simp [e2]) (by simp [hp]) (by rw [List.length_cons] at hk; omega)
   have hlu := len_sizeL us
   have g1 : us[pre.length]? = some x := by rw [e]; simp
   have g2 : ws[pre.length]? = some y := by rw [e2, hp]; simp
   have h5 : AV.refsL (us.map Tm.enc) = 0 := encs_refs _
   have h5w : AV.refsL (ws.map Tm.enc) = 0 := encs_refs _
   have hpl : pre.length < us.length := by rw [e]; simp
   have h6 : ((pre.length : Int) < (us.length : Int)) = True := eq_true (by omega)
   have h6w : ((ws.length : Int) ≤ (pre.length : Int)) = False := eq_false (by omega)
   have h6v : (ws.length ≤ pre.length) = False := eq_false (by omega)
   have h3 : IntKind.i64.wrap ((pre.length : Int) + 1) = (pre.length : Int) + 1 := wrap_i64 (by omega) (by omega)
   have hxe := Tm.enc_eq x
   have hxc := Tm.cells_is x
   have hxr := argV_refs x
   have hye := Tm.enc_eq y
   have hyc := Tm.cells_is y
   have hyr := argV_refs y
   have hs := cmpKS_at N x y ⟨by have := sizeL_mem (us := us) (y := x) (by rw [e]; simp); omega, by have := sizeL_mem (us := ws) (y := y) (by rw [e2]; simp); omega⟩
   rw [hxe, hxc, hye, hyc] at hs
   simp only [List.length_append, List.length_cons, List.length_nil, Nat.zero_add] at ih
   rw [show ((pre.length + 1 : Nat) : Int) = (pre.length : Int) + 1 by omega] at ih
   rw [loopH_succ, cmpL_cons]
   by_cases hsm : cmpT x y = 0
   ·rw [hsm] at hs
    simp [c88_b0, c88_m0, g1, g2, h3, h5, h5w, h6, h6w, h6v, hxe, hxc, hxr, hye, hyc, hyr, hs, frz_argV, cmpKS_f, hsm]
    exact ih
   ·have hsm' : (cmpT x y = 0) = False := eq_false hsm
    simp [c88_b0, g1, g2, h5, h5w, h6, h6w, h6v, hxe, hxc, hxr, hye, hyc, hyr, hs, frz_argV, cmpKS_f, hsm']
def cmpLS (N : Nat) : KSpec := ⟨88, fun | [a, b, .fn 59 []] => (match decArgs a, decArgs b with | some us, some ws => if us.length = ws.length ∧ Tm.sizeL us < N ∧ Tm.sizeL ws < 1000000000 then some (.int .i64 (cmpL us ws)) else none | _, _ => none) | _ => none⟩
theorem cmpLS_f (N : Nat) : (cmpLS N).f = 88 := (rfl)
theorem cmpLS_at (N : Nat) (x y : Tm) (h : x.args.length = y.args.length ∧ Tm.sizeL x.args < N ∧ Tm.sizeL y.args < 1000000000) : (cmpLS N).S [x.argV, y.argV, .fn 59 []] = some (.int .i64 (cmpL x.args y.args)) := by
 simp only [cmpLS, decArgs_argV, if_pos h]
theorem cmpLS_ok (N : Nat) (hN : N ≤ 1000000000) (hp : KSpecOK Tryz.prog (cmpKS N)) : KSpecOK Tryz.prog (cmpLS N) := fun args v hv => by
 unfold cmpLS at hv
 dsimp only at hv
 split at hv
 ·rename_i a b
  split at hv
  ·rename_i us ws ha hb
   split at hv
   ·rename_i hc
    cases hv
    rw [cmpLS_f]
    have hra := decArgs_refs ha
    have hrb := decArgs_refs hb
    refine prim_of (n := us.length + 4) (h' := h0) (envOf_ok (ss := [cmpKS N]) (by simp [hp])) ?_ rfl (by simp [AV.refsL, AV.refs, hra, hrb])
    have hl := hc.1
    by_cases hne : us = []
    ·subst hne
     have hw : ws = [] := List.eq_nil_of_length_eq_zero (by simpa using hl.symm)
     subst hw
     rcases decArgs_inv ha with ⟨rfl, _⟩ | rfl <;> rcases decArgs_inv hb with ⟨rfl, _⟩ | rfl <;> simp [run88, c88, c88_m0, c88_b0, loopH_succ, cmpKS_f, cmpL_nil]
    ·have ha' : a = .sl (us.map Tm.enc) := by
      rcases decArgs_inv ha with ⟨_, h⟩ | h
      ·exact absurd h hne
      ·exact h
     have hb' : b = .sl (ws.map Tm.enc) := by
      rcases decArgs_inv hb with ⟨_, h⟩ | h
      ·subst h
       exact absurd (List.eq_nil_of_length_eq_zero (by simpa using hl)) hne
      ·exact h
     subst ha' hb'
     have lp := c88_loop (us.length + 2) N us ws hl hN hc.2.1 hc.2.2 us ws [] [] (us.length + 3) rfl rfl rfl (by omega)
     simp only [List.length_nil, c88_m0, show ((0 : Nat) : Int) = 0 from rfl] at lp
     have h5 : AV.refsL (us.map Tm.enc) = 0 := encs_refs _
     have h6 : AV.refsL (ws.map Tm.enc) = 0 := encs_refs _
     have hl' : ((us.length : Int) < (ws.length : Int)) = False := eq_false (by omega)
     have hl'' : (us.length < ws.length) = False := eq_false (by omega)
     by_cases hsm : cmpL us ws = 0
     ·rw [hsm] at lp
      simp only [if_true] at lp
      simp [run88, c88, c88_m0, h5, h6, hl', hl'', lp, cmpKS_f, hsm]
     ·simp only [hsm, if_false] at lp
      simp [run88, c88, c88_m0, h5, h6, lp, cmpKS_f]
   ·cases hv
  ·cases hv
 ·cases hv
theorem cmpKS_step (N : Nat) (hN : N ≤ 1000000000) (hp : KSpecOK Tryz.prog (cmpKS N)) : KSpecOK Tryz.prog (cmpKS (N + 1)) := fun args v hv => by
 unfold cmpKS at hv
 dsimp only at hv
 split at hv
 ·rename_i a b
  split at hv
  ·rename_i x y ha hb
   split at hv
   ·rename_i hc
    cases hv
    rw [cmpKS_f, decTm_eq ha, decTm_eq hb]
    refine prim_of (n := 5) (h' := h0) (envOf_ok (ss := [cmpLS N, placeS, cmpIS 84, cmpIS 86, cmpBS, orS]) (by simp [cmpLS_ok N hN hp, placeS_ok, cmp84_ok, cmp86_ok, cmpBS_ok, orS_ok])) ?_ rfl (by simp [AV.refsL, Tm.enc_refs])
    have s1 := size_args x
    have s2 := size_args y
    have hxe := Tm.enc_eq x
    have hxc := Tm.cells_is x
    have hxr := argV_refs x
    have hye := Tm.enc_eq y
    have hyc := Tm.cells_is y
    have hyr := argV_refs y
    have px := placeS_at x
    have py := placeS_at y
    have lx := argV_lenv x
    have ly := argV_lenv y
    rw [cmpT_eq]
    have hd : headC x y = orL [cmpI (placeK x) (placeK y), cmpI x.num y.num, cmpI x.args.length y.args.length, cmpB x.name y.name] := rfl
    rw [hxe, hxc] at px ⊢
    rw [hye, hyc] at py ⊢
    by_cases c1 : headC x y = 0
    ·have hl := orL_len (hd ▸ c1)
     rw [cmpI_zero] at hl
     have hq := cmpLS_at N x y ⟨by omega, by omega, by omega⟩
     rw [hd] at c1 ⊢
     simp [run59, c59, hxr, hyr, frz_argV, px, py, lx, ly, placeS_f, cmpIS_f, cmpIS_at, cmpBS_f, cmpBS_at, orS_f, orS_at, cmpLS_f, c1, hq]
    ·rw [hd] at c1 ⊢
     simp [run59, c59, hxr, hyr, frz_argV, px, py, lx, ly, placeS_f, cmpIS_f, cmpIS_at, cmpBS_f, cmpBS_at, orS_f, orS_at, cmpLS_f, c1]
   ·cases hv
  ·cases hv
 ·cases hv
theorem cmpKS_zero : KSpecOK Tryz.prog (cmpKS 0) := fun args v hv => by
 unfold cmpKS at hv
 dsimp only at hv
 split at hv
 ·split at hv
  ·split at hv
   ·rename_i hc
    omega
   ·cases hv
  ·cases hv
 ·cases hv
theorem cmpKS_all : ∀ N, N ≤ 1000000001 → KSpecOK Tryz.prog (cmpKS N)
 | 0, _ => cmpKS_zero
 | N + 1, h => cmpKS_step N (by omega) (cmpKS_all N (by omega))
def cmpS : KSpec := ⟨31, fun | [a, b] => (match decTm a, decTm b with | some x, some y => if x.bulk < 1000000000 ∧ y.bulk < 1000000000 then some (.int .i64 (if goodT x && goodT y then cmpT x y else 0)) else none | _, _ => none) | _ => none⟩
theorem cmpS_f : cmpS.f = 31 := (rfl)
theorem cmpS_at (x y : Tm) (h : x.bulk < 1000000000 ∧ y.bulk < 1000000000) : cmpS.S [x.enc, y.enc] = some (.int .i64 (if goodT x && goodT y then cmpT x y else 0)) := by
 simp only [cmpS, decTm_enc, if_pos h]
theorem cmpS_ok : KSpecOK Tryz.prog cmpS := fun args v hv => by
 unfold cmpS at hv ⊢
 dsimp only at hv ⊢
 split at hv
 ·rename_i a b
  split at hv
  ·rename_i x y ha hb
   split at hv
   ·rename_i hc
    cases hv
    rw [decTm_eq ha, decTm_eq hb]
    refine prim_of (n := 5) (h' := h0) (envOf_ok (ss := [goodTS, cmpKS 1000000000]) (by simp [goodTS_ok, cmpKS_all 1000000000 (by omega)])) ?_ rfl (by simp [AV.refsL, Tm.enc_refs])
    have b1 := size_bulk x
    have b2 := size_bulk y
    have g1 := goodTS_at x hc.1
    have g2 := goodTS_at y hc.2
    have hq := cmpKS_at 1000000000 x y ⟨by omega, by omega⟩
    have hxe := Tm.enc_eq x
    have hxc := Tm.cells_is x
    have hxr := argV_refs x
    have hye := Tm.enc_eq y
    have hyc := Tm.cells_is y
    have hyr := argV_refs y
    rw [hxe, hxc] at g1 hq ⊢
    rw [hye, hyc] at g2 hq ⊢
    cases e1 : goodT x with
    | false =>
      rw [e1] at g1
      simp [run31, c31, g1, hxr, hyr, frz_argV, goodTS_f, cmpKS_f]
    | true =>
      rw [e1] at g1
      cases e2 : goodT y with
      | false =>
        rw [e2] at g2
        simp [run31, c31, g1, g2, hxr, hyr, frz_argV, goodTS_f, cmpKS_f]
      | true =>
        rw [e2] at g2
        simp [run31, c31, g1, g2, hq, hxr, hyr, frz_argV, goodTS_f, cmpKS_f]
   ·cases hv
  ·cases hv
 ·cases hv
def tailE (t : Tm) : Int := if t.kind = 0 then 6 else if t.kind = 1 ∨ ¬ t.name = [91, 93] ∨ 0 < t.args.length then 5 else 0
def sItems (t : Tm) : List Tm × Int := if goodT t then (if tailE (itemsT t).2 = 0 then ((itemsT t).1, 0) else ([], tailE (itemsT t).2)) else ([], 1)
def sItemsS : KSpec := ⟨30, fun | [v] => (match decTm v with | some t => if t.bulk < 1000000000 then some (.tuple [slT (sItems t).1, .int .i64 (sItems t).2]) else none | none => none) | _ => none⟩
theorem sItemsS_f : sItemsS.f = 30 := (rfl)
theorem sItemsS_at (t : Tm) (h : t.bulk < 1000000000) : sItemsS.S [t.enc] = some (.tuple [slT (sItems t).1, .int .i64 (sItems t).2]) := by
 simp only [sItemsS, decTm_enc, if_pos h]
theorem slT0 : slT [] = .nils := (rfl)
theorem slT_cells (us : List Tm) : (slT us).cells? = some [slT us] := by cases us <;> rfl
theorem slT_frz (us : List Tm) (h : Heap) (n0 d : Nat) : frz h n0 (d + 1) (slT us) = some (slT us, []) := by cases us <;> rfl
theorem sItemsS_ok : KSpecOK Tryz.prog sItemsS := fun args v hv => by
 unfold sItemsS at hv ⊢
 dsimp only at hv ⊢
 split at hv
 ·rename_i x
  split at hv
  ·rename_i t ht
   split at hv
   ·rename_i hl
    cases hv
    rw [decTm_eq ht]
    refine prim_of (n := 5) (h' := h0) (envOf_ok (ss := [goodTS, itemsS]) (by simp [goodTS_ok, itemsS_ok])) ?_ (by simp [AV.refs, AV.refsL, slT_refs]) (by simp [AV.refsL, Tm.enc_refs])
    have c1 := goodTS_at t (by omega)
    have c2 := itemsS_at t (by omega)
    have hxe := Tm.enc_eq t
    have hcl := Tm.cells_is t
    have hxr := argV_refs t
    unfold sItems
    cases hg : goodT t with
    | false =>
      rw [hg] at c1
      rw [hxe, hcl] at c1 ⊢
      simp [run30, c30, c1, hxr, frz_argV, goodTS_f, itemsS_f, slT0]
    | true =>
      rw [hg] at c1
      unfold itemsG at c2
      rw [hg] at c2
      simp only [if_true] at c2 ⊢
      generalize itemsT t = p at c2
      obtain ⟨us, tl⟩ := p
      dsimp only at c2 ⊢
      have htl := Tm.enc_eq tl
      have htc := Tm.cells_is tl
      have htr := argV_refs tl
      have htn := argV_lenv tl
      have us1 := slT_refs us
      have us2 := slT_cells us
      have us3 := slT_frz us
      rw [hxe, hcl] at c1 c2 ⊢
      rw [htl, htc] at c2
      unfold tailE
      by_cases k0 : tl.kind = 0
      ·simp [run30, c30, c1, c2, hxr, htr, htn, us1, us2, us3, frz_argV, goodTS_f, itemsS_f, slT0, k0]
      ·by_cases k1 : tl.kind = 1
       ·simp [run30, c30, c1, c2, hxr, htr, htn, us1, us2, us3, frz_argV, goodTS_f, itemsS_f, slT0, k0, k1]
       ·by_cases k2 : tl.name = [91, 93]
        ·by_cases k3 : 0 < tl.args.length
         ·have k3' : ((0 : Int) < (tl.args.length : Int)) = True := eq_true (by omega)
          simp [run30, c30, c1, c2, hxr, htr, htn, us1, us2, us3, frz_argV, goodTS_f, itemsS_f, slT0, k0, k1, k2, k3, k3']
         ·have k3' : tl.args.length = 0 := by omega
          simp [run30, c30, c1, c2, hxr, htr, htn, us1, us2, us3, frz_argV, goodTS_f, itemsS_f, slT0, k0, k1, k2, k3, k3']
        ·have k2' : (tl.name == [91, 93]) = false := by simpa using k2
         simp [run30, c30, c1, c2, hxr, htr, htn, us1, us2, us3, frz_argV, goodTS_f, itemsS_f, slT0, k0, k1, k2, k2']
   ·cases hv
  ·cases hv
 ·cases hv
end Go.Proofs.YtlakiipofcibhaaGreatDoor

namespace Go.Proofs.YtlakiipofcibhaaGreatDoor
open Go Sz Srt
attribute [local simp] evCall_specK callS_nilK callS_oneFK spK_sK spK_nK frK_sK frK_nK evB_fmK
theorem c35_loopB (X0 X1 X2 : AObj) (C : Nat → List AV → Heap → Option (AV × Heap)) (n : Nat) : ∀ (k : Nat) (t : Tm) (acc : List Tm) (m : Nat), t.size ≤ k → acc ≠ [] → acc.length + t.size ≤ 1000000000 → k < m →
 ∃ md, aft 5 3 (loopH (evCode C n c35_b0) c35_m0 5 m (c35_f0 (.ptr 3 0) (.vec 5 0 acc.length 4 acc.length) (.ptr 4 0)) ⟨6, [.row (flatT acc), .row zT, .row t.cells, X0, X1, X2], 5, 3⟩) =
   some (.exit 0, FM 35 [(1, .ptr 3 0), (2, .vec 5 0 (acc ++ (itemsT t).1).length 4 (acc ++ (itemsT t).1).length), (3, .ptr 4 0)], ⟨6, [.row (flatT (acc ++ (itemsT t).1)), .row zT, .row (itemsT t).2.cells, X0, X1, X2], 3, md⟩)
 | 0, t, acc, m, h, _, _, _ => by have := size_args t; omega
 | k + 1, t, acc, m + 1, h, hne, hs, hm => by
   have hf := flatT_refs acc
   rw [loopH_succ]
   cases hd : isDot t with
   | false =>
     rw [items_end hd]
     cases t with
     | nl kk nn ss =>
       have hc : (Tm.nl kk nn ss).cells = [.int .i64 kk, .int .i64 nn, .str ss, .nils] := rfl
       by_cases h1 : kk = 2
       ·subst h1
        cases h2 : (ss == [46]) with
        | false => exact ⟨3, by simp [c35_b0, c35_m0, hc, h2, hf]⟩
        | true => exact ⟨3, by simp [c35_b0, c35_m0, hc, h2, hf]⟩
       ·exact ⟨3, by simp [c35_b0, c35_m0, hc, h1, hf]⟩
     | mk kk nn ss us =>
       have hc : (Tm.mk kk nn ss us).cells = [.int .i64 kk, .int .i64 nn, .str ss, .sl (us.map Tm.enc)] := rfl
       have hr := encs_refs us
       by_cases h1 : kk = 2
       ·subst h1
        cases h2 : (ss == [46]) with
        | false => exact ⟨3, by simp [c35_b0, c35_m0, hc, h2, hf, hr]⟩
        | true =>
          have h3 : ((us.length : Int) = 2) = False := eq_false fun e => by
           have h2' := eq_of_beq h2
           simp [isDot, Tm.kind, Tm.name, Tm.args, h2'] at hd
           exact of_decide_eq_false hd (by omega)
          exact ⟨3, by simp [c35_b0, c35_m0, hc, h2, h3, hf, hr]⟩
       ·exact ⟨3, by simp [c35_b0, c35_m0, hc, h1, hf, hr]⟩
   | true =>
     obtain ⟨x, r, ha, e⟩ := items_isDot hd
     have hsz := size_args t
     rw [ha] at hsz
     simp only [Tm.sizeL] at hsz
     cases t with
     | nl kk nn ss => cases ha
     | mk kk nn ss us =>
       simp only [Tm.args] at ha
       subst ha
       simp only [isDot, Bool.and_eq_true] at hd
       obtain ⟨⟨hd1, hd2⟩, _⟩ := hd
       obtain rfl : kk = 2 := of_decide_eq_true hd1
       obtain rfl : ss = [46] := of_decide_eq_true hd2
       obtain ⟨md, ih⟩ := c35_loopB X0 X1 X2 C n k r (acc ++ [x]) m (by omega) (by simp) (by simp; omega) (by omega)
       refine ⟨md, ?_⟩
       rw [e]
       have hc : (Tm.mk 2 nn [46] [x, r]).cells = [.int .i64 2, .int .i64 nn, .str [46], .sl [x.enc, r.enc]] := rfl
       have hxe := Tm.enc_eq x
       have hxc := Tm.cells_is x
       have hxr := argV_refs x
       have hre := Tm.enc_eq r
       have hrc := Tm.cells_is r
       have hrr := argV_refs r
       have hf2 : AV.refsL (flatT acc ++ x.cells) = 0 := by rw [← flatT_snoc]; exact flatT_refs _
       rw [hxc] at hf2
       have h8 : (acc.length + 1) * 56 ≤ 140737488355328 := by omega
       have h9 : acc.length + 1 < 9223372036854775808 := by omega
       have h10 : (flatT acc).take (acc.length * 4) = flatT acc := by rw [List.take_of_length_le]; rw [flatT_len]; exact Nat.le_refl _
       have h11 := flatT_len acc
       simp only [flatT_snoc, List.length_append, List.length_cons, List.length_nil, Nat.zero_add, hrc, hxc] at ih
       simp [c35_b0, c35_m0, hc, hxe, hxc, hxr, hre, hrc, hrr, hf, hf2, h8, h9, h10, h11, elemsA]
       refine Eq.trans ih ?_
       simp [flatT, hxc, Nat.add_comm, Nat.add_left_comm, Nat.add_assoc]
theorem c35_loopB0 (X0 X1 X2 : AObj) (C : Nat → List AV → Heap → Option (AV × Heap)) (n : Nat) (t : Tm) (m : Nat) (hs : t.size ≤ 999999999) (hm : t.size < m) :
 ∃ md, aft 5 3 (loopH (evCode C n c35_b0) c35_m0 5 m (c35_f0 (.ptr 3 0) .nils (.ptr 4 0)) ⟨5, [.row zT, .row t.cells, X0, X1, X2], 5, 3⟩) =
   some (.exit 0, FM 35 [(1, .ptr 3 0), (2, vT 5 (itemsT t).1), (3, .ptr 4 0)], ⟨(hT (itemsT t).1 [.row zT, .row (itemsT t).2.cells, X0, X1, X2]).length, hT (itemsT t).1 [.row zT, .row (itemsT t).2.cells, X0, X1, X2], 3, md⟩) := by
 cases m with
 | zero => omega
 | succ m =>
   rw [loopH_succ]
   cases hd : isDot t with
   | false =>
     rw [items_end hd]
     cases t with
     | nl kk nn ss =>
       have hc : (Tm.nl kk nn ss).cells = [.int .i64 kk, .int .i64 nn, .str ss, .nils] := rfl
       by_cases h1 : kk = 2
       ·subst h1
        cases h2 : (ss == [46]) with
        | false => exact ⟨3, by simp [c35_b0, c35_m0, hc, h2, vT, hT]⟩
        | true => exact ⟨3, by simp [c35_b0, c35_m0, hc, h2, vT, hT]⟩
       ·exact ⟨3, by simp [c35_b0, c35_m0, hc, h1, vT, hT]⟩
     | mk kk nn ss us =>
       have hc : (Tm.mk kk nn ss us).cells = [.int .i64 kk, .int .i64 nn, .str ss, .sl (us.map Tm.enc)] := rfl
       have hr := encs_refs us
       by_cases h1 : kk = 2
       ·subst h1
        cases h2 : (ss == [46]) with
        | false => exact ⟨3, by simp [c35_b0, c35_m0, hc, h2, hr, vT, hT]⟩
        | true =>
          have h3 : ((us.length : Int) = 2) = False := eq_false fun e => by
           have h2' := eq_of_beq h2
           simp [isDot, Tm.kind, Tm.name, Tm.args, h2'] at hd
           exact of_decide_eq_false hd (by omega)
          exact ⟨3, by simp [c35_b0, c35_m0, hc, h2, h3, hr, vT, hT]⟩
       ·exact ⟨3, by simp [c35_b0, c35_m0, hc, h1, hr, vT, hT]⟩
   | true =>
     obtain ⟨x, r, ha, e⟩ := items_isDot hd
     have hsz := size_args t
     rw [ha] at hsz
     simp only [Tm.sizeL] at hsz
     cases t with
     | nl kk nn ss => cases ha
     | mk kk nn ss us =>
       simp only [Tm.args] at ha
       subst ha
       simp only [isDot, Bool.and_eq_true] at hd
       obtain ⟨⟨hd1, hd2⟩, _⟩ := hd
       obtain rfl : kk = 2 := of_decide_eq_true hd1
       obtain rfl : ss = [46] := of_decide_eq_true hd2
       obtain ⟨md, ih⟩ := c35_loopB X0 X1 X2 C n r.size r [x] m (Nat.le_refl _) (by simp) (by simp; omega) (by omega)
       refine ⟨md, ?_⟩
       rw [e]
       have hc : (Tm.mk 2 nn [46] [x, r]).cells = [.int .i64 2, .int .i64 nn, .str [46], .sl [x.enc, r.enc]] := rfl
       have hxe := Tm.enc_eq x
       have hxc := Tm.cells_is x
       have hxr := argV_refs x
       have hre := Tm.enc_eq r
       have hrc := Tm.cells_is r
       have hrr := argV_refs r
       simp only [flatT, List.flatMap_cons, List.flatMap_nil, List.append_nil, List.length_append, List.length_cons, List.length_nil, Nat.zero_add, hrc, hxc] at ih
       simp [c35_b0, c35_m0, hc, hxe, hxc, hxr, hre, hrc, hrr, elemsA]
       refine Eq.trans ih ?_
       simp [vT, hT, flatT, hxc, Nat.add_comm, Nat.add_left_comm, Nat.add_assoc]
theorem enc_frz (x : Tm) (h : Heap) (n0 d : Nat) : frz h n0 (d + 2) x.enc = some (x.enc, []) := by
 have e := x.enc_eq
 have f := frz_argV h n0 d x
 rw [e]
 simp [Tm.cells, f]
def iOs (t tl : Tm) (us : List Tm) (B : List AObj) : List AObj := .row tl.cells :: hT us (.row tl.cells :: .row tl.cells :: .row t.cells :: B)
theorem items_ok (ss : List KSpec) (n : Nat) (t : Tm) (A0 A1 : AObj) (h27 : lookF (ss ++ clones) 27 = [goodTS]) (h35 : lookF (ss ++ clones) 35 = []) (h30 : lookF (ss ++ clones) 30 = []) (hb : t.bulk < 1000000000) (hg : goodT t = true) (hn : t.size + 3 < n) (he : tailE (itemsT t).2 = 0) :
 ∃ md, evCall (envK ss) (n + 1) 30 [t.enc] ⟨2, [A1, A0], 0, 0⟩ = some (.tuple [vT 5 (itemsT t).1, .int .i64 0], ⟨(iOs t (itemsT t).2 (itemsT t).1 [A1, A0]).length, iOs t (itemsT t).2 (itemsT t).1 [A1, A0], 0, md⟩) := by
 obtain ⟨m, rfl⟩ : ∃ q, n = q + 2 := ⟨n - 2, by omega⟩
 have hsb := size_bulk t
 have c1 := goodTS_at t hb
 rw [hg] at c1
 have hxe := Tm.enc_eq t
 have hcl := Tm.cells_is t
 have hxr := argV_refs t
 obtain ⟨md, eq⟩ := c35_loopB0 (.row t.cells) A1 A0 (evCall (envK ss) (m + 1)) (m + 1) t (m + 1) (by omega) (by omega)
 generalize itemsT t = p at eq he
 obtain ⟨us, tl⟩ := p
 dsimp only at eq he ⊢
 have htl := Tm.enc_eq tl
 have htc := Tm.cells_is tl
 have htr := argV_refs tl
 have htn := argV_lenv tl
 unfold tailE at he
 have k0 : ¬ tl.kind = 0 := by intro h; rw [if_pos h] at he; cases he
 rw [if_neg k0] at he
 have k1 : ¬ (tl.kind = 1 ∨ ¬ tl.name = [91, 93] ∨ 0 < tl.args.length) := by intro h; rw [if_pos h] at he; cases he
 have k2 : ¬ tl.kind = 1 := fun h => k1 (.inl h)
 have k3 : tl.name = [91, 93] := Classical.not_not.1 fun h => k1 (.inr (.inl h))
 have k4 : tl.args.length = 0 := Nat.eq_zero_of_not_pos fun h => k1 (.inr (.inr h))
 rw [hxe, hcl] at c1 ⊢
 rw [hcl] at eq
 simp only [c35_m0, zT] at eq
 unfold iOs
 rw [hcl, htc]
 rw [htc] at eq
 refine ⟨0, ?_⟩
 cases us with
 | nil =>
   simp only [vT, hT, List.length_cons, List.length_nil] at eq
   simp [run30K, c30k, c30, run35K, c35k, c35, c35_m0, c1, hxr, htr, htn, frz_argV, goodTS_f, eq, h27, h30, h35, -lookF_cons, -clones, finish_keep, k0, k2, k3, k4, vT, hT]
 | cons y r =>
   simp only [vT, hT, List.length_cons, List.length_nil] at eq
   simp [run30K, c30k, c30, run35K, c35k, c35, c35_m0, c1, hxr, htr, htn, frz_argV, goodTS_f, eq, h27, h30, h35, -lookF_cons, -clones, finish_keep, k0, k2, k3, k4, vT, hT]
theorem items_bad (ss : List KSpec) (n : Nat) (t : Tm) (A0 A1 : AObj) (h27 : lookF (ss ++ clones) 27 = [goodTS]) (h30 : lookF (ss ++ clones) 30 = []) (hb : t.bulk < 1000000000) (hg : goodT t = false) :
 evCall (envK ss) (n + 2) 30 [t.enc] ⟨2, [A1, A0], 0, 0⟩ = some (.tuple [.nils, .int .i64 1], ⟨3, [.row t.cells, A1, A0], 0, 0⟩) := by
 have c1 := goodTS_at t hb
 rw [hg] at c1
 have hxe := Tm.enc_eq t
 have hcl := Tm.cells_is t
 have hxr := argV_refs t
 rw [hxe, hcl] at c1 ⊢
 simp [run30K, c30k, c30, c1, hxr, frz_argV, goodTS_f, h27, h30, -lookF_cons, -clones, finish_keep]
theorem items_err (ss : List KSpec) (n : Nat) (t : Tm) (A0 A1 : AObj) (h27 : lookF (ss ++ clones) 27 = [goodTS]) (h35 : lookF (ss ++ clones) 35 = []) (h30 : lookF (ss ++ clones) 30 = []) (hb : t.bulk < 1000000000) (hg : goodT t = true) (hn : t.size + 3 < n) (he : ¬ tailE (itemsT t).2 = 0) :
 ∃ md, evCall (envK ss) (n + 1) 30 [t.enc] ⟨2, [A1, A0], 0, 0⟩ = some (.tuple [.nils, .int .i64 (tailE (itemsT t).2)], ⟨(iOs t (itemsT t).2 (itemsT t).1 [A1, A0]).length, iOs t (itemsT t).2 (itemsT t).1 [A1, A0], 0, md⟩) := by
 obtain ⟨m, rfl⟩ : ∃ q, n = q + 2 := ⟨n - 2, by omega⟩
 have hsb := size_bulk t
 have c1 := goodTS_at t hb
 rw [hg] at c1
 have hxe := Tm.enc_eq t
 have hcl := Tm.cells_is t
 have hxr := argV_refs t
 obtain ⟨md, eq⟩ := c35_loopB0 (.row t.cells) A1 A0 (evCall (envK ss) (m + 1)) (m + 1) t (m + 1) (by omega) (by omega)
 generalize itemsT t = p at eq he
 obtain ⟨us, tl⟩ := p
 dsimp only at eq he ⊢
 have htl := Tm.enc_eq tl
 have htc := Tm.cells_is tl
 have htr := argV_refs tl
 have htn := argV_lenv tl
 rw [hxe, hcl] at c1 ⊢
 rw [hcl] at eq
 simp only [c35_m0, zT] at eq
 unfold iOs
 rw [hcl, htc]
 rw [htc] at eq
 refine ⟨0, ?_⟩
 unfold tailE at he ⊢
 cases us with
 | nil =>
   simp only [vT, hT, List.length_cons, List.length_nil] at eq
   by_cases k0 : tl.kind = 0
   ·simp [run30K, c30k, c30, run35K, c35k, c35, c35_m0, c1, hxr, htr, htn, frz_argV, goodTS_f, eq, h27, h30, h35, -lookF_cons, -clones, finish_keep, k0, vT, hT]
   ·by_cases k1 : tl.kind = 1
    ·simp [run30K, c30k, c30, run35K, c35k, c35, c35_m0, c1, hxr, htr, htn, frz_argV, goodTS_f, eq, h27, h30, h35, -lookF_cons, -clones, finish_keep, k0, k1, vT, hT]
    ·by_cases k2 : tl.name = [91, 93]
     ·by_cases k3 : 0 < tl.args.length
      ·have k3' : ((0 : Int) < (tl.args.length : Int)) = True := eq_true (by omega)
       simp [run30K, c30k, c30, run35K, c35k, c35, c35_m0, c1, hxr, htr, htn, frz_argV, goodTS_f, eq, h27, h30, h35, -lookF_cons, -clones, finish_keep, k0, k1, k2, k3, k3', vT, hT]
      ·exfalso
       rw [if_neg k0, if_neg (fun h => by rcases h with h | h | h <;> contradiction)] at he
       exact he rfl
     ·have k2' : (tl.name == [91, 93]) = false := by simpa using k2
      simp [run30K, c30k, c30, run35K, c35k, c35, c35_m0, c1, hxr, htr, htn, frz_argV, goodTS_f, eq, h27, h30, h35, -lookF_cons, -clones, finish_keep, k0, k1, k2, k2', vT, hT]
 | cons y r =>
   simp only [vT, hT, List.length_cons, List.length_nil] at eq
   by_cases k0 : tl.kind = 0
   ·simp [run30K, c30k, c30, run35K, c35k, c35, c35_m0, c1, hxr, htr, htn, frz_argV, goodTS_f, eq, h27, h30, h35, -lookF_cons, -clones, finish_keep, k0, vT, hT]
   ·by_cases k1 : tl.kind = 1
    ·simp [run30K, c30k, c30, run35K, c35k, c35, c35_m0, c1, hxr, htr, htn, frz_argV, goodTS_f, eq, h27, h30, h35, -lookF_cons, -clones, finish_keep, k0, k1, vT, hT]
    ·by_cases k2 : tl.name = [91, 93]
     ·by_cases k3 : 0 < tl.args.length
      ·have k3' : ((0 : Int) < (tl.args.length : Int)) = True := eq_true (by omega)
       simp [run30K, c30k, c30, run35K, c35k, c35, c35_m0, c1, hxr, htr, htn, frz_argV, goodTS_f, eq, h27, h30, h35, -lookF_cons, -clones, finish_keep, k0, k1, k2, k3, k3', vT, hT]
      ·exfalso
       rw [if_neg k0, if_neg (fun h => by rcases h with h | h | h <;> contradiction)] at he
       exact he rfl
     ·have k2' : (tl.name == [91, 93]) = false := by simpa using k2
      simp [run30K, c30k, c30, run35K, c35k, c35, c35_m0, c1, hxr, htr, htn, frz_argV, goodTS_f, eq, h27, h30, h35, -lookF_cons, -clones, finish_keep, k0, k1, k2, k2', vT, hT]
noncomputable def sortT (c : Tm → Tm → Int) (us : List Tm) : List Tm := fs (srt c us.zipIdx)
theorem zip_up : ∀ (us : List Tm) (k : Nat), Up (us.zipIdx k) ∧ ∀ x ∈ us.zipIdx k, k ≤ x.2
 | [], k => ⟨List.Pairwise.nil, fun x h => by cases h⟩
 | y :: r, k => by
   obtain ⟨h1, h2⟩ := zip_up r (k + 1)
   rw [List.zipIdx_cons]
   refine ⟨List.pairwise_cons.2 ⟨fun x hx => ?_, h1⟩, fun x hx => ?_⟩
   ·have := h2 x hx
    show k < x.2
    omega
   ·rcases List.mem_cons.1 hx with rfl | hx
    ·exact Nat.le_refl _
    ·have := h2 x hx
     omega
theorem fs_zip (us : List Tm) (k : Nat) : fs (us.zipIdx k) = us := List.zipIdx_map_fst k us
def emptyT : Tm := .nl 2 0 [91, 93]
def sListS : KSpec := ⟨57, fun | [.nils] => some emptyT.enc | [.sl xs] => (match decTms xs with | some us => if us.length < 1000000000 then some (listT us emptyT).enc else none | none => none) | _ => none⟩
theorem sListS_f : sListS.f = 57 := (rfl)
theorem sListS_nil : sListS.S [.nils] = some emptyT.enc := rfl
theorem sListS_at (us : List Tm) (h : us.length < 1000000000) : sListS.S [.sl (us.map Tm.enc)] = some (listT us emptyT).enc := by
 have e : decTms (us.map Tm.enc) = some us := by rw [← encL_map, decTms_enc]
 simp only [sListS, e, if_pos h]
theorem list_nil (t : Tm) : listS.S [.nils, t.enc] = some t.enc := by
 simp [listS, decTm_enc, listT]
theorem sListS_ok : KSpecOK Tryz.prog sListS := fun args v hv => by
 have ea : emptyT.enc = .agg [.int .i64 2, .int .i64 0, .str [91, 93], .nils] := rfl
 unfold sListS at hv ⊢
 dsimp only at hv ⊢
 split at hv
 ·cases hv
  refine prim_of (n := 4) (h' := h0) (envOf_ok (ss := [atomS, listS]) (by simp [atomS_ok, listS_ok])) ?_ (Tm.enc_refs _) rfl
  have h1 := list_nil emptyT
  rw [ea] at h1 ⊢
  simp [run57, c57, atomS_f, atomS_at, listS_f, h1]
 ·rename_i xs
  split at hv
  ·rename_i us hu
   split at hv
   ·rename_i hl
    cases hv
    rw [decTms_eq hu]
    refine prim_of (n := 4) (h' := h0) (envOf_ok (ss := [atomS, listS]) (by simp [atomS_ok, listS_ok])) ?_ (Tm.enc_refs _) (by simp [AV.refsL, AV.refs, encs_refs])
    have h1 := listS_at us emptyT (by omega)
    have hxe := (listT us emptyT).enc_eq
    have hxc : (listT us emptyT).cells = [.int .i64 (listT us emptyT).kind, .int .i64 (listT us emptyT).num, .str (listT us emptyT).name, (listT us emptyT).argV] := rfl
    have hxr := argV_refs (listT us emptyT)
    have hr := encs_refs us
    rw [hxe, hxc, ea] at h1
    rw [hxe, hxc]
    simp [run57, c57, atomS_f, atomS_at, listS_f, h1, hr, hxr, frz_argV]
   ·cases hv
  ·cases hv
 ·cases hv
theorem c56_nil (ss : List KSpec) (n f nx : Nat) (os : List AObj) (wl md : Nat) (h56 : lookF (ss ++ clones) 56 = []) (h82 : lookF (ss ++ clones) 82 = []) (h117 : lookF (ss ++ clones) 117 = []) : evCall (envK ss) (n + 6) 56 [.nils, .fn f []] ⟨nx, os, wl, md⟩ = some (.tuple [], ⟨nx, os, wl, md⟩) := by
 have c1 : ((20 : Int) ≤ 0) = False := eq_false (by omega)
 have c2 : ((20 : Int) < 0) = False := eq_false (by omega)
 have c3 : ((1 : Int) < 0) = False := eq_false (by omega)
 have w1 : IntKind.i64.wrap (0 + 1) = 1 := by decide
 simp [run56K, c56, run82K, c82, c82_m0, c82_m2, c82_b0, c82_b2, run117K, c117, c117_m1, c117_b1, loopH_succ, h56, h82, h117, -lookF_cons, -clones, c1, c2, c3, wr1]
theorem cmpAt31 (ss : List KSpec) (n : Nat) (h31 : lookF (ss ++ clones) 31 = [cmpS]) (p : Tm → Prop) (hp : ∀ x, p x → goodT x = true ∧ x.bulk < 1000000000) (nx V : Nat) (os : List AObj) : CmpAt (evCall (envK ss) (n + 1)) 31 cmpT p nx V os := fun x y hx hy l wl md => by
 have hs := cmpS_at x y ⟨(hp x hx).2, (hp y hy).2⟩
 rw [(hp x hx).1, (hp y hy).1] at hs
 simp [h31, -lookF_cons, -clones, enc_frz, hs, cmpS_f]
theorem frz_L {h : Heap} {n0 d id n lb : Nat} (L : List Tm) (hL : L.length = n) (hid : n0 ≤ id) (hg : h.get id = some (.row (flatT L))) :
 frz h n0 (d + 2) (.vec id 0 n 4 lb) = some (.sl (L.map Tm.enc), [id]) :=
 frz_vec hid hg (by omega) (encs_elem L) (by simpa using hL) (by rw [flatT_len]; omega) (by rw [flatT_eq, List.take_of_length_le]; rw [flatT_len]; omega)
def zeroT : Tm := .nl 0 0 []
noncomputable def sortAll (t : Tm) : Tm := if (sItems t).2 = 0 then listT (sortT cmpT (sItems t).1) emptyT else zeroT
open Classical in
noncomputable def allS : KSpec := ⟨28, fun | [v] => (match decTm v with | some t => if t.bulk < 1000000000 ∧ Ord cmpT then some (.tuple [(sortAll t).enc, .int .i64 (sItems t).2]) else none | none => none) | _ => none⟩
theorem allS_f : allS.f = 28 := (rfl)
theorem allS_at (t : Tm) (h : t.bulk < 1000000000) (o : Ord cmpT) : allS.S [t.enc] = some (.tuple [(sortAll t).enc, .int .i64 (sItems t).2]) := by
 simp only [allS, decTm_enc]
 exact if_pos ⟨h, o⟩
def ssS : List KSpec := [goodTS, cmpS, sListS, sameS]
theorem ssS_ok : ∀ s ∈ ssS, KSpecOK Tryz.prog s := by simp [ssS, goodTS_ok, cmpS_ok, sListS_ok, sameS_ok]
def okT (x : Tm) : Prop := goodT x = true ∧ x.bulk < 1000000000
theorem items_in : ∀ (n : Nat) (t : Tm), (∀ x ∈ (itemsF n t).1, x.size ≤ t.size ∧ x.depth ≤ t.depth ∧ (t.allT oneK = true → x.allT oneK = true) ∧ x.bulk ≤ t.bulk) ∧ (itemsF n t).1.length ≤ t.size
 | 0, t => ⟨fun x h => by simp [itemsF] at h, by simp [itemsF]⟩
 | n + 1, t => by
   unfold itemsF
   split
   ·rename_i x r ha
    split
    ·obtain ⟨h1, h2⟩ := items_in n r
     have hs := size_args t
     rw [ha] at hs
     simp only [Tm.sizeL] at hs
     have hmk : ∃ k m s, t = .mk k m s [x, r] := by
      cases t with
      | nl k m s => cases ha
      | mk k m s us => simp only [Tm.args] at ha; subst ha; exact ⟨k, m, s, rfl⟩
     obtain ⟨k, m, s, rfl⟩ := hmk
     have hd : (Tm.mk k m s [x, r]).depth = max x.depth (max r.depth 0) + 1 := by simp [Tm.depth, Tm.depthL]; omega
     have hall : (Tm.mk k m s [x, r]).allT oneK = (oneK (.mk k m s [x, r]) && (x.allT oneK && (r.allT oneK && true))) := by simp [Tm.allT, Tm.allL]
     have hbk : x.bulk + r.bulk ≤ (Tm.mk k m s [x, r]).bulk := by simp [Tm.bulk, Tm.bulkL]
     refine ⟨fun y hy => ?_, by simp; omega⟩
     rcases List.mem_cons.1 hy with rfl | hy
     ·refine ⟨by omega, by omega, fun h => ?_, by omega⟩
      rw [hall] at h
      simp only [Bool.and_eq_true] at h
      exact h.2.1
     ·obtain ⟨g1, g2, g3, g4⟩ := h1 y hy
      refine ⟨by omega, by omega, fun h => g3 ?_, by omega⟩
      rw [hall] at h
      simp only [Bool.and_eq_true] at h
      exact h.2.2.1
    ·exact ⟨fun x h => by simp at h, by simp⟩
   ·exact ⟨fun x h => by simp at h, by simp⟩
theorem items_mem {t : Tm} (hb : t.bulk < 1000000000) (hg : goodT t = true) : (∀ x ∈ (itemsT t).1, okT x) ∧ (itemsT t).1.length ≤ t.size ∧ t.size ≤ 2000 := by
 unfold goodT at hg
 simp only [Bool.and_eq_true, decide_eq_true_eq] at hg
 obtain ⟨h1, h2⟩ := items_in t.size t
 refine ⟨fun x hx => ?_, h2, hg.1.1⟩
 obtain ⟨a, b, c, d⟩ := h1 x hx
 refine ⟨?_, by omega⟩
 unfold goodT
 simp only [Bool.and_eq_true, decide_eq_true_eq]
 exact ⟨⟨by omega, by omega⟩, c hg.2⟩
theorem sort_run (ss : List KSpec) (n f : Nat) (c : Tm → Tm → Int) (o : Ord c) (p : Tm → Prop) (h56 : lookF (ss ++ clones) 56 = []) (h82 : lookF (ss ++ clones) 82 = []) (h117 : lookF (ss ++ clones) 117 = []) (h118 : lookF (ss ++ clones) 118 = []) (h151 : lookF (ss ++ clones) 151 = []) (h165 : lookF (ss ++ clones) 165 = [])
 (hC : ∀ n nx V os, CmpAt (evCall (envK ss) (n + 1)) f c p nx V os) (y : Tm) (r : List Tm) (hN : (y :: r).length < 100000000) (hn : 2 * (y :: r).length + 10 < n) (hp : ∀ x ∈ y :: r, p x) (tl t : Tm) (B : List AObj) (wl md nx : Nat) (hnx : nx = 5 + B.length) (hB : B.length = 2) :
 ∃ md', (sortT c (y :: r)).length = r.length + 1 ∧ (∀ x, x ∈ sortT c (y :: r) ↔ x ∈ y :: r) ∧ evCall (envK ss) (n + 2) 56 [.vec 5 0 (r.length + 1) 4 (r.length + 1), .fn f []] ⟨7, iOs t tl (y :: r) B, wl, md⟩ = some (.tuple [], ⟨7, .row tl.cells :: .row (flatT (sortT c (y :: r))) :: .row tl.cells :: .row tl.cells :: .row t.cells :: B, wl, md'⟩) := by
 have hup := zip_up (y :: r) 0
 obtain ⟨md', W, h1, h2, h3⟩ := c56_ok ss n f c o p 7 5 (iOs t tl (y :: r) B) (by omega) (by simp [iOs, hT]) (r.length + 1) (r.length + 1) hN hn h56 h82 h117 h118 h151 h165 (fun k hk => by
  obtain ⟨k, rfl⟩ : ∃ q, k = q + 1 := ⟨k - 1, by omega⟩
  exact hC k _ _ _) ((y :: r).zipIdx) (by simp) (by rw [fs_zip]; exact hp) hup.1 wl md
 have hw : fs W = sortT c (y :: r) := by
  unfold sortT
  rw [srt_eq o h2 h1]
 rw [fs_zip, hw] at h3
 have hlen : (sortT c (y :: r)).length = r.length + 1 := by rw [← hw, List.length_map, h2.length_eq]; simp
 refine ⟨md', hlen, fun x => ?_, ?_⟩
 ·rw [← hw]
  have := (h2.map (·.1)).mem_iff (a := x)
  rw [this]
  show x ∈ fs _ ↔ _
  rw [fs_zip]
 ·simp only [iOs, hT, Row, Nat.reduceSub, List.set_cons_succ, List.set_cons_zero] at h3 ⊢
  exact h3
theorem allS_ok : KSpecOK Tryz.prog allS := fun args v hv => by
 unfold allS at hv ⊢
 dsimp only at hv ⊢
 split at hv
 ·rename_i x
  split at hv
  ·rename_i t ht
   split at hv
   ·rename_i hc
    obtain ⟨hb, o⟩ := hc
    cases hv
    rw [decTm_eq ht]
    have hsb := size_bulk t
    have hrefs : (AV.tuple [(sortAll t).enc, .int .i64 (sItems t).2]).refs = 0 := by simp [AV.refs, AV.refsL, Tm.enc_refs]
    refine prim_of (n := 4 * t.size + 40 + 3) (h' := h0) (envK_okX (X := fun _ => True) (ss := ssS) ssS_ok) ?_ hrefs (by simp [AV.refsL, Tm.enc_refs])
    have hkk : 4 * t.size + 30 < 4 * t.size + 40 := by omega
    generalize 4 * t.size + 40 = k at hkk
    have hxe := Tm.enc_eq t
    have hcl := Tm.cells_is t
    have hxr := argV_refs t
    have ezT : zeroT.enc = .agg [.int .i64 0, .int .i64 0, .str [], .nils] := rfl
    have h28 : lookF (ssS ++ clones) 28 = [] := by rfl
    have h57 : lookF (ssS ++ clones) 57 = [sListS] := by rfl
    unfold sortAll sItems
    cases hg : goodT t with
    | false =>
      have hi := items_bad ssS k t (.row t.cells) (.row zT) rfl rfl hb hg
      rw [evCall_specK, hxe, hcl] at hi
      rw [hxe, hcl]
      simp only [zT] at hi
      simp [run28K, c28, h28, -lookF_cons, -clones, hxr, hi, ezT]
    | true =>
      by_cases he : tailE (itemsT t).2 = 0
      ·obtain ⟨md, hi⟩ := items_ok ssS (k + 1) t (.row t.cells) (.row zT) rfl rfl rfl hb hg (by omega) he
       obtain ⟨hm1, hm2⟩ := items_mem hb hg
       simp only [he, if_true]
       generalize itemsT t = q at hi hm1 hm2 he
       obtain ⟨us, tl⟩ := q
       dsimp only at hi hm1 hm2 ⊢
       have htc := Tm.cells_is tl
       have htr := argV_refs tl
       cases us with
       | nil =>
         have hz : sortT cmpT [] = [] := by
          unfold sortT
          rw [srt_eq o (l := [].zipIdx) (m := []) (List.Perm.refl _) (by simp [Sd])]
          rfl
         have hl : (listT [] emptyT).enc = .agg [.int .i64 2, .int .i64 0, .str [91, 93], .nils] := rfl
         have h5 := fun (n nx : Nat) (os : List AObj) (wl md : Nat) => c56_nil ssS n 31 nx os wl md rfl rfl rfl
         obtain ⟨k', rfl⟩ : ∃ q, k = q + 4 := ⟨k - 4, by omega⟩
         have ee : emptyT.enc = .agg [.int .i64 2, .int .i64 0, .str [91, 93], .nils] := rfl
         rw [hz]
         rw [evCall_specK, hxe, hcl] at hi
         rw [hxe, hcl]
         simp only [evCall_specK] at h5
         simp only [zT, vT, iOs, hT, hcl] at hi
         simp [run28K, c28, h28, h57, -lookF_cons, -clones, hxr, hi, h5, sListS_nil, sListS_f, hl, ee]
       | cons y r =>
         obtain ⟨md', q1, q2, q3⟩ := sort_run ssS k 31 cmpT o okT rfl rfl rfl rfl rfl rfl (fun n nx V os => cmpAt31 ssS n rfl okT (fun x hx => hx) nx V os) y r (by simp at hm2 ⊢; omega) (by simp at hm2 ⊢; omega) hm1 tl t [.row zT, .row t.cells] 0 md 7 rfl rfl
         have hL : (sortT cmpT (y :: r)).length < 1000000000 := by simp at hm2; omega
         have hs := sListS_at (sortT cmpT (y :: r)) hL
         have hxe2 := (listT (sortT cmpT (y :: r)) emptyT).enc_eq
         have hxc2 : (listT (sortT cmpT (y :: r)) emptyT).cells = [.int .i64 (listT (sortT cmpT (y :: r)) emptyT).kind, .int .i64 (listT (sortT cmpT (y :: r)) emptyT).num, .str (listT (sortT cmpT (y :: r)) emptyT).name, (listT (sortT cmpT (y :: r)) emptyT).argV] := rfl
         have hxr2 := argV_refs (listT (sortT cmpT (y :: r)) emptyT)
         have hsc : scal1 (listT (sortT cmpT (y :: r)) emptyT).argV = false := by
          cases hz : sortT cmpT (y :: r) with
          | nil => rw [hz] at q1; simp at q1
          | cons z q => rfl
         generalize listT (sortT cmpT (y :: r)) emptyT = R at hs hxe2 hxc2 hxr2 hsc
         have hf := fun (h : Heap) (n0 d : Nat) (hid : n0 ≤ 5) (hg : h.get 5 = some (.row (flatT (sortT cmpT (y :: r))))) => frz_L (lb := r.length + 1) (d := d) (sortT cmpT (y :: r)) q1 hid hg
         rw [hxe2, hxc2] at hs ⊢
         rw [evCall_specK, hxe, hcl] at hi
         rw [evCall_specK] at q3
         rw [hxe, hcl]
         simp only [iOs, hT] at q3
         simp only [zT, vT, iOs, hT, hcl] at hi
         simp only [zT, hcl] at q3
         simp [run28K, c28, h28, h57, -lookF_cons, -clones, hxr, hi, q3, hf, hs, sListS_f, hxr2, hsc, frz_argV]
      ·obtain ⟨md, hi⟩ := items_err ssS (k + 1) t (.row t.cells) (.row zT) rfl rfl rfl hb hg (by omega) he
       simp only [he, if_false, if_true]
       generalize itemsT t = q at hi he
       obtain ⟨us, tl⟩ := q
       dsimp only at hi he ⊢
       have he' : (tailE tl = 0) = False := eq_false he
       have htc := Tm.cells_is tl
       have htr := argV_refs tl
       cases us with
       | nil =>
         rw [evCall_specK, hxe, hcl] at hi
         rw [hxe, hcl]
         simp only [zT, iOs, hT, hcl] at hi
         simp [run28K, c28, h28, -lookF_cons, -clones, hxr, hi, ezT, he']
       | cons y r =>
         rw [evCall_specK, hxe, hcl] at hi
         rw [hxe, hcl]
         simp only [zT, iOs, hT, hcl] at hi
         simp [run28K, c28, h28, -lookF_cons, -clones, hxr, hi, ezT, he']
   ·cases hv
  ·cases hv
 ·cases hv
end Go.Proofs.YtlakiipofcibhaaGreatDoor
