import Derived.RangeFuncNested
import Derived.RangeFuncBound
import Derived.RangeFuncCalls
import Derived.RangeFuncLeaves
import Derived.Shelf.Abstract
import Derived.Shelf.RegionOpen
import Derived.WalkKit
import Derived.OwnWalkIn
import Derived.TacticsInMore
import Derived.LoopNIn
import Derived.LoopIn
import Derived.Test.YtleeinkdkllcdaaGreatDoorProg
import Derived.Test.YtleeinkdkllcdaaGreatDoorAt
import Derived.Test.YtleeinkdkllcdaaGreatDoorTm
import Derived.Test.YtleeinkdkllcdaaGreatDoorIter
set_option linter.unusedVariables false
set_option linter.unusedSimpArgs false
set_option linter.unusedSectionVars false
set_option maxHeartbeats 16000000
set_option maxRecDepth 100000

/- slices.Backward's closure: its contract. -/
namespace Go.Proofs.YtleeinkdkllcdaaGreatDoor
open Go Go.RowKit Go.Shelf
attribute [local go_sem] Oper.semAt_some
def IsDown {len : Nat} (xs : List (Fin len)) : Prop := ∀ j (h : j < xs.length), (xs[j]).1 + j + 1 = len
theorem back1_in (F : Fence) (n : Nat) (h64 : F.fn 64) (hro : F.round = none) (hn : 1 ≤ n) (l b o b2 o2 len cap : Nat) (hlen : len ≤ 9223372036854775807) (vs : Nat → Nat → Value) (J Jx : List (Fin len) → World → Prop)
 (hY : ∀ pre x W, J pre W → pre.length < len → YieldAt F (n - 1) Tryz.prog l #[.int .i64 (x.1 : Int), .agg #[vs x.1 0, vs x.1 1, vs x.1 2, vs x.1 3]] W fun e W' =>
  (e = .returned (.bool true) ∧ J (pre ++ [x]) W' ∧ (W'.heap[b]? = W.heap[b]? ∧ W'.heap[b2]? = W.heap[b2]?)) ∨ (e = .returned (.bool false) ∧ Jx (pre ++ [x]) W'))
 (W : World) (hb : W.cell? ⟨b, o, none⟩ = some (.slice (some ⟨b2, o2, none⟩) len cap)) (hc : ∀ k j, k < len → j < 4 → W.cell? ⟨b2, o2 + (k * 4 + j), none⟩ = some (vs k j)) (h0 : J [] W) :
 CallsIn F n Tryz.prog 64 #[.func (.yield l) #[] #[], .pointer (some ⟨b, o, none⟩)] W fun e W' => (∃ v, e = .returned v) ∧
  ((∃ ys, (IsDown ys ∧ ys.length = len) ∧ J ys W') ∨ (∃ pre, True ∧ Jx pre W')) := by
 refine callsIn_of_wp Tryz.func64 rfl h64 ?_ hro
 simp only [Tryz.ntmps64, List.size_toArray, List.length_cons, List.length_nil, Nat.reduceAdd, Nat.reduceSub, Array.replicate_succ, Array.replicate_zero, List.push_toArray, List.append_toArray, List.nil_append, List.cons_append]
 gi_wp2
 gi_loopw [3] (fun i wr => ∃ pre : List (Fin len), IsDown pre ∧ pre.length ≤ len ∧ i = .int .i64 ((len : Int) - 1 - pre.length) ∧ J pre wr ∧ (wr.heap[b]? = W.heap[b]? ∧ wr.heap[b2]? = W.heap[b2]?))
  (fun i _ => (intOf i + 1).toNat)
 case atStart => exact ⟨[], fun j h => by simp at h, Nat.zero_le _, by simp, h0, rfl, rfl⟩
 case round =>
  obtain ⟨pre, hp, hk, rfl, hJs, hs1, hs2⟩ := hrel
  have hbr : wr.cell? ⟨b, o, none⟩ = some (.slice (some ⟨b2, o2, none⟩) len cap) := by
   rw [← hb]
   unfold World.cell?
   rw [hs1]
  by_cases hlt : pre.length < len
  ·obtain ⟨m, hm⟩ : ∃ m, m = len - 1 - pre.length := ⟨_, rfl⟩
   have hml : m < len := by omega
   have hi : (len : Int) - 1 - (pre.length : Int) = (m : Int) := by omega
   rw [hi]
   clear hi
   have hcr : ∀ j, j < 4 → wr.cell? ⟨b2, o2 + m * 4 + j, none⟩ = some (vs m j) := fun j hj => by
    rw [← hc m j hml hj]
    unfold World.cell?
    rw [hs2, Nat.add_assoc]
   have c0 : wr.cell? ⟨b2, o2 + m * 4, none⟩ = some (vs m 0) := hcr 0 (by omega)
   have c1 := hcr 1 (by omega)
   have c2 := hcr 2 (by omega)
   have c3 := hcr 3 (by omega)
   have hmi : (m : Int) < (len : Int) := by omega
   have hnext : J pre wr → IsDown (pre ++ [⟨m, hml⟩]) ∧ (pre ++ [(⟨m, hml⟩ : Fin len)]).length ≤ len ∧ (m : Int) - 1 = (len : Int) - 1 - (pre ++ [(⟨m, hml⟩ : Fin len)]).length := fun _ => by
    refine ⟨fun j hj => ?_, by simp; omega, by simp; omega⟩
    by_cases h : j < pre.length
    ·rw [List.getElem_append_left h]
     exact hp j h
    ·have : j = pre.length := by simp at hj; omega
     subst this
     simp
     omega
   clear hm
   obtain ⟨fn, tmps, assign, body, hy, hR⟩ := hY pre ⟨m, hml⟩ wr hJs hlt
   dsimp only at hy
   gi_wp2
   refine hR.mono ?_
   rintro e W3 (⟨rfl, hJ3, hk3, hk4⟩ | ⟨rfl, hJx3⟩)
   ·gi_wp2
    go_roundw
    case rel =>
     obtain ⟨n1, n2, n3⟩ := hnext hJs
     exact ⟨_, n1, n2, by rw [n3], hJ3, hk3.trans hs1, hk4.trans hs2⟩
    case measure => simp [intOf]
   ·gi_wp2
    refine bodyPost_ret (results_none rfl _ _ _) rfl ?_
    exact ⟨⟨_, rfl⟩, .inr ⟨_, trivial, hJx3⟩⟩
  ·have hi : (len : Int) - 1 - (pre.length : Int) = -1 := by omega
   rw [hi]
   gi_wp2
   go_end0
   exact ⟨⟨_, rfl⟩, .inl ⟨pre, ⟨hp, by omega⟩, hJs⟩⟩
theorem back1_nil_in (F : Fence) (n : Nat) (h64 : F.fn 64) (hro : F.round = none) (l b o : Nat) (ad : Option Addr) (cap : Nat) {len : Nat} (J : List (Fin len) → World → Prop)
 (W : World) (hb : W.cell? ⟨b, o, none⟩ = some (.slice ad 0 cap)) (h0 : J [] W) :
 CallsIn F n Tryz.prog 64 #[.func (.yield l) #[] #[], .pointer (some ⟨b, o, none⟩)] W fun e W' => (∃ v, e = .returned v) ∧ J [] W' := by
 refine callsIn_of_wp Tryz.func64 rfl h64 ?_ hro
 simp only [Tryz.ntmps64, List.size_toArray, List.length_cons, List.length_nil, Nat.reduceAdd, Nat.reduceSub, Array.replicate_succ, Array.replicate_zero, List.push_toArray, List.append_toArray, List.nil_append, List.cons_append]
 gi_wp2
 gi_loopw [3] (fun i wr => i = .int .i64 (-1) ∧ J [] wr)
  (fun _ _ => 0)
 case atStart => exact ⟨rfl, h0⟩
 case round =>
  obtain ⟨rfl, hJs⟩ := hrel
  gi_wp2
  go_end0
  exact ⟨⟨_, rfl⟩, hJs⟩
theorem back_stops (n : Nat) (hn : 1 ≤ n) (b o len : Nat) (hlen : len ≤ 9223372036854775807) (vs : Nat → Nat → Value) {csl : Value} {Kp : World → World → Prop} (W0 : World) (hb : W0.cell? ⟨b, o, none⟩ = some csl) (hbl : b < W0.heap.size)
 (hsl : (∃ ad cap, csl = .slice ad 0 cap ∧ len = 0) ∨ ∃ b2 o2 cap, csl = .slice (some ⟨b2, o2, none⟩) len cap ∧ b2 < W0.heap.size ∧ (∀ A B, Kp A B → B.heap[b2]? = A.heap[b2]?) ∧ ∀ k j, k < len → j < 4 → W0.cell? ⟨b2, o2 + (k * 4 + j), none⟩ = some (vs k j))
 (hKp : ∀ A B, Kp A B → B.heap[b]? = A.heap[b]?) :
 SeqStopsK Fence.wide n Tryz.prog 64 #[.pointer (some ⟨b, o, none⟩)] (fun x : Fin len => #[.int .i64 (x.1 : Int), .agg #[vs x.1 0, vs x.1 1, vs x.1 2, vs x.1 3]]) Kp (fun ys => IsDown ys ∧ ys.length = len) (fun _ => True) len W0 := by
 intro l J Jx W hW _ _ hY h0
 have hb' : W.cell? ⟨b, o, none⟩ = some csl := (hW.cell (p := ⟨b, o, none⟩) hbl).trans hb
 rcases hsl with ⟨ad, cap, rfl, rfl⟩ | ⟨b2, o2, cap, rfl, hb2, hk2, hc⟩
 ·exact (back1_nil_in Fence.wide n trivial rfl l b o ad cap J W hb' h0).mono fun e W' ⟨he, hj⟩ => ⟨he, .inl ⟨[], ⟨fun j h => by simp at h, rfl⟩, hj⟩⟩
 ·refine back1_in Fence.wide n trivial rfl hn l b o b2 o2 len cap hlen vs J Jx (fun pre x W1 hJ hl => ?_) W hb' (fun k j hk hj => (hW.cell (p := ⟨b2, o2 + (k * 4 + j), none⟩) hb2).trans (hc k j hk hj)) h0
  obtain ⟨fn, tmps, assign, body, e1, e2⟩ := hY pre x W1 hJ hl
  refine ⟨fn, tmps, assign, body, e1, e2.mono fun e W' h => ?_⟩
  rcases h with ⟨h1, h2, h3⟩ | h
  ·exact .inl ⟨h1, h2, hKp _ _ h3, hk2 _ _ h3⟩
  ·exact .inr h
end Go.Proofs.YtleeinkdkllcdaaGreatDoor

namespace Go.Proofs.YtleeinkdkllcdaaGreatDoor
open Go Sz
def listT : List Tm → Tm → Tm
 | [], t => t
 | x :: r, t => .mk 2 0 [46] [x, listT r t]
theorem back_run (A : AV) (hA : A.refs = 0) (hb : basic A = true) : evCall (envOf []) 3 48 [A] h0 = some (.fn 64 [.ptr 0 0], ⟨1, [.row [A]], 0, 0⟩) := by
 have h1 := fun (h : Heap) (n0 d : Nat) => basic_frz (h := h) (n0 := n0) (d := d) hb
 have h2 := basic_cells hb
 simp [run48, c48, h1, h2, hA]
def backS : KSpec := ⟨48, fun | [.nils] => some (.fn 64 [.ip [.nils]]) | [.sl xs] => some (.fn 64 [.ip [.sl xs]]) | _ => none⟩
theorem backS_f : backS.f = 48 := (rfl)
theorem backS_ok : KSpecOK Tryz.prog backS := fun args v hv => by
 unfold backS at hv ⊢
 dsimp only at hv ⊢
 split at hv
 ·cases hv
  exact prim_clo (envOf_ok (ss := []) (by simp)) (back_run _ rfl rfl) rfl rfl
 ·cases hv
  exact prim_clo (envOf_ok (ss := []) (by simp)) (back_run _ rfl rfl) rfl rfl
 ·cases hv
theorem backS_at (A : AV) (h : A = .nils ∨ ∃ xs, A = .sl xs) : backS.S [A] = some (.fn 64 [.ip [A]]) := by
 rcases h with rfl | ⟨xs, rfl⟩ <;> rfl
def l20a : ACode := .reg [⟨(some 3), .op (.box (.tmp 1)), none⟩, ⟨(some 4), .op (.box (.const (.agg [(.int .i64 0), (.int .i64 0), (.str []), .nils]))), none⟩]
def l20b : ACode := .reg [⟨(some 7), .op (.mov (.tmp 0)), none⟩, ⟨(some 8), .call 48 [(.tmp 7)], none⟩]
def l20c : ACode := .block 1 (.reg [⟨(some 11), .op (.ld (some 4) (.tmp 6)), none⟩, ⟨(some 12), .op (.ld (some 4) (.tmp 3)), none⟩,
 ⟨(some 13), .op (.bsl 4 2 [(.int .i64 0), (.int .i64 0), (.str []), .nils, (.int .i64 0), (.int .i64 0), (.str []), .nils] [(0, (.tmp 11)), (1, (.tmp 12))]), none⟩,
 ⟨(some 14), .call 39 [(.const (.str [46])), (.tmp 13)], none⟩, ⟨none, .op (.st 4 (.tmp 3) (.tmp 14)), none⟩])
def l20d : ACode := .seq (.reg [⟨(some 15), .op (.ld (some 4) (.tmp 3)), none⟩, ⟨none, .op (.st 4 (.tmp 4) (.tmp 15)), none⟩]) (.ret (mk 16 [4]))
def zT : List AV := [.int .i64 0, .int .i64 0, .str [], .nils]
def ssL : List KSpec := [compS, backS]
theorem ssL_ok : ∀ s ∈ ssL, KSpecOK Tryz.prog s := by simp [ssL, compS_ok, backS_ok]
def fr20 (A : AV) (t : Tm) : List AV := FM 16 [(8, .fn 64 [.ip [A]]), (7, A), (4, .ptr 1 0), (3, .ptr 0 0), (0, A), (1, t.enc)]
theorem l20a_run (A : AV) (t : Tm) : evCode (evCall (envOf ssL) 3) 3 l20a (FM 16 [(0, A), (1, t.enc)]) h0 = some (.normal, FM 16 [(4, .ptr 1 0), (3, .ptr 0 0), (0, A), (1, t.enc)], ⟨2, [.row zT, .row t.cells], 0, 0⟩) := by
 have e := t.enc_eq
 have r0 := argV_refs t
 simp [l20a, e, Tm.cells, zT, r0]
theorem l20b_run (A : AV) (h : A = .nils ∨ ∃ xs, A = .sl xs) (t : Tm) : evCode (evCall (envOf ssL) 3) 3 l20b (FM 16 [(4, .ptr 1 0), (3, .ptr 0 0), (0, A), (1, t.enc)]) ⟨2, [.row zT, .row t.cells], 0, 0⟩ = some (.normal, fr20 A t, ⟨2, [.row zT, .row t.cells], 0, 0⟩) := by
 have g := backS_at A h
 have fz : ∀ (h : Heap) (n0 d : Nat), frz h n0 (d + 1) A = some (A, []) := fun h' _ _ => by rcases h with rfl | ⟨xs, rfl⟩ <;> rfl
 simp [l20b, ssL, compS_f, backS_f, fz, g, fr20]
theorem l20c_run (A : AV) (t x u : Tm) (i : Nat) : evCode (evCall (envOf ssL) 3) 3 l20c ((((fr20 A t).set 9 (.int .i64 (i : Int))).set 10 x.enc).set 6 (.ip x.enc.cells)) ⟨2, [.row zT, .row u.cells], 2, 2⟩ =
 some (.normal, FM 16 [(14, (Tm.mk 2 0 [46] [x, u]).enc), (13, .vec 2 0 2 4 2), (12, u.enc), (11, x.enc), (6, .ip x.enc.cells), (10, x.enc), (9, .int .i64 (i : Int)), (8, .fn 64 [.ip [A]]), (7, A), (4, .ptr 1 0), (3, .ptr 0 0), (0, A), (1, t.enc)], ⟨3, [.dead, .row zT, .row (Tm.mk 2 0 [46] [x, u]).cells], 2, 0⟩) := by
 have ex := x.enc_eq
 have eu := u.enc_eq
 have r1 := argV_refs x
 have r2 := argV_refs u
 have cs := compS_at [46] [x, u] (by simp)
 have c1 := basic_cells (argV_basic x)
 have c2 := basic_cells (argV_basic u)
 have ec : (compT [46] [x, u]).enc = .agg [.int .i64 2, .int .i64 0, .str [46], .sl [x.enc, u.enc]] := by simp [compT, Tm.enc, Tm.encL]
 have em : (Tm.mk 2 0 [46] [x, u]).enc = .agg [.int .i64 2, .int .i64 0, .str [46], .sl [x.enc, u.enc]] := by simp [Tm.enc, Tm.encL]
 have k1 : (Tm.mk 2 0 [46] [x, u]).kind = 2 := rfl
 have k2 : (Tm.mk 2 0 [46] [x, u]).num = 0 := rfl
 have k3 : (Tm.mk 2 0 [46] [x, u]).name = [46] := rfl
 have k4 : (Tm.mk 2 0 [46] [x, u]).argV = .sl [x.enc, u.enc] := rfl
 rw [ec] at cs
 simp only [List.map_cons, List.map_nil, ex, eu, Tm.cells] at cs
 have f1 := fun (h : Heap) (n0 d : Nat) => frz_argV h n0 d x
 have f2 := fun (h : Heap) (n0 d : Nat) => frz_argV h n0 d u
 simp [l20c, ssL, fr20, FM_set, compS_f, backS_f, ex, eu, r1, r2, f1, f2, Tm.cells, cs, c1, c2, AV.cells, em, k1, k2, k3, k4]
theorem l20d_run (A : AV) (t u : Tm) : evCode (evCall (envOf ssL) 3) 3 l20d (fr20 A t) ⟨2, [.row zT, .row u.cells], 2, 2⟩ = some (.ret, FM 16 [(4, .ptr 1 0)], ⟨2, [.row u.cells, .row u.cells], 2, 1⟩) := by
 have eu := u.enc_eq
 have r2 := argV_refs u
 simp [l20d, fr20, eu, r2, Tm.cells, zT]
end Go.Proofs.YtleeinkdkllcdaaGreatDoor

namespace Go.Proofs.YtleeinkdkllcdaaGreatDoor
open Go Go.RowKit Sz
variable {X : World → Prop}
theorem enters (f : Nat) {fn : Func} (hfn : Tryz.prog.funcs[f]? = some fn) (hname : (fn.name == "runtime.NumGoroutine") = false) (hbody : fn.body.isSome = true) (cargs : Array Value) (w : World) : (callFunc f cargs).run Tryz.prog w = .ok (.enter f cargs) w := by
 obtain ⟨c, hc⟩ := Option.isSome_iff_exists.1 hbody
 have hne : ¬ fn.name = "runtime.NumGoroutine" := by simpa using hname
 simp [callFunc, hfn, hne, hc]
theorem info26 : ∃ i z, Tryz.prog.info? 26 = some i ∧ i.zero = some z ∧ z.cells.size = i.size ∧ i.size = 4 := by
 have h : (Tryz.prog.info? 26).map (fun i => (i.zero.map (·.cells.size), i.size)) = some (some 4, 4) := by kernel_rfl
 obtain ⟨i, hi, e⟩ := Option.map_eq_some_iff.1 h
 simp only [Prod.mk.injEq, Option.map_eq_some_iff] at e
 obtain ⟨⟨z, hz, hzs⟩, hs⟩ := e
 exact ⟨i, z, hi, hz, by omega, hs⟩
mutual
theorem Tm.solid : ∀ t : Tm, t.enc.solid = true
 | .nl k n s => rfl
 | .mk k n s us => by
   have := Tm.solidL us
   simp [Tm.enc, AV.solid, AV.solidL, this]
theorem Tm.solidL : ∀ l : List Tm, AV.solidE (Tm.encL l) = true
 | [] => rfl
 | t :: r => by
   have h1 := Tm.solid t
   have h2 := Tm.solidL r
   have h3 : t.enc.cells.isEmpty = false := by rw [t.enc_eq]; rfl
   simp [Tm.encL, AV.solidE, h1, h2, h3]
end
theorem Tm.solidC (t : Tm) : ∀ v ∈ t.cells, v.solid = true := by
 have h := t.solid
 rw [t.enc_eq] at h
 intro v hv
 obtain ⟨j, hj, rfl⟩ := List.getElem_of_mem hv
 exact solidL_get (by simpa [AV.solid] using h) j hj
theorem live2 {a b : List AV} {w m id : Nat} : live ⟨2, [.row a, .row b], w, m⟩ id ↔ id < 2 := by
 refine ⟨fun ⟨o, hg, _⟩ => Heap.get_lt hg, fun h => ?_⟩
 match id, h with
 | 0, _ => exact ⟨.row b, rfl, fun e => by cases e⟩
 | 1, _ => exact ⟨.row a, rfl, fun e => by cases e⟩
theorem row2 {a b cs : List AV} {w m id : Nat} (h : (⟨2, [.row a, .row b], w, m⟩ : Heap).get id = some (.row cs)) : cs = a ∨ cs = b := by
 have := Heap.get_lt h
 match id, this with
 | 0, _ => exact .inr (by cases h; rfl)
 | 1, _ => exact .inl (by cases h; rfl)
theorem map2 {a b : List AV} {es : List (AV × AV)} {w m id : Nat} (h : (⟨2, [.row a, .row b], w, m⟩ : Heap).get id = some (.map es)) : False := by
 have := Heap.get_lt h
 match id, this with
 | 0, _ => cases h
 | 1, _ => cases h
def tailP (us : List Tm) (t : Tm) (pre : List (Fin (us.map Tm.enc).length)) : Tm := pre.foldl (fun u x => .mk 2 0 [46] [us[x.1]'(by simpa using x.2), u]) t
theorem tailP_snoc (us : List Tm) (t : Tm) (pre : List (Fin (us.map Tm.enc).length)) (x : Fin (us.map Tm.enc).length) : tailP us t (pre ++ [x]) = .mk 2 0 [46] [us[x.1]'(by simpa using x.2), tailP us t pre] := by
 simp [tailP]
theorem tailP_all (us : List Tm) (t : Tm) (xs : List (Fin (us.map Tm.enc).length)) (h1 : IsDown xs) (h2 : xs.length = (us.map Tm.enc).length) : tailP us t xs = listT us t := by
 have hl : (us.map Tm.enc).length = us.length := by simp
 have key : ∀ k, k ≤ xs.length → tailP us t (xs.take k) = listT (us.drop (us.length - k)) t := by
  intro k
  induction k with
  | zero => intro _; simp [tailP, listT]
  | succ k ih =>
    intro hk
    have hx := h1 k (by omega)
    rw [List.take_succ_eq_append_getElem (by omega), tailP_snoc, ih (by omega)]
    have hlt : us.length - (k + 1) < us.length := by omega
    rw [List.drop_eq_getElem_cons hlt]
    have e1 : us.length - (k + 1) + 1 = us.length - k := by omega
    have e2 : (xs[k]).1 = us.length - (k + 1) := by omega
    simp only [e1, listT, e2]
 have := key xs.length (Nat.le_refl _)
 rw [List.take_length, h2, hl, Nat.sub_self, List.drop_zero] at this
 exact this
theorem slice_read {φ : Phi} {h : Heap} {w : World} {A : AV} {us : List Tm} (hA : (A = .nils ∧ us = []) ∨ A = .sl (us.map Tm.enc)) {csl : Value} (hv : RVh φ h w A csl) :
 ∃ vs : Nat → Nat → Value, (∀ j (hj : j < (us.map Tm.enc).length), RVh φ h w (us.map Tm.enc)[j] (.agg #[vs j 0, vs j 1, vs j 2, vs j 3])) ∧
   ((∃ ad cap, csl = .slice ad 0 cap ∧ (us.map Tm.enc).length = 0) ∨ ∃ b2 o2 cap, csl = .slice (some ⟨b2, o2, none⟩) (us.map Tm.enc).length cap ∧ Pr φ h w b2 ∧ ∀ k j, k < (us.map Tm.enc).length → j < 4 → w.cell? ⟨b2, o2 + (k * 4 + j), none⟩ = some (vs k j)) := by
 rcases hA with ⟨rfl, rfl⟩ | rfl
 ·obtain ⟨ad, rfl⟩ := hv.nils_inv
  exact ⟨fun _ _ => default, fun j hj => by simp at hj, .inl ⟨ad, 0, rfl, rfl⟩⟩
 ·rcases hv.sl_inv with ⟨ad, cap, e1, rfl⟩ | ⟨b2, o2, cap, sz, vs, rfl, hp, hcap, _, h1, hsz, hcell, hval⟩
  ·refine ⟨fun _ _ => default, fun j hj => ?_, .inl ⟨ad, cap, rfl, by rw [e1]; rfl⟩⟩
   rw [e1] at hj
   simp at hj
  ·have hs4 : ∀ k, k < (us.map Tm.enc).length → sz = 4 := fun k hk => by
    have := hsz k hk
    rw [List.getElem_map, Tm.enc_eq] at this
    simpa [AV.cells?, Tm.cells] using this.symm
   refine ⟨vs, fun j hj => ?_, .inr ⟨b2, o2, cap, rfl, hp, fun k j hk hj => ?_⟩⟩
   ·have := hval j hj
    rw [List.getElem_map, Tm.enc_eq] at this ⊢
    refine .agg _ _ rfl (fun k => ?_) fun k hk => ?_
    ·match k with
     | 0 => exact h1 j 0
     | 1 => exact h1 j 1
     | 2 => exact h1 j 2
     | 3 => exact h1 j 3
     | k + 4 => rfl
    ·have hk4 : k < 4 := hk
     have := this k hk
     match k, hk4 with
     | 0, _ => exact this
     | 1, _ => exact this
     | 2, _ => exact this
     | 3, _ => exact this
   ·have e := hs4 k hk
    subst e
    have := hcell k j hk hj
    rw [Nat.add_assoc] at this
    exact this
theorem list_calls (us : List Tm) (t : Tm) (A : AV) (hA : (A = .nils ∧ us = []) ∨ A = .sl (us.map Tm.enc)) (hl : us.length < 1000000000000) {φ : Phi} {w : World} {cargs : Array Value} (hr : HR φ h0 w) (hG : Glob Tryz.prog X φ h0 w) (ha : ArgsR φ h0 w [A, t.enc] cargs) :
 Calls Tryz.prog 20 cargs w (CallPost φ h0 w (listT us t).enc ⟨2, [.row (listT us t).cells, .row (listT us t).cells], 2, 1⟩) := by
 obtain ⟨hC, hCL⟩ := call_ok (envOf_okX (X := X) (ss := ssL) fun s hs => (ssL_ok s hs).lift) 3
 have hA' : A = .nils ∨ ∃ xs, A = .sl xs := hA.imp (·.1) fun h => ⟨_, h⟩
 have hsz : cargs.size = 2 := ha.1
 have hfl : (fr20 A t).length = 16 := by simp [fr20, FM]
 refine (callsIn_wide (n := 3)).1 ?_
 refine callsIn_of_wp_marks Tryz.func20 rfl trivial ?_ rfl
 have f0 := args_frame ha 16 (by simp)
 refine wpIn_seq ?_
 refine code_okI (l0 := none) hC hCL mixed 3 _ l20a (by kernel_rfl) (l20a_run A t) f0 hr hG fun φ1 a1 w1 f1 r1 x1 d1 => ?_
 show Code.wpIn _ _ _ _ _ _ _
 refine wpIn_seq (wpIn_seq ?_)
 refine code_okI (l0 := none) hC hCL mixed 3 _ l20b (by kernel_rfl) (l20b_run A hA' t) f1 r1 (hG.ext x1) fun φ2 a2 w2 f2 r2 x2 d2 => ?_
 show Code.wpIn _ _ _ _ _ _ _
 refine wpIn_block ?_
 obtain ⟨r3, x3⟩ := r2.setwl 2 2
 have f3 := f2.ext x3
 have hx := (x1.trans x2).trans x3
 have hG3 := hG.ext hx
 -- the iterator
 have hg8 := f3.2 8
 have hg8' : RVh φ2 ⟨2, [.row zT, .row t.cells], 2, 2⟩ w2 (.fn 64 [.ip [A]]) (a2.tmps.getD 8 undef) := hg8
 obtain ⟨cvs, e8, hcs, hcv⟩ := hg8'.fn_inv
 have hcv0 := hcv 0 (by simp)
 obtain ⟨b, o, vb, eb, hpb, _, _, hcell, hvb⟩ := (RV.ip_inv hcv0)
 have hcell0 := hcell 0 (by simp)
 have hvb0 := hvb 0 (by simp)
 obtain ⟨vs, hEs, hsl⟩ := slice_read hA hvb0
 have ecvs : cvs = #[.pointer (some ⟨b, o, none⟩)] := by
  obtain ⟨l⟩ := cvs
  match l, hcs with
  | [c], _ => simpa using eb
 obtain ⟨i, z, hi, hz, hzs, his⟩ := info26
 have kp : ∀ b', Pr φ2 ⟨2, [.row zT, .row t.cells], 2, 2⟩ w2 b' → ∀ A' B', KpR φ2 ⟨2, [.row zT, .row t.cells], 2, 2⟩ w2 A' B' → B'.heap[b']? = A'.heap[b']? := fun b' hb' A' B' h => h b' hb'.1 hb'.2.1
 refine range_box_ok (X := X) (C := evCall (envOf ssL) 3) (m := 3) hC hCL mixed (by omega) r3 hG3 f3 (gf := 64) (lb := #[.pointer (some ⟨b, o, none⟩)]) (by rw [← ecvs]; exact e8) (enters 64 Tryz.func64 (by kernel_rfl) rfl) ⟨rfl, rfl, rfl⟩ ⟨rfl, rfl, rfl⟩ hi hz hzs (by rw [hfl]; decide) (by rw [hfl]; decide) (by rw [hfl]; decide) (by decide)
  (Es := us.map Tm.enc) (vs := fun j => #[vs j 0, vs j 1, vs j 2, vs j 3]) hEs (fun v hv => ?_)
  (back_stops (3 - 1) (by omega) b o (us.map Tm.enc).length (by simp; omega) vs w2 hcell0 hpb.1 (hsl.imp_right fun ⟨b2, o2, cap, e1, e2, e3⟩ => ⟨b2, o2, cap, e1, e2.1, kp b2 e2, e3⟩) (kp b hpb))
  (acB := l20c) (by kernel_rfl) (fun pre => ⟨2, [.row zT, .row (tailP us t pre).cells], 2, 2⟩) rfl (fun _ => rfl) (fun pre x => ?_) ?_
 ·obtain ⟨u, _, rfl⟩ := List.mem_map.1 hv
  refine ⟨u.cells, u.enc_eq, by rw [his]; rfl, ?_⟩
  have := u.enc_refs
  rw [u.enc_eq] at this
  simpa [AV.refs] using this
 ·have hxl : x.1 < us.length := by simpa using x.2
  have hex : (us.map Tm.enc)[x.1] = (us[x.1]).enc := by simp
  rw [hex]
  refine ⟨_, _, l20c_run A t us[x.1] (tailP us t pre) x.1, Nat.le_refl _, ?_, ?_, ?_, ?_⟩
  ·rw [tailP_snoc]
   rfl
  ·intro id h
   rw [live2] at h ⊢
   exact h
  ·intro id cs h v hv
   rcases row2 h with rfl | rfl
   ·simp only [zT, List.mem_cons, List.not_mem_nil, or_false] at hv
    rcases hv with rfl | rfl | rfl | rfl <;> rfl
   ·exact Tm.solidC _ v hv
  ·intro id es h
   exact (map2 h).elim
 ·rintro D xs W φ' hD ⟨hdown, hlen⟩ fD rD xD hK
  rw [tailP_all us t xs hdown hlen] at *
  show Code.wpIn _ _ _ _ _ _ _
  refine code_okI (l0 := none) hC hCL mixed 3 _ l20d (by kernel_rfl) (l20d_run A t (listT us t)) (a := { a2 with defers := { target := .collected D, args := #[] } :: a2.defers }) fD rD (hG3.ext xD) fun φ4 a4 w4 f4 r4 x4 d4 => ?_
  have hd : a4.defers = [{ target := .collected D, args := #[] }] := by rw [d4]; show _ :: a2.defers = _; rw [d2, d1]
  show LeavesInM _ _ _ _ a4.tmps _ a4.defers .returning w4
  rw [hd]
  have hK4 : w4.heap[D]? = some (.deferred (some [])) := by
   refine (x4.pr D ⟨(Array.getElem?_eq_some_iff.1 hK).1, fun id hl e => ?_, fun hgh => ?_⟩).2.trans hK
   ·have hl2 : id < 2 := live2.1 hl
    have e1 := xD.phi id hl2
    have e2 := r3.blk_lt (live2.2 hl2)
    rw [e1] at e
    omega
   ·rw [xD.gh.1] at hgh
    have := (r3.gh D hgh).1
    omega
  have hws := hx.size
  refine shut_ok (rs := [.cell 4 (some 4)]) hr (by kernel_rfl) f4 r4 ((hx.trans xD).trans x4) hK4 (by omega) (fun id cs h v hv => ?_) (fun id es h => (map2 h).elim) (fun k => ?_) ?_
  ·rcases row2 h with rfl | rfl <;> exact Tm.solidC _ v hv
  ·by_cases hk : k < 16
   ·rw [FM_getD _ hk]
    by_cases h4 : k = 4
    ·subst h4; rfl
    ·have : lk [(4, AV.ptr 1 0)] k = .undef := by
      unfold lk
      simp [lk, Ne.symm h4]
     rw [this]
     rfl
   ·have : (FM 16 [(4, AV.ptr 1 0)]).getD k .undef = .undef := by
     rw [List.getD_eq_getElem?_getD, List.getElem?_eq_none (by rw [FM_length]; omega)]
     rfl
    rw [this]
    rfl
  ·rw [(listT us t).enc_eq]
   rfl
theorem list_prim (us : List Tm) (t : Tm) (A : AV) (hA : (A = .nils ∧ us = []) ∨ A = .sl (us.map Tm.enc)) (hl : us.length < 1000000000000) : PrimOKX Tryz.prog X 20 [A, t.enc] (listT us t).enc :=
 prim_weak (h' := ⟨2, [.row (listT us t).cells, .row (listT us t).cells], 2, 1⟩) (Tm.enc_refs _) (by
  rcases hA with ⟨rfl, _⟩ | rfl <;> simp [AV.refsL, AV.refs, Tm.enc_refs]) fun φ w cargs hr hG ha => .inl ⟨enters 20 Tryz.func20 (by kernel_rfl) rfl _ _, list_calls us t A hA hl hr hG ha⟩
def listS : KSpec := ⟨20, fun
 | [.nils, v] => (match decTm v with | some t => some t.enc | none => none)
 | [.sl xs, v] => (match decTms xs, decTm v with | some us, some t => if us.length < 1000000000000 then some (listT us t).enc else none | _, _ => none)
 | _ => none⟩
theorem listS_f : listS.f = 20 := (rfl)
theorem listS_at (us : List Tm) (t : Tm) (h : us.length < 1000000000000) : listS.S [.sl (us.map Tm.enc), t.enc] = some (listT us t).enc := by
 unfold listS
 dsimp only
 rw [← encL_map, decTms_enc, decTm_enc]
 exact if_pos h
theorem listS_nils (t : Tm) : listS.S [.nils, t.enc] = some t.enc := by
 unfold listS
 dsimp only
 rw [decTm_enc]
theorem listS_ok : KSpecOK Tryz.prog listS := fun args v hv => by
 unfold listS at hv ⊢
 dsimp only at hv ⊢
 split at hv
 ·split at hv
  ·rename_i t ht
   cases hv
   rw [decTm_eq ht]
   exact list_prim [] t .nils (.inl ⟨rfl, rfl⟩) (by simp)
  ·cases hv
 ·split at hv
  ·rename_i us t hu ht
   split at hv
   ·rename_i hl
    cases hv
    rw [decTm_eq ht, decTms_eq hu]
    exact list_prim us t _ (.inr rfl) hl
   ·cases hv
  ·cases hv
 ·cases hv
end Go.Proofs.YtleeinkdkllcdaaGreatDoor
