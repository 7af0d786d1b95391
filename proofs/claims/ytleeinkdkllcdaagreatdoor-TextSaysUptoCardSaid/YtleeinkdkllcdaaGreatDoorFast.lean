import Derived.Test.YtleeinkdkllcdaaGreatDoorSz3
import Derived.Test.YtleeinkdkllcdaaGreatDoorArg
import Derived.Lib.LaidTab
import Derived.Sort.Grow
import Derived.Deep.Draws
set_option linter.unusedVariables false
set_option linter.unusedSimpArgs false
set_option linter.unusedSectionVars false
set_option maxHeartbeats 16000000
set_option maxRecDepth 100000

/- The same rules, what follows kept shut until what is ahead is known: a run that stands still ends the working out there. No program is named here. -/
namespace Sz
open Go
section
variable (C : Nat → List AV → Heap → Option (AV × Heap)) (n : Nat)
def seqK (b : ACode) : Option (Ex × List AV × Heap) → Option (Ex × List AV × Heap)
 | some (.normal, fr, h) => evCode C n b fr h
 | r => r
def condK (a b : ACode) (fr : List AV) (h : Heap) : AV → Option (Ex × List AV × Heap)
 | .bool true => evCode C n a fr h
 | .bool false => evCode C n b fr h
 | _ => none
def stK (d : Option Nat) (r : List AStep) (fr : List AV) : Option (AV × Heap) → Option (List AV × Heap)
 | some (v, h') => evSteps C r (putA fr d v) h'
 | none => none
def gdK (s : AStep) (r : List AStep) (fr : List AV) (h : Heap) : Option Bool → Option (List AV × Heap)
 | some true => evSteps C r (putA fr s.dst (.tuple [])) h
 | some false => evSteps C ({ s with guard := none } :: r) fr h
 | none => none
def cvK (d : Option Nat) (args : List AV) (r : List AStep) (fr : List AV) (h : Heap) : AV → Option (List AV × Heap)
 | .fn f caps => stK C d r fr (C f (args ++ caps) h)
 | _ => none
def trK1 (tr : Nat × Heap × Heap) : Option (List AV × Heap × List (Nat × Heap × Heap)) → Option (List AV × Heap × List (Nat × Heap × Heap))
 | some (fr2, h2, t) => some (fr2, h2, tr :: t)
 | none => none
def trK (s : AStep) (r : List AStep) (fr : List AV) (h : Heap) : Option (List AV × Heap) → Option (List AV × Heap × List (Nat × Heap × Heap))
 | some (fr', h') => trK1 (ldId s fr, h, h') (evTr C r fr' ⟨h'.next, h'.objs, h'.wl, min h.md h'.md⟩)
 | none => none
def stK1 (d : Option Nat) (fr : List AV) : Option (AV × Heap) → Option (List AV × Heap)
 | some (v, h') => some (putA fr d v, h')
 | none => none
def gdK1 (s : AStep) (fr : List AV) (h : Heap) : Option Bool → Option (List AV × Heap)
 | some true => some (putA fr s.dst (.tuple []), h)
 | some false => evStep C { s with guard := none } fr h
 | none => none
def cvK1 (d : Option Nat) (args : List AV) (fr : List AV) (h : Heap) : AV → Option (List AV × Heap)
 | .fn f caps => stK1 d fr (C f (args ++ caps) h)
 | _ => none
variable (fr : List AV) (h : Heap)
theorem seqK_n (b : ACode) : seqK C n b (some (.normal, fr, h)) = evCode C n b fr h := rfl
theorem seqK_e (b : ACode) (i : Nat) : seqK C n b (some (.exit i, fr, h)) = some (.exit i, fr, h) := rfl
theorem seqK_r (b : ACode) : seqK C n b (some (.ret, fr, h)) = some (.ret, fr, h) := rfl
theorem condK_t (a b : ACode) : condK C n a b fr h (.bool true) = evCode C n a fr h := rfl
theorem condK_f (a b : ACode) : condK C n a b fr h (.bool false) = evCode C n b fr h := rfl
theorem stK_s (d : Option Nat) (r : List AStep) (v : AV) : stK C d r fr (some (v, h)) = evSteps C r (putA fr d v) h := rfl
theorem gdK_t (s : AStep) (r : List AStep) : gdK C s r fr h (some true) = evSteps C r (putA fr s.dst (.tuple [])) h := rfl
theorem gdK_f (d : Option Nat) (o : SOp) (g : Option (Nat × Bool)) (r : List AStep) : gdK C ⟨d, o, g⟩ r fr h (some false) = evSteps C (⟨d, o, none⟩ :: r) fr h := rfl
theorem cvK_f (d : Option Nat) (args : List AV) (r : List AStep) (f : Nat) (caps : List AV) : cvK C d args r fr h (.fn f caps) = stK C d r fr (C f (args ++ caps) h) := rfl
theorem trK_s (s : AStep) (r : List AStep) (fr' : List AV) (nx : Nat) (os : List AObj) (wl md' : Nat) : trK C s r fr h (some (fr', ⟨nx, os, wl, md'⟩)) = trK1 (ldId s fr, h, ⟨nx, os, wl, md'⟩) (evTr C r fr' ⟨nx, os, wl, min h.md md'⟩) := rfl
theorem trK1_s (tr : Nat × Heap × Heap) (t : List (Nat × Heap × Heap)) : trK1 tr (some (fr, h, t)) = some (fr, h, tr :: t) := rfl
theorem stK1_s (d : Option Nat) (v : AV) : stK1 d fr (some (v, h)) = some (putA fr d v, h) := rfl
theorem gdK1_t (s : AStep) : gdK1 C s fr h (some true) = some (putA fr s.dst (.tuple []), h) := rfl
theorem gdK1_f (d : Option Nat) (o : SOp) (g : Option (Nat × Bool)) : gdK1 C ⟨d, o, g⟩ fr h (some false) = evStep C ⟨d, o, none⟩ fr h := rfl
theorem cvK1_f (d : Option Nat) (args : List AV) (f : Nat) (caps : List AV) : cvK1 C d args fr h (.fn f caps) = stK1 d fr (C f (args ++ caps) h) := rfl
theorem seqF (a b : ACode) : evCode C n (.seq a b) fr h = seqK C n b (evCode C n a fr h) := by
 rw [evCode_seq]
 rcases evCode C n a fr h with _ | ⟨ex, fr', h'⟩
 ·rfl
 ·cases ex <;> rfl
theorem condF (c : Opd) (a b : ACode) : evCode C n (.cond c a b) fr h = condK C n a b fr h (c.ev fr) := by
 rw [evCode_cond]
 cases c.ev fr with
 | bool t => cases t <;> rfl
 | _ => rfl
theorem stepF (d : Option Nat) (o : AOp) (r : List AStep) : evSteps C (⟨d, .op o, none⟩ :: r) fr h = stK C d r fr (evOp fr h o) := by
 rw [evSteps_op]
 rcases evOp fr h o with _ | ⟨v, h'⟩ <;> rfl
theorem callF (d : Option Nat) (f : Nat) (args : List Opd) (r : List AStep) : evSteps C (⟨d, .call f args, none⟩ :: r) fr h = stK C d r fr (C f (args.map (·.ev fr)) h) := by
 rw [evSteps_call]
 rcases C f (args.map (·.ev fr)) h with _ | ⟨v, h'⟩ <;> rfl
theorem callvF (d : Option Nat) (x : Opd) (args : List Opd) (r : List AStep) : evSteps C (⟨d, .callv x args, none⟩ :: r) fr h = cvK C d (args.map (·.ev fr)) r fr h (x.ev fr) := by
 rw [evSteps_callv]
 cases x.ev fr with
 | fn f caps =>
   dsimp only [cvK]
   rcases C f (args.map (·.ev fr) ++ caps) h with _ | ⟨v, h'⟩ <;> rfl
 | _ => rfl
theorem guardF (d : Option Nat) (o : SOp) (g : Nat × Bool) (r : List AStep) : evSteps C (⟨d, o, some g⟩ :: r) fr h = gdK C ⟨d, o, some g⟩ r fr h (unwanted fr (some g)) := by
 simp only [evSteps, evStep]
 cases unwanted fr (some g) with
 | none => rfl
 | some b =>
   cases b with
   | true => rfl
   | false =>
     dsimp only [gdK]
     simp only [evSteps, evStep, unwanted]
theorem trF (s : AStep) (r : List AStep) : evTr C (s :: r) fr h = trK C s r fr h (evStep C s fr ⟨h.next, h.objs, h.wl, h.next⟩) := by
 rw [evTr_cons]
 rcases evStep C s fr ⟨h.next, h.objs, h.wl, h.next⟩ with _ | ⟨fr', h'⟩
 ·rfl
 ·dsimp only [trK]
  rcases evTr C r fr' ⟨h'.next, h'.objs, h'.wl, min h.md h'.md⟩ with _ | ⟨a, b, c⟩ <;> rfl
theorem step1F (d : Option Nat) (o : AOp) : evStep C ⟨d, .op o, none⟩ fr h = stK1 d fr (evOp fr h o) := by
 rw [evStep_op]
 rcases evOp fr h o with _ | ⟨v, h'⟩ <;> rfl
theorem call1F (d : Option Nat) (f : Nat) (args : List Opd) : evStep C ⟨d, .call f args, none⟩ fr h = stK1 d fr (C f (args.map (·.ev fr)) h) := by
 rw [evStep_call]
 rcases C f (args.map (·.ev fr)) h with _ | ⟨v, h'⟩ <;> rfl
theorem callv1F (d : Option Nat) (x : Opd) (args : List Opd) : evStep C ⟨d, .callv x args, none⟩ fr h = cvK1 C d (args.map (·.ev fr)) fr h (x.ev fr) := by
 rw [evStep_callv]
 cases x.ev fr with
 | fn f caps =>
   dsimp only [cvK1]
   rcases C f (args.map (·.ev fr) ++ caps) h with _ | ⟨v, h'⟩ <;> rfl
 | _ => rfl
theorem guard1F (d : Option Nat) (o : SOp) (g : Nat × Bool) : evStep C ⟨d, o, some g⟩ fr h = gdK1 C ⟨d, o, some g⟩ fr h (unwanted fr (some g)) := by
 simp only [evStep]
 cases unwanted fr (some g) with
 | none => rfl
 | some b =>
   cases b with
   | true => rfl
   | false =>
     dsimp only [gdK1]
     simp only [evStep, unwanted]
end
theorem finish_keep (a b c : Nat) (os0 os : List AObj) (nx wl md : Nat) (v : AV) : finish true ⟨a, os0, b, c⟩ v ⟨nx, os, wl, md⟩ = (v, ⟨nx, os, min b wl, min c md⟩) := rfl
end Sz

/- A table that a run's first world holds. No program is named here. -/
namespace Sz
open Go Go.RowKit
variable {X : World → Prop}
theorem Glob.tab {P : Program} {φ : Phi} {h : Heap} {w : World} (g : Glob P X φ h w) {name : String} {k : IntKind} {zs : List Int} (hX : ∀ w, X w → Lib.TabIs P w name k zs) : Lib.TabIs P w name k zs := by
 obtain ⟨w1, h1, h2⟩ := g
 have ht := hX _ h1.2
 unfold Lib.TabIs World.var? at ht ⊢
 rw [Option.bind_eq_some_iff] at ht ⊢
 obtain ⟨b, hb, ht⟩ := ht
 refine ⟨b, hb, ?_⟩
 have hlt : b < w1.heap.size := by
  cases hq : w1.heap[b]? with
  | none => rw [hq] at ht; cases ht
  | some o => exact (Array.getElem?_eq_some_iff.1 hq).1
 rw [(h2 b hlt).2.2]
 exact ht
theorem below_grow (w : World) (k : Nat) (os : Array Obj) : Below w.heap.size w (Sort.grow (w.drewN k) os) :=
 ⟨rfl, rfl, rfl, by show w.heap.size ≤ (w.heap ++ os).size; simp, fun i hi => by
  show (w.heap ++ os)[i]? = w.heap[i]?
  exact Array.getElem?_append_left hi⟩
theorem int_eq {φ : Phi} {nx : Nat} {pr : Nat → Prop} {w : World} {k : IntKind} {n : Int} {cv : Value} (h : RV φ nx pr w (.int k n) cv) : cv = .int k n := RV.int_inv h
end Sz

/- Known calls as tables. No program is named here. -/
namespace Sz
open Go
mutual
def AV.beq : AV → AV → Bool
 | .undef, .undef => true
 | .bool a, .bool b => a == b
 | .int k n, .int k' n' => decide (k = k') && decide (n = n')
 | .str a, .str b => decide (a = b)
 | .nilp, .nilp => true
 | .ip a, .ip b => AV.beqL a b
 | .nils, .nils => true
 | .sl a, .sl b => AV.beqL a b
 | .nilm, .nilm => true
 | .nilfn, .nilfn => true
 | .fn f a, .fn g b => f == g && AV.beqL a b
 | .nili, .nili => true
 | .iface t a, .iface u b => t == u && a.beq b
 | .agg a, .agg b => AV.beqL a b
 | .tuple a, .tuple b => AV.beqL a b
 | _, _ => false
def AV.beqL : List AV → List AV → Bool
 | [], [] => true
 | a :: r, b :: s => a.beq b && AV.beqL r s
 | _, _ => false
end
mutual
theorem AV.beq_eq : ∀ (a b : AV), a.beq b = true → a = b := fun a b h => by
 cases a <;> cases b <;> simp only [AV.beq, Bool.and_eq_true, beq_iff_eq, decide_eq_true_eq, Bool.false_eq_true] at h
 case bool.bool => exact congrArg _ h
 case int.int => obtain ⟨rfl, rfl⟩ := h; rfl
 case str.str => exact congrArg _ h
 case ip.ip => exact congrArg _ (AV.beqL_eq _ _ h)
 case sl.sl => exact congrArg _ (AV.beqL_eq _ _ h)
 case fn.fn => obtain ⟨rfl, h⟩ := h; exact congrArg _ (AV.beqL_eq _ _ h)
 case iface.iface => obtain ⟨rfl, h⟩ := h; exact congrArg _ (AV.beq_eq _ _ h)
 case agg.agg => exact congrArg _ (AV.beqL_eq _ _ h)
 case tuple.tuple => exact congrArg _ (AV.beqL_eq _ _ h)
 all_goals rfl
theorem AV.beqL_eq : ∀ (a b : List AV), AV.beqL a b = true → a = b := fun a b h => by
 cases a with
 | nil => cases b with
   | nil => rfl
   | cons _ _ => simp [AV.beqL] at h
 | cons x r => cases b with
   | nil => simp [AV.beqL] at h
   | cons y s =>
     simp only [AV.beqL, Bool.and_eq_true] at h
     rw [AV.beq_eq x y h.1, AV.beqL_eq r s h.2]
end
def lookT : List (List AV × AV) → List AV → Option AV
 | [], _ => none
 | e :: r, args => if AV.beqL e.1 args then some e.2 else lookT r args
def KSpec.tab (f : Nat) (l : List (List AV × AV)) : KSpec := ⟨f, lookT l⟩
theorem lookT_mem : ∀ {l : List (List AV × AV)} {args : List AV} {v : AV}, lookT l args = some v → (args, v) ∈ l
 | e :: r, args, v, h => by
   unfold lookT at h
   split at h
   ·rename_i hb
    cases h
    rw [← AV.beqL_eq _ _ hb]
    simp
   ·exact List.mem_cons_of_mem _ (lookT_mem h)
variable {X : World → Prop}
def KSpec.tabP (f : Nat) (a : AV) (l : List (List AV × AV)) : KSpec := ⟨f, fun | b :: r => if a.beq b then lookT l r else none | [] => none⟩
@[simp] theorem KSpec.tabP_f {f : Nat} {a : AV} {l : List (List AV × AV)} : (KSpec.tabP f a l).f = f := (rfl)
theorem KSpec.tabP_ok {P : Program} {f : Nat} {a : AV} {l : List (List AV × AV)} (h : ∀ e ∈ l, PrimOKX P X f (a :: e.1) e.2) : KSpecOKX P X (KSpec.tabP f a l) := fun args v hv => by
 unfold KSpec.tabP at hv ⊢
 dsimp only at hv ⊢
 split at hv
 ·rename_i b r
  split at hv
  ·rename_i hb
   rw [← AV.beq_eq _ _ hb]
   exact h (r, v) (lookT_mem hv)
  ·cases hv
 ·cases hv
theorem KSpec.tab_ok {P : Program} {f : Nat} {l : List (List AV × AV)} (h : ∀ e ∈ l, PrimOKX P X f e.1 e.2) : KSpecOKX P X (KSpec.tab f l) := fun args v hv => h (args, v) (lookT_mem hv)
@[simp] theorem KSpec.tab_f {f : Nat} {l : List (List AV × AV)} : (KSpec.tab f l).f = f := (rfl)
end Sz
