import Derived.Calls
import GoSem.Claims
import Derived.Laws.World
import Derived.Laws.Sem
import GoSem.Dispatch
import GoSem.Core.Region
import Derived.Laws.Append
import Derived.Laws.Tables
import Derived.Laws.Strings
import Derived.Laws.StructEq
import Derived.Laws.Slices
set_option linter.unusedVariables false
set_option linter.unusedSimpArgs false
set_option linter.unusedSectionVars false

/- The values, the heap and the frame of an abstract run, and what they say of the model's values and worlds. No program is named here. -/
namespace Sz
open Go
variable {X : World → Prop}
inductive AV where
  | undef
  | bool (b : Bool)
  | int (k : IntKind) (n : Int)
  | str (s : List UInt8)
  | nilp
  | ptr (id off : Nat)
  | ip (cs : List AV)
  | nils
  | sl (xs : List AV)
  | vec (id off len sz lb : Nat)
  | nilm
  | map (id : Nat)
  | nilfn
  | fn (f : Nat) (caps : List AV)
  | nili
  | iface (t : Nat) (v : AV)
  | agg (cs : List AV)
  | tuple (vs : List AV)
  deriving Inhabited
def AV.cells : AV → List AV
  | .agg cs => cs
  | v => [v]
def AV.cells? : AV → Option (List AV)
  | .agg cs => some cs
  | .undef => none
  | .tuple _ => none
  | v => some [v]
mutual
def AV.refs : AV → Nat
  | .ptr id _ => id + 1
  | .vec id _ _ _ _ => id + 1
  | .map id => id + 1
  | .fn _ caps => AV.refsL caps
  | .iface _ v => v.refs
  | .agg cs => AV.refsL cs
  | .tuple vs => AV.refsL vs
  | _ => 0
def AV.refsL : List AV → Nat
  | [] => 0
  | v :: r => max v.refs (AV.refsL r)
end
theorem AV.refsL_mem {v : AV} {l : List AV} (h : v ∈ l) : v.refs ≤ AV.refsL l := by
  induction l with
  | nil => cases h
  | cons x r ih =>
    simp only [AV.refsL]
    cases h with
    | head => omega
    | tail _ h => have := ih h; omega
theorem AV.refsL_le {l : List AV} {n : Nat} (h : ∀ v ∈ l, v.refs ≤ n) : AV.refsL l ≤ n := by
  induction l with
  | nil => simp [AV.refsL]
  | cons x r ih =>
    simp only [AV.refsL]
    have h1 := h x (by simp)
    have h2 := ih fun v hv => h v (by simp [hv])
    omega
inductive AObj where
  | row (cs : List AV)
  | map (es : List (AV × AV))
  | dead
  deriving Inhabited
structure Heap where
  next : Nat
  objs : List AObj
  wl : Nat
  md : Nat
def Heap.get (h : Heap) (id : Nat) : Option AObj := if id < h.next then h.objs[h.next - 1 - id]? else none
def Heap.set (h : Heap) (id : Nat) (o : AObj) : Heap := if id < h.next then { h with objs := h.objs.set (h.next - 1 - id) o, md := min h.md id } else h
def Heap.alloc (h : Heap) (o : AObj) : Heap := { h with next := h.next + 1, objs := o :: h.objs }
def Heap.mark (h : Heap) (id : Nat) (v : AV) : Heap := if id + 1 < v.refs then { h with wl := min h.wl id } else h
def Heap.trunc (h : Heap) (n : Nat) : Heap := { h with next := min h.next n, objs := h.objs.drop (h.next - n) }
def Heap.wf (h : Heap) : Prop := h.objs.length = h.next
section heap
variable {h : Heap} {id id' n : Nat} {o o' : AObj}
@[simp] theorem Heap.next_alloc : (h.alloc o).next = h.next + 1 := rfl
@[simp] theorem Heap.next_set : (h.set id o).next = h.next := by unfold Heap.set; split <;> rfl
@[simp] theorem Heap.next_mark {v : AV} : (h.mark id v).next = h.next := by unfold Heap.mark; split <;> rfl
@[simp] theorem Heap.get_mark {v : AV} : (h.mark id v).get id' = h.get id' := by unfold Heap.mark; split <;> rfl
@[simp] theorem Heap.wl_alloc : (h.alloc o).wl = h.wl := rfl
@[simp] theorem Heap.wl_set : (h.set id o).wl = h.wl := by unfold Heap.set; split <;> rfl
theorem Heap.get_alloc_new : (h.alloc o).get h.next = some o := by simp [Heap.get, Heap.alloc]
theorem Heap.get_alloc_old (hid : id < h.next) : (h.alloc o).get id = h.get id := by
  unfold Heap.get Heap.alloc
  simp only [hid, if_true, show id < h.next + 1 by omega]
  rw [show h.next + 1 - 1 - id = (h.next - 1 - id) + 1 by omega, List.getElem?_cons_succ]
theorem Heap.get_lt (hg : h.get id = some o) : id < h.next := by
  unfold Heap.get at hg
  split at hg
  · assumption
  · cases hg
theorem Heap.get_set_same (hg : h.get id = some o') : (h.set id o).get id = some o := by
  have hl := Heap.get_lt hg
  unfold Heap.get at hg ⊢
  unfold Heap.set
  simp only [hl, if_true] at hg ⊢
  have := (List.getElem?_eq_some_iff.1 hg).1
  simp [this]
theorem Heap.get_set_other (hne : id ≠ id') : (h.set id o).get id' = h.get id' := by
  unfold Heap.set
  split
  · unfold Heap.get
    dsimp only
    split
    · rw [List.getElem?_set_ne (by omega)]
    · rfl
  · rfl
theorem Heap.get_trunc (hid : id < n) : (h.trunc n).get id = h.get id := by
  unfold Heap.trunc Heap.get
  dsimp only
  by_cases hl : id < h.next
  · rw [if_pos (by omega), if_pos hl, List.getElem?_drop]
    congr 1
    omega
  · rw [if_neg (by omega), if_neg hl]
theorem Heap.get_trunc_none (hid : n ≤ id) : (h.trunc n).get id = none := by
  unfold Heap.trunc Heap.get
  dsimp only
  rw [if_neg (by omega)]
@[simp] theorem Heap.next_trunc : (h.trunc n).next = min h.next n := rfl
end heap
structure PE where
  blk : Nat
  base : Nat
  room : Nat
  deriving Inhabited
structure Phi where
  at_ : Nat → PE
  gh : Nat → Prop
instance : CoeFun Phi (fun _ => Nat → PE) := ⟨Phi.at_⟩
inductive RV (φ : Phi) (nx : Nat) (pr : Nat → Prop) (w : World) : AV → Value → Prop where
  | undef (v : Value) : RV φ nx pr w .undef v
  | bool (b : Bool) : RV φ nx pr w (.bool b) (.bool b)
  | int (k : IntKind) (n : Int) : RV φ nx pr w (.int k n) (.int k n)
  | str (s : ByteArray) : RV φ nx pr w (.str s.data.toList) (.string s)
  | nilp : RV φ nx pr w .nilp (.pointer none)
  | ptr (id off : Nat) (h : id < nx) : RV φ nx pr w (.ptr id off) (.pointer (some ⟨(φ id).blk, (φ id).base + off, none⟩))
  | ip (cs : List AV) (b o : Nat) (vs : Nat → Value) (hp : pr b) (hrf : AV.refsL cs = 0) (h1 : ∀ j, (vs j).oneCell' = true)
      (hc : ∀ j, j < cs.length → w.cell? ⟨b, o + j, none⟩ = some (vs j)) (hv : ∀ j (h : j < cs.length), RV φ nx pr w cs[j] (vs j)) :
      RV φ nx pr w (.ip cs) (.pointer (some ⟨b, o, none⟩))
  | nils (a : Option Addr) : RV φ nx pr w .nils (.slice a 0 0)
  | slnil (a : Option Addr) (cap : Nat) : RV φ nx pr w (.sl []) (.slice a 0 cap)
  | sl (xs : List AV) (b o cap sz : Nat) (vs : Nat → Nat → Value) (hp : pr b) (hcap : xs.length ≤ cap) (hrf : AV.refsL xs = 0) (h1 : ∀ i j, (vs i j).oneCell' = true)
      (hsz : ∀ i (h : i < xs.length), (xs[i]).cells?.map List.length = some sz)
      (hc : ∀ i j, i < xs.length → j < sz → w.cell? ⟨b, o + i * sz + j, none⟩ = some (vs i j))
      (hv : ∀ i (h : i < xs.length) j (h' : j < (xs[i]).cells.length), RV φ nx pr w ((xs[i]).cells[j]) (vs i j)) :
      RV φ nx pr w (.sl xs) (.slice (some ⟨b, o, none⟩) xs.length cap)
  | vec (id off len sz lb cap : Nat) (a : Option Addr) (h : id < nx) (hl : len ≤ cap) (hb : lb ≤ cap) (hr : off + cap * sz ≤ (φ id).room)
      (ha : 0 < cap → a = some ⟨(φ id).blk, (φ id).base + off, none⟩) : RV φ nx pr w (.vec id off len sz lb) (.slice a len cap)
  | nilm : RV φ nx pr w .nilm (.map none)
  | map (id : Nat) (h : id < nx) : RV φ nx pr w (.map id) (.map (some (φ id).blk))
  | nilfn : RV φ nx pr w .nilfn .nilFunc
  | fn (f : Nat) (caps : List AV) (cvs : Array Value) (hl : cvs.size = caps.length) (hv : ∀ j (h : j < caps.length), RV φ nx pr w caps[j] (cvs.getD j default)) :
      RV φ nx pr w (.fn f caps) (.func (.func f) #[] cvs)
  | nili : RV φ nx pr w .nili .nilIface
  | iface (t : Nat) (v : AV) (cv : Value) (hv : RV φ nx pr w v cv) : RV φ nx pr w (.iface t v) (.iface t cv)
  | agg (cs : List AV) (cvs : Array Value) (hl : cvs.size = cs.length) (h1 : ∀ j, (cvs.getD j default).oneCell' = true) (hv : ∀ j (h : j < cs.length), RV φ nx pr w cs[j] (cvs.getD j default)) :
      RV φ nx pr w (.agg cs) (.agg cvs)
  | tuple (vs : List AV) (cvs : Array Value) (hl : cvs.size = vs.length) (hv : ∀ j (h : j < vs.length), RV φ nx pr w vs[j] (cvs.getD j default)) :
      RV φ nx pr w (.tuple vs) (.tuple cvs)
theorem cell?_of_block {w w' : World} {b : Nat} (h : w'.heap[b]? = w.heap[b]?) (o : Nat) : w'.cell? ⟨b, o, none⟩ = w.cell? ⟨b, o, none⟩ := by
  unfold World.cell?
  simp only [h]
theorem RV.mono {φ φ' : Phi} {nx nx' : Nat} {pr pr' : Nat → Prop} {w w' : World} {v : AV} {cv : Value} (h : RV φ nx pr w v cv)
    (hφ : ∀ id, id < v.refs → id < nx → φ' id = φ id ∧ id < nx') (hpr : ∀ b, pr b → pr' b ∧ w'.heap[b]? = w.heap[b]?) : RV φ' nx' pr' w' v cv := by
  induction h with
  | undef v => exact .undef v
  | bool b => exact .bool b
  | int k n => exact .int k n
  | str s => exact .str s
  | nilp => exact .nilp
  | ptr id off h =>
    obtain ⟨e, hl⟩ := hφ id (by simp [AV.refs]) h
    rw [← e]
    exact .ptr id off hl
  | ip cs b o vs hp hrf h1 hc hv ih =>
    obtain ⟨hp', hb⟩ := hpr b hp
    refine .ip cs b o vs hp' hrf h1 (fun j hj => (cell?_of_block hb _).trans (hc j hj)) fun j hj => ih j hj fun id hid => ?_
    have := AV.refsL_mem (List.getElem_mem hj)
    omega
  | nils a => exact .nils a
  | slnil a cap => exact .slnil a cap
  | sl xs b o cap sz vs hp hcap hrf h1 hsz hc hv ih =>
    obtain ⟨hp', hb⟩ := hpr b hp
    refine .sl xs b o cap sz vs hp' hcap hrf h1 hsz (fun i j hi hj => (cell?_of_block hb _).trans (hc i j hi hj)) fun i hi j hj => ih i hi j hj fun id hid => ?_
    have h0 := AV.refsL_mem (List.getElem_mem hi)
    have h2 := AV.refsL_mem (List.getElem_mem hj)
    have h3 : AV.refsL (xs[i]).cells ≤ (xs[i]).refs := by
      cases xs[i] <;> simp [AV.cells, AV.refs, AV.refsL]
    omega
  | vec id off len sz lb cap a h hl hb hr ha =>
    obtain ⟨e, hl'⟩ := hφ id (by simp [AV.refs]) h
    rw [← e] at hr ha
    exact .vec id off len sz lb cap a hl' hl hb hr ha
  | nilm => exact .nilm
  | map id h =>
    obtain ⟨e, hl⟩ := hφ id (by simp [AV.refs]) h
    rw [← e]
    exact .map id hl
  | nilfn => exact .nilfn
  | fn f caps cvs hl hv ih =>
    refine .fn f caps cvs hl fun j hj => ih j hj fun id hid => hφ id ?_
    have := AV.refsL_mem (List.getElem_mem hj)
    simp only [AV.refs]; omega
  | nili => exact .nili
  | iface t v cv hv ih => exact .iface t v cv (ih fun id hid => hφ id (by simpa [AV.refs] using hid))
  | agg cs cvs hl h1 hv ih =>
    refine .agg cs cvs hl h1 fun j hj => ih j hj fun id hid => hφ id ?_
    have := AV.refsL_mem (List.getElem_mem hj)
    simp only [AV.refs]; omega
  | tuple cs cvs hl hv ih =>
    refine .tuple cs cvs hl fun j hj => ih j hj fun id hid => hφ id ?_
    have := AV.refsL_mem (List.getElem_mem hj)
    simp only [AV.refs]; omega
theorem RV.refs_le {φ : Phi} {nx : Nat} {pr : Nat → Prop} {w : World} {v : AV} {cv : Value} (h : RV φ nx pr w v cv) : v.refs ≤ nx := by
  induction h with
  | ptr id off h => simp only [AV.refs]; omega
  | vec id off len sz lb cap a h hl hb hr ha => simp only [AV.refs]; omega
  | map id h => simp only [AV.refs]; omega
  | fn f caps cvs hl hv ih =>
    simp only [AV.refs]
    refine AV.refsL_le fun v hv' => ?_
    obtain ⟨j, hj, rfl⟩ := List.getElem_of_mem hv'
    exact ih j hj
  | iface t v cv hv ih => simpa [AV.refs] using ih
  | agg cs cvs hl h1 hv ih =>
    simp only [AV.refs]
    refine AV.refsL_le fun v hv' => ?_
    obtain ⟨j, hj, rfl⟩ := List.getElem_of_mem hv'
    exact ih j hj
  | tuple cs cvs hl hv ih =>
    simp only [AV.refs]
    refine AV.refsL_le fun v hv' => ?_
    obtain ⟨j, hj, rfl⟩ := List.getElem_of_mem hv'
    exact ih j hj
  | _ => simp [AV.refs]
def live (h : Heap) (id : Nat) : Prop := ∃ o, h.get id = some o ∧ (∀ _ : o = .dead, False)
def Pr (φ : Phi) (h : Heap) (w : World) (b : Nat) : Prop := b < w.heap.size ∧ (∀ id, live h id → (φ id).blk ≠ b) ∧ ¬ φ.gh b
abbrev RVh (φ : Phi) (h : Heap) (w : World) : AV → Value → Prop := RV φ h.next (Pr φ h w) w
def RowOK (φ : Phi) (h : Heap) (w : World) (id : Nat) (cs : List AV) : Prop :=
  ∃ c el fr, w.heap[(φ id).blk]? = some (.cells c el fr) ∧ (φ id).base + (φ id).room ≤ c.size ∧ cs.length ≤ (φ id).room ∧
    (∀ o, o < c.size → ¬ (fr.1 ≤ o ∧ o < fr.2)) ∧
    (∀ j, j < (φ id).room → (c.getD ((φ id).base + j) default).oneCell' = true) ∧
    ∀ j (hj : j < cs.length), RVh φ h w cs[j] (c.getD ((φ id).base + j) default)
def MapOK (φ : Phi) (h : Heap) (w : World) (id : Nat) (es : List (AV × AV)) : Prop :=
  ∃ ents clk, w.heap[(φ id).blk]? = some (.map ents clk) ∧ ents.size = es.length ∧
    ∀ j (hj : j < es.length), RVh φ h w es[j].1 (ents.getD j default).key ∧ RVh φ h w es[j].2 (ents.getD j default).val
structure HR (φ : Phi) (h : Heap) (w : World) : Prop where
  wf : h.wf
  rows : ∀ id cs, h.get id = some (.row cs) → RowOK φ h w id cs
  maps : ∀ id es, h.get id = some (.map es) → MapOK φ h w id es
  inj : ∀ i j, live h i → live h j → (φ i).blk = (φ j).blk → i = j
  gh : ∀ b, φ.gh b → b < w.heap.size ∧ ∀ id, live h id → (φ id).blk ≠ b
structure Ext (φ : Phi) (h : Heap) (w : World) (φ' : Phi) (h' : Heap) (w' : World) : Prop where
  os : w'.os = w.os
  tape : w'.tape = w.tape
  output : w'.output = w.output
  size : w.heap.size ≤ w'.heap.size
  next : h.next ≤ h'.next
  phi : ∀ id, id < h.next → φ' id = φ id
  pr : ∀ b, Pr φ h w b → Pr φ' h' w' b ∧ w'.heap[b]? = w.heap[b]?
  gh : φ'.gh = φ.gh ∧ ∀ b, φ.gh b → w'.heap[b]? = w.heap[b]?
theorem Ext.refl (φ : Phi) (h : Heap) (w : World) : Ext φ h w φ h w := ⟨rfl, rfl, rfl, Nat.le_refl _, Nat.le_refl _, fun _ _ => rfl, fun _ hb => ⟨hb, rfl⟩, rfl, fun _ _ => rfl⟩
theorem Ext.trans {φ φ1 φ2 : Phi} {h h1 h2 : Heap} {w w1 w2 : World} (a : Ext φ h w φ1 h1 w1) (b : Ext φ1 h1 w1 φ2 h2 w2) : Ext φ h w φ2 h2 w2 :=
  ⟨b.os.trans a.os, b.tape.trans a.tape, b.output.trans a.output, Nat.le_trans a.size b.size, Nat.le_trans a.next b.next,
    fun id hid => (b.phi id (Nat.lt_of_lt_of_le hid a.next)).trans (a.phi id hid), fun x hx => by
      obtain ⟨h1, e1⟩ := a.pr x hx
      obtain ⟨h2, e2⟩ := b.pr x h1
      exact ⟨h2, e2.trans e1⟩, b.gh.1.trans a.gh.1, fun x hx => (b.gh.2 x (by rw [a.gh.1]; exact hx)).trans (a.gh.2 x hx)⟩
theorem RV.ext {φ φ' : Phi} {h h' : Heap} {w w' : World} {v : AV} {cv : Value} (hv : RVh φ h w v cv) (e : Ext φ h w φ' h' w') : RVh φ' h' w' v cv :=
  hv.mono (fun id _ hid => ⟨e.phi id hid, Nat.lt_of_lt_of_le hid e.next⟩) e.pr
def Glob (P : Program) (X : World → Prop) (φ : Phi) (h : Heap) (w : World) : Prop :=
  ∃ w1 : World, (w1.ShapedOpen P ∧ X w1) ∧ ∀ b, b < w1.heap.size → b < w.heap.size ∧ (φ.gh b ∨ Pr φ h w b) ∧ w.heap[b]? = w1.heap[b]?
theorem Glob.ext {P : Program} {φ φ' : Phi} {h h' : Heap} {w w' : World} (g : Glob P X φ h w) (e : Ext φ h w φ' h' w') : Glob P X φ' h' w' := by
  obtain ⟨w1, h1, h2⟩ := g
  refine ⟨w1, h1, fun b hb => ?_⟩
  obtain ⟨g1, g2, g3⟩ := h2 b hb
  refine ⟨Nat.lt_of_lt_of_le g1 e.size, ?_⟩
  rcases g2 with g2 | g2
  · exact ⟨.inl (by rw [e.gh.1]; exact g2), (e.gh.2 b g2).trans g3⟩
  · exact ⟨.inr (e.pr b g2).1, (e.pr b g2).2.trans g3⟩
def FR (φ : Phi) (h : Heap) (w : World) (fr : List AV) (tm : Array Value) : Prop :=
  tm.size = fr.length ∧ ∀ t, RVh φ h w (fr.getD t .undef) (tm.getD t undef)
theorem FR.ext {φ φ' : Phi} {h h' : Heap} {w w' : World} {fr : List AV} {tm : Array Value} (hf : FR φ h w fr tm) (e : Ext φ h w φ' h' w') : FR φ' h' w' fr tm :=
  ⟨hf.1, fun t => (hf.2 t).ext e⟩
theorem FR.put {φ : Phi} {h : Heap} {w : World} {fr : List AV} {tm : Array Value} (hf : FR φ h w fr tm) {v : AV} {cv : Value} (hv : RVh φ h w v cv) (d : Nat) :
    FR φ h w (fr.set d v) (tm.setIfInBounds d cv) := by
  refine ⟨by simp [hf.1], fun t => ?_⟩
  have ht := hf.2 t
  rw [List.getD_eq_getElem?_getD] at ht ⊢
  rw [Array.getD_eq_getD_getElem?] at ht ⊢
  rw [List.getElem?_set, Array.getElem?_setIfInBounds]
  by_cases hd : d = t
  · subst hd
    simp only [if_true, hf.1]
    by_cases hl : d < fr.length
    · simpa [hl] using hv
    · simp only [hl, if_false]
      exact .undef _
  · simpa [hd] using ht
section inv
variable {φ : Phi} {nx : Nat} {pr : Nat → Prop} {w : World} {cv : Value}
theorem RV.ptr_inv {id off : Nat} (h : RV φ nx pr w (.ptr id off) cv) : cv = .pointer (some ⟨(φ id).blk, (φ id).base + off, none⟩) ∧ id < nx := by
  cases h with
  | ptr _ _ h => exact ⟨rfl, h⟩
theorem RV.ip_inv {cs : List AV} (h : RV φ nx pr w (.ip cs) cv) : ∃ b o, ∃ vs : Nat → Value, cv = .pointer (some ⟨b, o, none⟩) ∧ pr b ∧ AV.refsL cs = 0 ∧ (∀ j, (vs j).oneCell' = true) ∧
    (∀ j, j < cs.length → w.cell? ⟨b, o + j, none⟩ = some (vs j)) ∧ ∀ j (h : j < cs.length), RV φ nx pr w cs[j] (vs j) := by
  cases h with
  | ip _ b o vs hp hrf h1 hc hv => exact ⟨b, o, vs, rfl, hp, hrf, h1, hc, hv⟩
theorem RV.sl_inv {xs : List AV} (h : RV φ nx pr w (.sl xs) cv) : (∃ a cap, xs = [] ∧ cv = .slice a 0 cap) ∨
    ∃ b o cap sz, ∃ vs : Nat → Nat → Value, cv = .slice (some ⟨b, o, none⟩) xs.length cap ∧ pr b ∧ xs.length ≤ cap ∧ AV.refsL xs = 0 ∧ (∀ i j, (vs i j).oneCell' = true) ∧
      (∀ i (h : i < xs.length), (xs[i]).cells?.map List.length = some sz) ∧ (∀ i j, i < xs.length → j < sz → w.cell? ⟨b, o + i * sz + j, none⟩ = some (vs i j)) ∧
      ∀ i (h : i < xs.length) j (h' : j < (xs[i]).cells.length), RV φ nx pr w ((xs[i]).cells[j]) (vs i j) := by
  cases h with
  | slnil a cap => exact .inl ⟨a, cap, rfl, rfl⟩
  | sl _ b o cap sz vs hp hcap hrf h1 hsz hc hv => exact .inr ⟨b, o, cap, sz, vs, rfl, hp, hcap, hrf, h1, hsz, hc, hv⟩
theorem RV.vec_inv {id off len sz lb : Nat} (h : RV φ nx pr w (.vec id off len sz lb) cv) : ∃ cap a, cv = .slice a len cap ∧ id < nx ∧ len ≤ cap ∧ lb ≤ cap ∧ off + cap * sz ≤ (φ id).room ∧
    (0 < cap → a = some ⟨(φ id).blk, (φ id).base + off, none⟩) := by
  cases h with
  | vec _ _ _ _ _ cap a h hl hb hr ha => exact ⟨cap, a, rfl, h, hl, hb, hr, ha⟩
theorem RV.nils_inv (h : RV φ nx pr w .nils cv) : ∃ a, cv = .slice a 0 0 := by
  cases h with
  | nils a => exact ⟨a, rfl⟩
theorem RV.map_inv {id : Nat} (h : RV φ nx pr w (.map id) cv) : cv = .map (some (φ id).blk) ∧ id < nx := by
  cases h with
  | map _ h => exact ⟨rfl, h⟩
theorem RV.nilm_inv (h : RV φ nx pr w .nilm cv) : cv = .map none := by cases h; rfl
theorem RV.agg_inv {cs : List AV} (h : RV φ nx pr w (.agg cs) cv) : ∃ cvs : Array Value, cv = .agg cvs ∧ cvs.size = cs.length ∧ (∀ j, (cvs.getD j default).oneCell' = true) ∧
    ∀ j (h : j < cs.length), RV φ nx pr w cs[j] (cvs.getD j default) := by
  cases h with
  | agg _ cvs hl h1 hv => exact ⟨cvs, rfl, hl, h1, hv⟩
theorem RV.tuple_inv {cs : List AV} (h : RV φ nx pr w (.tuple cs) cv) : ∃ cvs : Array Value, cv = .tuple cvs ∧ cvs.size = cs.length ∧ ∀ j (h : j < cs.length), RV φ nx pr w cs[j] (cvs.getD j default) := by
  cases h with
  | tuple _ cvs hl hv => exact ⟨cvs, rfl, hl, hv⟩
theorem RV.fn_inv {f : Nat} {caps : List AV} (h : RV φ nx pr w (.fn f caps) cv) : ∃ cvs : Array Value, cv = .func (.func f) #[] cvs ∧ cvs.size = caps.length ∧ ∀ j (h : j < caps.length), RV φ nx pr w caps[j] (cvs.getD j default) := by
  cases h with
  | fn _ _ cvs hl hv => exact ⟨cvs, rfl, hl, hv⟩
theorem RV.nilp_inv (h : RV φ nx pr w .nilp cv) : cv = .pointer none := by cases h; rfl
theorem RV.nili_inv (h : RV φ nx pr w .nili cv) : cv = .nilIface := by cases h; rfl
theorem RV.nilfn_inv (h : RV φ nx pr w .nilfn cv) : cv = .nilFunc := by cases h; rfl
theorem RV.iface_inv {t : Nat} {v : AV} (h : RV φ nx pr w (.iface t v) cv) : ∃ c, cv = .iface t c ∧ RV φ nx pr w v c := by
  cases h with
  | iface _ _ c hv => exact ⟨c, rfl, hv⟩
end inv
end Sz

/- The compiled form of the code, and the abstract run over it. No program is named here. -/
namespace Sz
open Go
inductive Opd where
  | tmp (t : Nat)
  | const (v : AV)
  deriving Inhabited
inductive AOp where
  | mov (x : Opd)
  | pick (c x y : Opd)
  | box (x : Opd)
  | bld (zero : List AV) (parts : List (Nat × Nat × Opd))
  | bsl (sz len : Nat) (zero : List AV) (parts : List (Nat × Opd))
  | ld (n : Option Nat) (x : Opd)
  | st (n : Nat) (x v : Opd)
  | nck (x : Opd)
  | bin (op : BinOp) (x y : Opd)
  | beq (neg : Bool) (x y : Opd)
  | ceq (kinds : List Nat) (neg : Bool) (x y : Opd)
  | peq (kind : Nat) (neg : Bool) (x y : Opd)
  | un (op : UnOp) (x : Opd)
  | cvi (k : IntKind) (x : Opd)
  | cvss (x : Opd)
  | cvis (x : Opd)
  | cvsb (x : Opd)
  | cvbs (x : Opd)
  | mki (t : Nat) (x : Opd)
  | mkf (f : Nat) (caps : List Opd)
  | mkm
  | mks (bytes : Nat) (zero : List AV) (l c : Opd)
  | sls (x : Opd) (lo hi : Option Opd)
  | slv (sz : Nat) (x : Opd) (lo hi mx : Option Opd)
  | fad (off : Nat) (x : Opd)
  | fld (off : Nat) (n : Option Nat) (x : Opd)
  | iad (sz : Nat) (x i : Opd)
  | ixs (x i : Opd)
  | lkp (kd : Nat) (zero : AV) (ok : Bool) (m k : Opd)
  | mup (kd : Nat) (m k v : Opd)
  | ext (x : Opd) (i : Nat)
  | lens (x : Opd)
  | lenv (x : Opd)
  | lenm (x : Opd)
  | mx (x y : Opd)
  | mn (x y : Opd)
  | app (sz bytes : Nat) (x y : Opd)
  | clr (zero : List AV) (x : Opd)
  | bs0
  | snil (neg : Bool) (x : Opd)
  | fsl (len : Nat) (zero : List AV) (parts : List (Nat × Opd))
  | cvfs (x : Opd)
  | lks (ks : List Nat) (zero : AV) (ok : Bool) (m k : Opd)
  | mus (ks : List Nat) (m k v : Opd)
  | die
  deriving Inhabited
inductive SOp where
  | op (a : AOp)
  | call (f : Nat) (args : List Opd)
  | callv (x : Opd) (args : List Opd)
  | kcall (f : Nat)
  deriving Inhabited
structure AStep where
  dst : Option Nat
  op : SOp
  guard : Option (Nat × Bool) := none
  deriving Inhabited
inductive ACode where
  | skip
  | reg (ops : List AStep)
  | dreg (ops : List AStep) (chk : List (Nat × Nat))
  | seq (a b : ACode)
  | cond (c : Opd) (a b : ACode)
  | block (id : Nat) (a : ACode)
  | loop (live : List Bool) (a : ACode)
  | exit (id : Nat) (live : List Bool)
  | ret (live : List Bool)
  deriving Inhabited
inductive ARes where
  | tmp (t : Nat)
  | cell (t : Nat) (n : Option Nat)
  deriving Inhabited
structure AFun where
  ntmps : Nat
  results : List ARes
  keep : Bool
  code : ACode
  deriving Inhabited
structure Env where
  fn : Nat → Option AFun
  prim : Nat → List AV → Option AV
  meth : Nat → List AV → List AObj → Option (AV × Option (List AObj))
  mcl : Nat → Bool
def AOp.opds : AOp → List Opd
  | .mov x | .box x | .ld _ x | .nck x | .un _ x | .cvi _ x | .cvss x | .cvis x | .cvsb x | .cvbs x | .mki _ x | .fad _ x | .fld _ _ x | .ext x _ | .lens x | .lenv x | .lenm x | .clr _ x | .snil _ x | .cvfs x => [x]
  | .pick c x y => [c, x, y]
  | .bld _ parts => parts.map (·.2.2)
  | .bsl _ _ _ parts | .fsl _ _ parts => parts.map (·.2)
  | .st _ x v => [x, v]
  | .bin _ x y | .beq _ x y | .ceq _ _ x y | .peq _ _ x y | .iad _ x y | .ixs x y | .mx x y | .mn x y | .app _ _ x y => [x, y]
  | .mkf _ caps => caps
  | .mkm | .bs0 | .die => []
  | .mks _ _ l c => [l, c]
  | .sls x lo hi => x :: (lo.toList ++ hi.toList)
  | .slv _ x lo hi m3 => x :: (lo.toList ++ (hi.toList ++ m3.toList))
  | .lkp _ _ _ m k => [m, k]
  | .lks _ _ _ m k => [m, k]
  | .mus _ m k v => [m, k, v]
  | .mup _ m k v => [m, k, v]
def SOp.opds : SOp → List Opd
  | .op a => a.opds
  | .call _ args => args
  | .callv x args => x :: args
  | .kcall _ => []
def Opd.tmps : Opd → List Nat
  | .tmp t => [t]
  | .const _ => []
def AStep.reads (s : AStep) : List Nat := (match s.guard with | some (t, _) => [t] | none => []) ++ s.op.opds.flatMap Opd.tmps
def AOp.still : AOp → Bool
  | .mov _ | .pick .. | .bld .. | .nck _ | .bin .. | .beq .. | .ceq .. | .peq .. | .un .. | .cvi .. | .cvss _ | .cvis _ | .mki .. | .mkf .. | .sls .. | .slv .. | .fad .. | .fld .. | .iad .. | .ixs .. | .ext .. | .lens _ | .lenv _ | .mx .. | .mn .. | .bs0 | .snil .. | .fsl .. | .cvfs _ => true
  | _ => false
def AStep.isLd (s : AStep) : Bool := match s.op with | .op (.ld ..) => true | _ => false
def AStep.eff (s : AStep) : Bool := match s.op with | .op (.ld ..) => false | .op o => !o.still | .kcall _ => false | _ => true
def Opd.low : Opd → Bool
  | .tmp _ => true
  | .const v => v.refs == 0
def AStep.pend (s : AStep) : Bool := match s.guard, s.op with
  | none, .op (.box x) => x.low
  | none, .op (.bsl _ _ zero parts) => AV.refsL zero == 0 && parts.all fun p => p.2.low
  | none, .op (.mks _ zero (.tmp l) (.tmp c)) => AV.refsL zero == 0 && Nat.beq l c
  | _, _ => false
def Opd.ev (fr : List AV) : Opd → AV
  | .tmp t => fr.getD t .undef
  | .const v => v
def putAt (cells : List AV) (off : Nat) : List AV → List AV
  | [] => cells
  | c :: cs => putAt (cells.set off c) (off + 1) cs
def fillA (cells : List AV) : List (Nat × Nat × AV) → Option (List AV)
  | [] => some cells
  | (off, sz, v) :: rest =>
    match v.cells? with
    | some cs => if cs.length = sz ∧ off + sz ≤ cells.length then fillA (putAt cells off cs) rest else none
    | none => none
def Heap.row (h : Heap) (id : Nat) : Option (List AV) :=
  match h.get id with
  | some (.row cs) => some cs
  | _ => none
def Heap.mapAt (h : Heap) (id : Nat) : Option (List (AV × AV)) :=
  match h.get id with
  | some (.map es) => some es
  | _ => none
def bitsI (op : BinOp) (k : IntKind) (x y : Int) : Int :=
  let a := BitVec.ofInt k.bits x
  let b := BitVec.ofInt k.bits y
  match op with
  | .and => k.wrap (a &&& b).toNat
  | .or => k.wrap (a ||| b).toNat
  | .xor => k.wrap (a ^^^ b).toNat
  | _ => k.wrap (a &&& ~~~b).toNat
def binA (op : BinOp) : AV → AV → Option AV
  | .int k a, .int k' b =>
    match op with
    | .shl => if b < 0 then none else some (.int k (k.wrap (a * 2 ^ min b.toNat k.bits)))
    | .shr => if b < 0 then none else some (.int k (a.fdiv (2 ^ min b.toNat k.bits)))
    | op => if k = k' then
        (match op with
        | .add => some (.int k (k.wrap (a + b)))
        | .sub => some (.int k (k.wrap (a - b)))
        | .mul => some (.int k (k.wrap (a * b)))
        | .quo => if b = 0 then none else some (.int k (k.wrap (a.tdiv b)))
        | .rem => if b = 0 then none else some (.int k (a.tmod b))
        | .and | .or | .xor | .andNot => some (.int k (bitsI op k a b))
        | .eql => some (.bool (decide (a = b)))
        | .neq => some (.bool (!decide (a = b)))
        | .lss => some (.bool (decide (a < b)))
        | .leq => some (.bool (decide (a ≤ b)))
        | .gtr => some (.bool (decide (b < a)))
        | .geq => some (.bool (decide (b ≤ a)))
        | _ => none) else none
  | .str a, .str b =>
    match op with
    | .add => if a.length + b.length < 2 ^ 63 then some (.str (a ++ b)) else none
    | .eql => some (.bool (a == b))
    | .neq => some (.bool (!(a == b)))
    | .lss => some (.bool (Op.bytesLess a b))
    | .leq => some (.bool (Op.bytesLess a b || a == b))
    | .gtr => some (.bool (!(Op.bytesLess a b || a == b)))
    | .geq => some (.bool (!(Op.bytesLess a b)))
    | _ => none
  | _, _ => none
def eqCell : Nat → AV → AV → Option Bool
  | 0, .bool a, .bool b => some (a == b)
  | 1, .int k a, .int k' b => if k = k' then some (decide (a = b)) else none
  | 2, .str a, .str b => some (a == b)
  | _, _, _ => none
def eqCells : List Nat → List AV → List AV → Option Bool
  | [], [], [] => some true
  | k :: ks, x :: xs, y :: ys =>
    match eqCell k x y, eqCells ks xs ys with
    | some a, some b => some (a && b)
    | _, _ => none
  | _, _, _ => none
def nilA : AV → Option Bool
  | .nilp | .nili | .nilfn | .nilm => some true
  | .ptr .. | .ip .. | .iface .. | .fn .. | .map .. => some false
  | _ => none
def nilK : Nat → AV → Option Bool
  | 0, .nilp => some true
  | 0, .ptr .. => some false
  | 0, .ip _ => some false
  | 1, .nili => some true
  | 1, .iface .. => some false
  | 2, .nilfn => some true
  | 2, .fn .. => some false
  | 3, .nilm => some true
  | 3, .map _ => some false
  | _, _ => none
def sliceB (n : Nat) (lo hi : Option AV) : Option (Nat × Nat) :=
  match (match hi with | none => some n | some (.int _ i) => (if 0 ≤ i ∧ i ≤ (n : Int) then some i.toNat else none) | _ => none) with
  | none => none
  | some h =>
    match (match lo with | none => some 0 | some (.int _ i) => (if 0 ≤ i ∧ i ≤ (h : Int) then some i.toNat else none) | _ => none) with
    | none => none
    | some l => some (l, h)
def sliceC (n lb : Nat) (lo hi mx : Option AV) : Option (Nat × Nat × Option Nat) :=
  match mx with
  | some (.int _ i) => if 0 ≤ i ∧ i ≤ (max n lb : Nat) then (match hi with
      | some _ => (sliceB i.toNat lo hi).map fun p => (p.1, p.2, some i.toNat)
      | none => none) else none
  | some _ => none
  | none => match hi with
    | none => (sliceB n lo none).map fun p => (p.1, p.2, none)
    | some _ => (sliceB (max n lb) lo hi).map fun p => (p.1, p.2, none)
def elemsA (h : Heap) (sz : Nat) : AV → Option (Nat × List AV)
  | .nils => some (0, [])
  | .sl xs => if (xs.all fun x => (x.cells?.map List.length) == some sz) then some (xs.length, xs.flatMap AV.cells) else none
  | .vec id off len s _ =>
    match h.row id with
    | some cs => if s = sz ∧ off + len * sz ≤ cs.length then some (len, (cs.drop off).take (len * sz)) else none
    | none => none
  | .str s => if sz = 1 then some (s.length, s.map fun b => .int .u8 b.toNat) else none
  | _ => none
def bytesOf : List AV → Option (List UInt8)
  | [] => some []
  | .int .u8 n :: r => (bytesOf r).map (UInt8.ofNat n.toNat :: ·)
  | _ => none
def lookA (kd : Nat) (k : AV) : List (AV × AV) → Option (Option AV)
  | [] => some none
  | (k', v) :: r =>
    match eqCell kd k k' with
    | some true => some (some v)
    | some false => lookA kd k r
    | none => none
def lookKs (ks : List Nat) (k : List AV) : List (AV × AV) → Option (Option AV)
  | [] => some none
  | (.agg k', v) :: r =>
    match eqCells ks k k' with
    | some true => some (some v)
    | some false => lookKs ks k r
    | none => none
  | _ :: _ => none
def mupKs (ks : List Nat) (k : List AV) (v : AV) : List (AV × AV) → Option (List (AV × AV))
  | [] => some [(.agg k, v)]
  | (.agg k', v') :: r =>
    match eqCells ks k k' with
    | some true => none
    | some false => (mupKs ks k v r).map ((.agg k', v') :: ·)
    | none => none
  | _ :: _ => none
def mupA (kd : Nat) (k v : AV) : List (AV × AV) → Option (List (AV × AV))
  | [] => some [(k, v)]
  | (k', v') :: r =>
    match eqCell kd k k' with
    | some true => some ((k, v) :: r)
    | some false => (mupA kd k v r).map ((k', v') :: ·)
    | none => none
def ldA (h : Heap) (n : Option Nat) : AV → Option AV
  | .ptr id off =>
    match h.row id, n with
    | some cs, none => cs[off]?
    | some cs, some n => if off + n ≤ cs.length then some (.agg ((cs.drop off).take n)) else none
    | none, _ => none
  | .ip cs =>
    match n with
    | none => cs[0]?
    | some n => if n ≤ cs.length then some (.agg (cs.take n)) else none
  | _ => none
def evOp (fr : List AV) (h : Heap) : AOp → Option (AV × Heap)
  | .mov x => some (x.ev fr, h)
  | .pick c x y => match c.ev fr with
    | .bool b => some (if b then x.ev fr else y.ev fr, h)
    | _ => none
  | .box x => match (x.ev fr).cells? with
    | some cs => some (.ptr h.next 0, h.alloc (.row cs))
    | none => none
  | .bld zero parts => (fillA zero (parts.map fun p => (p.1, p.2.1, p.2.2.ev fr))).map fun cs => (.agg cs, h)
  | .bsl sz len zero parts => (fillA zero (parts.map fun p => (p.1 * sz, sz, p.2.ev fr))).map fun cs => (.vec h.next 0 len sz len, h.alloc (.row cs))
  | .ld n x => (ldA h n (x.ev fr)).map fun v => (v, h)
  | .st n x v => match x.ev fr, (v.ev fr).cells? with
    | .ptr id off, some vs => match h.row id with
      | some cs => if vs.length = n ∧ off + n ≤ cs.length then some (.undef, (h.set id (.row (putAt cs off vs))).mark id (v.ev fr)) else none
      | none => none
    | _, _ => none
  | .nck x => match nilA (x.ev fr) with
    | some false => some (x.ev fr, h)
    | _ => none
  | .bin op x y => (binA op (x.ev fr) (y.ev fr)).map fun v => (v, h)
  | .beq neg x y => match x.ev fr, y.ev fr with
    | .bool a, .bool b => some (.bool (if neg then !(a == b) else a == b), h)
    | _, _ => none
  | .ceq kinds neg x y => match x.ev fr, y.ev fr with
    | .agg a, .agg b => (eqCells kinds a b).map fun r => (.bool (if neg then !r else r), h)
    | _, _ => none
  | .peq kind neg x y => match nilK kind (x.ev fr), nilK kind (y.ev fr) with
    | some p, some true => some (.bool (if neg then !p else p), h)
    | _, _ => none
  | .un op x => match op, x.ev fr with
    | .not, .bool b => some (.bool (!b), h)
    | .neg, .int k n => some (.int k (k.wrap (0 - n)), h)
    | .xor, .int k n => some (.int k (bitsI .xor k (if k.signed then -1 else k.max) n), h)
    | _, _ => none
  | .cvi k x => match x.ev fr with
    | .int _ n => some (.int k (k.wrap n), h)
    | _ => none
  | .cvss x => match x.ev fr with
    | .str s => some (.str s, h)
    | _ => none
  | .cvis x => match x.ev fr with
    | .int _ n => if 0 ≤ n ∧ n < 128 then some (.str [UInt8.ofNat n.toNat], h) else none
    | _ => none
  | .cvsb x => match x.ev fr with
    | .str s => some (.sl (s.map fun b => .int .u8 b.toNat), h)
    | _ => none
  | .cvbs x => match elemsA h 1 (x.ev fr), x.ev fr with
    | _, .str _ => none
    | some (_, cs), _ => (bytesOf cs).map fun s => (.str s, h)
    | none, _ => none
  | .fsl _ zero parts => match fillA zero (parts.map fun p => (p.1 * 1, 1, p.2.ev fr)) with
    | some cs => if (bytesOf cs).isSome then some (.sl cs, h) else none
    | none => none
  | .cvfs x => match x.ev fr with
    | .sl cs => (bytesOf cs).map fun s => (.str s, h)
    | _ => none
  | .mki t x => some (.iface t (x.ev fr), h)
  | .mkf f caps => some (.fn f (caps.map (·.ev fr)), h)
  | .mkm => some (.map h.next, h.alloc (.map []))
  | .mks bytes zero l c => match l.ev fr, c.ev fr with
    | .int .i64 l, .int .i64 c => if 0 ≤ l ∧ l ≤ c ∧ c * bytes ≤ 140737488355328 ∧ c < 2 ^ 63 then
        some (.vec h.next 0 l.toNat zero.length c.toNat, h.alloc (.row (List.replicate c.toNat zero).flatten)) else none
    | _, _ => none
  | .sls x lo hi => match x.ev fr with
    | .str s => (sliceB s.length (lo.map (·.ev fr)) (hi.map (·.ev fr))).map fun p => (.str ((s.take p.2).drop p.1), h)
    | _ => none
  | .slv sz x lo hi mx =>
    match x.ev fr with
      | .nils => (sliceC 0 0 (lo.map (·.ev fr)) (hi.map (·.ev fr)) (mx.map (·.ev fr))).map fun _ => (.nils, h)
      | .sl xs => if (xs.all fun x => (x.cells?.map List.length) == some sz) then
          (sliceC xs.length xs.length (lo.map (·.ev fr)) (hi.map (·.ev fr)) (mx.map (·.ev fr))).map fun p => (if p.2.2 = some p.1 then .nils else .sl ((xs.take p.2.1).drop p.1), h) else none
      | .vec id off len s lb => if s = sz then
          (sliceC len lb (lo.map (·.ev fr)) (hi.map (·.ev fr)) (mx.map (·.ev fr))).map fun p =>
            (if p.2.2 = some p.1 then .nils else .vec id (off + p.1 * sz) (p.2.1 - p.1) sz (p.2.2.getD lb - p.1), h) else none
      | _ => none
  | .fad off x => match x.ev fr with
    | .ptr id o => some (.ptr id (o + off), h)
    | .ip cs => some (.ip (cs.drop off), h)
    | _ => none
  | .fld off n x => match x.ev fr with
    | .agg cs => match n with
      | none => (cs[off]?).map fun v => (v, h)
      | some n => if off + n ≤ cs.length then some (.agg ((cs.drop off).take n), h) else none
    | _ => none
  | .iad sz x i => match x.ev fr, i.ev fr with
    | .sl xs, .int _ i => if 0 ≤ i then (match xs[i.toNat]? with
        | some v => (match v.cells? with
          | some cs => if cs.length = sz then some (.ip cs, h) else none
          | none => none)
        | none => none) else none
    | .vec id off len s _, .int _ i => if 0 ≤ i ∧ i < len ∧ s = sz then some (.ptr id (off + i.toNat * sz), h) else none
    | _, _ => none
  | .ixs x i => match x.ev fr, i.ev fr with
    | .str s, .int _ i => if 0 ≤ i then (s[i.toNat]?).map fun b => (.int .u8 b.toNat, h) else none
    | _, _ => none
  | .lkp kd zero ok m k => match (match m.ev fr with | .nilm => some [] | .map id => h.mapAt id | _ => none) with
    | some es => (lookA kd (k.ev fr) es).map fun r => (match r with
      | some v => (if ok then .tuple [v, .bool true] else v, h)
      | none => (if ok then .tuple [zero, .bool false] else zero, h))
    | none => none
  | .mup kd m k v => match m.ev fr with
    | .map id => match h.mapAt id with
      | some es => (mupA kd (k.ev fr) (v.ev fr) es).map fun es' => (.undef, ((h.set id (.map es')).mark id (v.ev fr)).mark id (k.ev fr))
      | none => none
    | _ => none
  | .lks ks zero ok m k => match (match m.ev fr with | .nilm => some [] | .map id => h.mapAt id | _ => none), k.ev fr with
    | some es, .agg kc => if kc.length = ks.length then (lookKs ks kc es).map fun r => (match r with
      | some v => (if ok then .tuple [v, .bool true] else v, h)
      | none => (if ok then .tuple [zero, .bool false] else zero, h)) else none
    | _, _ => none
  | .mus ks m k v => match m.ev fr, k.ev fr with
    | .map id, .agg kc => match h.mapAt id with
      | some es => if kc.length = ks.length then (mupKs ks kc (v.ev fr) es).map fun es' => (.undef, ((h.set id (.map es')).mark id (v.ev fr)).mark id (.agg kc)) else none
      | none => none
    | _, _ => none
  | .ext x i => match x.ev fr with
    | .tuple vs => (vs[i]?).map fun v => (v, h)
    | _ => none
  | .lens x => match x.ev fr with
    | .str s => some (.int .i64 s.length, h)
    | _ => none
  | .lenv x => match x.ev fr with
    | .nils => some (.int .i64 0, h)
    | .sl xs => some (.int .i64 xs.length, h)
    | .vec _ _ n _ _ => some (.int .i64 n, h)
    | _ => none
  | .lenm x => match x.ev fr with
    | .nilm => some (.int .i64 0, h)
    | .map id => (h.mapAt id).map fun es => (.int .i64 es.length, h)
    | _ => none
  | .mx x y => match x.ev fr, y.ev fr with
    | .int k a, .int _ b => some (.int k (if a < b then b else a), h)
    | _, _ => none
  | .mn x y => match x.ev fr, y.ev fr with
    | .int k a, .int _ b => some (.int k (if b < a then b else a), h)
    | _, _ => none
  | .app sz bytes x y => match elemsA h sz (y.ev fr) with
    | none => none
    | some (n, news) =>
      match x.ev fr with
      | .nils => if n = 0 then some (.nils, h) else
        if n * bytes ≤ 140737488355328 ∧ n < 2 ^ 63 then some (.vec h.next 0 n sz n, h.alloc (.row news)) else none
      | .vec id off len s lb => match h.row id with
        | some cs => if s = sz ∧ off + len * sz ≤ cs.length then
            if n = 0 then some (.vec id off len s lb, h) else
            if len + n ≤ lb ∧ off + (len + n) * sz ≤ cs.length then some (.vec id off (len + n) sz lb, (h.set id (.row (putAt cs (off + len * sz) news))).mark id (.agg news)) else
            if (len + n) * bytes ≤ 140737488355328 ∧ len + n < 2 ^ 63 then
              some (.vec h.next 0 (len + n) sz (len + n), (h.set id .dead).alloc (.row ((cs.drop off).take (len * sz) ++ news))) else none
          else none
        | none => none
      | _ => none
  | .bs0 => some (.nils, h)
  | .snil neg x => match x.ev fr with
    | .sl (_ :: _) => some (.bool neg, h)
    | .vec _ _ (_ + 1) _ _ => some (.bool neg, h)
    | _ => none
  | .die => none
  | .clr zero x => match x.ev fr with
    | .nils => some (.tuple [], h)
    | .vec id off len s _ => match h.row id with
      | some cs => if s = zero.length ∧ off + len * s ≤ cs.length then some (.tuple [], (h.set id (.row (putAt cs off (List.replicate len zero).flatten))).mark id (.agg zero)) else none
      | none => none
    | _ => none
def unwanted (fr : List AV) : Option (Nat × Bool) → Option Bool
  | none => some false
  | some (t, want) =>
    match fr[t]? with
    | some (.bool b) => some (b != want)
    | some (.tuple []) => some true
    | _ => none
def putA (fr : List AV) : Option Nat → AV → List AV
  | some d, v => fr.set d v
  | none, _ => fr
def evStep (C : Nat → List AV → Heap → Option (AV × Heap)) (s : AStep) (fr : List AV) (h : Heap) : Option (List AV × Heap) :=
  match unwanted fr s.guard with
  | none => none
  | some true => some (putA fr s.dst (.tuple []), h)
  | some false =>
    match s.op with
    | .call f args => (C f (args.map (·.ev fr)) h).map fun p => (putA fr s.dst p.1, p.2)
    | .callv x args => match x.ev fr with
      | .fn f caps => (C f (args.map (·.ev fr) ++ caps) h).map fun p => (putA fr s.dst p.1, p.2)
      | _ => none
    | .op o => (evOp fr h o).map fun p => (putA fr s.dst p.1, p.2)
    | .kcall f => match C f [] ⟨0, [], 0, 0⟩ with
      | some (v, _) => if v.refs = 0 then some (putA fr s.dst v, h) else none
      | none => none
def evSteps (C : Nat → List AV → Heap → Option (AV × Heap)) : List AStep → List AV → Heap → Option (List AV × Heap)
  | [], fr, h => some (fr, h)
  | s :: rest, fr, h =>
    match evStep C s fr h with
    | some (fr', h') => evSteps C rest fr' h'
    | none => none
def ldId (s : AStep) (fr : List AV) : Nat :=
  match s.op with
  | .op (.ld _ x) => match x.ev fr with
    | .ptr id _ => id + 1
    | _ => 0
  | .op (.st _ x _) => match x.ev fr with
    | .ptr id _ => id + 1
    | _ => 0
  | _ => 0
mutual
def AV.eqb : AV → AV → Bool
  | .undef, .undef => true
  | .bool a, .bool b => a == b
  | .int k n, .int k' n' => decide (k = k') && decide (n = n')
  | .str a, .str b => decide (a = b)
  | .nilp, .nilp => true
  | .ptr i o, .ptr j q => Nat.beq i j && Nat.beq o q
  | .ip a, .ip b => AV.eqbL a b
  | .nils, .nils => true
  | .sl a, .sl b => AV.eqbL a b
  | .vec i o l s b, .vec i' o' l' s' b' => Nat.beq i i' && Nat.beq o o' && Nat.beq l l' && Nat.beq s s' && Nat.beq b b'
  | .nilm, .nilm => true
  | .map i, .map j => Nat.beq i j
  | .nilfn, .nilfn => true
  | .fn f a, .fn g b => Nat.beq f g && AV.eqbL a b
  | .nili, .nili => true
  | .iface t a, .iface u b => Nat.beq t u && a.eqb b
  | .agg a, .agg b => AV.eqbL a b
  | .tuple a, .tuple b => AV.eqbL a b
  | _, _ => false
def AV.eqbL : List AV → List AV → Bool
  | [], [] => true
  | a :: r, b :: s => a.eqb b && AV.eqbL r s
  | _, _ => false
end
def sameO : Option AObj → Option AObj → Bool
  | some (.row a), some (.row b) => AV.eqbL a b
  | _, _ => false
def evTr (C : Nat → List AV → Heap → Option (AV × Heap)) : List AStep → List AV → Heap → Option (List AV × Heap × List (Nat × Heap × Heap))
  | [], fr, h => some (fr, h, [])
  | s :: rest, fr, h =>
    match evStep C s fr { h with md := h.next } with
    | some (fr', h') => (evTr C rest fr' { h' with md := min h.md h'.md }).map fun p => (p.1, p.2.1, (ldId s fr, h, h') :: p.2.2)
    | none => none
def chkTr (tr : List (Nat × Heap × Heap)) (chk : List (Nat × Nat)) : Bool := chk.all fun p =>
  match tr[p.1]?, tr[p.2]? with
  | some a, some b => decide (a.1 ≤ b.2.2.md) || (decide (0 < b.1) && !(a.1 == b.1)) || (decide (0 < a.1) && sameO (b.2.1.get (a.1 - 1)) (b.2.2.get (a.1 - 1)))
  | _, _ => false
inductive Ex where
  | normal
  | exit (id : Nat)
  | ret
  deriving DecidableEq, Inhabited
def clear : List Bool → List AV → List AV
  | b :: bs, v :: vs => (if b then v else .undef) :: clear bs vs
  | _, vs => vs
def AV.top : AV → Option Nat
  | .ptr id _ => some id
  | .vec id _ _ _ _ => some id
  | .map id => some id
  | _ => none
def keeps (n0 : Nat) : List AV → List Nat → List Nat
  | [], acc => acc
  | v :: r, acc => match v.top with
    | some id => if n0 ≤ id ∧ acc.contains id = false then keeps n0 r (acc ++ [id]) else keeps n0 r acc
    | none => keeps n0 r acc
def renId (n0 : Nat) (ks : List Nat) (id : Nat) : Nat := if id < n0 then id else n0 + ks.idxOf id
def ren (n0 : Nat) (ks : List Nat) : AV → AV
  | .ptr id off => .ptr (renId n0 ks id) off
  | .vec id off len sz lb => .vec (renId n0 ks id) off len sz lb
  | .map id => .map (renId n0 ks id)
  | v => v
def lowObj (n : Nat) : AObj → Bool
  | .row cs => decide (AV.refsL cs ≤ n)
  | .map es => es.all fun e => decide (e.1.refs ≤ n) && decide (e.2.refs ≤ n)
  | .dead => false
def objsAt (h : Heap) (n0 : Nat) : List Nat → Option (List AObj)
  | [] => some []
  | id :: r => match h.get id, objsAt h n0 r with
    | some o, some os => if lowObj n0 o then some (o :: os) else none
    | _, _ => none
def objCells : AObj → List AV
  | .row cs => cs
  | .map es => es.flatMap fun e => [e.1, e.2]
  | .dead => []
def oldCells : List AObj → List AV
  | [] => []
  | o :: r => objCells o ++ oldCells r
def renObj (n0 : Nat) (ks : List Nat) : AObj → AObj
  | .row cs => .row (cs.map (ren n0 ks))
  | .map es => .map (es.map fun e => (ren n0 ks e.1, ren n0 ks e.2))
  | .dead => .dead
def topLow (n0 : Nat) (v : AV) : Bool := v.top.isSome || decide (v.refs ≤ n0)
def lowCells (n0 : Nat) (o : AObj) : Bool := (objCells o).all fun v => decide (v.refs ≤ n0)
def gc2 (n0 : Nat) (fr : List AV) (h : Heap) : List AV × Heap :=
  match objsAt h n0 (keeps n0 (oldCells (h.objs.drop (h.next - n0))) (keeps n0 fr [])) with
  | some os => if n0 ≤ h.next ∧ fr.all (topLow n0) = true ∧ (oldCells (h.objs.drop (h.next - n0))).all (topLow n0) = true ∧ ((h.objs.drop (h.next - n0)).drop (n0 - h.wl)).all (lowCells n0) = true then
      (fr.map (ren n0 (keeps n0 (oldCells (h.objs.drop (h.next - n0))) (keeps n0 fr []))),
        ⟨n0 + os.length, os.reverse ++ (h.objs.drop (h.next - n0)).map (renObj n0 (keeps n0 (oldCells (h.objs.drop (h.next - n0))) (keeps n0 fr []))), h.wl, min h.md h.wl⟩) else (fr, h)
  | none => (fr, h)
def gc1 (n0 : Nat) (fr : List AV) (h : Heap) : List AV × Heap :=
  match objsAt h n0 (keeps n0 fr []) with
  | some os => if n0 ≤ h.wl ∧ n0 ≤ h.next ∧ (fr.all fun v => v.top.isSome || decide (v.refs ≤ n0)) = true then
      (fr.map (ren n0 (keeps n0 fr [])), { h with next := n0 + os.length, objs := os.reverse ++ h.objs.drop (h.next - n0) }) else (fr, h)
  | none => (fr, h)
def gc (n0 : Nat) (fr : List AV) (h : Heap) : List AV × Heap := if n0 ≤ h.wl then gc1 n0 fr h else gc2 n0 fr h
def loopN (B : List AV → Heap → Option (Ex × List AV × Heap)) (live : List Bool) (n0 : Nat) : Nat → List AV → Heap → Option (Ex × List AV × Heap)
  | 0, _, _ => none
  | n + 1, fr, h =>
    match B (gc n0 (clear live fr) h).1 (gc n0 (clear live fr) h).2 with
    | some (.normal, fr', h') => loopN B live n0 n fr' h'
    | r => r
def evCode (C : Nat → List AV → Heap → Option (AV × Heap)) (n : Nat) : ACode → List AV → Heap → Option (Ex × List AV × Heap)
  | .skip, fr, h => some (.normal, fr, h)
  | .reg ops, fr, h => (evSteps C ops fr h).map fun p => (.normal, p.1, p.2)
  | .dreg ops chk, fr, h =>
    match evTr C ops fr h with
    | some (fr', h', tr) => if chkTr tr chk then some (.normal, fr', h') else none
    | none => none
  | .seq a b, fr, h =>
    match evCode C n a fr h with
    | some (.normal, fr', h') => evCode C n b fr' h'
    | r => r
  | .cond c a b, fr, h =>
    match c.ev fr with
    | .bool t => if t then evCode C n a fr h else evCode C n b fr h
    | _ => none
  | .block id a, fr, h =>
    match evCode C n a fr h with
    | some (.exit i, fr', h') => some (if i = id then .normal else .exit i, fr', h')
    | r => r
  | .loop live a, fr, h => (loopN (evCode C n a) live h.next n fr { h with wl := h.next }).map fun r => (r.1, (gc h.next r.2.1 r.2.2).1, { (gc h.next r.2.1 r.2.2).2 with wl := min h.wl (gc h.next r.2.1 r.2.2).2.wl })
  | .exit id live, fr, h => some (.exit id, clear live fr, h)
  | .ret live, fr, h => some (.ret, clear live fr, h)
def resA (fr : List AV) (h : Heap) : ARes → Option AV
  | .tmp t => some (fr.getD t .undef)
  | .cell t n => ldA h n (fr.getD t .undef)
def resAll (fr : List AV) (h : Heap) : List ARes → Option (List AV)
  | [] => some []
  | r :: rs => match resA fr h r, resAll fr h rs with
    | some v, some vs => some (v :: vs)
    | _, _ => none
def chunk (sz : Nat) : Nat → List AV → List AV
  | 0, _ => []
  | n + 1, cs => (if sz = 1 then (cs.headD .undef) else .agg (cs.take sz)) :: chunk sz n (cs.drop sz)
def frzL (F : AV → Option (AV × List Nat)) : List AV → Option (List AV × List Nat)
  | [] => some ([], [])
  | v :: r =>
    match F v, frzL F r with
    | some (v', i), some (r', j) => some (v' :: r', i ++ j)
    | _, _ => none
def frz (h : Heap) (n0 : Nat) : Nat → AV → Option (AV × List Nat)
  | 0, _ => none
  | d + 1, v =>
    match v with
    | .vec id off len sz lb =>
      if id < n0 then some (.vec id off len sz lb, []) else
      match h.row id with
      | some cs => if off + len * sz ≤ cs.length ∧ sz ≠ 0 then
          (match frzL (frz h n0 d) ((cs.drop off).take (len * sz)) with
          | some (cs', ids) => if AV.refsL cs' = 0 ∧ (cs'.all fun c => c.cells?.map List.length == some 1) then some (.sl (chunk sz len cs'), id :: ids) else none
          | none => none) else none
      | none => none
    | .agg cs => (frzL (frz h n0 d) cs).map fun p => (.agg p.1, p.2)
    | .tuple cs => (frzL (frz h n0 d) cs).map fun p => (.tuple p.1, p.2)
    | v => some (v, [])
def kill (h : Heap) : List Nat → Heap
  | [] => h
  | id :: r => kill (h.set id .dead) r
def finish (keep : Bool) (h0 : Heap) (v : AV) (h : Heap) : AV × Heap :=
  if keep then (v, { h with wl := min h0.wl h.wl, md := min h0.md h.md }) else
  match frz h h0.next 8 v with
  | none => (v, { h with wl := min h0.wl h.wl, md := min h0.md h.md })
  | some (v', ids) =>
    if h0.next ≤ h.wl ∧ v'.refs ≤ h0.next then (v', { h.trunc h0.next with wl := h0.wl, md := if h.md < h0.next then min h0.md h.md else h0.md })
    else (v', { kill h ids with wl := min h0.wl h.wl, md := min h0.md h.md })
def oneOf : List AV → AV
  | [v] => v
  | vs => .tuple vs
def scal1 : AV → Bool
  | .bool _ | .int .. | .str _ | .nilp | .nils | .nilm | .nilfn | .nili => true
  | _ => false
def scal : AV → Bool
  | .tuple vs => vs.all scal1
  | .agg vs => vs.all scal1
  | v => scal1 v
def sig (g : Nat → Nat) : AV → AV
  | .ptr id off => .ptr (g id) off
  | .vec id off len sz lb => .vec (g id) off len sz lb
  | .map id => .map (g id)
  | v => v
def sigO (g : Nat → Nat) : AObj → AObj
  | .row cs => .row (cs.map (sig g))
  | .map es => .map (es.map fun e => (sig g e.1, sig g e.2))
  | .dead => .dead
def AObj.refs : AObj → Nat
  | .row cs => AV.refsL cs
  | .map es => AV.refsL (es.flatMap fun e => [e.1, e.2])
  | .dead => 0
def jPut (h : Heap) (k : Nat) (o : AObj) : Heap := { h.set k o with wl := if o.refs ≤ k + 1 then h.wl else min h.wl k }
def jSet (g : Nat → Nat) : List Nat → List AObj → Heap → Heap
  | k :: ks, o :: os, h => jSet g ks os (jPut h k (sigO g o))
  | _, _, h => h
def jNew (g : Nat → Nat) : List AObj → Heap → Heap
  | o :: os, h => jNew g os (h.alloc (sigO g o))
  | [], h => h
def newG (h : Heap) (τ : List Nat) (i : Nat) : Nat := if i < τ.length then τ.getD i 0 else h.next + (i - τ.length)
def join (h : Heap) (τ : List Nat) (os : List AObj) : Heap :=
  jNew (newG h τ) (os.drop τ.length) (jSet (newG h τ) τ (os.take τ.length) h)
def hasN : List Nat → Nat → Bool
  | [], _ => false
  | k :: r, id => if k = id then true else hasN r id
def posN : List Nat → Nat → Nat
  | [], _ => 0
  | k :: r, id => if k = id then 0 else posN r id + 1
def tops : List AV → List Nat → List Nat
  | [], acc => acc
  | v :: r, acc => match v.top with
    | some j => if hasN acc j then tops r acc else tops r (acc ++ [j])
    | none => tops r acc
def okV (τ : List Nat) (v : AV) : Bool := match v.top with
  | some id => hasN τ id
  | none => v.refs == 0
def okO (τ : List Nat) : AObj → Bool
  | .row cs => cs.all (okV τ)
  | .map es => es.all fun e => okV τ e.1 && okV τ e.2
  | .dead => false
def subOf (h : Heap) (τ : List Nat) : List Nat → Option (List AObj)
  | [] => some []
  | id :: r => match h.get id, subOf h τ r with
    | some o, some os => if okO τ o then some (sigO (posN τ) o :: os) else none
    | _, _ => none
def methH (h : Heap) (τ : List Nat) : Option (List AObj) → Heap
  | none => h
  | some os' => join h τ os'
def methA (M : List AV → List AObj → Option (AV × Option (List AObj))) (mc : Bool) (args : List AV) (h : Heap) : Option (AV × Heap) :=
  match args with
  | [.map id] => if mc then (match h.mapAt id with | some [] => some (.map h.next, h.alloc (.map [])) | _ => none) else none
  | .ptr k 0 :: rest => match h.get k with
    | some (.row cs) => match subOf h (tops cs [k]) (tops cs [k]) with
      | some os => if AV.refsL rest = 0 then (M (.ptr 0 0 :: rest) os).map fun r => (r.1, methH h (tops cs [k]) r.2) else none
      | none => none
    | _ => none
  | _ => none
def evCall (E : Env) : Nat → Nat → List AV → Heap → Option (AV × Heap)
  | 0, _, _, _ => none
  | n + 1, f, args, h =>
    match (frzL (frz h 0 8) args).bind fun p => (E.prim f p.1).map fun v => (v, if scal v then h else kill h p.2) with
    | some r => some r
    | none =>
    match methA (E.meth f) (E.mcl f) args h with
    | some r => some r
    | none =>
      match E.fn f with
      | none => none
      | some F =>
        match evCode (evCall E n) n F.code (args ++ List.replicate (F.ntmps - args.length) .undef) { h with wl := h.next, md := h.next } with
        | some (.exit _, _, _) => none
        | some (_, fr, h') => (resAll fr h' F.results).map fun vs => finish F.keep h (oneOf vs) h'
        | none => none
end Sz

/- The compiler: the model's code to the abstract run's. No program is named here. -/
namespace Sz
open Go
def ofVal1 : Value → Option AV
  | .bool b => some (.bool b)
  | .int k n => some (.int k n)
  | .string s => some (.str s.data.toList)
  | .pointer none => some .nilp
  | .slice none 0 0 => some .nils
  | .map none => some .nilm
  | .nilFunc => some .nilfn
  | .nilIface => some .nili
  | .func (.func f) ⟨[]⟩ ⟨[]⟩ => some (.fn f [])
  | _ => none
def allSome {α β : Type} (f : α → Option β) : List α → Option (List β)
  | [] => some []
  | x :: r => match f x, allSome f r with
    | some y, some s => some (y :: s)
    | _, _ => none
def ofVal : Value → Option AV
  | .agg cs => (allSome ofVal1 cs.toList).map .agg
  | .tuple ⟨[]⟩ => some (.tuple [])
  | v => ofVal1 v
def opd : Operand → Option Opd
  | .tmp t => some (.tmp t)
  | .const v => (ofVal v).map .const
  | .func f => some (.const (.fn f []))
  | .global _ => none
def opds (xs : Array Operand) : Option (List Opd) := allSome opd xs.toList
def opdO : Option Operand → Option (Option Opd)
  | none => some none
  | some x => (opd x).map some
def aggN (P : Program) (t : TypeId) : Option (Option Nat) :=
  match P.underlying t with
  | none => none
  | some (.struct _) => (P.info? t).map fun i => some i.size
  | some (.array ..) => (P.info? t).map fun i => some i.size
  | some _ => some none
def zeroC (P : Program) (t : TypeId) : Option (List AV) := ((P.info? t).bind (·.zero)).bind fun z => (ofVal z).bind AV.cells?
def zeroV (P : Program) (t : TypeId) : Option AV := ((P.info? t).bind (·.zero)).bind ofVal
def kindT (P : Program) (t : TypeId) : Option Nat :=
  match P.underlying t with
  | some .bool => some 0
  | some (.int _) => some 1
  | some .string => some 2
  | _ => none
def flatK (P : Program) : List Field → Nat → Option (List Nat)
  | [], _ => some []
  | f :: r, i => if f.name ≠ "_" ∧ f.offset = i then (match kindT P f.type, flatK P r (i + 1) with
    | some k, some ks => some (k :: ks)
    | _, _ => none) else none
def isConstO : Operand → Bool
  | .const .nilIface | .const (.pointer none) | .const .nilFunc | .const (.map none) => true
  | _ => false
def placesOf (P : Program) (fs : Array Field) : Option (List (Nat × Nat)) := fs.toList.mapM fun f => (P.info? f.type).map fun i => (f.offset, i.size)
def compParts (places : List (Nat × Nat)) : List (Nat × Operand) → Option (List (Nat × Nat × Opd))
  | [] => some []
  | (i, x) :: r =>
    match places[i]?, opd x, compParts places r with
    | some p, some x', some r' => some ((p.1, p.2, x') :: r')
    | _, _, _ => none
def compNil (op : BinOp) (k : Nat) (x' y' : Opd) (y : Operand) : Option AOp :=
  if isConstO y then
    (match op with
    | .eql => some (.peq k false x' y')
    | .neq => some (.peq k true x' y')
    | _ => none) else none
def compBin (P : Program) (op : BinOp) (t : TypeId) (x y : Operand) : Option AOp :=
  match opd x, opd y with
  | some x', some y' =>
    match P.underlying t with
    | some (.int _) | some .string => some (.bin op x' y')
    | some .bool => (match op with
        | .eql => some (.beq false x' y')
        | .neq => some (.beq true x' y')
        | _ => none)
    | some (.struct fs) => (match flatK P fs.toList 0 with
      | some ks => if P.eqGuardType P.depth t = false ∧ P.stoodInHeld t = false then
        (match op with
        | .eql => some (.ceq ks false x' y')
        | .neq => some (.ceq ks true x' y')
        | _ => none) else none
      | none => none)
    | some (.pointer _) => compNil op 0 x' y' y
    | some (.interface _) => compNil op 1 x' y' y
    | some (.func ..) => compNil op 2 x' y' y
    | some (.map ..) => compNil op 3 x' y' y
    | some (.slice _) => (match op, y with
      | .eql, .const (.slice none 0 0) => some (.snil false x')
      | .neq, .const (.slice none 0 0) => some (.snil true x')
      | _, _ => none)
    | _ => none
  | _, _ => none
def compConv (P : Program) (s d : TypeId) (x : Operand) : Option AOp :=
  match opd x, P.underlying s, P.underlying d with
  | some x', some (.int _), some (.int k) => some (.cvi k x')
  | some x', some (.int _), some .string => some (.cvis x')
  | some x', some .string, some .string => some (.cvss x')
  | some x', some .string, some (.slice e) => (match P.underlying e with | some (.int .u8) => some (.cvsb x') | _ => none)
  | some x', some (.slice e), some .string => (match P.underlying e with | some (.int .u8) => some (.cvbs x') | _ => none)
  | _, _, _ => none
def compOp0 (P : Program) : Op → Option AOp
  | .move x | .assign x => (opd x).map .mov
  | .pick c x y => match opd c, opd x, opd y with
    | some c', some x', some y' => some (.pick c' x' y')
    | _, _, _ => none
  | .alloc t => (zeroC P t).map fun z => .box (.const (.agg z))
  | .box _ x => (opd x).map .box
  | .build t parts => match P.underlying t, zeroC P t with
    | some (.struct fs), some z => match placesOf P fs with
      | some places => (compParts places parts.toList).map fun ps => .bld z ps
      | none => none
    | _, _ => none
  | .buildSlice t len parts => if len = 0 ∧ parts.isEmpty then (match P.underlying t with
      | some (.slice e) => (P.info? e).map fun _ => .bs0
      | _ => none) else match P.underlying t with
    | some (.slice e) => match P.info? e, zeroC P e, allSome (fun p => (opd p.2).map fun x => (p.1, x)) parts.toList with
      | some i, some z, some ps => if len * i.size ≤ 2 ^ 24 ∧ z.length = i.size then some (.bsl i.size len ((List.range (len * i.size)).map fun j => z.getD (j % i.size) .undef) ps) else none
      | _, _, _ => none
    | _ => none
  | .load t x => match opd x, aggN P t with
    | some x', some n => some (.ld n x')
    | _, _ => none
  | .store t x v => match opd x, opd v, P.info? t with
    | some x', some v', some i => some (.st i.size x' v')
    | _, _, _ => none
  | .nilCheck x => (opd x).map .nck
  | .binOp op t x y _ => compBin P op t x y
  | .unOp op _ x => (opd x).map (.un op)
  | .convert s d x => compConv P s d x
  | .makeInterface t x => match opd x, P.underlying t with
    | some _, some (.interface _) => none
    | some x', some _ => some (.mki t x')
    | _, _ => none
  | .makeFunc (.func f) first caps => if first.isEmpty then (opds caps).map (.mkf f) else none
  | .makeMap _ none => some .mkm
  | .makeSlice t l c => match P.underlying t, opd l, opd c with
    | some (.slice e), some l', some c' => match P.info? e, zeroC P e with
      | some i, some z => if z.length = i.size then some (.mks i.bytes z l' c') else none
      | _, _ => none
    | _, _, _ => none
  | .slice t x lo hi mx => match P.underlying t, opd x, opdO lo, opdO hi, opdO mx with
    | some .string, some x', some lo', some hi', some none => some (.sls x' lo' hi')
    | some (.slice e), some x', some lo', some hi', some mx' => (P.info? e).map fun i => .slv i.size x' lo' hi' mx'
    | _, _, _, _, _ => none
  | .fieldAddr s x f => match P.underlying s, opd x with
    | some (.struct fs), some x' => match fs[f]? with
      | some fd => match P.info? fd.type with
        | some i => if i.size ≠ 0 then some (.fad fd.offset x') else none
        | none => none
      | none => none
    | _, _ => none
  | .field t x f => match P.underlying t, opd x with
    | some (.struct fs), some x' => match fs[f]? with
      | some fd => (aggN P fd.type).map fun n => .fld fd.offset n x'
      | none => none
    | _, _ => none
  | .indexAddr t x i => match P.underlying t, opd x, opd i with
    | some (.slice e), some x', some i' => (P.info? e).map fun inf => .iad inf.size x' i'
    | _, _, _ => none
  | .index t x i => match P.underlying t, opd x, opd i with
    | some .string, some x', some i' => some (.ixs x' i')
    | _, _, _ => none
  | .lookup t m k ok => match P.underlying t, opd m, opd k with
    | some (.map kt e), some m', some k' => (match P.underlying kt, zeroV P e with
      | some (.int _), some z => some (.lkp 1 z ok m' k')
      | some (.struct fs), some z => if P.stoodInHeld kt = false then (flatK P fs.toList 0).map fun ks => .lks ks z ok m' k' else none
      | _, _ => none)
    | _, _, _ => none
  | .mapUpdate t m k v => match P.underlying t, opd m, opd k, opd v with
    | some (.map kt _), some m', some k', some v' => (match P.underlying kt with
      | some (.int _) => some (.mup 1 m' k' v')
      | some (.struct fs) => if P.stoodInHeld kt = false then (flatK P fs.toList 0).map fun ks => .mus ks m' k' v' else none
      | _ => none)
    | _, _, _, _ => none
  | .extract x i => (opd x).map fun x' => .ext x' i
  | .call { callee := .builtin b, args, argTypes } => match b, args.toList, argTypes.toList with
    | .len, [x], [t] => match P.underlying t with
      | some .string => (opd x).map .lens
      | some (.slice _) => (opd x).map .lenv
      | some (.map ..) => (opd x).map .lenm
      | _ => none
    | .clear, [x], [t] => match P.underlying t, opd x with
      | some (.slice e), some x' => match P.info? e, zeroC P e with
        | some i, some z => if z.length = i.size then some (.clr z x') else none
        | _, _ => none
      | _, _ => none
    | .max, [x, y], _ => match opd x, opd y with
      | some x', some y' => some (.mx x' y')
      | _, _ => none
    | .min, [x, y], _ => match opd x, opd y with
      | some x', some y' => some (.mn x' y')
      | _, _ => none
    | .append, [x, y], [t, u] => match P.underlying t, P.underlying u, opd x, opd y with
      | some (.slice _), some (.int _), _, _ => none
      | some (.slice e), some _, some x', some y' => match P.info? e, zeroC P e with
        | some i, some z => if z.length = i.size ∧ 0 < i.size then some (.app i.size i.bytes x' y') else none
        | _, _ => none
      | _, _, _, _ => none
    | _, _, _ => none
  | _ => none
def compOp (P : Program) (op : Op) : Option AOp := match compOp0 P op with | some a => some a | none => some .die
def compSOp (P : Program) : Op → Option SOp
  | .call { callee := .value f, args, argTypes := _ } => match opd f, opds args with
    | some (.const (.fn g [])), some as => some (.call g as)
    | some f', some as => some (.callv f' as)
    | _, _ => some (.op .die)
  | op => (compOp P op).map .op
def frzOp (P : Program) (ops : Array Oper) (o : Oper) : Option AOp :=
  match o.op with
  | .buildSlice t len parts => match P.underlying t with
    | some (.slice e) => match P.info? e, zeroC P e, allSome (fun p => (opd p.2).map fun x => (p.1, x)) parts.toList with
      | some i, some z, some ps => if i.size = 1 ∧ len ≤ 2 ^ 24 ∧ z.length = 1 ∧ (o.dst.isSome && ops.toList.any fun q => match q.op with | .convert _ _ x => (match opd x, o.dst with | some (.tmp u), some t' => Nat.beq u t' | _, _ => false) | _ => false) = true
          then some (.fsl len ((List.range (len * 1)).map fun j => z.getD (j % 1) .undef) ps) else none
      | _, _, _ => none
    | _ => none
  | .convert s d x => match opd x, P.underlying s, P.underlying d with
    | some (.tmp u), some (.slice e), some .string => (match P.underlying e with
      | some (.int .u8) => if (ops.toList.any fun q => match q.op, q.dst with | .buildSlice .., some t' => Nat.beq u t' | _, _ => false) = true then some (.cvfs (.tmp u)) else none
      | _ => none)
    | _, _, _ => none
  | _ => none
def closedTy (P : Program) : Nat → TypeId → Bool
  | 0, _ => false
  | n + 1, t => match P.underlying t with
    | some .bool | some (.int _) | some .string => true
    | some (.slice e) => closedTy P n e
    | some (.struct fs) => fs.all fun f => closedTy P n f.type
    | _ => false
def compSOpF (P : Program) (ops : Array Oper) (o : Oper) : Option SOp := match frzOp P ops o with
  | some a => some (.op a)
  | none => match compSOp P o.op with
    | some (.call g []) => if closedTy P 6 o.type then some (.kcall g) else some (.call g [])
    | r => r
def compStep (P : Program) (ops : Array Oper) (o : Oper) : Option AStep :=
  match compSOpF P ops o with
  | none => none
  | some a => match o.guard with
    | none => some { dst := o.dst, op := a }
    | some (j, want) => ((ops[j]?).bind (·.dst)).map fun t => { dst := o.dst, op := a, guard := some (t, want) }
def force {α : Type} (n : Nat) (k : Nat → α) : α := match n with | 0 => k 0 | m + 1 => k (m + 1)
def clo (b : List Nat) : List Edge → Nat
  | [] => 0
  | e :: r => if Region.binds .any e then (2 ^ e.on ||| b.getD e.on 0) ||| clo b r else clo b r
def befs : List Oper → List Nat → List Nat
  | [], acc => acc
  | o :: r, acc => force (clo acc o.after.toList) fun v => befs r (acc ++ [v])
def bt (b : List Nat) (i j : Nat) : Bool := (b.getD j 0).testBit i
def drawPairs (b : List Nat) (es : List (AStep × Nat)) : List (Nat × Nat) :=
  es.flatMap fun p => if p.1.isLd then es.filterMap fun q => if q.1.eff && !bt b p.2 q.2 && !bt b q.2 p.2 then some (p.2, q.2) else none else []
def pairOK (b : List Nat) (es : List (AStep × Nat)) (s : AStep) (i : Nat) (r : AStep) (j : Nat) : Bool :=
  i == j ||
  ((match s.dst, r.dst with | some d, some d' => d != d' | _, _ => true) &&
   (!(i < j && s.eff && r.eff) || bt b i j || r.pend) &&
   (match r.dst with
    | none => true
    | some d => !s.reads.contains d || (if j < i then bt b j i && (!r.pend || es.all fun q => !(q.2 < j && q.1.eff) || bt b q.2 i) else bt b i j)) &&
   (!(s.isLd && r.pend && decide (j < i) && bt b j i) || es.all fun q => !(q.2 < j && q.1.eff) || bt b q.2 i))
def edgesOK (b : List Nat) (p : Oper × Nat) : Bool := b.getD p.2 0 == clo b p.1.after.toList && p.1.after.toList.all fun e => !Region.binds .any e || decide (e.on < p.2)
def drawOK (ops : Array Oper) (as : List AStep) (b : List Nat) : Bool :=
  (ops.toList.zipIdx.all (edgesOK b)) && (as.zipIdx.all fun p => as.zipIdx.all fun q => pairOK b as.zipIdx p.1 p.2 q.1 q.2)
def dregOf (as : List AStep) (b : List Nat) : ACode :=
  match drawPairs b as.zipIdx with
  | [] => .reg as
  | chk => .dreg as chk
def dieStep : AStep := ⟨none, .op .die, none⟩
def compCode (P : Program) : Code → Option ACode
  | .skip => some .skip
  | .region _ ops draw => match allSome (compStep P ops) ops.toList with
    | some as => if draw then (if drawOK ops as (befs ops.toList []) then some (dregOf as (befs ops.toList [])) else some (.reg [dieStep])) else some (.reg as)
    | none => some (.reg [dieStep])
  | .seq a b => match compCode P a, compCode P b with
    | some a', some b' => some (.seq a' b')
    | _, _ => none
  | .cond c a b => match opd c, compCode P a, compCode P b with
    | some c', some a', some b' => some (.cond c' a' b')
    | _, _, _ => none
  | .block id a => (compCode P a).map (.block id)
  | .loop a => (compCode P a).map (.loop [])
  | .exit id => some (.exit id [])
  | .ret => some (.ret [])
  | _ => some (.reg [dieStep])
def compRes (P : Program) : ResultVar → Option ARes
  | .tmp t => some (.tmp t)
  | .cell t ty => (aggN P ty).map fun n => .cell t n
end Sz

/- What a step does to memory: a new block, a store, an object let go. No program is named here. -/
namespace Sz
open Go
theorem live_alloc {h : Heap} {o : AObj} {id : Nat} (hl : live (h.alloc o) id) : id = h.next ∨ (live h id ∧ id < h.next) := by
  obtain ⟨x, hg, hx⟩ := hl
  have hlt := Heap.get_lt hg
  simp only [Heap.next_alloc] at hlt
  rcases Nat.lt_or_ge id h.next with hid | hid
  · exact .inr ⟨⟨x, by rw [← Heap.get_alloc_old (o := o) hid]; exact hg, hx⟩, hid⟩
  · exact .inl (by omega)
theorem live_lt {h : Heap} {id : Nat} (hl : live h id) : id < h.next := Heap.get_lt hl.choose_spec.1
theorem live_set {h : Heap} {o : AObj} {id i : Nat} (hl : live (h.set i o) id) (hi : live h i) : live h id := by
  by_cases e : i = id
  · exact e ▸ hi
  · obtain ⟨x, hg, hx⟩ := hl
    rw [Heap.get_set_other e] at hg
    exact ⟨x, hg, hx⟩
theorem Heap.wf_alloc {h : Heap} (o : AObj) (hw : h.wf) : (h.alloc o).wf := by simpa [Heap.wf, Heap.alloc] using hw
theorem Heap.wf_set {h : Heap} (id : Nat) (o : AObj) (hw : h.wf) : (h.set id o).wf := by unfold Heap.set; split <;> simpa [Heap.wf] using hw
theorem Heap.wf_mark {h : Heap} (id : Nat) (v : AV) (hw : h.wf) : (h.mark id v).wf := by unfold Heap.mark; split <;> simpa [Heap.wf] using hw
theorem Heap.wf_trunc {h : Heap} (n : Nat) (hw : h.wf) : (h.trunc n).wf := by
  unfold Heap.wf at *
  simp only [Heap.trunc, List.length_drop, hw]
  omega
def addPE (φ : Phi) (n : Nat) (e : PE) : Phi := { φ with at_ := fun id => if id = n then e else φ id }
theorem getElem?_push_lt {α : Type} {a : Array α} {x : α} {i : Nat} (h : i < a.size) : (a.push x)[i]? = a[i]? := by
  rw [Array.getElem?_push]; rw [if_neg (by omega)]
section
variable {φ : Phi} {h : Heap} {w : World}
theorem HR.blk_lt (hr : HR φ h w) {id : Nat} (hl : live h id) : (φ id).blk < w.heap.size := by
  obtain ⟨o, hg, ho⟩ := hl
  have key : ∀ x, w.heap[(φ id).blk]? = some x → (φ id).blk < w.heap.size := fun x hx => (Array.getElem?_eq_some_iff.1 hx).1
  cases o with
  | row cs =>
    obtain ⟨c, el, fr, hb, _⟩ := hr.rows id cs hg
    exact key _ hb
  | map es =>
    obtain ⟨e, k, hb, _⟩ := hr.maps id es hg
    exact key _ hb
  | dead => exact (ho rfl).elim
theorem ext_new {w' : World} {o : AObj} {x : Obj} {e : PE} (hr : HR φ h w) (hh : w'.heap = w.heap.push x) (ho : w'.os = w.os) (ht : w'.tape = w.tape) (hout : w'.output = w.output)
    (he : e.blk = w.heap.size) : Ext φ h w (addPE φ h.next e) (h.alloc o) w' := by
  refine ⟨ho, ht, hout, by rw [hh]; simp, by simp, fun id hid => by simp [addPE, Nat.ne_of_lt hid], fun b hb => ⟨⟨by rw [hh]; simp; have := hb.1; omega, fun id hl => ?_, hb.2.2⟩, by rw [hh]; exact getElem?_push_lt hb.1⟩,
    rfl, fun b hb => by rw [hh]; exact getElem?_push_lt (hr.gh b hb).1⟩
  rcases live_alloc hl with rfl | ⟨hl, hlt⟩
  · simp only [addPE, if_true, he]
    have := hb.1
    omega
  · simp only [addPE, Nat.ne_of_lt hlt, if_false]
    exact hb.2.1 id hl
theorem gh_new {w' : World} {o : AObj} {x : Obj} {e : PE} (hr : HR φ h w) (hh : w'.heap = w.heap.push x) (he : e.blk = w.heap.size) :
    ∀ b, (addPE φ h.next e).gh b → b < w'.heap.size ∧ ∀ id, live (h.alloc o) id → ((addPE φ h.next e) id).blk ≠ b := fun b hb => by
  obtain ⟨g1, g2⟩ := hr.gh b hb
  refine ⟨by rw [hh]; simp; omega, fun id hl => ?_⟩
  rcases live_alloc hl with rfl | ⟨hl, hlt⟩
  · simp only [addPE, if_true, he]
    omega
  · simp only [addPE, Nat.ne_of_lt hlt, if_false]
    exact g2 id hl
theorem RowOK.ext {φ' : Phi} {h' : Heap} {w' : World} {id : Nat} {cs : List AV} (hk : RowOK φ h w id cs) (e : Ext φ h w φ' h' w') (hid : id < h.next)
    (hb : w'.heap[(φ id).blk]? = w.heap[(φ id).blk]?) : RowOK φ' h' w' id cs := by
  obtain ⟨c, el, fr, h1, h2, h3, h4, h5, h6⟩ := hk
  have hp := e.phi id hid
  refine ⟨c, el, fr, by rw [hp, hb]; exact h1, by rw [hp]; exact h2, by rw [hp]; exact h3, h4, by rw [hp]; exact h5, fun j hj => ?_⟩
  rw [hp]
  exact (h6 j hj).ext e
theorem MapOK.ext {φ' : Phi} {h' : Heap} {w' : World} {id : Nat} {es : List (AV × AV)} (hk : MapOK φ h w id es) (e : Ext φ h w φ' h' w') (hid : id < h.next)
    (hb : w'.heap[(φ id).blk]? = w.heap[(φ id).blk]?) : MapOK φ' h' w' id es := by
  obtain ⟨c, k, h1, h2, h3⟩ := hk
  have hp := e.phi id hid
  exact ⟨c, k, by rw [hp, hb]; exact h1, h2, fun j hj => ⟨(h3 j hj).1.ext e, (h3 j hj).2.ext e⟩⟩
theorem new_row {w' : World} {c : Array Value} {el : TypeId} {fz : Nat × Nat} {cs : List AV} (hr : HR φ h w) (hh : w'.heap = w.heap.push (.cells c el fz))
    (ho : w'.os = w.os) (ht : w'.tape = w.tape) (hout : w'.output = w.output) (hfz : ∀ o, o < c.size → ¬ (fz.1 ≤ o ∧ o < fz.2))
    (h1 : ∀ j, j < c.size → (c.getD j default).oneCell' = true) (hl : cs.length ≤ c.size) (hv : ∀ j (hj : j < cs.length), RVh φ h w cs[j] (c.getD j default)) :
    HR (addPE φ h.next ⟨w.heap.size, 0, c.size⟩) (h.alloc (.row cs)) w' ∧ Ext φ h w (addPE φ h.next ⟨w.heap.size, 0, c.size⟩) (h.alloc (.row cs)) w' := by
  have e : Ext φ h w (addPE φ h.next ⟨w.heap.size, 0, c.size⟩) (h.alloc (.row cs)) w' := ext_new (o := .row cs) hr hh ho ht hout rfl
  refine ⟨⟨Heap.wf_alloc _ hr.wf, fun id cs' hg => ?_, fun id es hg => ?_, fun i j hi hj hij => ?_, gh_new hr hh rfl⟩, e⟩
  · have hlt := Heap.get_lt hg
    simp only [Heap.next_alloc] at hlt
    rcases Nat.lt_or_ge id h.next with hid | hid
    · rw [Heap.get_alloc_old hid] at hg
      have hb := hr.blk_lt ⟨_, hg, fun e => by cases e⟩
      exact (hr.rows id cs' hg).ext e hid (by rw [hh]; exact getElem?_push_lt hb)
    · obtain rfl : id = h.next := by omega
      rw [Heap.get_alloc_new] at hg
      cases hg
      refine ⟨c, el, fz, ?_, ?_, ?_, hfz, ?_, fun j hj => ?_⟩
      · simp [addPE, hh]
      · simp [addPE]
      · simpa [addPE] using hl
      · simpa [addPE] using h1
      · have := (hv j hj).ext e
        simpa [addPE] using this
  · have hlt := Heap.get_lt hg
    simp only [Heap.next_alloc] at hlt
    rcases Nat.lt_or_ge id h.next with hid | hid
    · rw [Heap.get_alloc_old hid] at hg
      have hb := hr.blk_lt ⟨_, hg, fun e => by cases e⟩
      exact (hr.maps id es hg).ext e hid (by rw [hh]; exact getElem?_push_lt hb)
    · obtain rfl : id = h.next := by omega
      rw [Heap.get_alloc_new] at hg
      cases hg
  · rcases live_alloc hi with rfl | ⟨hi, hil⟩ <;> rcases live_alloc hj with rfl | ⟨hj, hjl⟩
    · rfl
    · have := hr.blk_lt hj
      simp only [addPE, if_true, Nat.ne_of_lt hjl, if_false] at hij
      omega
    · have := hr.blk_lt hi
      simp only [addPE, if_true, Nat.ne_of_lt hil, if_false] at hij
      omega
    · simp only [addPE, Nat.ne_of_lt hil, Nat.ne_of_lt hjl, if_false] at hij
      exact hr.inj i j hi hj hij
theorem new_map {w' : World} {clk : Nat} (hr : HR φ h w) (hh : w'.heap = w.heap.push (.map #[] clk)) (ho : w'.os = w.os) (ht : w'.tape = w.tape) (hout : w'.output = w.output) :
    HR (addPE φ h.next ⟨w.heap.size, 0, 0⟩) (h.alloc (.map [])) w' ∧ Ext φ h w (addPE φ h.next ⟨w.heap.size, 0, 0⟩) (h.alloc (.map [])) w' := by
  have e : Ext φ h w (addPE φ h.next ⟨w.heap.size, 0, 0⟩) (h.alloc (.map [])) w' := ext_new (o := .map []) hr hh ho ht hout rfl
  refine ⟨⟨Heap.wf_alloc _ hr.wf, fun id cs' hg => ?_, fun id es hg => ?_, fun i j hi hj hij => ?_, gh_new hr hh rfl⟩, e⟩
  · have hlt := Heap.get_lt hg
    simp only [Heap.next_alloc] at hlt
    rcases Nat.lt_or_ge id h.next with hid | hid
    · rw [Heap.get_alloc_old hid] at hg
      have hb := hr.blk_lt ⟨_, hg, fun e => by cases e⟩
      exact (hr.rows id cs' hg).ext e hid (by rw [hh]; exact getElem?_push_lt hb)
    · obtain rfl : id = h.next := by omega
      rw [Heap.get_alloc_new] at hg
      cases hg
  · have hlt := Heap.get_lt hg
    simp only [Heap.next_alloc] at hlt
    rcases Nat.lt_or_ge id h.next with hid | hid
    · rw [Heap.get_alloc_old hid] at hg
      have hb := hr.blk_lt ⟨_, hg, fun e => by cases e⟩
      exact (hr.maps id es hg).ext e hid (by rw [hh]; exact getElem?_push_lt hb)
    · obtain rfl : id = h.next := by omega
      rw [Heap.get_alloc_new] at hg
      cases hg
      exact ⟨#[], clk, by simp [addPE, hh], rfl, fun j hj => by simp at hj⟩
  · rcases live_alloc hi with rfl | ⟨hi, hil⟩ <;> rcases live_alloc hj with rfl | ⟨hj, hjl⟩
    · rfl
    · have := hr.blk_lt hj
      simp only [addPE, if_true, Nat.ne_of_lt hjl, if_false] at hij
      omega
    · have := hr.blk_lt hi
      simp only [addPE, if_true, Nat.ne_of_lt hil, if_false] at hij
      omega
    · simp only [addPE, Nat.ne_of_lt hil, Nat.ne_of_lt hjl, if_false] at hij
      exact hr.inj i j hi hj hij
theorem turn_obj {w' : World} {id : Nat} {o o' : AObj} (hr : HR φ h w) (hg : h.get id = some o) (hno : ∀ _ : o = .dead, False)
    (hsz : w'.heap.size = w.heap.size) (hh : ∀ b, b ≠ (φ id).blk → w'.heap[b]? = w.heap[b]?)
    (ho : w'.os = w.os) (ht : w'.tape = w.tape) (hout : w'.output = w.output) :
    Ext φ h w φ (h.set id o') w' ∧ ((∀ cs, o' = .row cs → RowOK φ (h.set id o') w' id cs) → (∀ es, o' = .map es → MapOK φ (h.set id o') w' id es) → HR φ (h.set id o') w') := by
  have hlive : live h id := ⟨o, hg, hno⟩
  have e : Ext φ h w φ (h.set id o') w' := by
    refine ⟨ho, ht, hout, by omega, by simp, fun _ _ => rfl, fun b hb => ⟨⟨by rw [hsz]; exact hb.1, fun i hi => hb.2.1 i (live_set hi hlive), hb.2.2⟩, hh b fun eq => hb.2.1 id hlive eq.symm⟩,
      rfl, fun b hb => hh b fun eq => (hr.gh b hb).2 id hlive eq.symm⟩
  refine ⟨e, fun hrow hmap => ⟨Heap.wf_set _ _ hr.wf, fun i cs hi => ?_, fun i es hi => ?_, fun i j hi hj hij => hr.inj i j (live_set hi hlive) (live_set hj hlive) hij,
    fun b hb => ⟨by rw [hsz]; exact (hr.gh b hb).1, fun i hi => (hr.gh b hb).2 i (live_set hi hlive)⟩⟩⟩
  · by_cases eq : id = i
    · subst eq
      rw [Heap.get_set_same hg] at hi
      exact hrow cs (by simpa using hi)
    · have hi0 := hi
      rw [Heap.get_set_other eq] at hi
      refine (hr.rows i cs hi).ext e (Heap.get_lt hi) (hh _ fun hb => eq (hr.inj id i hlive ⟨_, hi, fun e => by cases e⟩ hb.symm))
  · by_cases eq : id = i
    · subst eq
      rw [Heap.get_set_same hg] at hi
      exact hmap es (by simpa using hi)
    · rw [Heap.get_set_other eq] at hi
      refine (hr.maps i es hi).ext e (Heap.get_lt hi) (hh _ fun hb => eq (hr.inj id i hlive ⟨_, hi, fun e => by cases e⟩ hb.symm))
theorem live_kill1 {id i : Nat} (hl : live (h.set id .dead) i) : live h i ∧ i ≠ id := by
  obtain ⟨o, hg, hno⟩ := hl
  by_cases eq : id = i
  · subst eq
    have hlt := Heap.get_lt hg
    simp only [Heap.next_set] at hlt
    cases hx : h.get id with
    | none =>
      unfold Heap.set at hg
      rw [if_pos hlt] at hg
      unfold Heap.get at hg hx
      simp only [hlt, if_true] at hg hx
      rw [List.getElem?_eq_none_iff] at hx
      rw [List.getElem?_eq_none (by simpa using hx)] at hg
      cases hg
    | some x =>
      rw [Heap.get_set_same hx] at hg
      cases hg
      exact (hno rfl).elim
  · rw [Heap.get_set_other eq] at hg
    exact ⟨⟨o, hg, hno⟩, fun e => eq e.symm⟩
theorem kill1 (hr : HR φ h w) (id : Nat) : HR φ (h.set id .dead) w ∧ Ext φ h w φ (h.set id .dead) w := by
  have e : Ext φ h w φ (h.set id .dead) w :=
    ⟨rfl, rfl, rfl, Nat.le_refl _, by simp, fun _ _ => rfl, fun b hb => ⟨⟨hb.1, fun i hi => hb.2.1 i (live_kill1 hi).1, hb.2.2⟩, rfl⟩, rfl, fun _ _ => rfl⟩
  refine ⟨⟨Heap.wf_set _ _ hr.wf, fun i cs hi => ?_, fun i es hi => ?_, fun i j hi hj hij => hr.inj i j (live_kill1 hi).1 (live_kill1 hj).1 hij, fun b hb => ⟨(hr.gh b hb).1, fun i hi => (hr.gh b hb).2 i (live_kill1 hi).1⟩⟩, e⟩
  · have hne := (live_kill1 ⟨_, hi, fun e => by cases e⟩).2
    rw [Heap.get_set_other (Ne.symm hne)] at hi
    exact (hr.rows i cs hi).ext e (Heap.get_lt hi) rfl
  · have hne := (live_kill1 ⟨_, hi, fun e => by cases e⟩).2
    rw [Heap.get_set_other (Ne.symm hne)] at hi
    exact (hr.maps i es hi).ext e (Heap.get_lt hi) rfl
theorem kills (ids : List Nat) : ∀ {h : Heap}, HR φ h w → HR φ (kill h ids) w ∧ Ext φ h w φ (kill h ids) w := by
  induction ids with
  | nil => exact fun hr => ⟨hr, .refl _ _ _⟩
  | cons id r ih =>
    intro h hr
    obtain ⟨h1, e1⟩ := kill1 hr id
    obtain ⟨h2, e2⟩ := ih h1
    exact ⟨h2, e1.trans e2⟩
theorem live_kill : ∀ (ids : List Nat) {h : Heap} {i : Nat}, live (kill h ids) i → live h i ∧ i ∉ ids := by
  intro ids
  induction ids with
  | nil => exact fun hl => ⟨hl, by simp⟩
  | cons id r ih =>
    intro h i hl
    obtain ⟨h1, h2⟩ := ih hl
    obtain ⟨h3, h4⟩ := live_kill1 h1
    exact ⟨h3, by simp [h2, h4]⟩
theorem HR.mark (hr : HR φ h w) (id : Nat) (v : AV) : HR φ (h.mark id v) w ∧ Ext φ h w φ (h.mark id v) w := by
  have hlv : ∀ i, live (h.mark id v) i ↔ live h i := fun i => by unfold live; simp only [Heap.get_mark]
  have e : Ext φ h w φ (h.mark id v) w := ⟨rfl, rfl, rfl, Nat.le_refl _, by simp, fun _ _ => rfl, fun b hb => ⟨⟨hb.1, fun i hi => hb.2.1 i ((hlv i).1 hi), hb.2.2⟩, rfl⟩, rfl, fun _ _ => rfl⟩
  refine ⟨⟨Heap.wf_mark _ _ hr.wf, fun i cs hi => ?_, fun i es hi => ?_, fun i j hi hj => hr.inj i j ((hlv i).1 hi) ((hlv j).1 hj), fun b hb => ⟨(hr.gh b hb).1, fun i hi => (hr.gh b hb).2 i ((hlv i).1 hi)⟩⟩, e⟩
  · rw [Heap.get_mark] at hi
    exact (hr.rows i cs hi).ext e (Heap.get_lt hi) rfl
  · rw [Heap.get_mark] at hi
    exact (hr.maps i es hi).ext e (Heap.get_lt hi) rfl
theorem Heap.get_wl (x y : Nat) (id : Nat) : ({ h with wl := x, md := y } : Heap).get id = h.get id := rfl
theorem HR.setwl (hr : HR φ h w) (x y : Nat) : HR φ { h with wl := x, md := y } w ∧ Ext φ h w φ { h with wl := x, md := y } w := by
  have e : Ext φ h w φ { h with wl := x, md := y } w := ⟨rfl, rfl, rfl, Nat.le_refl _, Nat.le_refl _, fun _ _ => rfl, fun b hb => ⟨hb, rfl⟩, rfl, fun _ _ => rfl⟩
  refine ⟨⟨hr.wf, fun i cs hi => ?_, fun i es hi => ?_, fun i j hi hj => hr.inj i j hi hj, hr.gh⟩, e⟩
  · exact (hr.rows i cs hi).ext e (Heap.get_lt hi) rfl
  · exact (hr.maps i es hi).ext e (Heap.get_lt hi) rfl
end
theorem HR.world {φ : Phi} {h : Heap} {w w' : World} (hr : HR φ h w) (hh : w'.heap = w.heap) (ho : w'.os = w.os) (ht : w'.tape = w.tape) (hout : w'.output = w.output) :
    HR φ h w' ∧ Ext φ h w φ h w' := by
  have e : Ext φ h w φ h w' := ⟨ho, ht, hout, by rw [hh]; exact Nat.le_refl _, Nat.le_refl _, fun _ _ => rfl, fun b hb => ⟨⟨by rw [hh]; exact hb.1, hb.2⟩, by rw [hh]⟩, rfl, fun _ _ => by rw [hh]⟩
  refine ⟨⟨hr.wf, fun i cs hi => ?_, fun i es hi => ?_, fun i j hi hj => hr.inj i j hi hj, fun b hb => by rw [hh]; exact hr.gh b hb⟩, e⟩
  · exact (hr.rows i cs hi).ext e (Heap.get_lt hi) (by rw [hh])
  · exact (hr.maps i es hi).ext e (Heap.get_lt hi) (by rw [hh])
end Sz

/- Each operation of the model does what the abstract run says. No program is named here. -/
namespace Sz
open Go
def OpOK (P : Program) (s : Sem Next) (φ : Phi) (h : Heap) (w : World) (v : AV) (h' : Heap) : Prop :=
  ∃ cv w' φ', (s.run P w = .ok (.value cv) w' ∨ (s.run P w = .ok .skip w' ∧ cv = undef)) ∧ RVh φ' h' w' v cv ∧ HR φ' h' w' ∧ Ext φ h w φ' h' w'
theorem OpOK.pure {P : Program} {s : Sem Next} {φ : Phi} {h : Heap} {w : World} {v : AV} {cv : Value} (hr : HR φ h w) (hs : s.run P w = .ok (.value cv) w) (hv : RVh φ h w v cv) :
    OpOK P s φ h w v h := ⟨cv, w, φ, .inl hs, hv, hr, .refl _ _ _⟩
section consts
variable {φ : Phi} {nx : Nat} {pr : Nat → Prop} {w : World}
theorem ofVal1_ok {v : Value} {av : AV} (he : ofVal1 v = some av) : RV φ nx pr w av v := by
  unfold ofVal1 at he
  split at he <;> cases he
  · exact .bool _
  · exact .int _ _
  · exact .str _
  · exact .nilp
  · exact .nils _
  · exact .nilm
  · exact .nilfn
  · exact .nili
  · exact .fn _ [] #[] rfl fun j hj => by simp at hj
theorem ofVal1_cells {v : Value} {av : AV} (he : ofVal1 v = some av) : v.oneCell' = true ∧ av.cells? = some [av] := by
  unfold ofVal1 at he
  split at he <;> cases he <;> simp [Value.oneCell', AV.cells?]
theorem allSome_len {α β : Type} {f : α → Option β} : ∀ {l : List α} {m : List β}, allSome f l = some m → m.length = l.length
  | [], m, he => by simp [allSome] at he; subst he; rfl
  | x :: r, m, he => by
    unfold allSome at he
    split at he
    · rename_i y s h1 h2
      cases he
      simp [allSome_len h2]
    · cases he
theorem allSome_get {α β : Type} {f : α → Option β} : ∀ {l : List α} {m : List β}, allSome f l = some m → ∀ i (hi : i < l.length) (hi' : i < m.length), f l[i] = some m[i]
  | [], m, he => by intro i hi; simp at hi
  | x :: r, m, he => by
    unfold allSome at he
    split at he
    · rename_i y s h1 h2
      cases he
      intro i hi hi'
      cases i with
      | zero => simpa using h1
      | succ i => simpa using allSome_get h2 i (by simpa using hi) (by simpa using hi')
    · cases he
theorem ofVal_ok {v : Value} {av : AV} (he : ofVal v = some av) : RV φ nx pr w av v := by
  unfold ofVal at he
  split at he
  · rename_i cs
    obtain ⟨l, hl, rfl⟩ := Option.map_eq_some_iff.1 he
    have hlen := allSome_len hl
    refine .agg l cs (by simpa using hlen.symm) (fun j => ?_) fun j hj => ?_
    · by_cases hj : j < cs.size
      · have hj' : j < cs.toList.length := by simpa using hj
        have := (ofVal1_cells (allSome_get hl j hj' (by omega))).1
        simpa [Array.getD, hj] using this
      · simp [Array.getD, hj]; rfl
    have hj' : j < cs.toList.length := by omega
    have := ofVal1_ok (φ := φ) (nx := nx) (pr := pr) (w := w) (allSome_get hl j hj' hj)
    have hj2 : j < cs.size := by simpa using hj'
    simpa [Array.getD, hj2] using this
  · cases he
    exact .tuple [] #[] rfl fun j hj => by simp at hj
  · exact ofVal1_ok he
end consts
section
variable {P : Program} {φ : Phi} {h : Heap} {w : World} {fr : List AV} {a : Act}
theorem opd_ok {x : Operand} {x' : Opd} (he : opd x = some x') (hf : FR φ h w fr a.tmps) : RVh φ h w (x'.ev fr) (a.eval x) := by
  unfold opd at he
  split at he
  · cases he
    exact hf.2 _
  · obtain ⟨v', hv, rfl⟩ := Option.map_eq_some_iff.1 he
    exact ofVal_ok hv
  · cases he
    exact .fn _ [] #[] rfl fun j hj => by simp at hj
  · cases he
theorem RV.cells {nx : Nat} {pr : Nat → Prop} {v : AV} {cv : Value} {cs : List AV} (hv : RV φ nx pr w v cv) (hc : v.cells? = some cs) :
    cv.cells.size = cs.length ∧ (∀ j, (cv.cells.getD j default).oneCell' = true) ∧ ∀ j (hj : j < cs.length), RV φ nx pr w cs[j] (cv.cells.getD j default) := by
  cases hv with
  | agg l cvs hl h1 hv =>
    simp only [AV.cells?, Option.some.injEq] at hc
    subst hc
    exact ⟨hl, h1, hv⟩
  | undef => simp [AV.cells?] at hc
  | tuple => simp [AV.cells?] at hc
  | _ =>
    simp only [AV.cells?, Option.some.injEq] at hc
    subst hc
    refine ⟨rfl, fun j => by cases j <;> rfl, fun j hj => ?_⟩
    obtain rfl : j = 0 := by simpa using hj
    first
      | exact .bool _
      | exact .int _ _
      | exact .str _
      | exact .nilp
      | exact .ptr _ _ ‹_›
      | exact .ip _ _ _ _ ‹_› ‹_› ‹_› ‹_› ‹_›
      | exact .ip _ _ _ _ ‹_› ‹_› ‹_› ‹_› (by assumption)
      | exact .nils _
      | exact .slnil _ _
      | exact .sl _ _ _ _ _ _ ‹_› ‹_› ‹_› ‹_› ‹_› ‹_› ‹_›
      | exact .vec _ _ _ _ _ _ _ ‹_› ‹_› ‹_› ‹_› ‹_›
      | exact .nilm
      | exact .map _ ‹_›
      | exact .nilfn
      | exact .fn _ _ _ ‹_› ‹_›
      | exact .nili
      | exact .iface _ _ _ ‹_›
theorem op_mov {x : Operand} {o : Oper} (ho : o.op = .move x ∨ o.op = .assign x) {x' : Opd} (hx : opd x = some x') (hf : FR φ h w fr a.tmps) (hr : HR φ h w) :
    OpOK P (execOp a.eval o) φ h w (x'.ev fr) h :=
  .pure hr (by unfold execOp; rcases ho with ho | ho <;> simp [ho]) (opd_ok hx hf)
theorem RV.bool_inv {nx : Nat} {pr : Nat → Prop} {b : Bool} {cv : Value} (hv : RV φ nx pr w (.bool b) cv) : cv = .bool b := by cases hv; rfl
theorem RV.int_inv {nx : Nat} {pr : Nat → Prop} {k : IntKind} {n : Int} {cv : Value} (hv : RV φ nx pr w (.int k n) cv) : cv = .int k n := by cases hv; rfl
theorem RV.str_inv {nx : Nat} {pr : Nat → Prop} {s : List UInt8} {cv : Value} (hv : RV φ nx pr w (.str s) cv) : ∃ b : ByteArray, cv = .string b ∧ b.data.toList = s := by cases hv; exact ⟨_, rfl, rfl⟩
theorem RV.str_mk {nx : Nat} {pr : Nat → Prop} {s : List UInt8} {b : ByteArray} (hb : b.data.toList = s) : RV φ nx pr w (.str s) (.string b) := hb ▸ .str b
theorem op_pick {c x y : Operand} {o : Oper} (ho : o.op = .pick c x y) {c' x' y' : Opd} (hc : opd c = some c') (hx : opd x = some x') (hy : opd y = some y') {b : Bool} (hb : c'.ev fr = .bool b)
    (hf : FR φ h w fr a.tmps) (hr : HR φ h w) : OpOK P (execOp a.eval o) φ h w (if b then x'.ev fr else y'.ev fr) h := by
  have h0 := opd_ok hc hf
  rw [hb] at h0
  have h0 := h0.bool_inv
  refine .pure (cv := if b then a.eval x else a.eval y) hr (by unfold execOp; simp [ho, h0, asBool]) ?_
  cases b
  · exact opd_ok hy hf
  · exact opd_ok hx hf
theorem ptr_new (o : AObj) (b r : Nat) {w' : World} : RVh (addPE φ h.next ⟨b, 0, r⟩) (h.alloc o) w' (.ptr h.next 0) (.pointer (some ⟨b, 0, none⟩)) := by
  have := RV.ptr (φ := addPE φ h.next ⟨b, 0, r⟩) (nx := (h.alloc o).next) (pr := Pr (addPE φ h.next ⟨b, 0, r⟩) (h.alloc o) w') (w := w') h.next 0 (by simp)
  have e : addPE φ h.next ⟨b, 0, r⟩ h.next = ⟨b, 0, r⟩ := by simp [addPE]
  rw [e] at this
  exact this
theorem vec_new (o : AObj) (b r n sz lb cap : Nat) {w' : World} (hn : n ≤ cap) (hb : lb ≤ cap) (hr : cap * sz ≤ r) : RVh (addPE φ h.next ⟨b, 0, r⟩) (h.alloc o) w' (.vec h.next 0 n sz lb) (.slice (some ⟨b, 0, none⟩) n cap) :=
  .vec _ _ _ _ _ _ _ (by simp) hn hb (by simpa [addPE] using hr) fun _ => by simp [addPE]
theorem row_new_ok {s : Sem Next} {c : Array Value} {el : TypeId} {cs : List AV} (hr : HR φ h w)
    (hs : s.run P w = .ok (.value (.pointer (some ⟨w.heap.size, 0, none⟩))) (w.alloc (.cells c el)))
    (h1 : ∀ j, (c.getD j default).oneCell' = true) (hl : cs.length ≤ c.size) (hv : ∀ j (hj : j < cs.length), RVh φ h w cs[j] (c.getD j default)) :
    OpOK P s φ h w (.ptr h.next 0) (h.alloc (.row cs)) := by
  obtain ⟨g1, g2⟩ := new_row (w' := w.alloc (.cells c el)) hr rfl rfl rfl rfl (by simp) (fun j _ => h1 j) hl hv
  refine ⟨_, _, _, .inl hs, ?_, g1, g2⟩
  exact ptr_new _ _ _
theorem op_box {t : TypeId} {x : Operand} {o : Oper} (ho : o.op = .box t x) {x' : Opd} (hx : opd x = some x') {cs : List AV} (hc : (x'.ev fr).cells? = some cs)
    (hf : FR φ h w fr a.tmps) (hr : HR φ h w) : OpOK P (execOp a.eval o) φ h w (.ptr h.next 0) (h.alloc (.row cs)) := by
  obtain ⟨g1, g2, g3⟩ := (opd_ok hx hf).cells hc
  refine row_new_ok (c := (a.eval x).cells) (el := t) hr ?_ g2 (by omega) g3
  unfold execOp
  simp [ho, Instr.box, newVar, newRow]
theorem zeroC_ok {t : TypeId} {cs : List AV} (hz : zeroC P t = some cs) : ∃ i z, P.info? t = some i ∧ i.zero = some z ∧ z.cells.size = cs.length ∧ (∀ j, (z.cells.getD j default).oneCell' = true) ∧
    ∀ nx pr (w : World), ∀ j (hj : j < cs.length), RV φ nx pr w cs[j] (z.cells.getD j default) := by
  unfold zeroC at hz
  obtain ⟨z, hz1, hz2⟩ := Option.bind_eq_some_iff.1 hz
  obtain ⟨v, hv1, hv2⟩ := Option.bind_eq_some_iff.1 hz2
  obtain ⟨i, hi, hzi⟩ := Option.bind_eq_some_iff.1 hz1
  have key := fun nx pr (w : World) => (ofVal_ok (φ := φ) (nx := nx) (pr := pr) (w := w) hv1).cells hv2
  obtain ⟨k1, k2, _⟩ := key 0 (fun _ => False) default
  exact ⟨i, z, hi, hzi, k1, k2, fun nx pr w => (key nx pr w).2.2⟩
theorem op_alloc {t : TypeId} {o : Oper} (ho : o.op = .alloc t) {cs : List AV} (hz : zeroC P t = some cs) (hr : HR φ h w) :
    OpOK P (execOp a.eval o) φ h w (.ptr h.next 0) (h.alloc (.row cs)) := by
  obtain ⟨i, z, hi, hzi, k1, k2, k3⟩ := zeroC_ok (φ := φ) hz
  refine row_new_ok (c := z.cells) (el := t) hr ?_ k2 (by omega) (k3 _ _ _)
  unfold execOp
  simp [ho, Instr.alloc, zeroValue, typeInfo, hi, hzi, newVar, newRow]
def CellsR (φ : Phi) (nx : Nat) (pr : Nat → Prop) (w : World) (l : List AV) (c : Array Value) : Prop :=
  c.size = l.length ∧ (∀ j, (c.getD j default).oneCell' = true) ∧ ∀ j (hj : j < l.length), RV φ nx pr w l[j] (c.getD j default)
theorem CellsR.set {nx : Nat} {pr : Nat → Prop} {l : List AV} {c : Array Value} (hc : CellsR φ nx pr w l c) {v : AV} {cv : Value} (hv : RV φ nx pr w v cv) (h1 : cv.oneCell' = true) (i : Nat) :
    CellsR φ nx pr w (l.set i v) (c.setIfInBounds i cv) := by
  obtain ⟨k1, k2, k3⟩ := hc
  refine ⟨by simpa using k1, fun j => ?_, fun j hj => ?_⟩
  · have := k2 j
    rw [Array.getD_eq_getD_getElem?] at this ⊢
    rw [Array.getElem?_setIfInBounds]
    by_cases e : i = j
    · subst e
      by_cases hl : i < c.size
      · simpa [hl] using h1
      · simp [hl]; rfl
    · simpa [e] using this
  · have hj' : j < l.length := by simpa using hj
    have := k3 j hj'
    rw [Array.getD_eq_getD_getElem?] at this ⊢
    rw [Array.getElem?_setIfInBounds, List.getElem_set]
    by_cases e : i = j
    · subst e
      simpa [k1, hj'] using hv
    · simpa [e] using this
theorem putAt_ok {nx : Nat} {pr : Nat → Prop} : ∀ (vs : List AV) (cvs : List Value) (k off : Nat) (l : List AV) (c : Array Value), CellsR φ nx pr w l c →
    vs.length = cvs.length → (∀ j (h : j < vs.length) (h' : j < cvs.length), RV φ nx pr w vs[j] cvs[j] ∧ cvs[j].oneCell' = true) →
    CellsR φ nx pr w (putAt l (off + k) vs) ((cvs.zipIdx k).foldl (fun cs p => cs.setIfInBounds (off + p.2) p.1) c)
  | [], [], _, _, _, _, hc, _, _ => hc
  | v :: vs, cv :: cvs, k, off, l, c, hc, hl, hv => by
    obtain ⟨h1, h2⟩ := hv 0 (by simp) (by simp)
    have := putAt_ok vs cvs (k + 1) off _ _ (hc.set (by simpa using h1) (by simpa using h2) (off + k)) (by simpa using hl) fun j h h' => hv (j + 1) (Nat.succ_lt_succ h) (Nat.succ_lt_succ h')
    simpa [putAt, List.zipIdx_cons, Nat.add_assoc] using this
  | [], _ :: _, _, _, _, _, _, hl, _ => by simp at hl
  | _ :: _, [], _, _, _, _, _, hl, _ => by simp at hl
theorem putAt_length (vs : List AV) : ∀ (l : List AV) (off : Nat), (putAt l off vs).length = l.length := by
  induction vs with
  | nil => intro l off; rfl
  | cons v r ih => intro l off; simp [putAt, ih]
theorem fill_ok {nx : Nat} {pr : Nat → Prop} (place : Nat → Option (Nat × Nat)) : ∀ (ps : List (Nat × Nat × AV)) (cps : List (Nat × Value)) (l : List AV) (c : Array Value) (l' : List AV),
    CellsR φ nx pr w l c → ps.length = cps.length → (∀ j (h : j < ps.length) (h' : j < cps.length), place cps[j].1 = some (ps[j].1, ps[j].2.1) ∧ RV φ nx pr w ps[j].2.2 cps[j].2) →
    fillA l ps = some l' → ∃ c', Instr.fill place c cps = some c' ∧ CellsR φ nx pr w l' c'
  | [], [], l, c, l', hc, _, _, hf => by
    simp only [fillA, Option.some.injEq] at hf
    subst hf
    exact ⟨c, rfl, hc⟩
  | (off, sz, v) :: ps, (i, cv) :: cps, l, c, l', hc, hl, hp, hf => by
    obtain ⟨hpl, hv⟩ := hp 0 (by simp) (by simp)
    simp only [List.getElem_cons_zero] at hpl hv
    unfold fillA at hf
    split at hf
    · rename_i cs hcs
      split at hf
      · rename_i hsz
        obtain ⟨g1, g2, g3⟩ := hv.cells hcs
        have step := putAt_ok (φ := φ) (nx := nx) (pr := pr) (w := w) cs cv.cells.toList 0 off l c hc (by simpa using g1.symm) fun j h h' => by
          have e1 := g3 j h
          have e2 := g2 j
          have hj : j < cv.cells.size := by omega
          simp only [Array.getD, hj, dif_pos] at e1 e2
          exact ⟨by simpa using e1, by simpa using e2⟩
        obtain ⟨c', e1, e2⟩ := fill_ok place ps cps _ _ l' step (by simpa using hl) (fun j h h' => hp (j + 1) (Nat.succ_lt_succ h) (Nat.succ_lt_succ h')) (by simpa using hf)
        refine ⟨c', ?_, e2⟩
        unfold Instr.fill
        simp only [hpl]
        have hcs1 : (cv.cells.size ≠ sz || off + cv.cells.size > c.size) = false := by
          have := hc.1
          simp; omega
        rw [if_neg (by rw [hcs1]; simp)]
        rw [← e1]
        congr 1
        rw [← Array.foldl_toList, Array.toList_zipIdx]
      · cases hf
    · cases hf
  | [], _ :: _, _, _, _, _, hl, _, _ => by simp at hl
  | _ :: _, [], _, _, _, _, hl, _, _ => by simp at hl
theorem opds_ok {xs : Array Operand} {xs' : List Opd} (he : opds xs = some xs') (hf : FR φ h w fr a.tmps) :
    (xs.map a.eval).size = xs'.length ∧ ∀ j, j < xs'.length → RVh φ h w ((xs'.map (·.ev fr)).getD j .undef) ((xs.map a.eval).getD j default) := by
  have hlen := allSome_len he
  simp only [Array.length_toList] at hlen
  refine ⟨by simpa using hlen.symm, fun j hj => ?_⟩
  have hj' : j < xs.toList.length := by simpa [← hlen] using hj
  have := opd_ok (allSome_get he j hj' hj) hf
  have hj2 : j < xs.size := by simpa using hj'
  simpa [Array.getD, hj2, List.getD, hj] using this
theorem compParts_ok {places : List (Nat × Nat)} : ∀ {parts : List (Nat × Operand)} {ps : List (Nat × Nat × Opd)}, compParts places parts = some ps →
    ps.length = parts.length ∧ ∀ j (h : j < ps.length) (h' : j < parts.length), places[parts[j].1]? = some (ps[j].1, ps[j].2.1) ∧ opd parts[j].2 = some ps[j].2.2
  | [], ps, he => by simp [compParts] at he; subst he; simp
  | (i, x) :: r, ps, he => by
    unfold compParts at he
    split at he
    · rename_i p x' r' h1 h2 h3
      cases he
      obtain ⟨g1, g2⟩ := compParts_ok h3
      refine ⟨by simp [g1], fun j hj hj' => ?_⟩
      cases j with
      | zero => simpa using ⟨h1, h2⟩
      | succ j => simpa using g2 j (by simpa using hj) (by simpa using hj')
    · cases he
theorem foldl_set_size (off : Nat) : ∀ (l : List (Value × Nat)) (c : Array Value), (l.foldl (fun cs (x : Value × Nat) => match x with | (c, j) => cs.setIfInBounds (off + j) c) c).size = c.size
  | [], _ => rfl
  | x :: l, c => by rw [List.foldl_cons, foldl_set_size off l]; simp
theorem Instr_fill_size (place : Nat → Option (Nat × Nat)) : ∀ (ps : List (Nat × Value)) (c c' : Array Value), Instr.fill place c ps = some c' → c'.size = c.size
  | [], c, c', he => by simp [Instr.fill] at he; rw [he]
  | (i, v) :: r, c, c', he => by
    unfold Instr.fill at he
    split at he
    · cases he
    · split at he
      · cases he
      · rw [Instr_fill_size place r _ c' he, ← Array.foldl_toList]
        exact foldl_set_size _ _ _
theorem op_bld {t : TypeId} {parts : Array (Nat × Operand)} {o : Oper} (ho : o.op = .build t parts) {fs : Array Field} (ht : P.underlying t = some (.struct fs)) {z : List AV} (hz : zeroC P t = some z)
    {places : List (Nat × Nat)} (hp : placesOf P fs = some places) {ps : List (Nat × Nat × Opd)} (hps : compParts places parts.toList = some ps) {cs : List AV}
    (he : fillA z (ps.map fun p => (p.1, p.2.1, p.2.2.ev fr)) = some cs) (hf : FR φ h w fr a.tmps) (hr : HR φ h w) : OpOK P (execOp a.eval o) φ h w (.agg cs) h := by
  obtain ⟨i, zv, hi, hzi, k1, k2, k3⟩ := zeroC_ok (φ := φ) hz
  obtain ⟨g1, g2⟩ := compParts_ok hps
  obtain ⟨c', e1, e2, e3, e4⟩ := fill_ok (φ := φ) (nx := h.next) (pr := Pr φ h w) (w := w) (places.toArray[·]?) (ps.map fun p => (p.1, p.2.1, p.2.2.ev fr)) ((parts.map fun (i, x) => (i, a.eval x)).toList) z zv.cells cs ⟨k1, k2, k3 _ _ _⟩
    (by simp [g1]) (fun j hj hj' => by
      obtain ⟨q1, q2⟩ := g2 j (by simpa using hj) (by simpa using hj')
      exact ⟨by simpa using q1, by simpa using opd_ok q2 hf⟩) he
  refine .pure (cv := .agg c') hr ?_ (.agg cs c' e2 e3 e4)
  have hb : P.built t (parts.map fun (i, x) => (i, a.eval x)).toList = some c' := by
    unfold Program.built
    simp only [hi, ht, hzi]
    unfold placesOf at hp
    rw [hp]
    exact e1
  unfold execOp
  simp [ho, run_build w t _ c' hb]
theorem run_sz {t : TypeId} {i : TypeInfo} (hi : P.info? t = some i) (w : World) : (Go.sizeOf t).run P w = .ok i.size w := by simp [Go.sizeOf, typeInfo, hi]
theorem op_bsl {t e : TypeId} {len : Nat} {parts : Array (Nat × Operand)} {o : Oper} (ho : o.op = .buildSlice t len parts) (ht : P.underlying t = some (.slice e)) {i : TypeInfo} (hi : P.info? e = some i)
    {z : List AV} (hz : zeroC P e = some z) {ps : List (Nat × Opd)} (hps : allSome (fun p : Nat × Operand => (opd p.2).map fun x => (p.1, x)) parts.toList = some ps) (hlen : len * i.size ≤ 2 ^ 24) (hzl : z.length = i.size) {cs : List AV}
    (he : fillA ((List.range (len * i.size)).map fun j => z.getD (j % i.size) .undef) (ps.map fun p => (p.1 * i.size, i.size, p.2.ev fr)) = some cs) (hf : FR φ h w fr a.tmps) (hr : HR φ h w) :
    OpOK P (execOp a.eval o) φ h w (.vec h.next 0 len i.size len) (h.alloc (.row cs)) := by
  obtain ⟨i', zv, hi', hzi, k1, k2, k3⟩ := zeroC_ok (φ := φ) hz
  obtain rfl : i = i' := by rw [hi] at hi'; exact Option.some.inj hi'
  have g1 := allSome_len hps
  let zz : Array Value := if len * i.size = 0 then #[] else zv.cells
  have hinit : CellsR φ h.next (Pr φ h w) w ((List.range (len * i.size)).map fun j => z.getD (j % i.size) .undef) ((Array.range (len * i.size)).map (zz[· % zz.size]!)) := by
    refine ⟨by simp, fun j => ?_, fun j hj => ?_⟩
    · by_cases hj : j < len * i.size
      · have hpos : 0 < i.size := Nat.pos_of_ne_zero fun e => by simp [e] at hj
        have hzz : zz = zv.cells := if_neg (by omega)
        have hm : j % i.size < i.size := Nat.mod_lt _ hpos
        have := k2 (j % i.size)
        simp only [hzz, k1, hzl]
        simpa [Array.getD, hj, k1, hzl, hm] using this
      · simp [Array.getD, hj]; rfl
    · have hj' : j < len * i.size := by simpa using hj
      have hpos : 0 < i.size := Nat.pos_of_ne_zero fun e => by simp [e] at hj'
      have hzz : zz = zv.cells := if_neg (by omega)
      have hm : j % i.size < z.length := by rw [hzl]; exact Nat.mod_lt _ hpos
      have := k3 h.next (Pr φ h w) w (j % i.size) hm
      simp only [hzz, k1, hzl]
      have hm' : j % i.size < i.size := by omega
      simpa [Array.getD, hj', k1, hzl, hm, hm', List.getD] using this
  obtain ⟨c', e1, e2, e3, e4⟩ := fill_ok (φ := φ) (nx := h.next) (pr := Pr φ h w) (w := w) (fun k => some (k * i.size, i.size)) (ps.map fun p => (p.1 * i.size, i.size, p.2.ev fr)) ((parts.map fun (i, x) => (i, a.eval x)).toList) _ _ cs hinit
    (by simp [g1]) (fun j hj hj' => by
      have hj1 : j < ps.length := by simpa using hj
      have hj2 : j < parts.toList.length := by simpa using hj'
      have q := allSome_get hps j hj2 hj1
      obtain ⟨x', q1, q2⟩ := Option.map_eq_some_iff.1 q
      have q3 := opd_ok q1 hf
      have q4 : ps[j] = ((parts.toList[j]).1, x') := q2.symm
      exact ⟨by simp [q4], by simpa [q4] using q3⟩) he
  obtain ⟨n1, n2⟩ := new_row (w' := w.alloc (.cells c' e)) hr rfl rfl rfl rfl (by simp) (fun j _ => e3 j) (by omega) e4
  have hcl : cs.length = len * i.size := by
    have : c'.size = len * i.size := by
      have := Instr_fill_size _ _ _ _ e1
      simpa using this
    omega
  refine ⟨_, _, _, .inl ?_, vec_new (.row cs) w.heap.size c'.size len i.size len len (Nat.le_refl _) (Nat.le_refl _) (by omega), n1, n2⟩
  unfold execOp
  have hbig : ¬ (len * i.size > 2 ^ 24) := by omega
  by_cases h0 : len * i.size = 0
  · simp only [zz, h0, if_true] at e1
    have hlen' : ¬ (16777216 < len * i.size) := by omega
    simp [Array.range_zero'] at e1
    simp [ho, Instr.buildSlice, run_underlying ht, run_sz hi, h0, newRow, Array.range_zero', e1]
  · simp only [zz, h0, if_false] at e1
    have hlen' : ¬ (16777216 < len * i.size) := by omega
    simp at e1
    simp [ho, Instr.buildSlice, run_underlying ht, run_sz hi, zeroValue, typeInfo, hi, hzi, hlen', h0, newRow, e1]
end
end Sz

/- Loads, stores, places, numbers, strings: each operation of the model does what the abstract run says. No program is named here. -/
namespace Sz
open Go
section
variable {P : Program} {φ : Phi} {h : Heap} {w : World} {fr : List AV} {a : Act}
theorem row_some {id : Nat} {cs : List AV} (he : h.row id = some cs) : h.get id = some (.row cs) := by
  unfold Heap.row at he
  split at he
  · rename_i g; cases he; exact g
  · cases he
theorem mapAt_some {id : Nat} {es : List (AV × AV)} (he : h.mapAt id = some es) : h.get id = some (.map es) := by
  unfold Heap.mapAt at he
  split at he
  · rename_i g; cases he; exact g
  · cases he
theorem row_cell (hr : HR φ h w) {id : Nat} {cs : List AV} (hg : h.get id = some (.row cs)) (j : Nat) (hj : j < cs.length) :
    ∃ v, w.cell? ⟨(φ id).blk, (φ id).base + j, none⟩ = some v ∧ RVh φ h w cs[j] v ∧ v.oneCell' = true := by
  obtain ⟨c, el, fz, h1, h2, h3, h4, h5, h6⟩ := hr.rows id cs hg
  have hlt : (φ id).base + j < c.size := by omega
  have e : c.getD ((φ id).base + j) default = c[(φ id).base + j] := by simp [Array.getD, hlt]
  refine ⟨c.getD ((φ id).base + j) default, ?_, h6 j hj, h5 j (by omega)⟩
  unfold World.cell?
  simp [h1, e, hlt]
theorem row_frozen (hr : HR φ h w) {id : Nat} {cs : List AV} (hg : h.get id = some (.row cs)) (j : Nat) (hj : j < (φ id).room) :
    w.frozen? ⟨(φ id).blk, (φ id).base + j, none⟩ = false := by
  obtain ⟨c, el, fz, h1, h2, h3, h4, h5, h6⟩ := hr.rows id cs hg
  have := h4 ((φ id).base + j) (by omega)
  unfold World.frozen?
  simp only [h1]
  simpa using this
theorem run_isAgg_struct {t : TypeId} {n : Option Nat} (he : aggN P t = some n) (w : World) :
    (isAgg t).run P w = .ok n.isSome w ∧ ∀ m, n = some m → ∃ i, P.info? t = some i ∧ i.size = m := by
  unfold aggN at he
  cases hu : P.underlying t with
  | none => simp [hu] at he
  | some d =>
    rw [hu] at he
    cases d <;> first
      | (simp only [Option.map_eq_some_iff] at he
         obtain ⟨i, hi, rfl⟩ := he
         exact ⟨by simp [isAgg, run_underlying hu], fun m hm => ⟨i, hi, by simpa using hm⟩⟩)
      | (simp only [Option.some.injEq] at he
         subst he
         exact ⟨by simp [isAgg, run_underlying hu], fun m hm => by cases hm⟩)
theorem ldA_ok {t : TypeId} {n : Option Nat} (ht : aggN P t = some n) {x v : AV} {cx : Value} (hx : RVh φ h w x cx) (hr : HR φ h w) (he : ldA h n x = some v) :
    ∃ ad cv, cx = .pointer (some ad) ∧ (loadVar t ad).run P w = .ok cv w ∧ RVh φ h w v cv := by
  obtain ⟨hag, hsz⟩ := run_isAgg_struct ht w
  cases hx with
  | ptr id off hid =>
    unfold ldA at he
    dsimp only at he
    split at he
    · rename_i cs n hrow
      have hg := row_some hrow
      obtain ⟨hoff, hv⟩ := List.getElem?_eq_some_iff.1 he
      obtain ⟨cv, c1, c2, c3⟩ := row_cell hr hg off hoff
      refine ⟨_, cv, rfl, ?_, hv ▸ c2⟩
      simp [loadVar, hag, c1]
    · rename_i cs n hrow
      have hg := row_some hrow
      split at he
      · rename_i hle
        cases he
        obtain ⟨i, hi, hin⟩ := hsz n rfl
        have hcells : ∀ j, j < n → ∃ cv, w.cell? ⟨(φ id).blk, (φ id).base + off + j, none⟩ = some cv ∧ RVh φ h w (cs.getD (off + j) .undef) cv ∧ cv.oneCell' = true := by
          intro j hj
          obtain ⟨cv, c1, c2, c3⟩ := row_cell hr hg (off + j) (by omega)
          have hlt : off + j < cs.length := by omega
          exact ⟨cv, by rw [Nat.add_assoc]; exact c1, by simpa [List.getD, hlt] using c2, c3⟩
        let f : Nat → Value := fun j => (w.cell? ⟨(φ id).blk, (φ id).base + off + j, none⟩).getD default
        have hf : ∀ j, j < n → w.cell? ((⟨(φ id).blk, (φ id).base + off, none⟩ : Addr).add j) = some (f j) := fun j hj => by
          obtain ⟨cv, c1, _⟩ := hcells j hj
          rw [Addr.add_lit]
          simp [f, c1]
        have hrun := run_loadCells (P := P) w ⟨(φ id).blk, (φ id).base + off, none⟩ n f hf
        refine ⟨_, .agg ((List.range n).map f).toArray, rfl, ?_, .agg _ _ (by simp; omega) (fun j => ?_) fun j hj => ?_⟩
        · simp [loadVar, hag, run_sz hi, hin, hrun]
        · by_cases hj : j < n
          · obtain ⟨cv, c1, c2, c3⟩ := hcells j hj
            simpa [Array.getD, hj, f, c1] using c3
          · simp [Array.getD, hj]; rfl
        · have hj' : j < n := by simp at hj; omega
          obtain ⟨cv, c1, c2, c3⟩ := hcells j hj'
          have hlt : off + j < cs.length := by omega
          simp [List.getD, hlt] at c2
          simpa [Array.getD, hj', f, c1] using c2
      · cases he
    · cases he
  | ip cs b o vs hp hrf h1 hc hv =>
    unfold ldA at he
    dsimp only at he
    cases n with
    | none =>
      dsimp only at he
      obtain ⟨h0, rfl⟩ := List.getElem?_eq_some_iff.1 he
      have := hc 0 h0
      refine ⟨_, vs 0, rfl, ?_, hv 0 h0⟩
      simp at this
      simp [loadVar, hag, this]
    | some n =>
      dsimp only at he
      split at he
      · rename_i hle
        cases he
        obtain ⟨i, hi, hin⟩ := hsz n rfl
        have hf : ∀ j, j < n → w.cell? ((⟨b, o, none⟩ : Addr).add j) = some (vs j) := fun j hj => by
          rw [Addr.add_lit]
          exact hc j (by omega)
        have hrun := run_loadCells (P := P) w ⟨b, o, none⟩ n vs hf
        refine ⟨_, .agg ((List.range n).map vs).toArray, rfl, ?_, .agg _ _ (by simp; omega) (fun j => ?_) fun j hj => ?_⟩
        · simp [loadVar, hag, run_sz hi, hin, hrun]
        · by_cases hj : j < n
          · simpa [Array.getD, hj] using h1 j
          · simp [Array.getD, hj]; rfl
        · have hj' : j < n := by simp at hj; omega
          have := hv j (by omega)
          simpa [Array.getD, hj'] using this
      · cases he
  | _ => simp [ldA] at he
theorem op_ld {t : TypeId} {x : Operand} {o : Oper} (ho : o.op = .load t x) {x' : Opd} (hx : opd x = some x') {n : Option Nat} (ht : aggN P t = some n) {v : AV}
    (he : ldA h n (x'.ev fr) = some v) (hf : FR φ h w fr a.tmps) (hr : HR φ h w) : OpOK P (execOp a.eval o) φ h w v h := by
  obtain ⟨ad, cv, e1, e2, e3⟩ := ldA_ok ht (opd_ok hx hf) hr he
  refine .pure hr ?_ e3
  unfold execOp
  simp [ho, Instr.loadAt, Instr.sureAddr, e1, e2]
def setAll (c : Array Value) (k : Nat) : List Value → Array Value
  | [] => c
  | v :: r => setAll (c.setIfInBounds k v) (k + 1) r
theorem setAll_size : ∀ (vs : List Value) (c : Array Value) (k : Nat), (setAll c k vs).size = c.size
  | [], _, _ => rfl
  | v :: r, c, k => by simp [setAll, setAll_size r]
theorem setAll_get : ∀ (vs : List Value) (c : Array Value) (k j : Nat), k + vs.length ≤ c.size →
    (setAll c k vs).getD j default = if k ≤ j ∧ j < k + vs.length then vs.getD (j - k) default else c.getD j default
  | [], c, k, j, _ => by
    simp only [setAll, List.length_nil]
    rw [if_neg (by omega)]
  | v :: r, c, k, j, hl => by
    simp only [List.length_cons] at hl
    rw [setAll, setAll_get r _ _ _ (by simp; omega)]
    simp only [List.length_cons]
    by_cases h1 : k + 1 ≤ j ∧ j < k + 1 + r.length
    · rw [if_pos h1, if_pos (by omega)]
      rw [show j - k = (j - (k + 1)) + 1 by omega, List.getD_cons_succ]
    · rw [if_neg h1]
      by_cases h2 : j = k
      · subst h2
        rw [if_pos (by omega)]
        have : j < c.size := by omega
        simp [Array.getD, this]
      · rw [if_neg (by omega)]
        have hne : k ≠ j := fun e => h2 e.symm
        rw [Array.getD_eq_getD_getElem?, Array.getD_eq_getD_getElem?, Array.getElem?_setIfInBounds]
        simp [hne]
theorem run_storeCells {b : Nat} {el : TypeId} {fz : Nat × Nat} : ∀ (vs : List Value) (c : Array Value) (o i : Nat) (w : World), w.heap[b]? = some (.cells c el fz) → o + i + vs.length ≤ c.size →
    (∀ x, x < c.size → ¬ (fz.1 ≤ x ∧ x < fz.2)) → (∀ v ∈ vs, v.oneCell' = true) →
    ∃ w', (storeCells ⟨b, o, none⟩ vs i).run P w = .ok () w' ∧ w'.heap[b]? = some (.cells (setAll c (o + i) vs) el fz) ∧ w'.heap.size = w.heap.size ∧ (∀ x, x ≠ b → w'.heap[x]? = w.heap[x]?) ∧
      w'.os = w.os ∧ w'.tape = w.tape ∧ w'.output = w.output
  | [], c, o, i, w, hb, _, _, _ => ⟨w, by simp [storeCells], by simpa [setAll] using hb, rfl, fun _ _ => rfl, rfl, rfl, rfl⟩
  | v :: r, c, o, i, w, hb, hl, hfz, h1 => by
    simp only [List.length_cons] at hl
    have hlt : o + i < c.size := by omega
    have hcell : w.cell? ⟨b, o + i, none⟩ = some c[o + i] := by unfold World.cell?; simp [hb, hlt]
    have hfr : w.frozen? ⟨b, o + i, none⟩ = false := by
      have := hfz (o + i) hlt
      unfold World.frozen?
      simp only [hb]
      simpa using this
    have hb' : (w.setCell ⟨b, o + i, none⟩ v).heap[b]? = some (.cells (c.setIfInBounds (o + i) v) el fz) := by
      simp [World.setCell, Array.getElem?_modify, hb]
    obtain ⟨w', e1, e2, e3, e4, e5, e6, e7⟩ := run_storeCells r (c.setIfInBounds (o + i) v) o (i + 1) (w.setCell ⟨b, o + i, none⟩ v) hb' (by simp; omega) (by simpa using hfz) (fun v hv => h1 v (by simp [hv]))
    refine ⟨w', ?_, by rw [setAll, Nat.add_assoc]; exact e2, by rw [e3]; simp, fun x hx => (e4 x hx).trans ?_, e5, e6, e7⟩
    · unfold storeCells
      rw [Sem.run_bind, Addr.add_lit, run_store P w _ v _ (h1 v (by simp))]
      simp [hcell, hfr, e1]
    · simp [World.setCell, Array.getElem?_modify, Ne.symm hx]
end
end Sz

/- Stores, tests, numbers, strings, places: each operation of the model does what the abstract run says. No program is named here. -/
namespace Sz
open Go
section
variable {P : Program} {φ : Phi} {h : Heap} {w : World} {fr : List AV} {a : Act}
theorem putAt_get : ∀ (vs : List AV) (l : List AV) (k j : Nat), k + vs.length ≤ l.length →
    (putAt l k vs).getD j .undef = if k ≤ j ∧ j < k + vs.length then vs.getD (j - k) .undef else l.getD j .undef
  | [], l, k, j, _ => by
    simp only [putAt, List.length_nil]
    rw [if_neg (by omega)]
  | v :: r, l, k, j, hl => by
    simp only [List.length_cons] at hl
    rw [putAt, putAt_get r _ _ _ (by simp; omega)]
    simp only [List.length_cons]
    by_cases h1 : k + 1 ≤ j ∧ j < k + 1 + r.length
    · rw [if_pos h1, if_pos (by omega)]
      rw [show j - k = (j - (k + 1)) + 1 by omega, List.getD_cons_succ]
    · rw [if_neg h1]
      by_cases h2 : j = k
      · subst h2
        rw [if_pos (by omega)]
        have : j < l.length := by omega
        simp [List.getD, this]
      · rw [if_neg (by omega)]
        have hne : k ≠ j := fun e => h2 e.symm
        simp [List.getD, hne]
theorem write_row (hr : HR φ h w) {id off : Nat} {cs vs : List AV} {cvs : List Value} (hg : h.get id = some (.row cs)) (hle : off + vs.length ≤ cs.length) (hlen : vs.length = cvs.length)
    (hv : ∀ j (h1 : j < vs.length) (h2 : j < cvs.length), RVh φ h w vs[j] cvs[j] ∧ cvs[j].oneCell' = true) :
    ∃ w', (storeCells ⟨(φ id).blk, (φ id).base + off, none⟩ cvs).run P w = .ok () w' ∧ HR φ (h.set id (.row (putAt cs off vs))) w' ∧ Ext φ h w φ (h.set id (.row (putAt cs off vs))) w' := by
  obtain ⟨c, el, fz, h1, h2, h3, h4, h5, h6⟩ := hr.rows id cs hg
  obtain ⟨w', e1, e2, e3, e4, e5, e6, e7⟩ := run_storeCells (P := P) cvs c ((φ id).base + off) 0 w h1 (by omega) h4 (fun v hvm => by
    obtain ⟨j, hj, rfl⟩ := List.getElem_of_mem hvm
    exact (hv j (by omega) hj).2)
  obtain ⟨t1, t2⟩ := turn_obj (w' := w') (o' := .row (putAt cs off vs)) hr hg (fun e => by cases e) e3 e4 e5 e6 e7
  refine ⟨w', e1, t2 (fun cs' hcs' => ?_) (fun es hes => by cases hes), t1⟩
  cases hcs'
  refine ⟨_, el, fz, e2, by rw [setAll_size]; exact h2, by rw [putAt_length]; exact h3, by rw [setAll_size]; exact h4, fun j hj => ?_, fun j hj => ?_⟩
  · rw [setAll_get _ _ _ _ (by omega)]
    split
    · rename_i hin
      have hlt : (φ id).base + j - ((φ id).base + off + 0) < cvs.length := by omega
      have := (hv _ (by omega) hlt).2
      rw [List.getD_eq_getElem?_getD, List.getElem?_eq_getElem hlt]
      exact this
    · exact h5 j hj
  · have hj' : j < cs.length := by rw [putAt_length] at hj; exact hj
    have hp := putAt_get vs cs off j hle
    rw [List.getD_eq_getElem?_getD, List.getElem?_eq_getElem hj, Option.getD_some] at hp
    rw [hp, setAll_get _ _ _ _ (by omega)]
    by_cases hin : off ≤ j ∧ j < off + vs.length
    · rw [if_pos hin, if_pos (by omega)]
      have q1 : j - off < vs.length := by omega
      have q2 : (φ id).base + j - ((φ id).base + off + 0) = j - off := by omega
      have q3 : j - off < cvs.length := by omega
      have := ((hv _ q1 q3).1).ext t1
      rw [q2]
      simpa [List.getD, q1, q3] using this
    · rw [if_neg hin, if_neg (by omega)]
      have := (h6 j hj').ext t1
      simpa [List.getD, hj'] using this
theorem op_st {t : TypeId} {x v : Operand} {o : Oper} (ho : o.op = .store t x v) {x' v' : Opd} (hx : opd x = some x') (hv : opd v = some v') {i : TypeInfo} (hi : P.info? t = some i)
    {id off : Nat} (hp : x'.ev fr = .ptr id off) {vs cs : List AV} (hvs : (v'.ev fr).cells? = some vs) (hrow : h.row id = some cs) (hlen : vs.length = i.size) (hle : off + i.size ≤ cs.length)
    (hf : FR φ h w fr a.tmps) (hr : HR φ h w) : OpOK P (execOp a.eval o) φ h w .undef ((h.set id (.row (putAt cs off vs))).mark id (v'.ev fr)) := by
  have hg := row_some hrow
  have g1 := opd_ok hx hf
  rw [hp] at g1
  obtain ⟨k1, k2, k3⟩ := (opd_ok hv hf).cells hvs
  obtain ⟨w', e1, e2, e3⟩ := write_row (P := P) (cvs := (a.eval v).cells.toList) hr hg (by omega : off + vs.length ≤ cs.length) (by simpa using k1.symm) fun j q1 q2 => by
    have r1 := k3 j q1
    have r2 := k2 j
    have hj : j < (a.eval v).cells.size := by omega
    simp only [Array.getD, hj, dif_pos] at r1 r2
    exact ⟨by simpa using r1, by simpa using r2⟩
  obtain ⟨m1, m2⟩ := e2.mark id (v'.ev fr)
  refine ⟨undef, w', φ, .inr ⟨?_, rfl⟩, .undef _, m1, e3.trans m2⟩
  have hc : a.eval x = .pointer (some ⟨(φ id).blk, (φ id).base + off, none⟩) := by
    cases hq : a.eval x <;> rw [hq] at g1 <;> cases g1
    rfl
  unfold execOp
  have hsz : (a.eval v).cells.size = i.size := by omega
  simp [ho, Instr.storeAt, Instr.sureAddr, hc, storeVar, run_sz hi, hsz, e1]
theorem nilA_false {x : AV} {cx : Value} (hn : nilA x = some false) (hx : RVh φ h w x cx) :
    (∃ ad, cx = .pointer (some ad)) ∨ (∃ t v, cx = .iface t v) ∨ (∃ f c, cx = .func (.func f) #[] c) ∨ (∃ r, cx = .map (some r)) := by
  cases hx <;> simp [nilA] at hn
  · exact .inl ⟨_, rfl⟩
  · exact .inl ⟨_, rfl⟩
  · exact .inr (.inr (.inr ⟨_, rfl⟩))
  · exact .inr (.inr (.inl ⟨_, _, rfl⟩))
  · exact .inr (.inl ⟨_, _, rfl⟩)
theorem nilA_true {x : AV} {cx : Value} (hn : nilA x = some true) (hx : RVh φ h w x cx) : cx = .pointer none ∨ cx = .nilIface ∨ cx = .nilFunc ∨ cx = .map none := by
  cases hx <;> simp [nilA] at hn <;> simp
theorem op_nck {x : Operand} {o : Oper} (ho : o.op = .nilCheck x) {x' : Opd} (hx : opd x = some x') (hn : nilA (x'.ev fr) = some false)
    (hf : FR φ h w fr a.tmps) (hr : HR φ h w) : OpOK P (execOp a.eval o) φ h w (x'.ev fr) h := by
  have g := opd_ok hx hf
  refine .pure hr ?_ g
  unfold execOp
  rcases nilA_false hn g with ⟨ad, e⟩ | ⟨t, v, e⟩ | ⟨f, c, e⟩ | ⟨r, e⟩ <;> simp [ho, e]
theorem eqGuard_basic (op : BinOp) (t : TypeId) (x y : Operand) {u v : Value} (hu : (∃ k n, u = .int k n) ∨ (∃ s, u = .string s) ∨ (∃ b, u = .bool b)) : eqGuard op t x y u v = Pure.pure () := by
  rcases hu with ⟨k, n, rfl⟩ | ⟨s, rfl⟩ | ⟨b, rfl⟩ <;> cases op <;> rfl
theorem binOp_int_cmp (w : World) (op : BinOp) (t : TypeId) (k : IntKind) (x y : Int) (v : AV) (hv : binA op (.int k x) (.int k y) = some v) (hs : op ≠ .shl ∧ op ≠ .shr) :
    ∃ cv, (binOp op t (.int k x) (.int k y)).run P w = .ok cv w ∧ ∀ nx pr, RV φ nx pr w v cv := by
  cases op <;> simp at hs <;> simp only [binA, if_true] at hv <;> simp only [binOp, ne_eq, not_true, if_false]
  case quo | rem =>
    split at hv
    · cases hv
    · rename_i h0
      cases hv
      exact ⟨_, by simp [Op.intDiv, h0], fun _ _ => .int _ _⟩
  case add | sub | mul => cases hv; exact ⟨_, by simp [Op.intArith], fun _ _ => .int _ _⟩
  case and | or | xor | andNot => cases hv; exact ⟨_, rfl, fun _ _ => .int _ _⟩
  case eql => cases hv; exact ⟨_, rfl, fun _ _ => RV.bool (x == y)⟩
  case neq => cases hv; exact ⟨_, rfl, fun _ _ => RV.bool (!(x == y))⟩
  case lss | leq | gtr | geq => cases hv; exact ⟨_, by simp only [Op.intCmp]; rfl, fun _ _ => .bool _⟩
  all_goals (cases hv)
theorem binOp_shift (w : World) (op : BinOp) (t : TypeId) (k k' : IntKind) (x y : Int) (v : AV) (hs : op = .shl ∨ op = .shr) (hv : binA op (.int k x) (.int k' y) = some v) :
    ∃ cv, (binOp op t (.int k x) (.int k' y)).run P w = .ok cv w ∧ ∀ nx pr, RV φ nx pr w v cv := by
  rcases hs with rfl | rfl <;> simp only [binA] at hv <;> split at hv <;> cases hv
  · rename_i h0
    refine ⟨.int k (k.wrap (x * 2 ^ min y.toNat k.bits)), ?_, fun _ _ => .int _ _⟩
    show (Op.shift .shl k x k' y).run P w = _
    unfold Op.shift
    rw [if_neg h0]
    rfl
  · rename_i h0
    refine ⟨.int k (x.fdiv (2 ^ min y.toNat k.bits)), ?_, fun _ _ => .int _ _⟩
    show (Op.shift .shr k x k' y).run P w = _
    unfold Op.shift
    rw [if_neg h0]
    rfl
theorem binOp_str (w : World) (op : BinOp) (t : TypeId) (x y : ByteArray) (v : AV) (hv : binA op (.str x.data.toList) (.str y.data.toList) = some v) :
    ∃ cv, (binOp op t (.string x) (.string y)).run P w = .ok cv w ∧ ∀ nx pr, RV φ nx pr w v cv := by
  have e : (x.toList == y.toList) = (x.data.toList == y.data.toList) := by rw [ByteArray.toList_eq, ByteArray.toList_eq]
  cases op <;> simp only [binA] at hv
  case add =>
    split at hv
    · rename_i hl
      cases hv
      refine ⟨.string (x ++ y), ?_, fun _ _ => .str_mk (by simp [ByteArray.data_append])⟩
      have hsz : ((x.size + y.size : Nat) : Int) ≤ 9223372036854775807 := by
        have h1 : x.data.toList.length = x.size := Array.length_toList
        have h2 : y.data.toList.length = y.size := Array.length_toList
        rw [h1, h2] at hl
        omega
      have : ¬ (((x.size + y.size : Nat) : Int) > IntKind.i64.max) := by rw [IntKind.max_i64]; omega
      show (Op.stringOp .add x y).run P w = _
      unfold Op.stringOp
      dsimp only
      rw [if_neg this]
      rfl
    · cases hv
  case eql => cases hv; exact ⟨.bool (x.toList == y.toList), rfl, fun _ _ => e ▸ .bool _⟩
  case neq => cases hv; exact ⟨.bool (!(x.toList == y.toList)), rfl, fun _ _ => e ▸ .bool _⟩
  case lss => cases hv; exact ⟨.bool (Op.bytesLess x.toList y.toList), rfl, fun _ _ => by rw [ByteArray.toList_eq, ByteArray.toList_eq]; exact .bool _⟩
  case leq => cases hv; exact ⟨.bool (Op.bytesLess x.toList y.toList || x.toList == y.toList), rfl, fun _ _ => by rw [ByteArray.toList_eq, ByteArray.toList_eq]; exact .bool _⟩
  case gtr => cases hv; exact ⟨.bool (!(Op.bytesLess x.toList y.toList || x.toList == y.toList)), rfl, fun _ _ => by rw [ByteArray.toList_eq, ByteArray.toList_eq]; exact .bool _⟩
  case geq => cases hv; exact ⟨.bool (!(Op.bytesLess x.toList y.toList)), rfl, fun _ _ => by rw [ByteArray.toList_eq, ByteArray.toList_eq]; exact .bool _⟩
  all_goals (cases hv)
theorem op_beq {neg : Bool} {t ty : TypeId} {x y : Operand} {o : Oper} (ho : o.op = .binOp (if neg then .neq else .eql) t x y ty) {x' y' : Opd} (hx : opd x = some x') (hy : opd y = some y')
    (ht : P.underlying t = some .bool) {u v : Bool} (hu : x'.ev fr = .bool u) (hv : y'.ev fr = .bool v) (hf : FR φ h w fr a.tmps) (hr : HR φ h w) :
    OpOK P (execOp a.eval o) φ h w (.bool (if neg then !(u == v) else u == v)) h := by
  have g1 := opd_ok hx hf
  have g2 := opd_ok hy hf
  rw [hu] at g1
  rw [hv] at g2
  have hq0 : ∀ d, (Op.equalIn (d + 1) t (.bool u) (.bool v)).run P w = .ok (u == v) w := fun d => by simp [Op.equalIn, run_underlying ht]
  have hq : (Op.equal t (.bool u) (.bool v)).run P w = .ok (u == v) w := hq0 9999
  refine .pure (cv := .bool (if neg then !(u == v) else u == v)) hr ?_ (.bool _)
  unfold execOp
  cases neg
  · simp only [Bool.false_eq_true, if_false] at ho ⊢
    simp [ho, g1.bool_inv, g2.bool_inv, eqGuard_basic .eql t x y (u := .bool u) (v := .bool v) (.inr (.inr ⟨_, rfl⟩)), binOp, hq]
  · simp only [if_true] at ho ⊢
    simp [ho, g1.bool_inv, g2.bool_inv, eqGuard_basic .neq t x y (u := .bool u) (v := .bool v) (.inr (.inr ⟨_, rfl⟩)), binOp, hq]
theorem op_bin {op : BinOp} {t ty : TypeId} {x y : Operand} {o : Oper} (ho : o.op = .binOp op t x y ty) {x' y' : Opd} (hx : opd x = some x') (hy : opd y = some y') {v : AV} (hv : binA op (x'.ev fr) (y'.ev fr) = some v)
    (hf : FR φ h w fr a.tmps) (hr : HR φ h w) : OpOK P (execOp a.eval o) φ h w v h := by
  have g1 := opd_ok hx hf
  have g2 := opd_ok hy hf
  have key : ∃ cv, (binOp op t (a.eval x) (a.eval y)).run P w = .ok cv w ∧ (∀ nx pr, RV φ nx pr w v cv) ∧ ((∃ k n, a.eval x = .int k n) ∨ (∃ s, a.eval x = .string s) ∨ (∃ b, a.eval x = .bool b)) := by
    cases hx' : x'.ev fr with
    | int k n =>
      cases hy' : y'.ev fr with
      | int k' n' =>
        rw [hx'] at g1; rw [hy'] at g2
        rw [g1.int_inv, g2.int_inv]
        rw [hx', hy'] at hv
        by_cases hs : op = .shl ∨ op = .shr
        · obtain ⟨cv, e1, e2⟩ := binOp_shift (P := P) (φ := φ) w op t k k' n n' v hs hv
          exact ⟨cv, e1, e2, .inl ⟨_, _, rfl⟩⟩
        · have hkk : k = k' := by
            cases op <;> simp at hs <;> simp only [binA] at hv <;> split at hv <;> first | assumption | cases hv
          subst hkk
          obtain ⟨cv, e1, e2⟩ := binOp_int_cmp (P := P) (φ := φ) w op t k n n' v hv ⟨fun e => hs (.inl e), fun e => hs (.inr e)⟩
          exact ⟨cv, e1, e2, .inl ⟨_, _, rfl⟩⟩
      | _ => rw [hx', hy'] at hv; simp [binA] at hv
    | str s =>
      cases hy' : y'.ev fr with
      | str s' =>
        rw [hx'] at g1; rw [hy'] at g2
        obtain ⟨b1, q1, q2⟩ := g1.str_inv
        obtain ⟨b2, q3, q4⟩ := g2.str_inv
        rw [q1, q3]
        rw [hx', hy', ← q2, ← q4] at hv
        obtain ⟨cv, e1, e2⟩ := binOp_str (P := P) (φ := φ) w op t b1 b2 v hv
        exact ⟨cv, e1, e2, .inr (.inl ⟨_, rfl⟩)⟩
      | _ => rw [hx', hy'] at hv; simp [binA] at hv
    | _ => rw [hx'] at hv; simp [binA] at hv
  obtain ⟨cv, e1, e2, e3⟩ := key
  refine .pure hr ?_ (e2 _ _)
  unfold execOp
  simp [ho, eqGuard_basic op t x y e3, e1]
theorem op_un {op : UnOp} {t : TypeId} {x : Operand} {o : Oper} (ho : o.op = .unOp op t x) {x' : Opd} (hx : opd x = some x') {v : AV}
    (hv : (match (generalizing := false) op, x'.ev fr with
    | .not, .bool b => some (AV.bool (!b))
    | .neg, .int k n => some (.int k (k.wrap (0 - n)))
    | .xor, .int k n => some (.int k (bitsI .xor k (if k.signed then -1 else k.max) n))
    | _, _ => none) = some v) (hf : FR φ h w fr a.tmps) (hr : HR φ h w) : OpOK P (execOp a.eval o) φ h w v h := by
  have g := opd_ok hx hf
  split at hv
  · rename_i b hb
    cases hv
    rw [hb] at g
    exact .pure (cv := .bool (!b)) hr (by unfold execOp; simp [ho, g.bool_inv, Op.unary]) (.bool _)
  · rename_i k n hb
    cases hv
    rw [hb] at g
    exact .pure (cv := .int k (k.wrap (0 - n))) hr (by unfold execOp; simp [ho, g.int_inv, Op.unary, Op.intArith]) (.int _ _)
  · rename_i k n hb
    cases hv
    rw [hb] at g
    refine .pure (cv := .int k (bitsI .xor k (if k.signed then -1 else k.max) n)) hr ?_ (.int _ _)
    unfold execOp
    simp only [ho, g.int_inv, Op.unary]
    rfl
  · cases hv
theorem op_cvi {s d : TypeId} {x : Operand} {o : Oper} (ho : o.op = .convert s d x) {x' : Opd} (hx : opd x = some x') {k0 k : IntKind} (hs : P.underlying s = some (.int k0)) (hd : P.underlying d = some (.int k))
    {k' : IntKind} {n : Int} (hv : x'.ev fr = .int k' n) (hf : FR φ h w fr a.tmps) (hr : HR φ h w) : OpOK P (execOp a.eval o) φ h w (.int k (k.wrap n)) h := by
  have g := opd_ok hx hf
  rw [hv] at g
  exact .pure (cv := .int k (k.wrap n)) hr (by unfold execOp; simp [ho, g.int_inv, convert, run_underlying hs, run_underlying hd, Conv.intToInt]) (.int _ _)
theorem op_cvss {s d : TypeId} {x : Operand} {o : Oper} (ho : o.op = .convert s d x) {x' : Opd} (hx : opd x = some x') (hs : P.underlying s = some .string) (hd : P.underlying d = some .string)
    {b : List UInt8} (hv : x'.ev fr = .str b) (hf : FR φ h w fr a.tmps) (hr : HR φ h w) : OpOK P (execOp a.eval o) φ h w (.str b) h := by
  have g := opd_ok hx hf
  rw [hv] at g
  obtain ⟨c, q1, q2⟩ := g.str_inv
  exact .pure (cv := .string c) hr (by unfold execOp; simp [ho, q1, convert, run_underlying hs, run_underlying hd]) (.str_mk q2)
theorem op_mki {t : TypeId} {x : Operand} {o : Oper} (ho : o.op = .makeInterface t x) {x' : Opd} (hx : opd x = some x') {d : TypeDesc} (ht : P.underlying t = some d) (hd : ∀ ms, d ≠ .interface ms)
    (hf : FR φ h w fr a.tmps) (hr : HR φ h w) : OpOK P (execOp a.eval o) φ h w (.iface t (x'.ev fr)) h := by
  refine .pure (cv := .iface t (a.eval x)) hr ?_ (.iface _ _ _ (opd_ok hx hf))
  unfold execOp
  cases d <;> first
    | (rename_i ms; exact absurd rfl (hd ms))
    | simp [ho, Instr.makeInterface, run_underlying ht]
theorem op_mkf {f : Nat} {caps : Array Operand} {first : Array Operand} {o : Oper} (ho : o.op = .makeFunc (.func f) first caps) (h0 : first.isEmpty = true) {caps' : List Opd} (hc : opds caps = some caps')
    (hf : FR φ h w fr a.tmps) (hr : HR φ h w) : OpOK P (execOp a.eval o) φ h w (.fn f (caps'.map (·.ev fr))) h := by
  obtain ⟨g1, g2⟩ := opds_ok hc hf
  have h0' : first = #[] := by simpa using h0
  refine .pure (cv := .func (.func f) #[] (caps.map a.eval)) hr (by unfold execOp; simp [ho, Instr.makeFunc, h0']) (.fn _ _ _ (by simpa using g1) fun j hj => ?_)
  have := g2 j (by simpa using hj)
  have hj' : j < caps'.length := by simpa using hj
  simpa [List.getD, hj'] using this
theorem op_mkm {t : TypeId} {o : Oper} (ho : o.op = .makeMap t none) (hr : HR φ h w) : OpOK P (execOp a.eval o) φ h w (.map h.next) (h.alloc (.map [])) := by
  obtain ⟨g1, g2⟩ := new_map (w' := w.alloc (.map #[] 0)) hr rfl rfl rfl rfl
  refine ⟨.map (some w.heap.size), _, _, .inl ?_, ?_, g1, g2⟩
  · unfold execOp; simp [ho, Instr.makeMap]
  · have := RV.map (φ := addPE φ h.next ⟨w.heap.size, 0, 0⟩) (nx := (h.alloc (.map [])).next) (pr := Pr (addPE φ h.next ⟨w.heap.size, 0, 0⟩) (h.alloc (.map [])) (w.alloc (.map #[] 0))) (w := w.alloc (.map #[] 0)) h.next (by simp)
    have e : addPE φ h.next ⟨w.heap.size, 0, 0⟩ h.next = ⟨w.heap.size, 0, 0⟩ := by simp [addPE]
    rw [e] at this
    exact this
theorem op_fad {s : TypeId} {x : Operand} {k : Nat} {o : Oper} (ho : o.op = .fieldAddr s x k) {x' : Opd} (hx : opd x = some x') {fs : Array Field} (hs : P.underlying s = some (.struct fs)) {fd : Field} (hfd : fs[k]? = some fd)
    {i : TypeInfo} (hi : P.info? fd.type = some i) (h0 : i.size ≠ 0) {v : AV} (hv : (match x'.ev fr with | .ptr id o => some (AV.ptr id (o + fd.offset)) | .ip cs => some (.ip (cs.drop fd.offset)) | _ => none) = some v)
    (hf : FR φ h w fr a.tmps) (hr : HR φ h w) : OpOK P (execOp a.eval o) φ h w v h := by
  have g := opd_ok hx hf
  have key : ∀ ad : Addr, a.eval x = .pointer (some ad) → (execOp a.eval o).run P w = .ok (.value (.pointer (some (ad.add fd.offset)))) w := fun ad he => by
    unfold execOp
    simp [ho, Instr.fieldAt, run_underlying hs, hfd, Instr.sureAddr, he, fieldPlace, run_sz hi, h0]
  split at hv
  · rename_i id off he
    cases hv
    rw [he] at g
    obtain ⟨hq, hid⟩ := g.ptr_inv
    refine .pure hr (key _ hq) ?_
    rw [Addr.add_lit, Nat.add_assoc]
    exact .ptr _ _ hid
  · rename_i cs he
    cases hv
    rw [he] at g
    obtain ⟨b, o, vs, hq, hp, hrf, h1, hc, hv⟩ := g.ip_inv
    refine .pure hr (key _ hq) ?_
    rw [Addr.add_lit]
    refine .ip _ _ _ (fun j => vs (fd.offset + j)) hp ?_ (fun j => h1 _) (fun j hj => ?_) fun j hj => ?_
    · have : AV.refsL (cs.drop fd.offset) ≤ 0 := AV.refsL_le fun v hv => by
        have := AV.refsL_mem (List.mem_of_mem_drop hv)
        omega
      omega
    · have := hc (fd.offset + j) (by simp at hj; omega)
      rw [Nat.add_assoc]
      exact this
    · have := hv (fd.offset + j) (by simp at hj; omega)
      simpa using this
  · cases hv
theorem op_ext {x : Operand} {k : Nat} {o : Oper} (ho : o.op = .extract x k) {x' : Opd} (hx : opd x = some x') {vs : List AV} (hv : x'.ev fr = .tuple vs) {v : AV} (hk : vs[k]? = some v)
    (hf : FR φ h w fr a.tmps) (hr : HR φ h w) : OpOK P (execOp a.eval o) φ h w v h := by
  have g := opd_ok hx hf
  rw [hv] at g
  obtain ⟨hlt, rfl⟩ := List.getElem?_eq_some_iff.1 hk
  obtain ⟨cvs, hq, hl, hv'⟩ := g.tuple_inv
  have hlt' : k < cvs.size := by omega
  have := hv' k hlt
  simp only [Array.getD, hlt', dif_pos] at this
  refine .pure (cv := cvs[k]) hr ?_ (by simpa using this)
  unfold execOp
  simp [ho, hq, Instr.extract, hlt']
end
end Sz

/- Places in slices and strings, slices of slices, lengths: each operation of the model does what the abstract run says. No program is named here. -/
namespace Sz
open Go
section
variable {P : Program} {φ : Phi} {h : Heap} {w : World} {fr : List AV} {a : Act}
theorem run_part {t : TypeId} {n : Option Nat} (ht : aggN P t = some n) (cs : Array Value) (off : Nat) (w : World) :
    (n = none → ∀ v, cs[off]? = some v → (part t cs off).run P w = .ok v w) ∧ (∀ m, n = some m → (part t cs off).run P w = .ok (.agg (cs.extract off (off + m))) w) := by
  obtain ⟨hag, hsz⟩ := run_isAgg_struct ht w
  refine ⟨fun e v hv => ?_, fun m e => ?_⟩
  · subst e
    simp [part, hag, hv]
  · subst e
    obtain ⟨i, hi, him⟩ := hsz m rfl
    simp [part, hag, run_sz hi, him]
theorem op_fld {t : TypeId} {x : Operand} {k : Nat} {o : Oper} (ho : o.op = .field t x k) {x' : Opd} (hx : opd x = some x') {fs : Array Field} (hs : P.underlying t = some (.struct fs)) {fd : Field} (hfd : fs[k]? = some fd)
    {n : Option Nat} (hn : aggN P fd.type = some n) {cs : List AV} (hv : x'.ev fr = .agg cs) {v : AV}
    (he : (match (generalizing := false) n with | none => cs[fd.offset]? | some n => if fd.offset + n ≤ cs.length then some (.agg ((cs.drop fd.offset).take n)) else none) = some v)
    (hf : FR φ h w fr a.tmps) (hr : HR φ h w) : OpOK P (execOp a.eval o) φ h w v h := by
  have g := opd_ok hx hf
  rw [hv] at g
  obtain ⟨cvs, hq, hl, h1, hv'⟩ := g.agg_inv
  obtain ⟨p1, p2⟩ := run_part hn cvs fd.offset w
  split at he
  · obtain ⟨hlt, rfl⟩ := List.getElem?_eq_some_iff.1 he
    have hlt' : fd.offset < cvs.size := by omega
    have := hv' fd.offset hlt
    simp only [Array.getD, hlt', dif_pos] at this
    refine .pure (cv := cvs[fd.offset]) hr ?_ (by simpa using this)
    unfold execOp
    simp [ho, hq, Instr.field, run_underlying hs, hfd, asAgg, p1 rfl _ (Array.getElem?_eq_getElem hlt')]
  · rename_i n
    split at he
    · rename_i hle
      cases he
      refine .pure (cv := .agg (cvs.extract fd.offset (fd.offset + n))) hr ?_ (.agg _ _ (by simp; omega) (fun j => ?_) fun j hj => ?_)
      · unfold execOp
        simp [ho, hq, Instr.field, run_underlying hs, hfd, asAgg, p2 n rfl]
      · have := h1 (fd.offset + j)
        by_cases hj : j < n
        · have q : fd.offset + j < cvs.size := by omega
          have q2 : j < min (fd.offset + n) cvs.size - fd.offset := by omega
          simpa [Array.getD, q, q2] using this
        · have q2 : ¬ j < min (fd.offset + n) cvs.size - fd.offset := by omega
          simp [Array.getD, q2]; rfl
      · have hj' : j < n := by simp at hj; omega
        have := hv' (fd.offset + j) (by omega)
        have q : fd.offset + j < cvs.size := by omega
        have q2 : j < min (fd.offset + n) cvs.size - fd.offset := by omega
        simpa [Array.getD, q, q2] using this
    · cases he
theorem op_ixs {t : TypeId} {x i : Operand} {o : Oper} (ho : o.op = .index t x i) {x' i' : Opd} (hx : opd x = some x') (hi : opd i = some i') (ht : P.underlying t = some .string)
    {s : List UInt8} {k : IntKind} {n : Int} (hs : x'.ev fr = .str s) (hn : i'.ev fr = .int k n) (h0 : 0 ≤ n) {b : UInt8} (hb : s[n.toNat]? = some b)
    (hf : FR φ h w fr a.tmps) (hr : HR φ h w) : OpOK P (execOp a.eval o) φ h w (.int .u8 b.toNat) h := by
  have g1 := opd_ok hx hf
  have g2 := opd_ok hi hf
  rw [hs] at g1
  rw [hn] at g2
  obtain ⟨c, q1, q2⟩ := g1.str_inv
  refine .pure (cv := .int .u8 b.toNat) hr ?_ (.int _ _)
  have hcb : c[n.toNat]? = some b := by
    rw [← q2] at hb
    obtain ⟨hl, e⟩ := List.getElem?_eq_some_iff.1 hb
    have hl' : n.toNat < c.size := by rw [Array.length_toList] at hl; exact hl
    rw [getElem?_pos c n.toNat hl']
    rw [← e]
    rfl
  unfold execOp
  simp [ho, q1, g2.int_inv, Instr.index, asIntOf, run_underlying ht, h0, hcb]
theorem op_iad {t e : TypeId} {x i : Operand} {o : Oper} (ho : o.op = .indexAddr t x i) {x' i' : Opd} (hx : opd x = some x') (hi : opd i = some i') (ht : P.underlying t = some (.slice e)) {inf : TypeInfo} (hinf : P.info? e = some inf)
    {v : AV} {h' : Heap} (he : (match x'.ev fr, i'.ev fr with
    | .sl xs, .int _ i => if 0 ≤ i then (match xs[i.toNat]? with
        | some v => (match v.cells? with
          | some cs => if cs.length = inf.size then some (.ip cs, h) else none
          | none => none)
        | none => none) else none
    | .vec id off len s _, .int _ i => if 0 ≤ i ∧ i < len ∧ s = inf.size then some (.ptr id (off + i.toNat * inf.size), h) else none
    | _, _ => none) = some (v, h'))
    (hf : FR φ h w fr a.tmps) (hr : HR φ h w) : OpOK P (execOp a.eval o) φ h w v h' := by
  have g1 := opd_ok hx hf
  have g2 := opd_ok hi hf
  have hagg : ∀ k n, a.eval i = .int k n → ∀ ad len cap, a.eval x = .slice (some ad) len cap → 0 ≤ n → n < (len : Int) →
      (execOp a.eval o).run P w = .ok (.value (.pointer (some (ad.add (n.toNat * inf.size))))) w := fun k n e1 ad len cap e2 h0 hlt => by
    unfold execOp
    simp [ho, e1, e2, Instr.indexAt, asIntOf, run_underlying ht, h0, hlt, run_sz hinf]
  split at he
  · rename_i xs k n e1 e2
    rw [e1] at g1
    rw [e2] at g2
    split at he
    · rename_i h0
      split at he
      · rename_i y hy
        split at he
        · rename_i cs hcs
          split at he
          · rename_i hsz
            cases he
            obtain ⟨hlt, hyx⟩ := List.getElem?_eq_some_iff.1 hy
            rcases g1.sl_inv with ⟨_, _, rfl, _⟩ | ⟨b, o, cap, sz, vs, hq, hp, hcap, hrf, h1, hsz', hc, hv⟩
            · simp at hlt
            · refine .pure hr (hagg k n g2.int_inv _ _ _ hq h0 (by omega)) ?_
              have hs1 := hsz' n.toNat hlt
              rw [hyx, hcs] at hs1
              simp only [Option.map_some, Option.some.injEq] at hs1
              have hcc : y.cells = cs := by
                cases y <;> simp [AV.cells?] at hcs <;> simp [AV.cells, hcs]
              rw [Addr.add_lit]
              refine .ip _ _ _ (fun j => vs n.toNat j) hp ?_ (fun j => h1 _ _) (fun j hj => ?_) fun j hj => ?_
              · have h2 : AV.refsL cs = y.refs := by cases y <;> simp [AV.cells?] at hcs <;> subst hcs <;> simp [AV.refs, AV.refsL]
                have h3 := AV.refsL_mem (List.getElem_mem hlt)
                rw [hyx] at h3
                omega
              · have := hc n.toNat j hlt (by omega)
                rw [← hsz, hs1]
                exact this
              · have := hv n.toNat hlt j (by rw [hyx, hcc]; exact hj)
                simpa [hyx, hcc] using this
          · cases he
        · cases he
      · cases he
    · cases he
  · rename_i id off len s lb k n e1 e2
    rw [e1] at g1
    rw [e2] at g2
    split at he
    · rename_i hh
      obtain ⟨h0, hlt, hs⟩ := hh
      cases he
      obtain ⟨cap, ad, hq, hid, hl, _, hroom, ha⟩ := g1.vec_inv
      have hcap : 0 < cap := by omega
      have had := ha hcap
      subst had
      refine .pure hr (hagg k n g2.int_inv _ _ _ hq h0 hlt) ?_
      rw [Addr.add_lit, Nat.add_assoc]
      exact .ptr _ _ hid
    · cases he
  · cases he
theorem sliceB_ok {n cap : Nat} {lo hi : Option AV} {l u : Nat} (he : sliceB n lo hi = some (l, u)) (hnc : n ≤ cap) (isSl : Bool) {clo chi : Option Value}
    (hlo : (lo = none ∧ clo = none) ∨ ∃ x cx, lo = some x ∧ clo = some cx ∧ RVh φ h w x cx) (hhi : (hi = none ∧ chi = none) ∨ ∃ x cx, hi = some x ∧ chi = some cx ∧ RVh φ h w x cx) (w' : World) :
    (Instr.sliceBounds isSl n cap clo chi none).run P w' = .ok (l, u, cap) w' ∧ l ≤ u ∧ u ≤ n := by
  unfold sliceB at he
  split at he
  · cases he
  · rename_i u' hu'
    split at he
    · cases he
    · rename_i l' hl'
      cases he
      have hu : u ≤ n ∧ ((chi = none ∧ u = n) ∨ ∃ v, chi = some v ∧ (Instr.sliceBound v cap (if isSl then .sliceAcap else .sliceAlen)).run P w' = .ok u w') := by
        rcases hhi with ⟨rfl, rfl⟩ | ⟨x, cx, rfl, rfl, hx⟩
        · simp at hu'; exact ⟨by omega, .inl ⟨rfl, hu'.symm⟩⟩
        · split at hu'
          · rename_i e; cases e
          · rename_i k i e
            cases e
            split at hu'
            · rename_i hc
              cases hu'
              refine ⟨by omega, .inr ⟨cx, rfl, ?_⟩⟩
              rw [hx.int_inv]
              have h2 : i ≤ (cap : Int) := by omega
              simp [Instr.sliceBound, asIntOf, hc.1, h2]
            · cases hu'
          · cases hu'
      have hl : l ≤ u ∧ ((clo = none ∧ l = 0) ∨ ∃ v, clo = some v ∧ (Instr.sliceBound v u .sliceB).run P w' = .ok l w') := by
        rcases hlo with ⟨rfl, rfl⟩ | ⟨x, cx, rfl, rfl, hx⟩
        · simp at hl'; exact ⟨by omega, .inl ⟨rfl, hl'.symm⟩⟩
        · split at hl'
          · rename_i e; cases e
          · rename_i k i e
            cases e
            split at hl'
            · rename_i hc
              cases hl'
              refine ⟨by omega, .inr ⟨cx, rfl, ?_⟩⟩
              rw [hx.int_inv]
              simp [Instr.sliceBound, asIntOf, hc.1, hc.2]
            · cases hl'
          · cases hl'
      refine ⟨?_, hl.1, hu.1⟩
      rcases hu.2 with ⟨rfl, rfl⟩ | ⟨v, rfl, h1⟩ <;> rcases hl.2 with ⟨rfl, rfl⟩ | ⟨v2, rfl, h2⟩
      · simp [Instr.sliceBounds]
      · simp [Instr.sliceBounds, h2]
      · simp [Instr.sliceBounds, h1]
      · simp [Instr.sliceBounds, h1, h2]
theorem opdO_ok {x : Option Operand} {x' : Option Opd} (he : opdO x = some x') (hf : FR φ h w fr a.tmps) :
    (x'.map (·.ev fr) = none ∧ x.map a.eval = none) ∨ ∃ y cy, x'.map (·.ev fr) = some y ∧ x.map a.eval = some cy ∧ RVh φ h w y cy := by
  cases x with
  | none => simp [opdO] at he; subst he; exact .inl ⟨rfl, rfl⟩
  | some x =>
    simp only [opdO, Option.map_eq_some_iff] at he
    obtain ⟨y, hy, rfl⟩ := he
    exact .inr ⟨_, _, rfl, rfl, opd_ok hy hf⟩
theorem op_sls {t : TypeId} {x : Operand} {lo hi : Option Operand} {o : Oper} (ho : o.op = .slice t x lo hi none) {x' : Opd} {lo' hi' : Option Opd} (hx : opd x = some x') (hlo : opdO lo = some lo') (hhi : opdO hi = some hi')
    (ht : P.underlying t = some .string) {s : List UInt8} (hs : x'.ev fr = .str s) {l u : Nat} (he : sliceB s.length (lo'.map (·.ev fr)) (hi'.map (·.ev fr)) = some (l, u))
    (hf : FR φ h w fr a.tmps) (hr : HR φ h w) : OpOK P (execOp a.eval o) φ h w (.str ((s.take u).drop l)) h := by
  have g := opd_ok hx hf
  rw [hs] at g
  obtain ⟨c, q1, q2⟩ := g.str_inv
  have hlen : s.length = c.size := by rw [← q2, Array.length_toList]; rfl
  obtain ⟨e1, e2, e3⟩ := sliceB_ok (P := P) (cap := s.length) he (Nat.le_refl _) false (opdO_ok hlo hf) (opdO_ok hhi hf) w
  rw [hlen] at e1
  refine .pure (cv := .string (c.extract l u)) hr ?_ (.str_mk ?_)
  · unfold execOp
    simp [ho, q1, Instr.sliceAt, run_underlying ht, Instr.slice, e1]
  · rw [ByteArray.data_extract, ← q2, Array.toList_extract, List.extract_eq_take_drop, List.drop_take]
theorem op_lens {t : TypeId} {x : Operand} {o : Oper} (ho : o.op = .call { callee := .builtin .len, args := #[x], argTypes := #[t] }) {x' : Opd} (hx : opd x = some x') (ht : P.underlying t = some .string)
    {s : List UInt8} (hs : x'.ev fr = .str s) (hf : FR φ h w fr a.tmps) (hr : HR φ h w) : OpOK P (execOp a.eval o) φ h w (.int .i64 s.length) h := by
  have g := opd_ok hx hf
  rw [hs] at g
  obtain ⟨c, q1, q2⟩ := g.str_inv
  have hlen : s.length = c.size := by rw [← q2, Array.length_toList]; rfl
  refine .pure (cv := .int .i64 c.size) hr ?_ (by rw [hlen]; exact .int _ _)
  unfold execOp
  simp [ho, resolve, invoke, builtin, q1, Builtin.len_, run_underlying ht, goInt]
theorem op_lenv {t e : TypeId} {x : Operand} {o : Oper} (ho : o.op = .call { callee := .builtin .len, args := #[x], argTypes := #[t] }) {x' : Opd} (hx : opd x = some x') (ht : P.underlying t = some (.slice e))
    {v : AV} {h' : Heap} (he : (match x'.ev fr with
    | .nils => some (AV.int .i64 0, h)
    | .sl xs => some (.int .i64 xs.length, h)
    | .vec _ _ n _ _ => some (.int .i64 n, h)
    | _ => none) = some (v, h')) (hf : FR φ h w fr a.tmps) (hr : HR φ h w) : OpOK P (execOp a.eval o) φ h w v h' := by
  have g := opd_ok hx hf
  have key : ∀ ad n c, a.eval x = .slice ad n c → (execOp a.eval o).run P w = .ok (.value (.int .i64 n)) w := fun ad n c hq => by
    unfold execOp
    simp [ho, resolve, invoke, builtin, hq, Builtin.len_, run_underlying ht, goInt]
  split at he
  · rename_i e1
    cases he
    rw [e1] at g
    obtain ⟨ad, hq⟩ := g.nils_inv
    exact .pure hr (key _ _ _ hq) (.int _ _)
  · rename_i xs e1
    cases he
    rw [e1] at g
    rcases g.sl_inv with ⟨ad, cap, rfl, hq⟩ | ⟨b, o, cap, sz, vs, hq, _⟩
    · exact .pure hr (key _ _ _ hq) (.int _ _)
    · exact .pure hr (key _ _ _ hq) (.int _ _)
  · rename_i e1
    cases he
    rw [e1] at g
    obtain ⟨cap, ad, hq, _⟩ := g.vec_inv
    exact .pure hr (key _ _ _ hq) (.int _ _)
  · cases he
theorem op_lenm {t k e : TypeId} {x : Operand} {o : Oper} (ho : o.op = .call { callee := .builtin .len, args := #[x], argTypes := #[t] }) {x' : Opd} (hx : opd x = some x') (ht : P.underlying t = some (.map k e))
    {v : AV} {h' : Heap} (he : (match x'.ev fr with
    | .nilm => some (AV.int .i64 0, h)
    | .map id => (h.mapAt id).map fun es => (.int .i64 es.length, h)
    | _ => none) = some (v, h')) (hf : FR φ h w fr a.tmps) (hr : HR φ h w) : OpOK P (execOp a.eval o) φ h w v h' := by
  have g := opd_ok hx hf
  split at he
  · rename_i e1
    cases he
    rw [e1] at g
    refine .pure (cv := .int .i64 0) hr ?_ (.int _ _)
    unfold execOp
    simp [ho, resolve, invoke, builtin, g.nilm_inv, Builtin.len_, run_underlying ht, goInt]
  · rename_i id e1
    rw [e1] at g
    obtain ⟨es, hes, e2⟩ := Option.map_eq_some_iff.1 he
    cases e2
    obtain ⟨hq, hid⟩ := g.map_inv
    obtain ⟨ents, clk, m1, m2, m3⟩ := hr.maps id es (mapAt_some hes)
    refine .pure (cv := .int .i64 ents.size) hr ?_ (by rw [m2]; exact .int _ _)
    unfold execOp
    have hg : (getObj (φ id).blk).run P w = .ok (.map ents clk) w := by simp [getObj, Sem.run, m1]
    simp [ho, resolve, invoke, builtin, hq, Builtin.len_, run_underlying ht, goInt, hg]
  · cases he
theorem op_mx {ts : Array TypeId} {x y : Operand} {o : Oper} (ho : o.op = .call { callee := .builtin .max, args := #[x, y], argTypes := ts }) {x' y' : Opd} (hx : opd x = some x') (hy : opd y = some y')
    {k k' : IntKind} {m n : Int} (h1 : x'.ev fr = .int k m) (h2 : y'.ev fr = .int k' n) (hf : FR φ h w fr a.tmps) (hr : HR φ h w) : OpOK P (execOp a.eval o) φ h w (.int k (if m < n then n else m)) h := by
  have g1 := opd_ok hx hf
  have g2 := opd_ok hy hf
  rw [h1] at g1
  rw [h2] at g2
  refine .pure (cv := .int k (if m < n then n else m)) hr ?_ (.int _ _)
  unfold execOp
  simp [ho, resolve, invoke, builtin, g1.int_inv, g2.int_inv, Builtin.max_, Builtin.max2]
theorem op_mn {ts : Array TypeId} {x y : Operand} {o : Oper} (ho : o.op = .call { callee := .builtin .min, args := #[x, y], argTypes := ts }) {x' y' : Opd} (hx : opd x = some x') (hy : opd y = some y')
    {k k' : IntKind} {m n : Int} (h1 : x'.ev fr = .int k m) (h2 : y'.ev fr = .int k' n) (hf : FR φ h w fr a.tmps) (hr : HR φ h w) : OpOK P (execOp a.eval o) φ h w (.int k (if n < m then n else m)) h := by
  have g1 := opd_ok hx hf
  have g2 := opd_ok hy hf
  rw [h1] at g1
  rw [h2] at g2
  refine .pure (cv := .int k (if n < m then n else m)) hr ?_ (.int _ _)
  unfold execOp
  simp [ho, resolve, invoke, builtin, g1.int_inv, g2.int_inv, Builtin.min_, Builtin.min2]
end
end Sz

/- Slices of slices, tests for nil, structs held against each other, append. No program is named here. -/
namespace Sz
open Go
section
variable {P : Program} {φ : Phi} {h : Heap} {w : World} {fr : List AV} {a : Act}
abbrev OptR (φ : Phi) (h : Heap) (w : World) (x : Option AV) (cx : Option Value) : Prop := (x = none ∧ cx = none) ∨ ∃ y cy, x = some y ∧ cx = some cy ∧ RVh φ h w y cy
theorem sliceB3_ok {n cap : Nat} {lo : Option AV} {hi : AV} {l u : Nat} (he : sliceB n lo (some hi) = some (l, u)) {clo : Option Value} {chi : Value} {mk : IntKind} (hnc : n ≤ cap)
    (hlo : OptR φ h w lo clo) (hhi : RVh φ h w hi chi) (w' : World) :
    (Instr.sliceBounds true cap cap clo (some chi) (some (.int mk n))).run P w' = .ok (l, u, n) w' ∧ l ≤ u ∧ u ≤ n := by
  unfold sliceB at he
  split at he
  · cases he
  · rename_i u' hu'
    split at he
    · cases he
    · rename_i l' hl'
      cases he
      have hm : (Instr.sliceBound (.int mk n) cap .slice3Acap).run P w' = .ok n w' := by
        have : (n : Int) ≤ cap := by omega
        simp [Instr.sliceBound, asIntOf, this]
      have hu : u ≤ n ∧ (Instr.sliceBound chi n .slice3B).run P w' = .ok u w' := by
        split at hu'
        · rename_i e; cases e
        · rename_i k i e
          cases e
          split at hu'
          · rename_i hc
            cases hu'
            refine ⟨by omega, ?_⟩
            rw [hhi.int_inv]
            simp [Instr.sliceBound, asIntOf, hc.1, hc.2]
          · cases hu'
        · cases hu'
      have hl : l ≤ u ∧ ((clo = none ∧ l = 0) ∨ ∃ v, clo = some v ∧ (Instr.sliceBound v u .slice3C).run P w' = .ok l w') := by
        rcases hlo with ⟨rfl, rfl⟩ | ⟨x, cx, rfl, rfl, hx⟩
        · simp at hl'; exact ⟨by omega, .inl ⟨rfl, hl'.symm⟩⟩
        · split at hl'
          · rename_i e; cases e
          · rename_i k i e
            cases e
            split at hl'
            · rename_i hc
              cases hl'
              refine ⟨by omega, .inr ⟨cx, rfl, ?_⟩⟩
              rw [hx.int_inv]
              simp [Instr.sliceBound, asIntOf, hc.1, hc.2]
            · cases hl'
          · cases hl'
      refine ⟨?_, hl.1, hu.1⟩
      have h1 := hu.2
      rcases hl.2 with ⟨rfl, rfl⟩ | ⟨v2, rfl, h2⟩
      · simp [Instr.sliceBounds, hm, h1]
      · simp [Instr.sliceBounds, hm, h1, h2]
theorem sliceC_ok {n lb cap : Nat} {lo hi mx : Option AV} {l u : Nat} {m : Option Nat} (he : sliceC n lb lo hi mx = some (l, u, m)) (hn : n ≤ cap) (hlb : lb ≤ cap) {clo chi cmx : Option Value}
    (hlo : OptR φ h w lo clo) (hhi : OptR φ h w hi chi) (hmx : OptR φ h w mx cmx) (w' : World) :
    (Instr.sliceBounds true n cap clo chi cmx).run P w' = .ok (l, u, m.getD cap) w' ∧ l ≤ u ∧ u ≤ m.getD cap ∧ m.getD cap ≤ cap ∧ u ≤ max n lb ∧ ∀ k, m = some k → u ≤ k ∧ k ≤ max n lb := by
  unfold sliceC at he
  split at he
  · rename_i k i
    split at he
    · rename_i hc
      split at he
      · rename_i hv
        obtain ⟨p, hp, e⟩ := Option.map_eq_some_iff.1 he
        obtain ⟨p1, p2⟩ := p
        cases e
        rcases hmx with ⟨e, _⟩ | ⟨y, cy, e, rfl, hy⟩
        · cases e
        · cases e
          rcases hhi with ⟨e, _⟩ | ⟨z, cz, e, rfl, hz⟩
          · cases e
          · cases e
            obtain ⟨e1, e2, e3⟩ := sliceB3_ok (P := P) (mk := k) (cap := cap) hp (by omega) hlo hz w'
            have hcy := hy.int_inv
            have hi' : ((i.toNat : Nat) : Int) = i := Int.toNat_of_nonneg hc.1
            rw [hi'] at e1
            refine ⟨?_, e2, e3, by simp; omega, by omega, fun k hk => by cases hk; omega⟩
            rw [hcy]
            simp only [Instr.sliceBounds] at e1 ⊢
            exact e1
      · cases he
    · cases he
  · cases he
  · rename_i hmn
    rcases hmx with ⟨_, rfl⟩ | ⟨y, cy, e, _⟩
    · split at he
      · obtain ⟨p, hp, e⟩ := Option.map_eq_some_iff.1 he
        obtain ⟨p1, p2⟩ := p
        cases e
        rcases hhi with ⟨_, rfl⟩ | ⟨z, cz, e, _⟩
        · obtain ⟨e1, e2, e3⟩ := sliceB_ok (P := P) (φ := φ) (h := h) (w := w) (cap := cap) (clo := clo) (chi := none) hp hn true hlo (.inl ⟨rfl, rfl⟩) w'
          exact ⟨e1, e2, by simp; omega, by simp, by omega, fun k hk => by cases hk⟩
        · cases e
      · rename_i hv
        obtain ⟨p, hp, e⟩ := Option.map_eq_some_iff.1 he
        obtain ⟨p1, p2⟩ := p
        cases e
        rcases hhi with ⟨e, _⟩ | ⟨z, cz, e, rfl, hz⟩
        · cases e
        · cases e
          obtain ⟨e1, e2, e3⟩ := sliceB_ok (P := P) (φ := φ) (h := h) (w := w) (cap := cap) (clo := clo) (chi := some cz) hp (by omega) true hlo (.inr ⟨_, _, rfl, rfl, hz⟩) w'
          refine ⟨?_, e2, by simp; omega, by simp, by omega, fun k hk => by cases hk⟩
          simp only [Instr.sliceBounds] at e1 ⊢
          exact e1
    · cases e
theorem op_slv {t e : TypeId} {x : Operand} {lo hi mx : Option Operand} {o : Oper} (ho : o.op = .slice t x lo hi mx) {x' : Opd} {lo' hi' mx' : Option Opd} (hx : opd x = some x') (hlo : opdO lo = some lo') (hhi : opdO hi = some hi') (hmx : opdO mx = some mx')
    (ht : P.underlying t = some (.slice e)) {i : TypeInfo} (hinf : P.info? e = some i) {v : AV} {h' : Heap}
    (he : (match x'.ev fr with
      | .nils => (sliceC 0 0 (lo'.map (·.ev fr)) (hi'.map (·.ev fr)) (mx'.map (·.ev fr))).map fun _ => (AV.nils, h)
      | .sl xs => if (xs.all fun x => (x.cells?.map List.length) == some i.size) then
          (sliceC xs.length xs.length (lo'.map (·.ev fr)) (hi'.map (·.ev fr)) (mx'.map (·.ev fr))).map fun p => (if p.2.2 = some p.1 then .nils else .sl ((xs.take p.2.1).drop p.1), h) else none
      | .vec id off len s lb => if s = i.size then
          (sliceC len lb (lo'.map (·.ev fr)) (hi'.map (·.ev fr)) (mx'.map (·.ev fr))).map fun p =>
            (if p.2.2 = some p.1 then .nils else .vec id (off + p.1 * i.size) (p.2.1 - p.1) i.size (p.2.2.getD lb - p.1), h) else none
      | _ => none) = some (v, h')) (hf : FR φ h w fr a.tmps) (hr : HR φ h w) : OpOK P (execOp a.eval o) φ h w v h' := by
  have g := opd_ok hx hf
  have key : ∀ ad n c l u m, a.eval x = .slice ad n c → (Instr.sliceBounds true n c (lo.map a.eval) (hi.map a.eval) (mx.map a.eval)).run P w = .ok (l, u, m) w →
      (execOp a.eval o).run P w = .ok (.value (.slice (if m = l then ad else ad.map (·.add (l * i.size))) (u - l) (m - l))) w := fun ad n c l u m hq hb => by
    unfold execOp
    simp [ho, Instr.sliceAt, run_underlying ht, Instr.slice, hq, hb, run_sz hinf]
  split at he
  · rename_i e1
    rw [e1] at g
    obtain ⟨ad, hq⟩ := g.nils_inv
    obtain ⟨⟨l, u, m⟩, hp, e2⟩ := Option.map_eq_some_iff.1 he
    cases e2
    obtain ⟨b1, b2, b3, b4, _⟩ := sliceC_ok (P := P) (cap := 0) hp (Nat.le_refl _) (Nat.le_refl _) (opdO_ok hlo hf) (opdO_ok hhi hf) (opdO_ok hmx hf) w
    have hk := key _ _ _ _ _ _ hq b1
    have : m.getD 0 - l = 0 ∧ u - l = 0 := by omega
    rw [this.1, this.2] at hk
    exact .pure hr hk (.nils _)
  · rename_i xs e1
    rw [e1] at g
    split at he
    · rename_i hall
      obtain ⟨⟨l, u, m⟩, hp, e2⟩ := Option.map_eq_some_iff.1 he
      simp only [Prod.mk.injEq] at e2
      obtain ⟨e3, rfl⟩ := e2
      rcases g.sl_inv with ⟨ad, cap, rfl, hq⟩ | ⟨b, o', cap, sz, vs, hq, hpr, hcap, hrf, h1, hsz, hc, hv⟩
      · obtain ⟨b1, b2, b3, b4, b5, b6⟩ := sliceC_ok (P := P) (cap := cap) hp (Nat.zero_le _) (Nat.zero_le _) (opdO_ok hlo hf) (opdO_ok hhi hf) (opdO_ok hmx hf) w
        have hk := key _ _ _ _ _ _ hq b1
        simp only [List.length_nil, Nat.max_self, Nat.le_zero] at b5
        subst b5
        obtain rfl : l = 0 := by omega
        split at e3
        · rename_i hm
          subst e3
          rw [hm] at hk
          simp at hk
          exact .pure hr hk (.nils _)
        · subst e3
          simp only [List.take_nil, List.drop_nil]
          rw [Nat.sub_self] at hk
          exact .pure hr hk (.slnil _ _)
      · obtain ⟨b1, b2, b3, b4, b5, b6⟩ := sliceC_ok (P := P) (cap := cap) hp hcap hcap (opdO_ok hlo hf) (opdO_ok hhi hf) (opdO_ok hmx hf) w
        have hk := key _ _ _ _ _ _ hq b1
        rw [Nat.max_self] at b5
        split at e3
        · rename_i hm
          subst e3
          have b7 := b6 l hm
          rw [hm] at hk
          have : u - l = 0 := by omega
          simp [this] at hk
          exact .pure hr hk (.nils _)
        · rename_i hm
          subst e3
          by_cases h0 : u = l
          · have hnil : (xs.take u).drop l = [] := by rw [List.drop_eq_nil_iff]; simp; omega
            rw [hnil]
            rw [h0, Nat.sub_self] at hk
            exact .pure hr hk (.slnil _ _)
          · have hlen : ((xs.take u).drop l).length = u - l := by simp; omega
            have hget : ∀ j (hj : j < ((xs.take u).drop l).length), ((xs.take u).drop l)[j] = xs[l + j]'(by omega) := fun j hj => by simp
            have hne : m.getD cap ≠ l := fun e => h0 (by omega)
            rw [if_neg hne] at hk
            simp only [Option.map_some, Addr.add_lit] at hk
            rw [← hlen] at hk
            have hxs : 0 < xs.length := by omega
            have hszi : sz = i.size := by
              have q1 := hsz 0 hxs
              have q2 := List.all_eq_true.1 hall xs[0] (List.getElem_mem hxs)
              rw [q1] at q2
              simpa using q2
            subst hszi
            refine .pure hr hk (.sl _ b _ _ i.size (fun k j => vs (l + k) j) hpr (by omega) ?_ (fun k j => h1 _ _) (fun k hk' => ?_) (fun k j hk' hj => ?_) fun k hk' j hj => ?_)
            · have : AV.refsL ((xs.take u).drop l) ≤ 0 := AV.refsL_le fun y hy => by
                have := AV.refsL_mem (List.mem_of_mem_take (List.mem_of_mem_drop hy))
                omega
              omega
            · rw [hget k hk']
              exact hsz _ _
            · have := hc (l + k) j (by omega) hj
              rw [← this]
              congr 2
              rw [Nat.add_mul]
              omega
            · have e4 := hget k hk'
              have hj' : j < (xs[l + k]'(by omega)).cells.length := by rw [← e4]; exact hj
              have := hv (l + k) (by omega) j hj'
              simpa [e4] using this
    · cases he
  · rename_i id off len s lb e1
    rw [e1] at g
    split at he
    · rename_i hs
      subst hs
      obtain ⟨⟨l, u, m⟩, hp, e2⟩ := Option.map_eq_some_iff.1 he
      simp only [Prod.mk.injEq] at e2
      obtain ⟨e3, rfl⟩ := e2
      obtain ⟨cap, ad, hq, hid, hl, hlb, hroom, ha⟩ := g.vec_inv
      obtain ⟨b1, b2, b3, b4, b5, b6⟩ := sliceC_ok (P := P) (cap := cap) hp hl hlb (opdO_ok hlo hf) (opdO_ok hhi hf) (opdO_ok hmx hf) w
      have hk := key _ _ _ _ _ _ hq b1
      split at e3
      · rename_i hm
        subst e3
        have b7 := b6 l hm
        rw [hm] at hk
        have : u - l = 0 := by omega
        simp [this] at hk
        exact .pure hr hk (.nils _)
      · rename_i hm
        subst e3
        refine .pure hr hk (.vec _ _ _ _ _ _ _ hid (by omega) ?_ ?_ fun hpos => ?_)
        · cases m with
          | none => simp; omega
          | some k => simp
        · have hle : l ≤ m.getD cap := by omega
          have : l * i.size + (m.getD cap - l) * i.size = m.getD cap * i.size := by rw [← Nat.add_mul]; congr 1; omega
          have h2 : m.getD cap * i.size ≤ cap * i.size := Nat.mul_le_mul_right _ b4
          omega
        · rw [if_neg (by omega), ha (by omega)]
          simp [Addr.add_lit, Nat.add_assoc]
    · cases he
  · cases he
end
end Sz

/- Tests for nil, structs held against each other, append, clear, make. No program is named here. -/
namespace Sz
open Go
section
variable {P : Program} {φ : Phi} {h : Heap} {w : World} {fr : List AV} {a : Act}
theorem isConstO_ok {y : Operand} (hy : isConstO y = true) : y = .const .nilIface ∨ y = .const (.pointer none) ∨ y = .const .nilFunc ∨ y = .const (.map none) := by
  unfold isConstO at hy
  split at hy <;> first | simp_all | cases hy
theorem op_peq {kind : Nat} {neg : Bool} {t ty : TypeId} {x y : Operand} {o : Oper} (ho : o.op = .binOp (if neg then .neq else .eql) t x y ty) {x' y' : Opd} (hx : opd x = some x') (hy : opd y = some y') (hc : isConstO y = true)
    (ht : (kind = 0 ∧ ∃ e, P.underlying t = some (.pointer e)) ∨ (kind = 1 ∧ ∃ ms, P.underlying t = some (.interface ms)) ∨ (kind = 2 ∧ ∃ ps rs v, P.underlying t = some (.func ps rs v)) ∨ (kind = 3 ∧ ∃ k e, P.underlying t = some (.map k e)))
    {p : Bool} (hp : nilK kind (x'.ev fr) = some p) (hq : nilK kind (y'.ev fr) = some true) (hf : FR φ h w fr a.tmps) (hr : HR φ h w) :
    OpOK P (execOp a.eval o) φ h w (.bool (if neg then !p else p)) h := by
  have g1 := opd_ok hx hf
  have g2 := opd_ok hy hf
  generalize x'.ev fr = u at g1 hp
  generalize y'.ev fr = v at g2 hq
  have hcy := isConstO_ok hc
  have key : (Op.equal t (a.eval x) (a.eval y)).run P w = .ok p w ∧ eqGuard (if neg then .neq else .eql) t x y (a.eval x) (a.eval y) = Pure.pure () ∧
      (∀ op, op = .eql ∨ op = .neq → (binOp op t (a.eval x) (a.eval y)) = if op = .eql then (do pure (.bool (← Op.equal t (a.eval x) (a.eval y)))) else (do pure (.bool (!(← Op.equal t (a.eval x) (a.eval y)))))) := by
    have eqd : ∀ A B r, (∀ d, (Op.equalIn (d + 1) t A B).run P w = .ok r w) → (Op.equal t A B).run P w = .ok r w := fun A B r hh => hh 9999
    rcases ht with ⟨rfl, e, ht⟩ | ⟨rfl, ms, ht⟩ | ⟨rfl, ps, rs, vv, ht⟩ | ⟨rfl, k, e, ht⟩
    · have hv : v = .nilp := by cases v <;> simp [nilK] at hq; rfl
      subst hv
      rw [g2.nilp_inv]
      cases u <;> simp [nilK] at hp <;> subst hp
      · rw [g1.nilp_inv]
        exact ⟨eqd _ _ _ fun d => by simp [Op.equalIn, run_underlying ht], by cases neg <;> rfl, fun op hop => by rcases hop with rfl | rfl <;> rfl⟩
      · rw [g1.ptr_inv.1]
        exact ⟨eqd _ _ _ fun d => by simp [Op.equalIn, run_underlying ht], by cases neg <;> rfl, fun op hop => by rcases hop with rfl | rfl <;> rfl⟩
      · obtain ⟨b, o', vs, e1, _⟩ := g1.ip_inv
        rw [e1]
        exact ⟨eqd _ _ _ fun d => by simp [Op.equalIn, run_underlying ht], by cases neg <;> rfl, fun op hop => by rcases hop with rfl | rfl <;> rfl⟩
    · have hv : v = .nili := by cases v <;> simp [nilK] at hq; rfl
      subst hv
      have e2 := g2.nili_inv
      have hyc : y = .const .nilIface := by
        rcases hcy with rfl | rfl | rfl | rfl
        · rfl
        · simp [Act.eval] at e2
        · simp [Act.eval] at e2
        · simp [Act.eval] at e2
      subst hyc
      rw [e2]
      cases u <;> simp [nilK] at hp <;> subst hp
      · rw [g1.nili_inv]
        refine ⟨eqd _ _ _ fun d => by simp [Op.equalIn, run_underlying ht], ?_, fun op hop => by rcases hop with rfl | rfl <;> rfl⟩
        cases neg
        · exact eqGuard_nil_constR .eql t x _
        · exact eqGuard_nil_constR .neq t x _
      · obtain ⟨c, e1, _⟩ := g1.iface_inv
        rw [e1]
        exact ⟨eqd _ _ _ fun d => by simp [Op.equalIn, run_underlying ht], by cases neg <;> rfl, fun op hop => by rcases hop with rfl | rfl <;> rfl⟩
    · have hv : v = .nilfn := by cases v <;> simp [nilK] at hq; rfl
      subst hv
      rw [g2.nilfn_inv]
      cases u <;> simp [nilK] at hp <;> subst hp
      · rw [g1.nilfn_inv]
        exact ⟨eqd _ _ _ fun d => by simp [Op.equalIn, run_underlying ht], by cases neg <;> rfl, fun op hop => by rcases hop with rfl | rfl <;> rfl⟩
      · obtain ⟨c, e1, _⟩ := g1.fn_inv
        rw [e1]
        exact ⟨eqd _ _ _ fun d => by simp [Op.equalIn, run_underlying ht], by cases neg <;> rfl, fun op hop => by rcases hop with rfl | rfl <;> rfl⟩
    · have hv : v = .nilm := by cases v <;> simp [nilK] at hq; rfl
      subst hv
      rw [g2.nilm_inv]
      cases u <;> simp [nilK] at hp <;> subst hp
      · rw [g1.nilm_inv]
        exact ⟨eqd _ _ _ fun d => by simp [Op.equalIn, run_underlying ht], by cases neg <;> rfl, fun op hop => by rcases hop with rfl | rfl <;> rfl⟩
      · rw [g1.map_inv.1]
        exact ⟨eqd _ _ _ fun d => by simp [Op.equalIn, run_underlying ht], by cases neg <;> rfl, fun op hop => by rcases hop with rfl | rfl <;> rfl⟩
  obtain ⟨k1, k2, k3⟩ := key
  refine .pure (cv := .bool (if neg then !p else p)) hr ?_ (.bool _)
  unfold execOp
  cases neg
  · simp only [Bool.false_eq_true, if_false] at ho k2 ⊢
    simp [ho, k2, k3 .eql (.inl rfl), k1]
  · simp only [if_true] at ho k2 ⊢
    have h3 := k3 .neq (.inr rfl)
    simp [ho, k2, h3, k1]
theorem kindT_agg {t : TypeId} {k : Nat} (hk : kindT P t = some k) (w : World) : (isAgg t).run P w = .ok false w := by
  unfold kindT at hk
  split at hk <;> first
    | (rename_i hd; simp [isAgg, run_underlying hd]; done)
    | cases hk
theorem eqCell_run {t : TypeId} {k : Nat} (hk : kindT P t = some k) {x y : AV} {cx cy : Value} {r : Bool} (he : eqCell k x y = some r) {nx : Nat} {pr : Nat → Prop} (hx : RV φ nx pr w x cx) (hy : RV φ nx pr w y cy) (d : Nat) :
    (Op.equalIn (d + 1) t cx cy).run P w = .ok r w := by
  unfold kindT at hk
  unfold eqCell at he
  split at he
  · cases he
    split at hk <;> cases hk
    rename_i ht
    rw [hx.bool_inv, hy.bool_inv]
    exact run_equalIn_bool' w d t _ _ ht
  · split at he
    · rename_i e
      subst e
      cases he
      split at hk <;> cases hk
      rename_i ht
      rw [hx.int_inv, hy.int_inv]
      exact run_equalIn_int w d t _ _ _ _ ht
    · cases he
  · cases he
    split at hk <;> cases hk
    rename_i ht
    obtain ⟨s, q1, q2⟩ := hx.str_inv
    obtain ⟨s', q3, q4⟩ := hy.str_inv
    rw [q1, q3, run_equalIn_string w d t s s' ht, ByteArray.toList_eq, ByteArray.toList_eq, q2, q4]
  · cases he
theorem eqFields_ok {d : Nat} {xs ys : Array Value} {l m : List AV} (hl : xs.size = l.length) (hm : ys.size = m.length) {nx : Nat} {pr : Nat → Prop}
    (hx : ∀ j (hj : j < l.length), RV φ nx pr w l[j] (xs.getD j default)) (hy : ∀ j (hj : j < m.length), RV φ nx pr w m[j] (ys.getD j default)) :
    ∀ (fs : List Field) (ks : List Nat) (k : Nat) (r : Bool), flatK P fs k = some ks → eqCells ks (l.drop k) (m.drop k) = some r → (Op.eqFields (d + 1) xs ys fs).run P w = .ok r w
  | [], ks, k, r, hf, he => by
    simp only [flatK, Option.some.injEq] at hf
    subst hf
    cases h1 : l.drop k <;> cases h2 : m.drop k <;> rw [h1, h2] at he <;> simp [eqCells] at he
    subst he
    simp [Op.eqFields]
  | f :: fs, ks, k, r, hf, he => by
    unfold flatK at hf
    split at hf
    · rename_i hc
      split at hf
      · rename_i kd ks' hkd hks'
        cases hf
        cases h1 : l.drop k with
        | nil => rw [h1] at he; simp [eqCells] at he
        | cons x xr =>
          cases h2 : m.drop k with
          | nil => rw [h1, h2] at he; simp [eqCells] at he
          | cons y yr =>
            rw [h1, h2] at he
            simp only [eqCells] at he
            split at he
            · rename_i ra rb e1 e2
              cases he
              have hkl : k < l.length := by
                rcases Nat.lt_or_ge k l.length with q | q
                · exact q
                · rw [List.drop_eq_nil_iff.2 q] at h1; cases h1
              have hkm : k < m.length := by
                rcases Nat.lt_or_ge k m.length with q | q
                · exact q
                · rw [List.drop_eq_nil_iff.2 q] at h2; cases h2
              have q1 := List.drop_eq_getElem_cons hkl
              have q2 := List.drop_eq_getElem_cons hkm
              rw [q1] at h1
              rw [q2] at h2
              cases h1
              cases h2
              have hxs : k < xs.size := by omega
              have hys : k < ys.size := by omega
              have g1 := hx k hkl
              have g2 := hy k hkm
              simp only [Array.getD, hxs, hys, dif_pos] at g1 g2
              have hrun := eqCell_run (P := P) hkd e1 g1 g2 d
              have ih := eqFields_ok (d := d) hl hm hx hy fs ks' (k + 1) rb hks' e2
              have hp1 : (part f.type xs f.offset).run P w = .ok xs[k] w := by
                rw [hc.2]
                simp [part, kindT_agg hkd, hxs]
              have hp2 : (part f.type ys f.offset).run P w = .ok ys[k] w := by
                rw [hc.2]
                simp [part, kindT_agg hkd, hys]
              simp only [Op.eqFields, ne_eq, hc.1, not_false_iff, if_true, Sem.run_bind, hp1, hp2, Result.andThen_ok]
              have hrun' : Sem.run P (Op.equalIn (d + 1) f.type xs[k] ys[k]) w = .ok ra w := by simpa using hrun
              rw [hrun']
              cases ra
              · simp
              · simpa using ih
            · cases he
      · cases hf
    · cases hf
theorem op_ceq {ks : List Nat} {neg : Bool} {t ty : TypeId} {x y : Operand} {o : Oper} (ho : o.op = .binOp (if neg then .neq else .eql) t x y ty) {x' y' : Opd} (hx : opd x = some x') (hy : opd y = some y')
    {fs : Array Field} (ht : P.underlying t = some (.struct fs)) (hk : flatK P fs.toList 0 = some ks) (hg : P.eqGuardType P.depth t = false) (hs : P.stoodInHeld t = false) {l m : List AV} (hl : x'.ev fr = .agg l) (hm : y'.ev fr = .agg m)
    {r : Bool} (he : eqCells ks l m = some r) (hf : FR φ h w fr a.tmps) (hr : HR φ h w) : OpOK P (execOp a.eval o) φ h w (.bool (if neg then !r else r)) h := by
  have g1 := opd_ok hx hf
  have g2 := opd_ok hy hf
  rw [hl] at g1
  rw [hm] at g2
  obtain ⟨xs, q1, q2, _, q3⟩ := g1.agg_inv
  obtain ⟨ys, q4, q5, _, q6⟩ := g2.agg_inv
  have hfo : P.fieldsOf t = fs := by simp [Program.fieldsOf, ht]
  have hrun : (Op.equalIn 10000 t (.agg xs) (.agg ys)).run P w = .ok r w := by
    rw [run_equalIn_struct w 9999 t xs ys (by rw [hfo]; exact ht) hs, hfo]
    exact eqFields_ok (d := 9998) q2 q5 q3 q6 fs.toList ks 0 r hk (by simpa using he)
  refine .pure (cv := .bool (if neg then !r else r)) hr ?_ (.bool _)
  unfold execOp
  cases neg
  · simp only [Bool.false_eq_true, if_false] at ho ⊢
    simp [ho, q1, q4, run_eqGuard_agg w .eql t x y xs ys hg, run_eql_struct, hrun]
  · simp only [if_true] at ho ⊢
    simp [ho, q1, q4, run_eqGuard_agg w .neq t x y xs ys hg, run_neq_struct, hrun]
end
end Sz
