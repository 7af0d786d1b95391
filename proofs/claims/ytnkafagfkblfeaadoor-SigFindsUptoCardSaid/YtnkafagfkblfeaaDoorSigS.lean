import Derived.Test.YtnkafagfkblfeaaDoorArg
import Derived.Lib.LaidTab
import Derived.Sort.Grow
import Derived.Deep.Draws
set_option linter.unusedVariables false
set_option linter.unusedSimpArgs false
set_option linter.unusedSectionVars false

/- A table that a run's first world holds. No program is named here. -/
namespace Sz
open Go Go.RowKit
variable {X : World → Prop}

theorem Glob.tab {P : Program} {φ : Phi} {h : Heap} {w : World} (g : Glob P X φ h w) {name : String} {k : IntKind} {zs : List Int} (hX : ∀ w, X w → Lib.TabIs P w name k zs) : Lib.TabIs P w name k zs := by
  obtain ⟨w1, h1, h2⟩ := g
  have ht := hX _ h1.2
  unfold Lib.TabIs World.var? at ht ⊢
  rw [Option.bind_eq_some_iff] at ht ⊢
  obtain ⟨b, hb, ht⟩ := ht
  refine ⟨b, hb, ?_⟩
  have hlt : b < w1.heap.size := by
    cases hq : w1.heap[b]? with
    | none => rw [hq] at ht; cases ht
    | some o => exact (Array.getElem?_eq_some_iff.1 hq).1
  rw [(h2 b hlt).2.2]
  exact ht

theorem below_grow (w : World) (k : Nat) (os : Array Obj) : Below w.heap.size w (Sort.grow (w.drewN k) os) :=
  ⟨rfl, rfl, rfl, by show w.heap.size ≤ (w.heap ++ os).size; simp, fun i hi => by
    show (w.heap ++ os)[i]? = w.heap[i]?
    exact Array.getElem?_append_left hi⟩

theorem int_eq {φ : Phi} {nx : Nat} {pr : Nat → Prop} {w : World} {k : IntKind} {n : Int} {cv : Value} (h : RV φ nx pr w (.int k n) cv) : cv = .int k n := RV.int_inv h
end Sz
