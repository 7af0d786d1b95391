import Derived.Test.YtnkafagfkblfeaaDoorFast
import Derived.Test.YtnkafagfkblfeaaDoorSz3
set_option linter.unusedVariables false
set_option linter.unusedSimpArgs false
set_option linter.unusedSectionVars false

/- A closed run, cut into pieces. No program is named here. -/
namespace Sz
open Go

/-- The first k of a row of parts: what is left, at which frame and heap. -/
def runK (C : Nat → List AV → Heap → Option (AV × Heap)) (n : Nat) : Nat → ACode → List AV → Heap → Option (ACode × List AV × Heap)
  | 0, c, fr, h => some (c, fr, h)
  | k + 1, .seq a b, fr, h => (match evCode C n a fr h with
    | some (.normal, fr', h') => runK C n k b fr' h'
    | _ => none)
  | _ + 1, _, _, _ => none
theorem runK_ok {C : Nat → List AV → Heap → Option (AV × Heap)} {n : Nat} : ∀ {k : Nat} {c : ACode} {fr : List AV} {h : Heap} {c' : ACode} {fr' : List AV} {h' : Heap}, runK C n k c fr h = some (c', fr', h') → evCode C n c fr h = evCode C n c' fr' h'
  | 0, c, fr, h, c', fr', h', e => by
    simp only [runK, Option.some.injEq, Prod.mk.injEq] at e
    obtain ⟨rfl, rfl, rfl⟩ := e
    rfl
  | k + 1, c, fr, h, c', fr', h', e => by
    cases c with
    | seq a b =>
      simp only [runK] at e
      split at e
      · rename_i fr1 h1 ha
        rw [seqF, ha, seqK_n]
        exact runK_ok e
      · cases e
    | _ => simp [runK] at e

/-- Once through a loop. -/
def stepL (C : Nat → List AV → Heap → Option (AV × Heap)) (n : Nat) (b : ACode) (live : List Bool) (n0 : Nat) (s : List AV × Heap) : Option (List AV × Heap) :=
  match evCode C n b s.1 s.2 with
  | some (.normal, fr', h') => some (gc n0 (clear live fr') h')
  | _ => none
theorem stepL_ok {C : Nat → List AV → Heap → Option (AV × Heap)} {n : Nat} {b : ACode} {live : List Bool} {n0 : Nat} {s s' : List AV × Heap} (e : stepL C n b live n0 s = some s') (m : Nat) :
    loopH (evCode C n b) live n0 (m + 1) s.1 s.2 = loopH (evCode C n b) live n0 m s'.1 s'.2 := by
  unfold stepL at e
  split at e
  · rename_i fr' h' ha
    cases e
    conv => lhs; unfold loopH
    rw [ha]
  · cases e
/-- Many times. -/
def stepsL (C : Nat → List AV → Heap → Option (AV × Heap)) (n : Nat) (b : ACode) (live : List Bool) (n0 : Nat) : Nat → List AV × Heap → Option (List AV × Heap)
  | 0, s => some s
  | k + 1, s => match stepL C n b live n0 s with
    | some s' => stepsL C n b live n0 k s'
    | none => none
theorem stepsL_ok {C : Nat → List AV → Heap → Option (AV × Heap)} {n : Nat} {b : ACode} {live : List Bool} {n0 : Nat} : ∀ {k : Nat} {s s' : List AV × Heap}, stepsL C n b live n0 k s = some s' → ∀ m,
    loopH (evCode C n b) live n0 (m + k) s.1 s.2 = loopH (evCode C n b) live n0 m s'.1 s'.2
  | 0, s, s', e, m => by
    simp only [stepsL, Option.some.injEq] at e
    subst e
    rfl
  | k + 1, s, s', e, m => by
    simp only [stepsL] at e
    split at e
    · rename_i s1 h1
      rw [show m + (k + 1) = (m + k) + 1 by omega, stepL_ok h1]
      exact stepsL_ok e m
    · cases e
theorem stepsL_add {C : Nat → List AV → Heap → Option (AV × Heap)} {n : Nat} {b : ACode} {live : List Bool} {n0 : Nat} : ∀ {k j : Nat} {s s1 s2 : List AV × Heap}, stepsL C n b live n0 k s = some s1 → stepsL C n b live n0 j s1 = some s2 → stepsL C n b live n0 (k + j) s = some s2
  | 0, j, s, s1, s2, h1, h2 => by
    simp only [stepsL, Option.some.injEq] at h1
    subst h1
    rw [Nat.zero_add]
    exact h2
  | k + 1, j, s, s1, s2, h1, h2 => by
    simp only [stepsL] at h1
    split at h1
    · rename_i s' e
      rw [show k + 1 + j = (k + j) + 1 by omega]
      simp only [stepsL, e]
      exact stepsL_add h1 h2
    · cases h1
/-- A loop behind k rounds, and one that ends it. -/
theorem loop_cut {C : Nat → List AV → Heap → Option (AV × Heap)} {n m k : Nat} {b : ACode} {live : List Bool} {fr : List AV} {nx wl md : Nat} {os : List AObj} {s s' : List AV × Heap} {r : Option (Ex × List AV × Heap)}
    (h1 : gc nx (clear live fr) ⟨nx, os, nx, md⟩ = s) (h2 : stepsL C n b live nx k s = some s') (hn : n = m + k) (h3 : aft nx wl (loopH (evCode C n b) live nx m s'.1 s'.2) = r) :
    evCode C n (.loop live b) fr ⟨nx, os, wl, md⟩ = r := by
  rw [evCode_loop, h1]
  unfold bgn
  have := stepsL_ok h2 m
  rw [← hn] at this
  rw [this, h3]
end Sz
