import Derived.Test.YtlofbalilhohmaaCode
import Derived.Test.YtlofbalilhohmaaFn
import Derived.Test.YtlofbalilhohmaaArg
import Derived.Test.YtlofbalilhohmaaRows
set_option linter.unusedVariables false
set_option linter.unusedSimpArgs false
set_option linter.unusedSectionVars false

namespace Go.Proofs.Ytlofbalilhohmaa
open Go Sz Go.ChangeShapes Go.WideShapes Go.ChangeAt Go.RowKit

theorem Try.own : ownKnob Try.prog.godebug = none := by kernel_rfl
theorem Try.laidOut : laidOutB Try.prog = true := by kernel_rfl

theorem str_of {v : AV} (h : HasTy Try.prog 9 v) : ∃ s : List UInt8, v = .str s ∧ s.length ≤ maxLen := by
  cases h with
  | str h s hs => exact ⟨s, rfl, hs⟩
  | bool h => rw [Try.underlying9] at h; cases h
  | int h => rw [Try.underlying9] at h; cases h
  | sl h => rw [Try.underlying9] at h; cases h
  | agg h => rw [Try.underlying9] at h; cases h
theorem int_of {v : AV} (h : HasTy Try.prog 3 v) : ∃ n : Int, v = .int .i64 n ∧ -9223372036854775808 ≤ n ∧ n < 9223372036854775808 := by
  cases h with
  | int h n hn =>
    rw [Try.underlying3] at h
    cases h
    refine ⟨n, rfl, ?_⟩
    have e : IntKind.i64.min = -9223372036854775808 := rfl
    simp [Lit.wf] at hn
    rw [e] at hn
    omega
  | str h => rw [Try.underlying3] at h; cases h
  | bool h => rw [Try.underlying3] at h; cases h
  | sl h => rw [Try.underlying3] at h; cases h
  | agg h => rw [Try.underlying3] at h; cases h
theorem opr_of {v : AV} (h : HasTy Try.prog 30 v) : ∃ o : Opr, v = o.enc := by
  cases h with
  | agg h vs hv =>
    rw [Try.underlying30] at h
    cases h
    cases hv with
    | cons h1 r1 => cases r1 with
      | cons h2 r2 => cases r2 with
        | cons h3 r3 =>
          cases r3
          obtain ⟨a, rfl, _⟩ := str_of h1
          obtain ⟨b, rfl, _⟩ := str_of h2
          obtain ⟨c, rfl, _⟩ := int_of h3
          exact ⟨⟨a, b, c⟩, rfl⟩
  | str h => rw [Try.underlying30] at h; cases h
  | bool h => rw [Try.underlying30] at h; cases h
  | sl h => rw [Try.underlying30] at h; cases h
  | int h => rw [Try.underlying30] at h; cases h
theorem map_of {α : Type} {f : α → AV} : ∀ {xs : List AV}, (∀ x ∈ xs, ∃ a, x = f a) → ∃ l : List α, xs = l.map f
  | [], _ => ⟨[], rfl⟩
  | x :: r, h => by
    obtain ⟨a, rfl⟩ := h x (by simp)
    obtain ⟨l, rfl⟩ := map_of (xs := r) fun y hy => h y (by simp [hy])
    exact ⟨a :: l, rfl⟩
theorem oprs_of {v : AV} (h : HasTy Try.prog 22 v) : ∃ l : List Opr, v = .sl (l.map Opr.enc) ∧ l.length ≤ maxLen := by
  cases h with
  | sl h xs hl hx =>
    rw [Try.underlying22] at h
    cases h
    obtain ⟨l, rfl⟩ := map_of fun x h => opr_of (hx x h)
    exact ⟨l, rfl, by simpa using hl⟩
  | str h => rw [Try.underlying22] at h; cases h
  | bool h => rw [Try.underlying22] at h; cases h
  | agg h => rw [Try.underlying22] at h; cases h
  | int h => rw [Try.underlying22] at h; cases h
end Go.Proofs.Ytlofbalilhohmaa
