import Derived.Test.YtnkafagfkblfeaaDoorFn
set_option linter.unusedVariables false
set_option linter.unusedSimpArgs false
set_option linter.unusedSectionVars false

namespace Go.Proofs.YtnkafagfkblfeaaDoor
open Go Sz
set_option linter.unusedSimpArgs false

/-! Levels, at six names. -/

def n6 : List (List UInt8) := [[97], [98], [99], [100], [101], [102]]
def isH0 : Heap → Bool
  | ⟨0, [], 0, 0⟩ => true
  | _ => false
theorem isH0_eq {h : Heap} (e : isH0 h = true) : h = h0 := by
  unfold isH0 at e
  split at e
  · rfl
  · cases e

/-- All labels below one. -/
def levK (x : BitVec 64) : List (BitVec 64) := ((List.range 64).map (BitVec.ofNat 64)).filter (leqK · x)

noncomputable def levRun (i : Nat) : Option (AV × Heap) := evCall (envOf [fitsS]) 80 40 [.sl (n6.map .str), labA (BitVec.ofNat 64 i)] h0
noncomputable def levChk (i : Nat) : Bool := match levRun i with
  | some (v, h) => isH0 h && (match v with | .sl xs => (match decLabL xs with | some l => l == levK (BitVec.ofNat 64 i) | none => false) | _ => false)
  | none => false
theorem levChk_0 : ((List.range' 0 4).all levChk) = true := by kernel_rfl
theorem levChk_1 : ((List.range' 4 4).all levChk) = true := by kernel_rfl
theorem levChk_2 : ((List.range' 8 4).all levChk) = true := by kernel_rfl
theorem levChk_3 : ((List.range' 12 4).all levChk) = true := by kernel_rfl
theorem levChk_4 : ((List.range' 16 4).all levChk) = true := by kernel_rfl
theorem levChk_5 : ((List.range' 20 4).all levChk) = true := by kernel_rfl
theorem levChk_6 : ((List.range' 24 4).all levChk) = true := by kernel_rfl
theorem levChk_7 : ((List.range' 28 4).all levChk) = true := by kernel_rfl
theorem levChk_8 : ((List.range' 32 4).all levChk) = true := by kernel_rfl
theorem levChk_9 : ((List.range' 36 4).all levChk) = true := by kernel_rfl
theorem levChk_10 : ((List.range' 40 4).all levChk) = true := by kernel_rfl
theorem levChk_11 : ((List.range' 44 4).all levChk) = true := by kernel_rfl
theorem levChk_12 : ((List.range' 48 4).all levChk) = true := by kernel_rfl
theorem levChk_13 : ((List.range' 52 4).all levChk) = true := by kernel_rfl
theorem levChk_14 : ((List.range' 56 4).all levChk) = true := by kernel_rfl
theorem levChk_15 : ((List.range' 60 4).all levChk) = true := by kernel_rfl
theorem levChk_all : ((List.range 64).all levChk) = true := by
  have e : List.range 64 = List.range' 0 4 ++ List.range' 4 4 ++ List.range' 8 4 ++ List.range' 12 4 ++ List.range' 16 4 ++ List.range' 20 4 ++ List.range' 24 4 ++ List.range' 28 4 ++ List.range' 32 4 ++ List.range' 36 4 ++ List.range' 40 4 ++ List.range' 44 4 ++ List.range' 48 4 ++ List.range' 52 4 ++ List.range' 56 4 ++ List.range' 60 4 := by rfl
  rw [e]
  simp only [List.all_append, Bool.and_eq_true]
  exact ⟨⟨⟨⟨⟨⟨⟨⟨⟨⟨⟨⟨⟨⟨⟨levChk_0, levChk_1⟩, levChk_2⟩, levChk_3⟩, levChk_4⟩, levChk_5⟩, levChk_6⟩, levChk_7⟩, levChk_8⟩, levChk_9⟩, levChk_10⟩, levChk_11⟩, levChk_12⟩, levChk_13⟩, levChk_14⟩, levChk_15⟩

theorem levRun_at {i : Nat} (hi : i < 64) : levRun i = some (.sl ((levK (BitVec.ofNat 64 i)).map labA), h0) := by
  have h := List.all_eq_true.1 levChk_all i (List.mem_range.2 hi)
  unfold levChk at h
  split at h
  · rename_i v h' e
    rw [e]
    simp only [Bool.and_eq_true] at h
    obtain ⟨h1, h2⟩ := h
    rw [isH0_eq h1]
    split at h2
    · rename_i xs
      split at h2
      · rename_i l hl
        rw [beq_iff_eq] at h2
        rw [decLabL_inv _ _ hl, h2]
      · cases h2
    · cases h2
  · cases h

def levelsS : KSpec := ⟨40, fun | [.sl xs, y] => (match decLab y with | some b => if decStrL xs = some n6 ∧ b.toNat < 64 then some (.sl ((levK b).map labA)) else none | none => none) | _ => none⟩
theorem levelsS_f : levelsS.f = 40 := (rfl)
theorem levelsS_at (b : BitVec 64) (h : b.toNat < 64) : levelsS.S [.sl [.str [97], .str [98], .str [99], .str [100], .str [101], .str [102]], .int .u64 (labN b)] = some (.sl ((levK b).map labA)) := by
  simp only [levelsS, decLab_at]
  exact if_pos ⟨rfl, h⟩
theorem levelsS_ok (hT : KSpecOK Tryd.prog trimS) : KSpecOK Tryd.prog levelsS := fun args v hv => by
  unfold levelsS at hv ⊢
  dsimp only at hv ⊢
  split at hv
  · rename_i xs y
    split at hv
    · rename_i b hb
      split at hv
      · rename_i hc
        cases hv
        rw [decLab_inv hb, decStrL_inv _ _ hc.1]
        refine prim_of (n := 80) (h' := h0) (envOf_ok (ss := [fitsS]) (by simp [fitsS_ok hT])) ?_ (by simp [AV.refs, labs_refs]) rfl
        have := levRun_at hc.2
        unfold levRun at this
        have e : BitVec.ofNat 64 b.toNat = b := by simp
        rw [e] at this
        exact this
      · cases hv
    · cases hv
  · cases hv

end Go.Proofs.YtnkafagfkblfeaaDoor
