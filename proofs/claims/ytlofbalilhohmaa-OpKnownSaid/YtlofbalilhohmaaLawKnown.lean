/- Proved: sizarlaw5.OpKnown answers true. Conditions: none. -/
import Derived.Test.YtlofbalilhohmaaLawAdds
import Derived.Test.YtlofbalilhohmaaTy
set_option linter.unusedVariables false
set_option linter.unusedSimpArgs false
set_option linter.unusedSectionVars false

namespace Go.Proofs.Ytlofbalilhohmaa
open Go Sz

/-! What is known, worked out by the kernel. -/
def decO : AV → Option Opr
  | .agg [.str a, .str b, .int .i64 c] => some ⟨a, b, c⟩
  | _ => none
def decL : List AV → Option (List Opr)
  | [] => some []
  | v :: r => match decO v, decL r with
    | some o, some l => some (o :: l)
    | _, _ => none
theorem decO_eq {v : AV} {o : Opr} (h : decO v = some o) : v = o.enc := by
  unfold decO at h
  split at h
  · cases h; rfl
  · cases h
theorem decL_eq : ∀ {xs : List AV} {l : List Opr}, decL xs = some l → xs = l.map Opr.enc
  | [], l, h => by cases h; rfl
  | v :: r, l, h => by
    simp only [decL] at h
    split at h
    · rename_i o l' h1 h2
      cases h
      rw [decO_eq h1, decL_eq h2]; rfl
    · cases h
/-- A table of at most 1000. -/
def decT : AV → Option (List Opr)
  | .agg [.sl xs] => match decL xs with
    | some l => if l.length ≤ 1000 then some l else none
    | none => none
  | _ => none
theorem decT_eq {v : AV} {l : List Opr} (h : decT v = some l) : v = .agg [.sl (l.map Opr.enc)] ∧ l.length ≤ 1000 := by
  unfold decT at h
  split at h
  · split at h
    · rename_i l' h1
      split at h
      · cases h
        rw [decL_eq h1]
        exact ⟨rfl, by assumption⟩
      · cases h
    · cases h
  · cases h
def decS : AV → Option (List Opr)
  | .nils => some []
  | .sl xs => match decL xs with
    | some l => if l.length ≤ 1000 then some l else none
    | none => none
  | _ => none
theorem decS_eq {v : AV} {l : List Opr} (h : decS v = some l) : IsSl v l ∧ l.length ≤ 1000 := by
  unfold decS at h
  split at h
  · cases h; exact ⟨.inr ⟨rfl, rfl⟩, by simp⟩
  · split at h
    · rename_i l' h1
      split at h
      · cases h
        rw [decL_eq h1]
        exact ⟨.inl rfl, by assumption⟩
      · cases h
    · cases h
  · cases h

def kGood : Sz.Spec := ⟨8, fun | [v] => (decT v).map fun l => .bool (goodK l) | _ => none⟩
theorem kGood_ok : SpecOK Try.prog kGood := fun args v hv => by
  unfold kGood at hv
  dsimp only at hv
  split at hv
  · obtain ⟨l, hl, rfl⟩ := Option.map_eq_some_iff.1 hv
    obtain ⟨rfl, h2⟩ := decT_eq hl
    exact goodS_ok _ _ (goodS_at l (by omega))
  · cases hv
def kPre : Sz.Spec := ⟨10, fun | [v, .str s] => (decT v).map fun l => .tuple [(findK l s true).1.enc, .bool (findK l s true).2] | _ => none⟩
theorem kPre_ok : SpecOK Try.prog kPre := fun args v hv => by
  unfold kPre at hv
  dsimp only at hv
  split at hv
  · obtain ⟨l, hl, rfl⟩ := Option.map_eq_some_iff.1 hv
    obtain ⟨rfl, h2⟩ := decT_eq hl
    exact preS_ok _ _ (preS_at l _ (by omega))
  · cases hv
def kIn : Sz.Spec := ⟨11, fun | [v, .str s] => (decT v).map fun l => .tuple [(findK l s false).1.enc, .bool (findK l s false).2] | _ => none⟩
theorem kIn_ok : SpecOK Try.prog kIn := fun args v hv => by
  unfold kIn at hv
  dsimp only at hv
  split at hv
  · obtain ⟨l, hl, rfl⟩ := Option.map_eq_some_iff.1 hv
    obtain ⟨rfl, h2⟩ := decT_eq hl
    exact inS_ok _ _ (inS_at l _ (by omega))
  · cases hv
def kAdd : Sz.Spec := ⟨13, fun | [v, .agg [.str a, .str b, .int .i64 c]] => (decT v).map fun l => .tuple [.agg [if (addK l ⟨a, b, c⟩).1 = 0 then .sl ((addK l ⟨a, b, c⟩).2.map Opr.enc) else .nils], .int .i64 (addK l ⟨a, b, c⟩).1] | _ => none⟩
theorem kAdd_ok : SpecOK Try.prog kAdd := fun args v hv => by
  unfold kAdd at hv
  dsimp only at hv
  split at hv
  · obtain ⟨l, hl, rfl⟩ := Option.map_eq_some_iff.1 hv
    obtain ⟨rfl, h2⟩ := decT_eq hl
    exact addS_ok _ _ (addS_at l _ _ _ (by omega))
  · cases hv
def kPlain : Sz.Spec := ⟨12, fun | [] => some (.agg [.sl (plainL.map Opr.enc)]) | _ => none⟩
theorem kPlain_ok : SpecOK Try.prog kPlain := fun args v hv => by
  unfold kPlain at hv
  dsimp only at hv
  split at hv
  · cases hv
    exact plainS_ok _ _ plainS_at
  · cases hv
def kRPlain : Sz.Spec := ⟨16, fun | [] => some (.sl (plainL.map Opr.enc)) | _ => none⟩
theorem kRPlain_ok : SpecOK Try.prog kRPlain := fun args v hv => by
  unfold kRPlain at hv
  dsimp only at hv
  split at hv
  · cases hv
    exact rplainS_ok _ _ rplainS_at
  · cases hv
def kOwn : Sz.Spec := ⟨15, fun | [.agg [v]] => (decS v).map fun l => slN l | _ => none⟩
theorem kOwn_ok : SpecOK Try.prog kOwn := fun args v hv => by
  unfold kOwn at hv
  dsimp only at hv
  split at hv
  · obtain ⟨l, hl, rfl⟩ := Option.map_eq_some_iff.1 hv
    obtain ⟨h1, h2⟩ := decS_eq hl
    exact ownS_ok _ _ (ownS_at h1 (by omega))
  · cases hv
def kSame : Sz.Spec := ⟨14, fun | [v, u] => (match decS v, decS u with | some a, some b => some (.bool (sameK a b)) | _, _ => none) | _ => none⟩
theorem kSame_ok : SpecOK Try.prog kSame := fun args v hv => by
  unfold kSame at hv
  dsimp only at hv
  split at hv
  · split at hv
    · rename_i a b h1 h2
      cases hv
      obtain ⟨g1, g2⟩ := decS_eq h1
      obtain ⟨g3, g4⟩ := decS_eq h2
      exact sameS_ok _ _ (sameS_at g1 g3 (by omega))
    · cases hv
  · cases hv
def kAwake : Sz.Spec := ⟨7, fun | [] => some (.bool true) | _ => none⟩
theorem kAwake_ok : SpecOK Try.prog kAwake := fun args v hv => by
  unfold kAwake at hv
  dsimp only at hv
  split at hv
  · cases hv
    exact awakeS_ok _ _ awakeS_at
  · cases hv

theorem opKnown_run : evCall (envOf [kAwake, kGood, kPre, kIn, kAdd, kPlain, kRPlain, kOwn, kSame]) 60 4 [] h0 = some (.bool true, h0) := by kernel_rfl
theorem opKnown_prim : PrimOK Try.prog 4 [] (.bool true) :=
  prim_of (envOf_ok (ss := [kAwake, kGood, kPre, kIn, kAdd, kPlain, kRPlain, kOwn, kSame]) (by simp [kAwake_ok, kGood_ok, kPre_ok, kIn_ok, kAdd_ok, kPlain_ok, kRPlain_ok, kOwn_ok, kSame_ok])) opKnown_run rfl rfl
end Go.Proofs.Ytlofbalilhohmaa

namespace Go.Proofs.Ytlofbalilhohmaa
open Go Sz Go.ChangeShapes Go.WideShapes Go.ChangeAt Go.RowKit

theorem opKnown_law (avs : List AV) (h : HasTys Try.prog Try.f4.params.toList avs) : PrimOK Try.prog 4 avs (.bool true) := by
  rw [Try.params4] at h
  cases h with
  | nil => exact opKnown_prim
set_option maxRecDepth 100000 in
theorem opKnown_lifted (os : Os) (started : os.Started) (H : Type) (enc : TypeId × Value → H) :
    ReturnsInHanded {} Try.checked os 4 .any (Rows.opKnownSpec.pre6 enc Try.prog Try.f4 Rows.opKnownRow.domain false) (Rows.opKnownSpec.post enc Try.prog Try.f4 false true false false) := by
  refine returnsInHanded_of_change (C := Try.checked) Try.own started (by kernel_rfl) Try.func4
    (ChangeSpec.witness6 (enc := enc) (C := Try.checked) false ⟨#[], #[], []⟩ 8 (by kernel_rfl) (by kernel_rfl) (by kernel_rfl) (by kernel_rfl)) ?_
  intro W base args ds gs before hval0 hW hcnd _
  exact law_calls (P := Try.prog) (S := [3, 9, 22, 30]) Try.func4 rfl rfl (by kernel_rfl) (by kernel_rfl) Try.underlying4 rfl Try.laidOut rfl (fun ds hd => by
    match ds, hd with
    | [], _ => rfl) opKnown_law hval0 hW
theorem opKnown_holds : Rows.OpKnownSaid :=
  OpenClaim.holds_of_wide 4 Try.f4 rfl rfl rfl rfl rfl rfl rfl ⟨rfl, rfl, rfl, rfl, rfl⟩ rfl rfl rfl rfl rfl (by kernel_rfl) Try.func4 (by kernel_rfl)
    (of_decide_eq_true (by kernel_rfl)) (by unfold Func.isWrapper; first | (rw [if_pos (by decide +kernel)]; kernel_rfl) | (rw [if_neg (by decide +kernel)]; exact ⟨rfl, rfl⟩))
    (fun os started H enc _ => opKnown_lifted os started H enc)
end Go.Proofs.Ytlofbalilhohmaa
