import Derived.Test.YtnkafagfkblfeaaDoorSig
import Derived.Test.YtnkafagfkblfeaaDoorCut
set_option linter.unusedVariables false
set_option linter.unusedSimpArgs false
set_option linter.unusedSectionVars false

namespace Go.Proofs.YtnkafagfkblfeaaDoor
open Go Sz

/-! SigKnown. -/

theorem contains_of {sub b : List UInt8} : ∀ a : List UInt8, Lib.contains (a ++ (sub ++ b)) sub = true
  | [] => by
    unfold Lib.contains
    have hp : sub.isPrefixOf (sub ++ b) = true := List.isPrefixOf_iff_prefix.2 ⟨b, rfl⟩
    cases h : sub ++ b with
    | nil =>
      have : sub = [] := (List.append_eq_nil_iff.1 h).1
      subst this
      simp [Lib.index, h]
    | cons c r =>
      rw [h] at hp
      simp only [List.nil_append, h]
      unfold Lib.index
      rw [hp]
      rfl
  | c :: a => by
    have ih := contains_of (sub := sub) (b := b) a
    unfold Lib.contains at ih ⊢
    simp only [decide_eq_true_eq] at ih ⊢
    rw [List.cons_append]
    unfold Lib.index
    split
    · omega
    · rw [if_neg (by simp; omega)]
      omega
theorem contains_one' (c : UInt8) (s : List UInt8) : Lib.contains s [c] = s.contains c := by
  cases h : Lib.contains s [c] with
  | false =>
    have := contains_one c s h
    simpa using this
  | true =>
    unfold Lib.contains at h
    obtain ⟨a, b, e⟩ := index_split [c] s (by simpa using h)
    rw [e]
    simp

def plainF (name : List UInt8) (a : Int) : Bool := !(name.contains 32) && toks.contains (name ++ 47 :: itoaK a)
theorem toks_in : (toks.all fun t => t == [] || Lib.contains plainC (32 :: (t ++ [32]))) = true := by kernel_rfl
theorem plainK_F (name : List UInt8) (a : Int) : plainK name a = plainF name a := by
  rw [Bool.eq_iff_iff]
  constructor
  · intro h
    have h1 := plain_tok h
    unfold plainK at h
    simp only [Bool.and_eq_true] at h
    unfold plainF
    rw [contains_one'] at h
    simp only [Bool.and_eq_true]
    exact ⟨h.1, by simpa using h1⟩
  · intro h
    unfold plainF at h
    simp only [Bool.and_eq_true] at h
    have h2 := List.all_eq_true.1 toks_in _ (by simpa using h.2)
    unfold plainK
    rw [contains_one']
    simp only [Bool.and_eq_true]
    refine ⟨h.1, ?_⟩
    have h3 : (name ++ 47 :: itoaK a == []) = false := by
      cases name <;> rfl
    rw [h3, Bool.false_or] at h2
    simpa [List.append_assoc] using h2

def plainFS : KSpec := ⟨42, fun | [.str s, .int .i64 n] => if s.length < 9223372036854775000 ∧ -9223372036854775808 ≤ n ∧ n < 9223372036854775808 then some (.bool (plainF s n)) else none | _ => none⟩
theorem plainFS_ok : KSpecOKX Tryd.prog TabX plainFS := fun args v hv => by
  unfold plainFS at hv ⊢
  dsimp only at hv ⊢
  split at hv
  · rename_i s n
    split at hv
    · rename_i h
      cases hv
      have := plainS_ok [.str s, .int .i64 n] (.bool (plainK s n)) (plainS_at s n h)
      rw [plainK_F] at this
      exact this
    · cases hv
  · cases hv

end Go.Proofs.YtnkafagfkblfeaaDoor

namespace Go.Proofs.YtnkafagfkblfeaaDoor
open Go Sz
set_option maxRecDepth 100000

/-! SigKnown: a closed run, cut into pieces. -/

def kO : List AObj := [.row [.str [116, 114, 117, 101], .str [102, 97, 105, 108], .str [33], .str [44], .str [59], .str [45, 62], .str [92, 43], .str [99, 97, 108, 108], .str [99, 97, 116, 99, 104], .str [116, 104, 114, 111, 119], .str [102, 105, 110, 100, 97, 108, 108], .str [61], .str [92, 61], .str [61, 61], .str [64, 60], .str [118, 97, 114], .str [105, 115], .str [61, 58, 61], .str [102, 117, 110, 99, 116, 111, 114], .str [97, 114, 103], .str [61, 46, 46], .str [99, 111, 112, 121, 95, 116, 101, 114, 109], .str [115, 111, 114, 116], .str [97, 115, 115, 101, 114, 116, 122], .str [114, 101, 116, 114, 97, 99, 116], .str [108, 97, 98, 101, 108], .str [116, 111, 95, 108, 97, 98, 101, 108, 101, 100], .str [117, 110, 108, 97, 98, 101, 108], .str [58, 45], .str [108, 101, 110, 103, 116, 104]], .row [.str [112], .int .i64 1, .int .u64 0, .bool false], .row [.int .i64 0, .int .i64 0, .str [], .nils], .row [.str [], .int .i64 0, .int .u64 0, .bool false], .row [.str [], .int .i64 0, .int .u64 0, .bool false], .row [.str [], .int .i64 0, .int .u64 0, .bool false], .row [.str [], .int .i64 0, .int .u64 0, .bool false], .row [.str [], .int .i64 0, .int .u64 0, .bool false], .row [.str [112], .int .i64 1, .int .u64 0, .bool false, .str [112], .int .i64 0, .int .u64 0, .bool false, .str [105, 115], .int .i64 3, .int .u64 0, .bool false], .row [.str [105, 115], .int .i64 3, .int .u64 0, .bool false], .row [.str [], .int .i64 0, .int .u64 0, .bool false], .row [.str [105, 115], .int .i64 3, .int .u64 0, .bool false], .dead, .row [.str [112], .int .i64 0, .int .u64 0, .bool false], .row [.str [], .int .i64 0, .int .u64 0, .bool false], .row [.str [112], .int .i64 0, .int .u64 0, .bool false], .dead, .row [.str [112], .int .i64 1, .int .u64 0, .bool false], .row [.str [], .int .i64 0, .int .u64 0, .bool false], .row [.str [112], .int .i64 1, .int .u64 0, .bool false], .row [.vec 9 0 1 1 1, .vec 22 0 3 4 3], .row [.str [97]], .row [.vec 0 0 1 1 1], .row [.str [112], .int .i64 1, .int .u64 0, .bool false, .str [112], .int .i64 0, .int .u64 0, .bool false, .str [105, 115], .int .i64 3, .int .u64 0, .bool false], .row [.str [105, 115], .int .i64 2, .int .u64 0, .bool false, .str [112], .int .i64 (-1), .int .u64 0, .bool false], .row [.str [], .int .i64 0, .int .u64 0, .bool false, .str [], .int .i64 0, .int .u64 0, .bool false, .str [], .int .i64 0, .int .u64 0, .bool false, .str [], .int .i64 0, .int .u64 0, .bool false, .str [], .int .i64 0, .int .u64 0, .bool false, .str [], .int .i64 0, .int .u64 0, .bool false, .str [], .int .i64 0, .int .u64 0, .bool false, .str [], .int .i64 0, .int .u64 0, .bool false, .str [], .int .i64 0, .int .u64 0, .bool false, .str [], .int .i64 0, .int .u64 0, .bool false, .str [], .int .i64 0, .int .u64 0, .bool false, .str [], .int .i64 0, .int .u64 0, .bool false, .str [], .int .i64 0, .int .u64 0, .bool false, .str [], .int .i64 0, .int .u64 0, .bool false, .str [], .int .i64 0, .int .u64 0, .bool false, .str [], .int .i64 0, .int .u64 0, .bool false, .str [], .int .i64 0, .int .u64 0, .bool false, .str [], .int .i64 0, .int .u64 0, .bool false, .str [], .int .i64 0, .int .u64 0, .bool false, .str [], .int .i64 0, .int .u64 0, .bool false, .str [], .int .i64 0, .int .u64 0, .bool false, .str [], .int .i64 0, .int .u64 0, .bool false, .str [], .int .i64 0, .int .u64 0, .bool false, .str [], .int .i64 0, .int .u64 0, .bool false, .str [], .int .i64 0, .int .u64 0, .bool false, .str [], .int .i64 0, .int .u64 0, .bool false, .str [], .int .i64 0, .int .u64 0, .bool false, .str [], .int .i64 0, .int .u64 0, .bool false, .str [], .int .i64 0, .int .u64 0, .bool false, .str [], .int .i64 0, .int .u64 0, .bool false, .str [], .int .i64 0, .int .u64 0, .bool false, .str [], .int .i64 0, .int .u64 0, .bool false, .str [], .int .i64 0, .int .u64 0, .bool false], .row [.str [112], .int .i64 0, .int .u64 0, .bool false, .str [112], .int .i64 0, .int .u64 0, .bool false], .row [.str [105, 115], .int .i64 2, .int .u64 0, .bool false], .row [.str [112], .int .i64 0, .int .u64 2, .bool false], .row [.str [112], .int .i64 9, .int .u64 0, .bool false], .row [.str [97]]]
noncomputable abbrev kC : Nat → List AV → Heap → Option (AV × Heap) := evCall (envOf [sigAwakeS, goodS, fitsS, plainFS]) 399
def kA : List AV := FM 231 [(0, .bool false), (1, .vec 0 0 1 1 1), (2, .nilp), (3, .int .i64 1), (4, .nilp), (5, .int .i64 1), (6, .nilp), (7, .int .i64 1), (8, .nilp), (9, .int .i64 8), (10, .nilp), (11, .int .i64 14), (12, .nilp), (13, .int .i64 1), (14, .nilp), (15, .int .i64 1), (16, .ptr 10 0), (17, .int .i64 0), (18, .ptr 23 0), (19, .int .i64 6), (20, .ptr 24 0), (21, .int .i64 5), (22, .ptr 25 0), (23, .int .i64 8), (24, .ptr 26 0), (25, .int .i64 7), (26, .ptr 27 0), (27, .int .i64 1), (28, .ptr 29 0), (29, .int .i64 0), (30, .vec 30 0 30 1 30), (31, .int .i64 0), (34, .bool true), (35, .bool false), (36, .vec 0 0 1 1 1), (37, .tuple [.nilp, .int .i64 1]), (38, .tuple [.nilp, .int .i64 1]), (39, .nilp), (40, .int .i64 1), (41, .tuple [.nilp, .int .i64 1]), (42, .vec 0 0 1 1 1), (43, .agg [.str [112], .int .i64 9, .int .u64 0, .bool false]), (44, .vec 1 0 1 4 1), (45, .tuple [.nilp, .int .i64 1]), (46, .nilp), (47, .int .i64 1), (48, .tuple [.nilp, .int .i64 1]), (49, .vec 0 0 1 1 1), (50, .agg [.str [112], .int .i64 0, .int .u64 2, .bool false]), (51, .vec 2 0 1 4 1), (52, .tuple [.nilp, .int .i64 1]), (53, .nilp), (54, .int .i64 1), (55, .tuple [.nilp, .int .i64 8]), (56, .vec 0 0 1 1 1), (57, .agg [.str [105, 115], .int .i64 2, .int .u64 0, .bool false]), (58, .vec 3 0 1 4 1), (59, .tuple [.nilp, .int .i64 8]), (60, .nilp), (61, .int .i64 8), (62, .tuple [.nilp, .int .i64 14]), (63, .vec 0 0 1 1 1), (64, .agg [.str [112], .int .i64 0, .int .u64 0, .bool false]), (65, .agg [.str [112], .int .i64 0, .int .u64 0, .bool false]), (66, .vec 4 0 2 4 2), (67, .tuple [.nilp, .int .i64 14]), (68, .nilp), (69, .int .i64 14), (70, .tuple [.nilp, .int .i64 1]), (71, .vec 0 0 1 1 1), (72, .vec 5 0 33 4 33), (73, .tuple [.nilp, .int .i64 1]), (74, .nilp), (75, .int .i64 1), (76, .tuple [.nilp, .int .i64 1]), (77, .vec 0 0 1 1 1), (78, .agg [.str [105, 115], .int .i64 2, .int .u64 0, .bool false]), (79, .agg [.str [112], .int .i64 (-1), .int .u64 0, .bool false]), (80, .vec 6 0 2 4 2), (81, .tuple [.nilp, .int .i64 1]), (82, .nilp), (83, .int .i64 1), (84, .tuple [.ptr 10 0, .int .i64 0]), (85, .vec 0 0 1 1 1), (86, .agg [.str [112], .int .i64 1, .int .u64 0, .bool false]), (87, .agg [.str [112], .int .i64 0, .int .u64 0, .bool false]), (88, .agg [.str [105, 115], .int .i64 3, .int .u64 0, .bool false]), (89, .vec 7 0 3 4 3), (90, .tuple [.ptr 10 0, .int .i64 0]), (91, .ptr 10 0), (92, .int .i64 0), (93, .int .i64 0), (94, .bool false), (95, .bool false), (96, .ptr 10 0), (97, .bool false), (98, .bool false), (99, .tuple [.agg [.str [], .int .i64 0, .int .u64 0, .bool false], .int .i64 6]), (100, .ptr 10 0), (101, .agg [.int .i64 0, .int .i64 0, .str [], .nils]), (102, .tuple [.agg [.str [], .int .i64 0, .int .u64 0, .bool false], .int .i64 6]), (103, .agg [.str [], .int .i64 0, .int .u64 0, .bool false]), (104, .int .i64 6), (105, .tuple [.agg [.str [], .int .i64 0, .int .u64 0, .bool false], .int .i64 5]), (106, .ptr 10 0), (107, .agg [.int .i64 1, .int .i64 0, .str [], .nils]), (108, .tuple [.agg [.str [], .int .i64 0, .int .u64 0, .bool false], .int .i64 5]), (109, .agg [.str [], .int .i64 0, .int .u64 0, .bool false]), (110, .int .i64 5), (111, .tuple [.agg [.str [], .int .i64 0, .int .u64 0, .bool false], .int .i64 8]), (112, .ptr 10 0), (113, .agg [.int .i64 2, .int .i64 0, .str [116, 114, 117, 101], .nils]), (114, .tuple [.agg [.str [], .int .i64 0, .int .u64 0, .bool false], .int .i64 8]), (115, .agg [.str [], .int .i64 0, .int .u64 0, .bool false]), (116, .int .i64 8), (117, .tuple [.agg [.str [], .int .i64 0, .int .u64 0, .bool false], .int .i64 7]), (118, .ptr 10 0), (119, .agg [.int .i64 2, .int .i64 0, .str [113], .nils]), (120, .tuple [.agg [.str [], .int .i64 0, .int .u64 0, .bool false], .int .i64 7]), (121, .agg [.str [], .int .i64 0, .int .u64 0, .bool false]), (122, .int .i64 7), (123, .tuple [.agg [.str [], .int .i64 0, .int .u64 0, .bool false], .int .i64 1]), (124, .ptr 10 0), (125, .agg [.int .i64 4, .int .i64 0, .str [], .nils]), (126, .tuple [.agg [.str [], .int .i64 0, .int .u64 0, .bool false], .int .i64 1]), (127, .agg [.str [], .int .i64 0, .int .u64 0, .bool false]), (128, .int .i64 1), (129, .tuple [.agg [.str [112], .int .i64 1, .int .u64 0, .bool false], .int .i64 0]), (130, .ptr 10 0), (131, .agg [.int .i64 0, .int .i64 0, .str [], .nils]), (132, .vec 28 0 1 4 1), (133, .agg [.int .i64 2, .int .i64 0, .str [112], .sl [.agg [.int .i64 0, .int .i64 0, .str [], .nils]]]), (134, .tuple [.agg [.str [112], .int .i64 1, .int .u64 0, .bool false], .int .i64 0]), (135, .agg [.str [112], .int .i64 1, .int .u64 0, .bool false]), (136, .int .i64 0), (137, .vec 30 0 30 1 30)]
def kB : List AV := FM 231 [(0, .bool false), (1, .vec 0 0 1 1 1), (2, .nilp), (3, .int .i64 1), (4, .nilp), (5, .int .i64 1), (6, .nilp), (7, .int .i64 1), (8, .nilp), (9, .int .i64 8), (10, .nilp), (11, .int .i64 14), (12, .nilp), (13, .int .i64 1), (14, .nilp), (15, .int .i64 1), (16, .ptr 10 0), (17, .int .i64 0), (18, .ptr 23 0), (19, .int .i64 6), (20, .ptr 24 0), (21, .int .i64 5), (22, .ptr 25 0), (23, .int .i64 8), (24, .ptr 26 0), (25, .int .i64 7), (26, .ptr 27 0), (27, .int .i64 1), (28, .ptr 29 0), (29, .int .i64 0), (30, .vec 30 0 30 1 30), (31, .int .i64 0), (32, .int .i64 0), (34, .bool true), (35, .bool false), (36, .vec 0 0 1 1 1), (37, .tuple [.nilp, .int .i64 1]), (38, .tuple [.nilp, .int .i64 1]), (39, .nilp), (40, .int .i64 1), (41, .tuple [.nilp, .int .i64 1]), (42, .vec 0 0 1 1 1), (43, .agg [.str [112], .int .i64 9, .int .u64 0, .bool false]), (44, .vec 1 0 1 4 1), (45, .tuple [.nilp, .int .i64 1]), (46, .nilp), (47, .int .i64 1), (48, .tuple [.nilp, .int .i64 1]), (49, .vec 0 0 1 1 1), (50, .agg [.str [112], .int .i64 0, .int .u64 2, .bool false]), (51, .vec 2 0 1 4 1), (52, .tuple [.nilp, .int .i64 1]), (53, .nilp), (54, .int .i64 1), (55, .tuple [.nilp, .int .i64 8]), (56, .vec 0 0 1 1 1), (57, .agg [.str [105, 115], .int .i64 2, .int .u64 0, .bool false]), (58, .vec 3 0 1 4 1), (59, .tuple [.nilp, .int .i64 8]), (60, .nilp), (61, .int .i64 8), (62, .tuple [.nilp, .int .i64 14]), (63, .vec 0 0 1 1 1), (64, .agg [.str [112], .int .i64 0, .int .u64 0, .bool false]), (65, .agg [.str [112], .int .i64 0, .int .u64 0, .bool false]), (66, .vec 4 0 2 4 2), (67, .tuple [.nilp, .int .i64 14]), (68, .nilp), (69, .int .i64 14), (70, .tuple [.nilp, .int .i64 1]), (71, .vec 0 0 1 1 1), (72, .vec 5 0 33 4 33), (73, .tuple [.nilp, .int .i64 1]), (74, .nilp), (75, .int .i64 1), (76, .tuple [.nilp, .int .i64 1]), (77, .vec 0 0 1 1 1), (78, .agg [.str [105, 115], .int .i64 2, .int .u64 0, .bool false]), (79, .agg [.str [112], .int .i64 (-1), .int .u64 0, .bool false]), (80, .vec 6 0 2 4 2), (81, .tuple [.nilp, .int .i64 1]), (82, .nilp), (83, .int .i64 1), (84, .tuple [.ptr 10 0, .int .i64 0]), (85, .vec 0 0 1 1 1), (86, .agg [.str [112], .int .i64 1, .int .u64 0, .bool false]), (87, .agg [.str [112], .int .i64 0, .int .u64 0, .bool false]), (88, .agg [.str [105, 115], .int .i64 3, .int .u64 0, .bool false]), (89, .vec 7 0 3 4 3), (90, .tuple [.ptr 10 0, .int .i64 0]), (91, .ptr 10 0), (92, .int .i64 0), (93, .int .i64 0), (94, .bool false), (95, .bool false), (96, .ptr 10 0), (97, .bool false), (98, .bool false), (99, .tuple [.agg [.str [], .int .i64 0, .int .u64 0, .bool false], .int .i64 6]), (100, .ptr 10 0), (101, .agg [.int .i64 0, .int .i64 0, .str [], .nils]), (102, .tuple [.agg [.str [], .int .i64 0, .int .u64 0, .bool false], .int .i64 6]), (103, .agg [.str [], .int .i64 0, .int .u64 0, .bool false]), (104, .int .i64 6), (105, .tuple [.agg [.str [], .int .i64 0, .int .u64 0, .bool false], .int .i64 5]), (106, .ptr 10 0), (107, .agg [.int .i64 1, .int .i64 0, .str [], .nils]), (108, .tuple [.agg [.str [], .int .i64 0, .int .u64 0, .bool false], .int .i64 5]), (109, .agg [.str [], .int .i64 0, .int .u64 0, .bool false]), (110, .int .i64 5), (111, .tuple [.agg [.str [], .int .i64 0, .int .u64 0, .bool false], .int .i64 8]), (112, .ptr 10 0), (113, .agg [.int .i64 2, .int .i64 0, .str [116, 114, 117, 101], .nils]), (114, .tuple [.agg [.str [], .int .i64 0, .int .u64 0, .bool false], .int .i64 8]), (115, .agg [.str [], .int .i64 0, .int .u64 0, .bool false]), (116, .int .i64 8), (117, .tuple [.agg [.str [], .int .i64 0, .int .u64 0, .bool false], .int .i64 7]), (118, .ptr 10 0), (119, .agg [.int .i64 2, .int .i64 0, .str [113], .nils]), (120, .tuple [.agg [.str [], .int .i64 0, .int .u64 0, .bool false], .int .i64 7]), (121, .agg [.str [], .int .i64 0, .int .u64 0, .bool false]), (122, .int .i64 7), (123, .tuple [.agg [.str [], .int .i64 0, .int .u64 0, .bool false], .int .i64 1]), (124, .ptr 10 0), (125, .agg [.int .i64 4, .int .i64 0, .str [], .nils]), (126, .tuple [.agg [.str [], .int .i64 0, .int .u64 0, .bool false], .int .i64 1]), (127, .agg [.str [], .int .i64 0, .int .u64 0, .bool false]), (128, .int .i64 1), (129, .tuple [.agg [.str [112], .int .i64 1, .int .u64 0, .bool false], .int .i64 0]), (130, .ptr 10 0), (131, .agg [.int .i64 0, .int .i64 0, .str [], .nils]), (132, .vec 28 0 1 4 1), (133, .agg [.int .i64 2, .int .i64 0, .str [112], .sl [.agg [.int .i64 0, .int .i64 0, .str [], .nils]]]), (134, .tuple [.agg [.str [112], .int .i64 1, .int .u64 0, .bool false], .int .i64 0]), (135, .agg [.str [112], .int .i64 1, .int .u64 0, .bool false]), (136, .int .i64 0), (137, .vec 30 0 30 1 30)]
def kS0 : List AV × Heap := (FM 231 [(3, .int .i64 1), (5, .int .i64 1), (7, .int .i64 1), (9, .int .i64 8), (11, .int .i64 14), (13, .int .i64 1), (15, .int .i64 1), (16, .ptr 10 0), (19, .int .i64 6), (21, .int .i64 5), (23, .int .i64 8), (25, .int .i64 7), (27, .int .i64 1), (28, .ptr 29 0), (29, .int .i64 0), (30, .vec 30 0 30 1 30), (31, .int .i64 0), (32, .int .i64 0)], ⟨31, kO, 31, 0⟩)
def kS5 : List AV × Heap := (FM 231 [(3, .int .i64 1), (5, .int .i64 1), (7, .int .i64 1), (9, .int .i64 8), (11, .int .i64 14), (13, .int .i64 1), (15, .int .i64 1), (16, .ptr 10 0), (19, .int .i64 6), (21, .int .i64 5), (23, .int .i64 8), (25, .int .i64 7), (27, .int .i64 1), (28, .ptr 29 0), (29, .int .i64 0), (30, .vec 30 0 30 1 30), (31, .int .i64 5), (32, .int .i64 5)], ⟨31, kO, 31, 0⟩)
def kS10 : List AV × Heap := (FM 231 [(3, .int .i64 1), (5, .int .i64 1), (7, .int .i64 1), (9, .int .i64 8), (11, .int .i64 14), (13, .int .i64 1), (15, .int .i64 1), (16, .ptr 10 0), (19, .int .i64 6), (21, .int .i64 5), (23, .int .i64 8), (25, .int .i64 7), (27, .int .i64 1), (28, .ptr 29 0), (29, .int .i64 0), (30, .vec 30 0 30 1 30), (31, .int .i64 10), (32, .int .i64 10)], ⟨31, kO, 31, 0⟩)
def kS15 : List AV × Heap := (FM 231 [(3, .int .i64 1), (5, .int .i64 1), (7, .int .i64 1), (9, .int .i64 8), (11, .int .i64 14), (13, .int .i64 1), (15, .int .i64 1), (16, .ptr 10 0), (19, .int .i64 6), (21, .int .i64 5), (23, .int .i64 8), (25, .int .i64 7), (27, .int .i64 1), (28, .ptr 29 0), (29, .int .i64 0), (30, .vec 30 0 30 1 30), (31, .int .i64 15), (32, .int .i64 15)], ⟨31, kO, 31, 0⟩)
def kS20 : List AV × Heap := (FM 231 [(3, .int .i64 1), (5, .int .i64 1), (7, .int .i64 1), (9, .int .i64 8), (11, .int .i64 14), (13, .int .i64 1), (15, .int .i64 1), (16, .ptr 10 0), (19, .int .i64 6), (21, .int .i64 5), (23, .int .i64 8), (25, .int .i64 7), (27, .int .i64 1), (28, .ptr 29 0), (29, .int .i64 0), (30, .vec 30 0 30 1 30), (31, .int .i64 20), (32, .int .i64 20)], ⟨31, kO, 31, 0⟩)
def kS25 : List AV × Heap := (FM 231 [(3, .int .i64 1), (5, .int .i64 1), (7, .int .i64 1), (9, .int .i64 8), (11, .int .i64 14), (13, .int .i64 1), (15, .int .i64 1), (16, .ptr 10 0), (19, .int .i64 6), (21, .int .i64 5), (23, .int .i64 8), (25, .int .i64 7), (27, .int .i64 1), (28, .ptr 29 0), (29, .int .i64 0), (30, .vec 30 0 30 1 30), (31, .int .i64 25), (32, .int .i64 25)], ⟨31, kO, 31, 0⟩)
def kS30 : List AV × Heap := (FM 231 [(3, .int .i64 1), (5, .int .i64 1), (7, .int .i64 1), (9, .int .i64 8), (11, .int .i64 14), (13, .int .i64 1), (15, .int .i64 1), (16, .ptr 10 0), (19, .int .i64 6), (21, .int .i64 5), (23, .int .i64 8), (25, .int .i64 7), (27, .int .i64 1), (28, .ptr 29 0), (29, .int .i64 0), (30, .vec 30 0 30 1 30), (31, .int .i64 30), (32, .int .i64 30)], ⟨31, kO, 31, 0⟩)
def kE : List AV := FM 231 [(3, .int .i64 1), (5, .int .i64 1), (7, .int .i64 1), (9, .int .i64 8), (11, .int .i64 14), (13, .int .i64 1), (15, .int .i64 1), (16, .ptr 10 0), (19, .int .i64 6), (21, .int .i64 5), (23, .int .i64 8), (25, .int .i64 7), (27, .int .i64 1), (28, .ptr 29 0), (29, .int .i64 0), (30, .vec 30 0 30 1 30), (31, .int .i64 30)]
def dropS : Nat → ACode → ACode
  | k + 1, .seq _ b => dropS k b
  | _, c => c
def kL : ACode := dropS 20 c13.code
def kF : ACode := dropS 1 kL
theorem k_pre : runK kC 399 20 c13.code (List.replicate 231 .undef) ⟨0, [], 0, 0⟩ = some (kL, kA, ⟨31, kO, 0, 0⟩) := by kernel_rfl
theorem k_init : gc 31 (clear c13_m1 kB) ⟨31, kO, 31, 0⟩ = kS0 := by kernel_rfl
theorem k_it0 : stepsL kC 399 c13_b1 c13_m1 31 5 kS0 = some kS5 := by kernel_rfl
theorem k_it5 : stepsL kC 399 c13_b1 c13_m1 31 5 kS5 = some kS10 := by kernel_rfl
theorem k_it10 : stepsL kC 399 c13_b1 c13_m1 31 5 kS10 = some kS15 := by kernel_rfl
theorem k_it15 : stepsL kC 399 c13_b1 c13_m1 31 5 kS15 = some kS20 := by kernel_rfl
theorem k_it20 : stepsL kC 399 c13_b1 c13_m1 31 5 kS20 = some kS25 := by kernel_rfl
theorem k_it25 : stepsL kC 399 c13_b1 c13_m1 31 5 kS25 = some kS30 := by kernel_rfl
theorem k_end : aft 31 0 (loopH (evCode kC 399 c13_b1) c13_m1 31 369 kS30.1 kS30.2) = some (.exit 0, kE, ⟨31, kO, 0, 0⟩) := by kernel_rfl
noncomputable def kR : Option (Ex × List AV × Heap) := evCode kC 399 kF kE ⟨31, kO, 0, 0⟩
noncomputable def kRf : List AV := match kR with | some (_, fr, _) => fr | none => []
noncomputable def kRh : Heap := match kR with | some (_, _, h) => h | none => h0
theorem k_r1 : kR = some (.ret, kRf, kRh) := by kernel_rfl
theorem k_r2 : resAll kRf kRh c13.results = some [.bool true] := by kernel_rfl
theorem k_r3 : finish false h0 (.bool true) kRh = (.bool true, (finish false h0 (.bool true) kRh).2) := by kernel_rfl
end Go.Proofs.YtnkafagfkblfeaaDoor

namespace Go.Proofs.YtnkafagfkblfeaaDoor
open Go Sz
set_option maxRecDepth 100000

theorem k_its10 : stepsL kC 399 c13_b1 c13_m1 31 (5 + 5) kS0 = some kS10 := stepsL_add k_it0 k_it5
theorem k_its15 : stepsL kC 399 c13_b1 c13_m1 31 (5 + 5 + 5) kS0 = some kS15 := stepsL_add k_its10 k_it10
theorem k_its20 : stepsL kC 399 c13_b1 c13_m1 31 (5 + 5 + 5 + 5) kS0 = some kS20 := stepsL_add k_its15 k_it15
theorem k_its25 : stepsL kC 399 c13_b1 c13_m1 31 (5 + 5 + 5 + 5 + 5) kS0 = some kS25 := stepsL_add k_its20 k_it20
theorem k_its30 : stepsL kC 399 c13_b1 c13_m1 31 (5 + 5 + 5 + 5 + 5 + 5) kS0 = some kS30 := stepsL_add k_its25 k_it25
theorem k_loop : evCode kC 399 (.loop c13_m1 c13_b1) kB ⟨31, kO, 0, 0⟩ = some (.exit 0, kE, ⟨31, kO, 0, 0⟩) :=
  loop_cut (s := kS0) (s' := kS30) (m := 369) (k := 5 + 5 + 5 + 5 + 5 + 5) (nx := 31) (os := kO) (wl := 0) (md := 0) k_init k_its30 rfl k_end
theorem k_split : kL = .seq (.seq (.reg [⟨(some 32), .op (.mov (.const (.int .i64 0))), none⟩]) (.block 0 (.loop c13_m1 c13_b1))) kF := rfl
theorem k_b : evCode kC 399 (.reg [⟨(some 32), .op (.mov (.const (.int .i64 0))), none⟩]) kA ⟨31, kO, 0, 0⟩ = some (.normal, kB, ⟨31, kO, 0, 0⟩) := by kernel_rfl
theorem k_code : evCode kC 399 c13.code (List.replicate 231 .undef) ⟨0, [], 0, 0⟩ = evCode kC 399 kF kE ⟨31, kO, 0, 0⟩ := by
  rw [runK_ok k_pre, k_split, seqF, seqF, k_b, seqK_n, evCode_block, k_loop]
  rfl
theorem evFn_of {ss : List KSpec} {n f : Nat} {F : AFun} {args : List AV} {h h' : Heap} {fr : List AV} {vs : List AV} {v : AV} {h2 : Heap} {r : Option (Ex × List AV × Heap)} (hF : fnAt f = some F)
    (hr : evCode (evCall (envOf ss) n) n F.code (args ++ List.replicate (F.ntmps - args.length) .undef) ⟨h.next, h.objs, h.next, h.next⟩ = r) (he : r = some (.ret, fr, h')) (hv : resAll fr h' F.results = some vs) (hfin : finish F.keep h (oneOf vs) h' = (v, h2)) : evFn ss n f args h = some (v, h2) := by
  unfold evFn
  rw [hF]
  dsimp only
  unfold evB
  rw [hr, he]
  dsimp only
  rw [hv]
  dsimp only
  rw [hfin]
theorem sigKnown_run : ∃ h', evCall (envOf [sigAwakeS, goodS, fitsS, plainFS]) 400 13 [] h0 = some (.bool true, h') := by
  rw [evCall_spec]
  have e1 : lookF ([sigAwakeS, goodS, fitsS, plainFS] ++ clones) 13 = [] := by
    simp [lookF_cons, lookF_nil, clones, cloneS_f, sigAwakeS_f, goodS_f, fitsS_f, show plainFS.f = 42 from rfl]
  rw [e1, callS_nil]
  exact ⟨_, evFn_of (F := c13) (r := kR) (fr := kRf) (h' := kRh) (vs := [.bool true]) rfl k_code k_r1 k_r2 k_r3⟩
theorem sigKnown_prim : PrimOKX Tryd.prog TabX 13 [] (.bool true) := by
  obtain ⟨h', e⟩ := sigKnown_run
  exact prim_of (n := 400) (h' := h') (envOf_okX (ss := [sigAwakeS, goodS, fitsS, plainFS]) (by simp [sigAwakeS_ok, (goodS_ok trimS_ok).lift, (fitsS_ok trimS_ok).lift, plainFS_ok])) e rfl rfl

end Go.Proofs.YtnkafagfkblfeaaDoor

namespace Go.Proofs.YtnkafagfkblfeaaDoor
open Go Sz

theorem sigKnown_lawX {H : Type} (ds : List (DataW H)) (h : HasTys Tryd.prog Tryd.f13.params.toList (ds.map avOf)) (hw : (DataW.weightsEach Tryd.prog Tryd.f13.params.toList ds).all (· ≤ reachBytes) = true) : PrimOKX Tryd.prog TabX 13 (ds.map avOf) (.bool true) := by
  rw [Tryd.params13] at h
  match ds, h with
  | [], .nil => exact sigKnown_prim
end Go.Proofs.YtnkafagfkblfeaaDoor
