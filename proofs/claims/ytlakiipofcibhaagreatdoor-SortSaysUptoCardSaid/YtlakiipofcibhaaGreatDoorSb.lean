import Derived.Test.YtlakiipofcibhaaGreatDoorAt
import Derived.Test.YtlakiipofcibhaaGreatDoorSa
set_option linter.unusedVariables false
set_option linter.unusedSimpArgs false
set_option linter.unusedSectionVars false
set_option maxHeartbeats 16000000
set_option maxRecDepth 100000

namespace Go.Proofs.YtlakiipofcibhaaGreatDoor
open Go Sz Srt
def symR : ACode := .seq (.reg [⟨(some 178), .op (.mov (.tmp 20)), none⟩,
 ⟨(some 179), .op (.mov (.tmp 2)), none⟩,
 ⟨(some 180), .op (.bin .lss (.tmp 178) (.tmp 179)), none⟩,
 ⟨(some 181), .op (.mov (.tmp 180)), none⟩,
 ⟨(some 182), .op (.mov (.tmp 2)), (some (181, true))⟩,
 ⟨(some 183), .op (.mov (.tmp 24)), (some (181, true))⟩,
 ⟨(some 184), .op (.bin .lss (.tmp 182) (.tmp 183)), (some (181, true))⟩,
 ⟨(some 185), .op (.pick (.tmp 181) (.tmp 184) (.const (.bool false))), none⟩])
 (.cond (.tmp 185) (.reg [⟨(some 186), .op (.mov (.tmp 0)), none⟩,
  ⟨(some 187), .op (.mov (.tmp 20)), none⟩,
  ⟨(some 188), .op (.mov (.tmp 2)), none⟩,
  ⟨(some 189), .op (.mov (.tmp 24)), none⟩,
  ⟨(some 190), .op (.mov (.tmp 4)), none⟩,
  ⟨(some 191), .call 151 [(.tmp 186), (.tmp 187), (.tmp 188), (.tmp 189), (.tmp 190)], none⟩])
 .skip)
def symA : ACode := .seq (.reg [⟨(some 192), .op (.mov (.tmp 1)), none⟩,
 ⟨(some 193), .op (.mov (.tmp 20)), none⟩,
 ⟨(some 194), .op (.bin .lss (.tmp 192) (.tmp 193)), none⟩,
 ⟨(some 195), .op (.mov (.tmp 194)), none⟩,
 ⟨(some 196), .op (.mov (.tmp 20)), (some (195, true))⟩,
 ⟨(some 197), .op (.mov (.tmp 18)), (some (195, true))⟩,
 ⟨(some 198), .op (.bin .lss (.tmp 196) (.tmp 197)), (some (195, true))⟩,
 ⟨(some 199), .op (.pick (.tmp 195) (.tmp 198) (.const (.bool false))), none⟩])
 (.cond (.tmp 199) (.reg [⟨(some 200), .op (.mov (.tmp 0)), none⟩,
  ⟨(some 201), .op (.mov (.tmp 1)), none⟩,
  ⟨(some 202), .op (.mov (.tmp 20)), none⟩,
  ⟨(some 203), .op (.mov (.tmp 18)), none⟩,
  ⟨(some 204), .op (.mov (.tmp 4)), none⟩,
  ⟨(some 205), .call 118 [(.tmp 200), (.tmp 201), (.tmp 202), (.tmp 203), (.tmp 204)], none⟩])
 .skip)
def symB : ACode := .seq (.reg [⟨(some 206), .op (.mov (.tmp 18)), none⟩,
 ⟨(some 207), .op (.mov (.tmp 24)), none⟩,
 ⟨(some 208), .op (.bin .lss (.tmp 206) (.tmp 207)), none⟩,
 ⟨(some 209), .op (.mov (.tmp 208)), none⟩,
 ⟨(some 210), .op (.mov (.tmp 24)), (some (209, true))⟩,
 ⟨(some 211), .op (.mov (.tmp 3)), (some (209, true))⟩,
 ⟨(some 212), .op (.bin .lss (.tmp 210) (.tmp 211)), (some (209, true))⟩,
 ⟨(some 213), .op (.pick (.tmp 209) (.tmp 212) (.const (.bool false))), none⟩])
 (.cond (.tmp 213) (.reg [⟨(some 214), .op (.mov (.tmp 0)), none⟩,
  ⟨(some 215), .op (.mov (.tmp 18)), none⟩,
  ⟨(some 216), .op (.mov (.tmp 24)), none⟩,
  ⟨(some 217), .op (.mov (.tmp 3)), none⟩,
  ⟨(some 218), .op (.mov (.tmp 4)), none⟩,
  ⟨(some 219), .call 118 [(.tmp 214), (.tmp 215), (.tmp 216), (.tmp 217), (.tmp 218)], none⟩])
 .skip)
def symE : ACode := .seq symR (.seq symA symB)
def sym4 : ACode := .reg [⟨(some 175), .op (.mov (.tmp 19)), none⟩,
 ⟨(some 176), .op (.mov (.tmp 20)), none⟩,
 ⟨(some 177), .op (.bin .sub (.tmp 175) (.tmp 176)), none⟩,
 ⟨(some 24), .op (.mov (.tmp 177)), none⟩]
variable (C : Nat → List AV → Heap → Option (AV × Heap)) (n f : Nat) (FR : List (Nat × AV)) (H H' : Heap) (D : AV) (x y a m b s mid e : Int)
theorem symR_run (h0 : lk FR 0 = D) (h2 : lk FR 2 = .int .i64 m) (h4 : lk FR 4 = .fn f []) (h20 : lk FR 20 = .int .i64 s) (h24 : lk FR 24 = .int .i64 e)
 (hcall : if s < m ∧ m < e then C 151 [D, .int .i64 s, .int .i64 m, .int .i64 e, .fn f []] H = some (.tuple [], H') else H' = H) :
 ∃ FR', evCode C n symR (FM 220 FR) H = some (.normal, FM 220 FR', H') ∧ ∀ t, t < 178 → lk FR' t = lk FR t := by
 by_cases c1 : s < m
 ·by_cases c2 : m < e
  ·rw [if_pos ⟨c1, c2⟩] at hcall
   refine ⟨_, by simp [symR, h0, h2, h4, h20, h24, c1, c2, hcall]; rfl, fun t ht => ?_⟩
   simp [lk, show ∀ k, 178 ≤ k → ¬ k = t from fun k hk => by omega]
  ·rw [if_neg (fun h => c2 h.2)] at hcall
   subst hcall
   refine ⟨_, by simp [symR, h0, h2, h4, h20, h24, c1, c2]; rfl, fun t ht => ?_⟩
   simp [lk, show ∀ k, 178 ≤ k → ¬ k = t from fun k hk => by omega]
 ·rw [if_neg (fun h => c1 h.1)] at hcall
  subst hcall
  refine ⟨_, by simp [symR, h0, h2, h4, h20, h24, c1]; rfl, fun t ht => ?_⟩
  simp [lk, show ∀ k, 178 ≤ k → ¬ k = t from fun k hk => by omega]
theorem symA_run (h0 : lk FR 0 = D) (h1 : lk FR 1 = .int .i64 a) (h4 : lk FR 4 = .fn f []) (h18 : lk FR 18 = .int .i64 mid) (h20 : lk FR 20 = .int .i64 s)
 (hcall : if a < s ∧ s < mid then C 118 [D, .int .i64 a, .int .i64 s, .int .i64 mid, .fn f []] H = some (.tuple [], H') else H' = H) :
 ∃ FR', evCode C n symA (FM 220 FR) H = some (.normal, FM 220 FR', H') ∧ ∀ t, t < 178 → lk FR' t = lk FR t := by
 by_cases c1 : a < s
 ·by_cases c2 : s < mid
  ·rw [if_pos ⟨c1, c2⟩] at hcall
   refine ⟨_, by simp [symA, h0, h1, h4, h18, h20, c1, c2, hcall]; rfl, fun t ht => ?_⟩
   simp [lk, show ∀ k, 178 ≤ k → ¬ k = t from fun k hk => by omega]
  ·rw [if_neg (fun h => c2 h.2)] at hcall
   subst hcall
   refine ⟨_, by simp [symA, h0, h1, h4, h18, h20, c1, c2]; rfl, fun t ht => ?_⟩
   simp [lk, show ∀ k, 178 ≤ k → ¬ k = t from fun k hk => by omega]
 ·rw [if_neg (fun h => c1 h.1)] at hcall
  subst hcall
  refine ⟨_, by simp [symA, h0, h1, h4, h18, h20, c1]; rfl, fun t ht => ?_⟩
  simp [lk, show ∀ k, 178 ≤ k → ¬ k = t from fun k hk => by omega]
theorem symB_run (h0 : lk FR 0 = D) (h3 : lk FR 3 = .int .i64 b) (h4 : lk FR 4 = .fn f []) (h18 : lk FR 18 = .int .i64 mid) (h24 : lk FR 24 = .int .i64 e)
 (hcall : if mid < e ∧ e < b then C 118 [D, .int .i64 mid, .int .i64 e, .int .i64 b, .fn f []] H = some (.tuple [], H') else H' = H) :
 ∃ FR', evCode C n symB (FM 220 FR) H = some (.normal, FM 220 FR', H') ∧ ∀ t, t < 178 → lk FR' t = lk FR t := by
 by_cases c1 : mid < e
 ·by_cases c2 : e < b
  ·rw [if_pos ⟨c1, c2⟩] at hcall
   refine ⟨_, by simp [symB, h0, h3, h4, h18, h24, c1, c2, hcall]; rfl, fun t ht => ?_⟩
   simp [lk, show ∀ k, 178 ≤ k → ¬ k = t from fun k hk => by omega]
  ·rw [if_neg (fun h => c2 h.2)] at hcall
   subst hcall
   refine ⟨_, by simp [symB, h0, h3, h4, h18, h24, c1, c2]; rfl, fun t ht => ?_⟩
   simp [lk, show ∀ k, 178 ≤ k → ¬ k = t from fun k hk => by omega]
 ·rw [if_neg (fun h => c1 h.1)] at hcall
  subst hcall
  refine ⟨_, by simp [symB, h0, h3, h4, h18, h24, c1]; rfl, fun t ht => ?_⟩
  simp [lk, show ∀ k, 178 ≤ k → ¬ k = t from fun k hk => by omega]
theorem symE_run {H1 H2 H3 : Heap} (h0 : lk FR 0 = D) (h1 : lk FR 1 = .int .i64 a) (h2 : lk FR 2 = .int .i64 m) (h3 : lk FR 3 = .int .i64 b) (h4 : lk FR 4 = .fn f []) (h18 : lk FR 18 = .int .i64 mid) (h20 : lk FR 20 = .int .i64 s) (h24 : lk FR 24 = .int .i64 e)
 (q1 : if s < m ∧ m < e then C 151 [D, .int .i64 s, .int .i64 m, .int .i64 e, .fn f []] H = some (.tuple [], H1) else H1 = H)
 (q2 : if a < s ∧ s < mid then C 118 [D, .int .i64 a, .int .i64 s, .int .i64 mid, .fn f []] H1 = some (.tuple [], H2) else H2 = H1)
 (q3 : if mid < e ∧ e < b then C 118 [D, .int .i64 mid, .int .i64 e, .int .i64 b, .fn f []] H2 = some (.tuple [], H3) else H3 = H2) :
 ∃ FR', evCode C n symE (FM 220 FR) H = some (.normal, FM 220 FR', H3) := by
 obtain ⟨F1, r1, k1⟩ := symR_run C n f FR H H1 D m s e h0 h2 h4 h20 h24 q1
 obtain ⟨F2, r2, k2⟩ := symA_run C n f F1 H1 H2 D a s mid ((k1 0 (by omega)).trans h0) ((k1 1 (by omega)).trans h1) ((k1 4 (by omega)).trans h4) ((k1 18 (by omega)).trans h18) ((k1 20 (by omega)).trans h20) q2
 have k3 := fun t ht => (k2 t ht).trans (k1 t ht)
 obtain ⟨F3, r3, _⟩ := symB_run C n f F2 H2 H3 D b mid e ((k3 0 (by omega)).trans h0) ((k3 3 (by omega)).trans h3) ((k3 4 (by omega)).trans h4) ((k3 18 (by omega)).trans h18) ((k3 24 (by omega)).trans h24) q3
 refine ⟨F3, ?_⟩
 unfold symE
 rw [evCode_seq, r1]
 dsimp only
 rw [evCode_seq, r2]
 exact r3
end Go.Proofs.YtlakiipofcibhaaGreatDoor

namespace Go.Proofs.YtlakiipofcibhaaGreatDoor
open Go Sz Srt
attribute [local simp] evCall_specK callS_nilK callS_oneFK spK_sK spK_nK frK_sK frK_nK evB_fmK
def symH (T : ACode) : ACode := (.seq (.seq (.reg [⟨(some 25), .op (.mov (.tmp 2)), none⟩,
 ⟨(some 26), .op (.mov (.tmp 1)), none⟩,
 ⟨(some 27), .op (.bin .sub (.tmp 25) (.tmp 26)), none⟩,
 ⟨(some 28), .op (.bin .eql (.tmp 27) (.const (.int .i64 1))), none⟩])
 (.cond (.tmp 28) (.seq (.reg [⟨(some 29), .op (.mov (.tmp 2)), none⟩,
  ⟨(some 10), .op (.mov (.tmp 29)), none⟩])
  (.seq (.reg [⟨(some 30), .op (.mov (.tmp 3)), none⟩,
   ⟨(some 11), .op (.mov (.tmp 30)), none⟩])
  (.seq (.block 0 (.loop c118_m0 c118_b0))
  (.seq (.seq (.reg [⟨(some 54), .op (.mov (.tmp 1)), none⟩,
   ⟨(some 13), .op (.mov (.tmp 54)), none⟩])
  (.block 2 (.loop c118_m1 c118_b1)))
  (.ret (mk 220 []))))))
 .skip))
 (.seq (.seq (.reg [⟨(some 77), .op (.mov (.tmp 3)), none⟩,
  ⟨(some 78), .op (.mov (.tmp 2)), none⟩,
  ⟨(some 79), .op (.bin .sub (.tmp 77) (.tmp 78)), none⟩,
  ⟨(some 80), .op (.bin .eql (.tmp 79) (.const (.int .i64 1))), none⟩])
 (.cond (.tmp 80) (.seq (.reg [⟨(some 81), .op (.mov (.tmp 1)), none⟩,
  ⟨(some 14), .op (.mov (.tmp 81)), none⟩])
  (.seq (.reg [⟨(some 82), .op (.mov (.tmp 2)), none⟩,
   ⟨(some 15), .op (.mov (.tmp 82)), none⟩])
  (.seq (.block 4 (.loop c118_m2 c118_b2))
  (.seq (.seq (.reg [⟨(some 107), .op (.mov (.tmp 2)), none⟩,
   ⟨(some 17), .op (.mov (.tmp 107)), none⟩])
  (.block 6 (.loop c118_m3 c118_b3)))
  (.ret (mk 220 []))))))
 .skip))
 (.seq (.reg [⟨(some 129), .op (.mov (.tmp 1)), none⟩,
  ⟨(some 130), .op (.mov (.tmp 3)), none⟩,
  ⟨(some 131), .op (.bin .add (.tmp 129) (.tmp 130)), none⟩,
  ⟨(some 132), .op (.cvi .u64 (.tmp 131)), none⟩,
  ⟨(some 133), .op (.bin .shr (.tmp 132) (.const (.int .u64 1))), none⟩,
  ⟨(some 134), .op (.cvi .i64 (.tmp 133)), none⟩,
  ⟨(some 18), .op (.mov (.tmp 134)), none⟩])
 (.seq (.reg [⟨(some 135), .op (.mov (.tmp 18)), none⟩,
  ⟨(some 136), .op (.mov (.tmp 2)), none⟩,
  ⟨(some 137), .op (.bin .add (.tmp 135) (.tmp 136)), none⟩,
  ⟨(some 19), .op (.mov (.tmp 137)), none⟩])
 (.seq (.reg [⟨(some 20), .op (.mov (.const (.int .i64 0))), none⟩,
  ⟨(some 21), .op (.mov (.const (.int .i64 0))), none⟩])
 (.seq (.seq (.reg [⟨(some 138), .op (.mov (.tmp 2)), none⟩,
  ⟨(some 139), .op (.mov (.tmp 18)), none⟩,
  ⟨(some 140), .op (.bin .gtr (.tmp 138) (.tmp 139)), none⟩])
 (.cond (.tmp 140) (.seq (.reg [⟨(some 141), .op (.mov (.tmp 19)), none⟩,
  ⟨(some 142), .op (.mov (.tmp 3)), none⟩,
  ⟨(some 143), .op (.bin .sub (.tmp 141) (.tmp 142)), none⟩,
  ⟨(some 20), .op (.mov (.tmp 143)), none⟩])
  (.reg [⟨(some 144), .op (.mov (.tmp 18)), none⟩,
   ⟨(some 21), .op (.mov (.tmp 144)), none⟩]))
 (.seq (.reg [⟨(some 145), .op (.mov (.tmp 1)), none⟩,
  ⟨(some 20), .op (.mov (.tmp 145)), none⟩])
  (.reg [⟨(some 146), .op (.mov (.tmp 2)), none⟩,
   ⟨(some 21), .op (.mov (.tmp 146)), none⟩]))))
 (.seq (.reg [⟨(some 147), .op (.mov (.tmp 19)), none⟩,
  ⟨(some 148), .op (.bin .sub (.tmp 147) (.const (.int .i64 1))), none⟩,
  ⟨(some 22), .op (.mov (.tmp 148)), none⟩])
 (.seq (.block 8 (.loop c118_m4 c118_b4))
 T))))))))
theorem c118_eq : c118 = ⟨220, [], false, symH (.seq sym4 symE)⟩ := rfl
theorem symH_run (T : ACode) (C : Nat → List AV → Heap → Option (AV × Heap)) (n f nx V N lb : Nat) (hV : V < nx) (os : List AObj) (wl md : Nat) (a m b mid : Nat) (s0 r0 r : Int) (hb : b < 1000000000) (h1 : a + 1 < m) (h2 : m + 1 < b) (h3 : 2 * mid ≤ a + b) (h4 : a + b < 2 * mid + 2)
 (hs : s0 = if mid < m then (mid : Int) + m - b else a) (hr : r0 = if mid < m then (mid : Int) else m)
 (lp : aft nx wl (loopH (evCode C n c118_b4) c118_m4 nx n (c118_f4 (.vec V 0 N 4 lb) (.int .i64 a) (.int .i64 m) (.int .i64 b) (.fn f []) (.int .i64 mid) (.int .i64 ((mid : Int) + m)) (.int .i64 s0) (.int .i64 r0) (.int .i64 ((mid : Int) + m - 1))) ⟨nx, os, nx, md⟩) =
  some (.exit 8, FM 220 [(0, .vec V 0 N 4 lb), (1, .int .i64 a), (2, .int .i64 m), (3, .int .i64 b), (4, .fn f []), (18, .int .i64 mid), (19, .int .i64 ((mid : Int) + m)), (20, .int .i64 r)], ⟨nx, os, wl, md⟩)) :
 evCode C n (symH T) (FM 220 [(0, .vec V 0 N 4 lb), (1, .int .i64 a), (2, .int .i64 m), (3, .int .i64 b), (4, .fn f [])]) ⟨nx, os, wl, md⟩ =
  evCode C n T (FM 220 [(0, .vec V 0 N 4 lb), (1, .int .i64 a), (2, .int .i64 m), (3, .int .i64 b), (4, .fn f []), (18, .int .i64 mid), (19, .int .i64 ((mid : Int) + m)), (20, .int .i64 r)]) ⟨nx, os, wl, md⟩ := by
 have hv : (V + 1 ≤ nx) = True := eq_true (by omega)
 have hv' : (nx ≤ V) = False := eq_false (by omega)
 have w1 : IntKind.i64.wrap ((m : Int) - a) = (m : Int) - a := wrap_i64 (by omega) (by omega)
 have w2 : IntKind.i64.wrap ((b : Int) - m) = (b : Int) - m := wrap_i64 (by omega) (by omega)
 have e1 : ((m : Int) - a = 1) = False := eq_false (by omega)
 have e2 : ((b : Int) - m = 1) = False := eq_false (by omega)
 have hh := half_i (x := (a : Int) + (b : Int)) (q := mid) (by omega) (by omega) (by omega) (by omega)
 have w3 : IntKind.i64.wrap ((mid : Int) + m) = (mid : Int) + m := wrap_i64 (by omega) (by omega)
 have w4 : IntKind.i64.wrap ((mid : Int) + m - b) = (mid : Int) + m - b := wrap_i64 (by omega) (by omega)
 have w5 : IntKind.i64.wrap ((mid : Int) + m - 1) = (mid : Int) + m - 1 := wrap_i64 (by omega) (by omega)
 simp only [c118_m4] at lp
 by_cases hm : mid < m
 ·have hm' : ((mid : Int) < (m : Int)) = True := eq_true (by omega)
  rw [if_pos hm] at hs hr
  subst hs hr
  simp [-ldA, symH, c118_m4, hv, hv', hV, w1, w2, e1, e2, hh, w3, w4, w5, hm', hm, lp]
 ·have hm' : ((mid : Int) < (m : Int)) = False := eq_false (by omega)
  rw [if_neg hm] at hs hr
  subst hs hr
  simp [-ldA, symH, c118_m4, hv, hv', hV, w1, w2, e1, e2, hh, w3, w4, w5, hm', hm, lp]
instance : Inhabited Tm := ⟨.nl 0 0 []⟩
abbrev fs (l : List (Tm × Nat)) : List Tm := l.map (·.1)
def SymAt (C : Nat → List AV → Heap → Option (AV × Heap)) (f : Nat) (c : Tm → Tm → Int) (p : Tm → Prop) (nx V : Nat) (os : List AObj) (N lb s : Nat) : Prop :=
 ∀ (P B : List Tm) (u v : List (Tm × Nat)) (wl md a m b : Nat), (P ++ (fs u ++ (fs v ++ B))).length = N → (∀ y ∈ P ++ (fs u ++ (fs v ++ B)), p y) → u ≠ [] → v ≠ [] → Sd c u → Sd c v → (∀ x ∈ u, ∀ y ∈ v, x.2 < y.2) → u.length + v.length ≤ s →
   a = P.length → m = a + u.length → b = m + v.length →
   ∃ md' w, w.Perm (u ++ v) ∧ Sd c w ∧ C 118 [.vec V 0 N 4 lb, .int .i64 a, .int .i64 m, .int .i64 b, .fn f []] ⟨nx, Row os (nx - 1 - V) (P ++ (fs u ++ (fs v ++ B))), wl, md⟩ = some (.tuple [], ⟨nx, Row os (nx - 1 - V) (P ++ (fs w ++ B)), wl, md'⟩)
theorem get_in {P B : List Tm} {u : List (Tm × Nat)} {k a : Nat} {x : Tm × Nat} (h : u[k]? = some x) (ha : a = P.length) : (P ++ (fs u ++ B))[a + k]? = some x.1 := by
 have hk := (List.getElem?_eq_some_iff.1 h).1
 rw [ha, List.getElem?_append_right (by omega), Nat.add_sub_cancel_left, List.getElem?_append_left (by simpa using hk), List.getElem?_map, h]
 rfl
section
variable (ss : List KSpec) (n f : Nat) (c : Tm → Tm → Int) (o : Ord c) (p : Tm → Prop) (nx V : Nat) (os : List AObj) (hV : V < nx) (hos : nx - 1 - V < os.length) (h118 : lookF (ss ++ clones) 118 = []) (hC : CmpAt (evCall (envK ss) n) f c p nx V os)
 (N lb : Nat) (hN : N < 1000000000) (hn : N < n)
include o hV hos h118 hC hN hn
theorem sym_one (P B : List Tm) (x : Tm × Nat) (v : List (Tm × Nat)) (wl md a m b : Nat) (hl : (P ++ (fs [x] ++ (fs v ++ B))).length = N) (hp : ∀ y ∈ P ++ (fs [x] ++ (fs v ++ B)), p y) (hv : Sd c v) (ht : ∀ y ∈ v, x.2 < y.2)
 (ha : a = P.length) (hm : m = a + 1) (hb : b = m + v.length) :
 ∃ md' w, w.Perm ([x] ++ v) ∧ Sd c w ∧ evCall (envK ss) (n + 1) 118 [.vec V 0 N 4 lb, .int .i64 a, .int .i64 m, .int .i64 b, .fn f []] ⟨nx, Row os (nx - 1 - V) (P ++ (fs [x] ++ (fs v ++ B))), wl, md⟩ = some (.tuple [], ⟨nx, Row os (nx - 1 - V) (P ++ (fs w ++ B)), wl, md'⟩) := by
 have hlen : P.length + (1 + (v.length + B.length)) = N := by rw [← hl]; simp; omega
 generalize hL : P ++ (fs [x] ++ (fs v ++ B)) = L at *
 have hg : ∀ h, h < N → L[h]? = some (L.getD h default) := fun h hh => by rw [List.getD_eq_getElem?_getD, List.getElem?_eq_getElem (by omega)]; rfl
 have hpg : ∀ h, h < N → p (L.getD h default) := fun h hh => hp _ (by rw [List.getD_eq_getElem?_getD, List.getElem?_eq_getElem (by omega)]; exact List.getElem_mem _)
 obtain ⟨r, r1, r2, r3, r4, r5⟩ := c118_l0 (evCall (envK ss) n) n f c p nx V os hV hos hC N lb hN L (fun h => L.getD h default) hg hpg a (by omega) nx n m b (by omega) (by omega) (by omega)
 have gx : L.getD a default = x.1 := by
  have := get_in (P := P) (B := fs v ++ B) (u := [x]) (k := 0) (a := a) (x := x) rfl ha
  rw [hL, Nat.add_zero] at this
  rw [List.getD_eq_getElem?_getD, this]; rfl
 have gv : ∀ k y, v[k]? = some y → L.getD (m + k) default = y.1 := fun k y hk => by
  have := get_in (P := P ++ fs [x]) (B := B) (u := v) (k := k) (a := m) (x := y) hk (by simp; omega)
  rw [List.append_assoc, hL] at this
  rw [List.getD_eq_getElem?_getD, this]; rfl
 have ev : v = v.take (r - m) ++ v.drop (r - m) := (List.take_append_drop _ _).symm
 have lt : (v.take (r - m)).length = r - m := by simp; omega
 have hsd : Sd c (v.take (r - m) ++ x :: v.drop (r - m)) := by
  refine one_left o (by rw [← ev]; exact hv) (by rw [← ev]; exact ht) (fun y hy => ?_) fun y hy => ?_
  ·have hy := head_drop hy
   have := gv _ _ hy
   have hlt := (List.getElem?_eq_some_iff.1 hy).1
   rw [show m + (r - m) = r by omega] at this
   rcases r4 with r4 | r4
   ·omega
   ·rw [this, gx] at r4
    have := o.anti y.1 x.1
    have := o.anti x.1 y.1
    omega
  ·obtain ⟨k0, hy⟩ := last_take hy (by omega)
   have := gv _ _ hy
   rw [show m + (r - m - 1) = r - 1 by omega] at this
   rcases r3 with r3 | r3
   ·omega
   ·rw [this, gx] at r3
    exact r3
 have eL : L = P ++ (x.1 :: (fs (v.take (r - m)) ++ (fs (v.drop (r - m)) ++ B))) := by
  have e0 : fs v = fs (v.take (r - m)) ++ fs (v.drop (r - m)) := by rw [← List.map_append, ← ev]
  rw [← hL, e0, List.append_assoc]
  rfl
 obtain ⟨md', s1⟩ := c118_s1 (evCall (envK ss) n) n nx V os hV hos N lb hN (r : Int) x.1 (fs (v.take (r - m))) P (fs (v.drop (r - m)) ++ B) L n nx (a : Int) eL hl (by omega) (by rw [List.length_map, lt]; omega) (by rw [List.length_map, lt]; omega)
 have hv0 : (V + 1 ≤ nx) = True := eq_true (by omega)
 have hv' : (nx ≤ V) = False := eq_false (by omega)
 have w1 : IntKind.i64.wrap ((m : Int) - a) = 1 := by rw [wrap_i64 (by omega) (by omega)]; omega
 simp only [c118_m0] at r5
 simp only [c118_m1] at s1
 refine ⟨if md' < nx then min md md' else md, v.take (r - m) ++ x :: v.drop (r - m), ?_, hsd, ?_⟩
 ·refine List.perm_middle.trans ?_
  rw [← ev]
  exact List.Perm.refl _
 ·simp only [List.map_append, List.map_cons, List.append_assoc, List.cons_append]
  simp [-ldA, run118K, c118, c118_m0, c118_m1, hv0, hv', hV, h118, -lookF_cons, -clones, w1, r5, s1]
theorem sym_oneR (P B : List Tm) (x : Tm × Nat) (u : List (Tm × Nat)) (wl md a m b : Nat) (hl : (P ++ (fs u ++ (fs [x] ++ B))).length = N) (hp : ∀ y ∈ P ++ (fs u ++ (fs [x] ++ B)), p y) (hu : Sd c u) (ht : ∀ y ∈ u, y.2 < x.2) (hu1 : 1 < u.length)
 (ha : a = P.length) (hm : m = a + u.length) (hb : b = m + 1) :
 ∃ md' w, w.Perm (u ++ [x]) ∧ Sd c w ∧ evCall (envK ss) (n + 1) 118 [.vec V 0 N 4 lb, .int .i64 a, .int .i64 m, .int .i64 b, .fn f []] ⟨nx, Row os (nx - 1 - V) (P ++ (fs u ++ (fs [x] ++ B))), wl, md⟩ = some (.tuple [], ⟨nx, Row os (nx - 1 - V) (P ++ (fs w ++ B)), wl, md'⟩) := by
 have hlen : P.length + (u.length + (1 + B.length)) = N := by rw [← hl]; simp; omega
 generalize hL : P ++ (fs u ++ (fs [x] ++ B)) = L at *
 have hg : ∀ h, h < N → L[h]? = some (L.getD h default) := fun h hh => by rw [List.getD_eq_getElem?_getD, List.getElem?_eq_getElem (by omega)]; rfl
 have hpg : ∀ h, h < N → p (L.getD h default) := fun h hh => hp _ (by rw [List.getD_eq_getElem?_getD, List.getElem?_eq_getElem (by omega)]; exact List.getElem_mem _)
 obtain ⟨r, r1, r2, r3, r4, r5⟩ := c118_l2 (evCall (envK ss) n) n f c p nx V os hV hos hC N lb hN L (fun h => L.getD h default) hg hpg m (by omega) nx n a m (by omega) (by omega) (by omega)
 have gx : L.getD m default = x.1 := by
  have := get_in (P := P ++ fs u) (B := B) (u := [x]) (k := 0) (a := m) (x := x) rfl (by simp; omega)
  rw [List.append_assoc, hL, Nat.add_zero] at this
  rw [List.getD_eq_getElem?_getD, this]; rfl
 have gu : ∀ k y, u[k]? = some y → L.getD (a + k) default = y.1 := fun k y hk => by
  have := get_in (P := P) (B := fs [x] ++ B) (u := u) (k := k) (a := a) (x := y) hk ha
  rw [hL] at this
  rw [List.getD_eq_getElem?_getD, this]; rfl
 have eu : u = u.take (r - a) ++ u.drop (r - a) := (List.take_append_drop _ _).symm
 have lt : (u.take (r - a)).length = r - a := by simp; omega
 have ld : (u.drop (r - a)).length = u.length - (r - a) := by simp
 have hsd : Sd c (u.take (r - a) ++ x :: u.drop (r - a)) := by
  refine one_right o (by rw [← eu]; exact hu) (by rw [← eu]; exact ht) (fun y hy => ?_) fun y hy => ?_
  ·obtain ⟨k0, hy⟩ := last_take hy (by omega)
   have := gu _ _ hy
   rw [show a + (r - a - 1) = r - 1 by omega] at this
   rcases r3 with r3 | r3
   ·omega
   ·rw [this, gx] at r3
    have := o.anti y.1 x.1
    have := o.anti x.1 y.1
    omega
  ·have hy := head_drop hy
   have := gu _ _ hy
   have hlt := (List.getElem?_eq_some_iff.1 hy).1
   rw [show a + (r - a) = r by omega] at this
   rcases r4 with r4 | r4
   ·omega
   ·rw [this, gx] at r4
    exact Classical.not_not.1 r4
 have e0 : fs u = fs (u.take (r - a)) ++ fs (u.drop (r - a)) := by rw [← List.map_append, ← eu]
 have eL : L = (P ++ fs (u.take (r - a))) ++ ((fs (u.drop (r - a))).reverse.reverse ++ (x.1 :: B)) := by
  rw [← hL, e0, List.reverse_reverse]
  simp only [List.append_assoc]
  rfl
 obtain ⟨md', s1⟩ := c118_s3 (evCall (envK ss) n) n nx V os hV hos N lb hN (r : Int) x.1 (fs (u.drop (r - a))).reverse (P ++ fs (u.take (r - a))) B L n nx (m : Int) eL hl (by rw [List.length_append, List.length_map, lt]; omega) (by rw [List.length_append, List.length_map, lt, List.length_reverse, List.length_map, ld]; omega) (by rw [List.length_reverse, List.length_map, ld]; omega)
 have hv0 : (V + 1 ≤ nx) = True := eq_true (by omega)
 have hv' : (nx ≤ V) = False := eq_false (by omega)
 have w1 : IntKind.i64.wrap ((m : Int) - a) = (u.length : Int) := by rw [wrap_i64 (by omega) (by omega)]; omega
 have w3 : ((u.length : Int) = 1) = False := eq_false (by omega)
 have w4 : (u.length = 1) = False := eq_false (by omega)
 have w2 : IntKind.i64.wrap ((b : Int) - m) = 1 := by rw [wrap_i64 (by omega) (by omega)]; omega
 rw [List.reverse_reverse] at s1
 simp only [c118_m2] at r5
 simp only [c118_m3] at s1
 refine ⟨if md' < nx then min md md' else md, u.take (r - a) ++ x :: u.drop (r - a), ?_, hsd, ?_⟩
 ·refine List.perm_middle.trans ?_
  rw [← eu]
  exact (List.perm_append_singleton x u).symm
 ·simp only [List.map_append, List.map_cons, List.append_assoc, List.cons_append]
  simp only [List.append_assoc] at s1
  simp [-ldA, run118K, c118, c118_m2, c118_m3, hv0, hv', hV, h118, -lookF_cons, -clones, w1, w2, w3, w4, r5, s1]
end
theorem sd_take {c : Tm → Tm → Int} {l : List (Tm × Nat)} (h : Sd c l) (k : Nat) : Sd c (l.take k) := List.Pairwise.sublist (List.take_sublist k l) h
theorem sd_drop {c : Tm → Tm → Int} {l : List (Tm × Nat)} (h : Sd c l) (k : Nat) : Sd c (l.drop k) := List.Pairwise.sublist (List.drop_sublist k l) h
section
variable (ss : List KSpec) (n f : Nat) (c : Tm → Tm → Int) (o : Ord c) (p : Tm → Prop) (nx V : Nat) (os : List AObj) (hV : V < nx) (hos : nx - 1 - V < os.length) (h118 : lookF (ss ++ clones) 118 = []) (hC : CmpAt (evCall (envK ss) n) f c p nx V os)
 (N lb : Nat) (hN : N < 1000000000) (hn : N < n) (hR : RotAt (evCall (envK ss) n) nx V os N lb f)
include o hV hos h118 hC hN hn hR
theorem sym_main (S : Nat) (hS : SymAt (evCall (envK ss) n) f c p nx V os N lb S) (P B : List Tm) (u v : List (Tm × Nat)) (wl md a m b : Nat) (hl : (P ++ (fs u ++ (fs v ++ B))).length = N) (hp : ∀ y ∈ P ++ (fs u ++ (fs v ++ B)), p y) (hu : Sd c u) (hv : Sd c v) (ht : ∀ x ∈ u, ∀ y ∈ v, x.2 < y.2)
 (hu1 : 1 < u.length) (hv1 : 1 < v.length) (hSs : u.length + v.length ≤ S + 1) (ha : a = P.length) (hm : m = a + u.length) (hb : b = m + v.length) :
 ∃ md' w, w.Perm (u ++ v) ∧ Sd c w ∧ evCall (envK ss) (n + 1) 118 [.vec V 0 N 4 lb, .int .i64 a, .int .i64 m, .int .i64 b, .fn f []] ⟨nx, Row os (nx - 1 - V) (P ++ (fs u ++ (fs v ++ B))), wl, md⟩ = some (.tuple [], ⟨nx, Row os (nx - 1 - V) (P ++ (fs w ++ B)), wl, md'⟩) := by
 have hlen : P.length + (u.length + (v.length + B.length)) = N := by rw [← hl]; simp
 obtain ⟨mid, hm1, hm2⟩ : ∃ q : Nat, 2 * q ≤ a + b ∧ a + b < 2 * q + 2 := ⟨(a + b) / 2, by omega, by omega⟩
 generalize hL : P ++ (fs u ++ (fs v ++ B)) = L at *
 have hg : ∀ h, h < N → L[h]? = some (L.getD h default) := fun h hh => by rw [List.getD_eq_getElem?_getD, List.getElem?_eq_getElem (by omega)]; rfl
 have hpg : ∀ h, h < N → p (L.getD h default) := fun h hh => hp _ (by rw [List.getD_eq_getElem?_getD, List.getElem?_eq_getElem (by omega)]; exact List.getElem_mem _)
 have gu : ∀ k y, u[k]? = some y → L.getD (a + k) default = y.1 := fun k y hk => by
  have := get_in (P := P) (B := fs v ++ B) (u := u) (k := k) (a := a) (x := y) hk ha
  rw [hL] at this
  rw [List.getD_eq_getElem?_getD, this]; rfl
 have gv : ∀ k y, v[k]? = some y → L.getD (m + k) default = y.1 := fun k y hk => by
  have := get_in (P := P ++ fs u) (B := B) (u := v) (k := k) (a := m) (x := y) hk (by simp; omega)
  rw [List.append_assoc, hL] at this
  rw [List.getD_eq_getElem?_getD, this]; rfl
 obtain ⟨i0, hi0⟩ : ∃ i, i = if mid < m then mid + m - b else a := ⟨_, rfl⟩
 obtain ⟨j0, hj0⟩ : ∃ j, j = if mid < m then mid else m := ⟨_, rfl⟩
 have hij : i0 ≤ j0 ∧ (j0 ≤ mid + m - 1 + 1 ∧ mid + m - 1 < N + i0) ∧ j0 ≤ N := by
  split at hi0
  ·rename_i h
   rw [if_pos h] at hj0
   omega
  ·rename_i h
   rw [if_neg h] at hj0
   omega
 obtain ⟨s, s1, s2, s3, s4, s5⟩ := c118_l4 (evCall (envK ss) n) n f c p nx V os hV hos hC N lb hN L (fun h => L.getD h default) hg hpg a m b mid ((mid : Int) + m) (mid + m - 1) nx n i0 j0 hij.1 hij.2.1 hij.2.2 (by omega)
 obtain ⟨k1, k2, k3, k4, hsep⟩ := search_ok o (fun h => L.getD h default) hm hb gu gv hu hv ht hm1 hm2 hi0 hj0 s1 s2 s3 s4
 obtain ⟨e, he⟩ : ∃ e, e = mid + m - s := ⟨_, rfl⟩
 rw [← he] at k3 k4 hsep
 -- the parts
 obtain ⟨u1, hu1e⟩ : ∃ l, l = u.take (s - a) := ⟨_, rfl⟩
 obtain ⟨u2, hu2e⟩ : ∃ l, l = u.drop (s - a) := ⟨_, rfl⟩
 obtain ⟨v1, hv1e⟩ : ∃ l, l = v.take (e - m) := ⟨_, rfl⟩
 obtain ⟨v2, hv2e⟩ : ∃ l, l = v.drop (e - m) := ⟨_, rfl⟩
 have eu : u = u1 ++ u2 := by rw [hu1e, hu2e]; exact (List.take_append_drop _ _).symm
 have ev : v = v1 ++ v2 := by rw [hv1e, hv2e]; exact (List.take_append_drop _ _).symm
 have lu1 : u1.length = s - a := by rw [hu1e]; simp; omega
 have lu2 : u2.length = m - s := by rw [hu2e]; simp; omega
 have lv1 : v1.length = e - m := by rw [hv1e]; simp; omega
 have lv2 : v2.length = b - e := by rw [hv2e]; simp; omega
 have du1 : Sd c u1 := by rw [hu1e]; exact sd_take hu _
 have du2 : Sd c u2 := by rw [hu2e]; exact sd_drop hu _
 have dv1 : Sd c v1 := by rw [hv1e]; exact sd_take hv _
 have dv2 : Sd c v2 := by rw [hv2e]; exact sd_drop hv _
 rw [← hu1e, ← hu2e, ← hv1e, ← hv2e] at hsep
 have eL : L = (P ++ fs u1) ++ (fs u2 ++ (fs v1 ++ (fs v2 ++ B))) := by rw [← hL, eu, ev]; simp
 have hmem : ∀ {y : Tm}, (y ∈ P ∨ y ∈ fs u1 ∨ y ∈ fs u2 ∨ y ∈ fs v1 ∨ y ∈ fs v2 ∨ y ∈ B) → p y := fun {y} hy => hp y (by
  rw [eL]
  simp only [List.mem_append]
  rcases hy with h | h | h | h | h | h
  ·exact .inl (.inl h)
  ·exact .inl (.inr h)
  ·exact .inr (.inl h)
  ·exact .inr (.inr (.inl h))
  ·exact .inr (.inr (.inr (.inl h)))
  ·exact .inr (.inr (.inr (.inr h))))
 -- rotation
 obtain ⟨md1, q1⟩ : ∃ md1, if (s : Int) < m ∧ (m : Int) < e then evCall (envK ss) n 151 [.vec V 0 N 4 lb, .int .i64 s, .int .i64 m, .int .i64 e, .fn f []] ⟨nx, Row os (nx - 1 - V) L, nx, nx⟩ = some (.tuple [], ⟨nx, Row os (nx - 1 - V) (P ++ (fs u1 ++ (fs v1 ++ (fs u2 ++ (fs v2 ++ B))))), nx, md1⟩)
  else (⟨nx, Row os (nx - 1 - V) (P ++ (fs u1 ++ (fs v1 ++ (fs u2 ++ (fs v2 ++ B))))), nx, md1⟩ : Heap) = ⟨nx, Row os (nx - 1 - V) L, nx, nx⟩ := by
  by_cases hc : (s : Int) < m ∧ (m : Int) < e
  ·obtain ⟨md1, h⟩ := hR (P ++ fs u1) (fs u2) (fs v1) (fs v2 ++ B) nx nx (s : Int) (m : Int) (e : Int) (by rw [← eL]; exact hl) (fun h => by have := congrArg List.length h; simp [lu2] at this; omega) (fun h => by have := congrArg List.length h; simp [lv1] at this; omega) (by simp [lu1]; omega) (by simp [lu1, lu2]; omega) (by simp [lu1, lu2, lv1]; omega)
   refine ⟨md1, ?_⟩
   rw [if_pos hc, eL, h]
   simp
  ·refine ⟨nx, ?_⟩
   rw [if_neg hc, eL]
   by_cases h2 : m ≤ s
   ·have : u2 = [] := List.eq_nil_of_length_eq_zero (by omega)
    rw [this]; simp
   ·have : v1 = [] := List.eq_nil_of_length_eq_zero (by omega)
    rw [this]; simp
 -- left
 obtain ⟨md2, w1, p1, d1, q2⟩ : ∃ md2 w1, w1.Perm (u1 ++ v1) ∧ Sd c w1 ∧ if (a : Int) < s ∧ (s : Int) < mid then evCall (envK ss) n 118 [.vec V 0 N 4 lb, .int .i64 a, .int .i64 s, .int .i64 mid, .fn f []] ⟨nx, Row os (nx - 1 - V) (P ++ (fs u1 ++ (fs v1 ++ (fs u2 ++ (fs v2 ++ B))))), nx, md1⟩ = some (.tuple [], ⟨nx, Row os (nx - 1 - V) (P ++ (fs w1 ++ (fs u2 ++ (fs v2 ++ B)))), nx, md2⟩)
  else (⟨nx, Row os (nx - 1 - V) (P ++ (fs w1 ++ (fs u2 ++ (fs v2 ++ B)))), nx, md2⟩ : Heap) = ⟨nx, Row os (nx - 1 - V) (P ++ (fs u1 ++ (fs v1 ++ (fs u2 ++ (fs v2 ++ B))))), nx, md1⟩ := by
  by_cases hc : (a : Int) < s ∧ (s : Int) < mid
  ·obtain ⟨md2, w1, h1, h2, h3⟩ := hS P (fs u2 ++ (fs v2 ++ B)) u1 v1 nx md1 a s mid (by rw [eL] at hl; simp at hl ⊢; omega) (fun y hy => hmem (by
    simp only [List.mem_append] at hy
    rcases hy with h | h | h | h | h | h
    ·exact .inl h
    ·exact .inr (.inl h)
    ·exact .inr (.inr (.inr (.inl h)))
    ·exact .inr (.inr (.inl h))
    ·exact .inr (.inr (.inr (.inr (.inl h))))
    ·exact .inr (.inr (.inr (.inr (.inr h)))))) (fun h => by rw [h] at lu1; simp at lu1; omega) (fun h => by rw [h] at lv1; simp at lv1; omega) du1 dv1 (fun x hx y hy => ht x (by rw [eu]; simp [hx]) y (by rw [ev]; simp [hy])) (by omega) ha (by omega) (by omega)
   refine ⟨md2, w1, h1, h2, ?_⟩
   rw [if_pos hc, h3]
  ·refine ⟨md1, u1 ++ v1, List.Perm.refl _, ?_, ?_⟩
   ·by_cases h2 : s ≤ a
    ·have : u1 = [] := List.eq_nil_of_length_eq_zero (by omega)
     rw [this]; exact dv1
    ·have : v1 = [] := List.eq_nil_of_length_eq_zero (by omega)
     rw [this, List.append_nil]; exact du1
   ·rw [if_neg hc]; simp
 have lw1 : w1.length = mid - a := by rw [p1.length_eq, List.length_append]; omega
 -- right
 obtain ⟨md3, w2, p2, d2, q3⟩ : ∃ md3 w2, w2.Perm (u2 ++ v2) ∧ Sd c w2 ∧ if (mid : Int) < e ∧ (e : Int) < b then evCall (envK ss) n 118 [.vec V 0 N 4 lb, .int .i64 mid, .int .i64 e, .int .i64 b, .fn f []] ⟨nx, Row os (nx - 1 - V) (P ++ (fs w1 ++ (fs u2 ++ (fs v2 ++ B)))), nx, md2⟩ = some (.tuple [], ⟨nx, Row os (nx - 1 - V) (P ++ (fs w1 ++ (fs w2 ++ B))), nx, md3⟩)
  else (⟨nx, Row os (nx - 1 - V) (P ++ (fs w1 ++ (fs w2 ++ B))), nx, md3⟩ : Heap) = ⟨nx, Row os (nx - 1 - V) (P ++ (fs w1 ++ (fs u2 ++ (fs v2 ++ B)))), nx, md2⟩ := by
  by_cases hc : (mid : Int) < e ∧ (e : Int) < b
  ·obtain ⟨md3, w2, h1, h2, h3⟩ := hS (P ++ fs w1) B u2 v2 nx md2 mid e b (by rw [eL] at hl; simp at hl ⊢; omega) (fun y hy => hmem (by
    simp only [List.mem_append] at hy
    rcases hy with (h | h) | h | h | h
    ·exact .inl h
    ·obtain ⟨z, hz, rfl⟩ := List.mem_map.1 h
     rcases List.mem_append.1 (p1.mem_iff.1 hz) with h | h
     ·exact .inr (.inl (List.mem_map_of_mem h))
     ·exact .inr (.inr (.inr (.inl (List.mem_map_of_mem h))))
    ·exact .inr (.inr (.inl h))
    ·exact .inr (.inr (.inr (.inr (.inl h))))
    ·exact .inr (.inr (.inr (.inr (.inr h)))))) (fun h => by rw [h] at lu2; simp at lu2; omega) (fun h => by rw [h] at lv2; simp at lv2; omega) du2 dv2 (fun x hx y hy => ht x (by rw [eu]; simp [hx]) y (by rw [ev]; simp [hy])) (by omega) (by simp [lw1]; omega) (by omega) (by omega)
   refine ⟨md3, w2, h1, h2, ?_⟩
   rw [List.append_assoc, List.append_assoc] at h3
   rw [if_pos hc, h3]
  ·refine ⟨md2, u2 ++ v2, List.Perm.refl _, ?_, ?_⟩
   ·by_cases h2 : e ≤ mid
    ·have : u2 = [] := List.eq_nil_of_length_eq_zero (by omega)
     rw [this]; exact dv2
    ·have : v2 = [] := List.eq_nil_of_length_eq_zero (by omega)
     rw [this, List.append_nil]; exact du2
   ·rw [if_neg hc]; simp
 -- together
 have hi0' : (i0 : Int) = if mid < m then (mid : Int) + m - b else a := by
  split at hi0
  ·rename_i h; rw [if_pos h]; omega
  ·rename_i h; rw [if_neg h]; omega
 have hj0' : (j0 : Int) = if mid < m then (mid : Int) else m := by
  split at hj0
  ·rename_i h; rw [if_pos h]; omega
  ·rename_i h; rw [if_neg h]; omega
 rw [show ((mid + m - 1 : Nat) : Int) = (mid : Int) + m - 1 by omega] at s5
 have hrun := symH_run (.seq sym4 symE) (evCall (envK ss) n) n f nx V N lb hV (Row os (nx - 1 - V) L) nx nx a m b mid i0 j0 s (by omega) (by omega) (by omega) (by omega) (by omega) hi0' hj0' s5
 have w5 : IntKind.i64.wrap ((mid : Int) + m - s) = (e : Int) := by rw [wrap_i64 (by omega) (by omega)]; omega
 obtain ⟨FR', hE⟩ := symE_run (evCall (envK ss) n) n f [(24, .int .i64 e), (177, .int .i64 e), (176, .int .i64 s), (175, .int .i64 ((mid : Int) + m)), (0, .vec V 0 N 4 lb), (1, .int .i64 a), (2, .int .i64 m), (3, .int .i64 b), (4, .fn f []), (18, .int .i64 mid), (19, .int .i64 ((mid : Int) + m)), (20, .int .i64 s)] ⟨nx, Row os (nx - 1 - V) L, nx, nx⟩ (.vec V 0 N 4 lb) a m b s mid e rfl rfl rfl rfl rfl rfl rfl rfl q1 q2 q3
 have h4 : evCode (evCall (envK ss) n) n (.seq sym4 symE) (FM 220 [(0, .vec V 0 N 4 lb), (1, .int .i64 a), (2, .int .i64 m), (3, .int .i64 b), (4, .fn f []), (18, .int .i64 mid), (19, .int .i64 ((mid : Int) + m)), (20, .int .i64 s)]) ⟨nx, Row os (nx - 1 - V) L, nx, nx⟩ = some (.normal, FM 220 FR', ⟨nx, Row os (nx - 1 - V) (P ++ (fs w1 ++ (fs w2 ++ B))), nx, md3⟩) := by
  simp [sym4, w5]
  exact hE
 rw [h4] at hrun
 have hv0 : (V + 1 ≤ nx) = True := eq_true (by omega)
 have hv' : (nx ≤ V) = False := eq_false (by omega)
 refine ⟨if md3 < nx then min md md3 else md, w1 ++ w2, ?_, ?_, ?_⟩
 ·refine (p1.append p2).trans ?_
  rw [eu, ev, List.append_assoc, List.append_assoc]
  refine List.Perm.append_left _ ?_
  rw [← List.append_assoc, ← List.append_assoc]
  exact List.Perm.append_right _ List.perm_append_comm
 ·refine List.pairwise_append.2 ⟨d1, d2, fun x hx y hy => hsep x (p1.mem_iff.1 hx) y (p2.mem_iff.1 hy)⟩
 ·simp only [List.map_append, List.append_assoc]
  simp [-ldA, run118K, c118_eq, hv0, hv', hV, h118, -lookF_cons, -clones, hrun]
end
theorem sym_all (ss : List KSpec) (f : Nat) (c : Tm → Tm → Int) (o : Ord c) (p : Tm → Prop) (nx V : Nat) (os : List AObj) (hV : V < nx) (hos : nx - 1 - V < os.length) (h118 : lookF (ss ++ clones) 118 = []) (N lb : Nat) (hN : N < 1000000000)
 (hC : ∀ n, N < n → CmpAt (evCall (envK ss) n) f c p nx V os) (hR : ∀ n, N + 2 < n → RotAt (evCall (envK ss) n) nx V os N lb f) : ∀ (S n : Nat), N + 3 + S < n → SymAt (evCall (envK ss) n) f c p nx V os N lb S
 | 0, n, _ => fun P B u v wl md a m b hl hp hu hv _ _ _ hS _ _ _ => by
   have := List.length_pos_iff.2 hu
   omega
 | S + 1, n + 1, hn => fun P B u v wl md a m b hl hp hu hv du dv ht hS ha hm hb => by
   match u, v, hu, hv with
   | [x], y :: v, _, _ => exact sym_one ss n f c o p nx V os hV hos h118 (hC n (by omega)) N lb hN (by omega) P B x (y :: v) wl md a m b hl hp dv (fun z hz => ht x (by simp) z hz) ha (by simpa using hm) hb
   | x :: z :: u, [y], _, _ => exact sym_oneR ss n f c o p nx V os hV hos h118 (hC n (by omega)) N lb hN (by omega) P B y (x :: z :: u) wl md a m b hl hp du (fun q hq => ht q hq y (by simp)) (by simp) ha hm (by simpa using hb)
   | x :: z :: u, y :: q :: v, _, _ => exact sym_main ss n f c o p nx V os hV hos h118 (hC n (by omega)) N lb hN (by omega) (hR n (by omega)) S (sym_all ss f c o p nx V os hV hos h118 N lb hN hC hR S n (by omega)) P B (x :: z :: u) (y :: q :: v) wl md a m b hl hp du dv ht (by simp) (by simp) hS ha hm hb
end Go.Proofs.YtlakiipofcibhaaGreatDoor

namespace Go.Proofs.YtlakiipofcibhaaGreatDoor
open Go Sz Srt
abbrev Up (l : List (Tm × Nat)) : Prop := l.Pairwise fun a b => a.2 < b.2
theorem c82_l0 (C : Nat → List AV → Heap → Option (AV × Heap)) (n f : Nat) (c : Tm → Tm → Int) (o : Ord c) (p : Tm → Prop) (nx V : Nat) (os : List AObj) (hV : V < nx)
 (N lb : Nat) (hN : N < 1000000000) (hI : InsAt C f c p nx V os N lb) : ∀ (k : Nat) (T : List (Tm × Nat)) (P L : List Tm) (m md : Nat) (a b : Int), T.length ≤ k → L = P ++ fs T → L.length = N → (∀ y ∈ fs T, p y) → Up T → a = P.length → b = P.length + 20 → k < m →
 ∃ md' T1 T3 W, T = T1 ++ T3 ∧ T3.length < 20 ∧ Ful c 20 T1 W ∧ aft nx nx (loopH (evCode C n c82_b0) c82_m0 nx m (c82_f0 (.vec V 0 N 4 lb) (.int .i64 N) (.fn f []) (.int .i64 20) (.int .i64 a) (.int .i64 b)) ⟨nx, Row os (nx - 1 - V) L, nx, md⟩) =
   some (.exit 0, FM 63 [(0, .vec V 0 N 4 lb), (1, .int .i64 N), (2, .fn f []), (6, .int .i64 20), (7, .int .i64 (a + W.length))], ⟨nx, Row os (nx - 1 - V) (P ++ (fs W ++ fs T3)), nx, md'⟩) := by
 intro k
 induction k with
 | zero =>
   intro T P L m md a b hT e hl hp hup ha hb hk
   have : T = [] := List.eq_nil_of_length_eq_zero (by omega)
   subst this
   obtain ⟨m, rfl⟩ : ∃ q, m = q + 1 := ⟨m - 1, by omega⟩
   have hlen : P.length = N := by rw [← hl, e]; simp
   refine ⟨md, [], [], [], rfl, by simp, .nil, ?_⟩
   have hv : (V + 1 ≤ nx) = True := eq_true (by omega)
   have hv' : (nx ≤ V) = False := eq_false (by omega)
   have c1 : (b ≤ (N : Int)) = False := eq_false (by omega)
   rw [loopH_succ]
   simp [-ldA, c82_b0, hv, hv', hV, c1, e]
 | succ k ih =>
   intro T P L m md a b hT e hl hp hup ha hb hk
   obtain ⟨m, rfl⟩ : ∃ q, m = q + 1 := ⟨m - 1, by omega⟩
   have hlen : P.length + T.length = N := by rw [← hl, e]; simp
   have hv : (V + 1 ≤ nx) = True := eq_true (by omega)
   have hv' : (nx ≤ V) = False := eq_false (by omega)
   by_cases hb2 : 20 ≤ T.length
   ·have eT : T = T.take 20 ++ T.drop 20 := (List.take_append_drop _ _).symm
    have l1 : (T.take 20).length = 20 := by simp; omega
    have l2 : (T.drop 20).length = T.length - 20 := by simp
    generalize T.take 20 = T1 at *
    generalize T.drop 20 = T2 at *
    subst eT
    have hup' := List.pairwise_append.1 hup
    have hs := isort_srt o T1 hup'.1
    have hmap : isort c (fs T1) = fs (isort (cT c) T1) := (isort_map T1).symm
    obtain ⟨md1, hins⟩ := hI P (fs T1) (fs T2) nx md (by rw [← hl, e]; simp) (fun y hy => hp y (by simp only [List.map_append, List.mem_append]; exact .inl hy))
    rw [hmap] at hins
    have l3 : (isort (cT c) T1).length = 20 := by rw [isort_len, l1]
    obtain ⟨md2, T1', T3, W, q1, q2, q3, q4⟩ := ih T2 (P ++ fs (isort (cT c) T1)) _ m md1 (a + 20) (b + 20) (by omega) rfl (by simp [l3]; omega) (fun y hy => hp y (by simp only [List.map_append, List.mem_append]; exact .inr hy)) hup'.2.1 (by simp [l3]; omega) (by simp [l3]; omega) (by omega)
    refine ⟨md2, T1 ++ T1', T3, isort (cT c) T1 ++ W, by rw [q1, List.append_assoc], q2, .more l1 hs.1 hs.2 q3, ?_⟩
    have c1 : (b ≤ (N : Int)) = True := eq_true (by omega)
    have w1 : IntKind.i64.wrap (b + 20) = b + 20 := wrap_i64 (by omega) (by omega)
    have eab : a + 20 = b := by omega
    rw [show ((P.length + (fs T1).length : Nat) : Int) = b by simp [l1]; omega, show (P.length : Int) = a by omega, show P ++ (fs T1 ++ fs T2) = L by rw [e]; simp] at hins
    rw [eab] at q4
    simp only [c82_m0] at q4
    rw [loopH_succ]
    simp only [List.append_assoc] at q4
    rw [show a + ((isort (cT c) T1 ++ W).length : Nat) = b + W.length by rw [List.length_append, l3]; omega]
    simp [-ldA, c82_b0, c82_m0, hv, hv', hV, c1, w1, hins, -List.map_map]
    exact q4
   ·refine ⟨md, [], T, [], rfl, by omega, .nil, ?_⟩
    have c1 : (b ≤ (N : Int)) = False := eq_false (by omega)
    rw [loopH_succ]
    simp [-ldA, c82_b0, hv, hv', hV, c1, e]
theorem c82_l1 (C : Nat → List AV → Heap → Option (AV × Heap)) (n f : Nat) (c : Tm → Tm → Int) (o : Ord c) (p : Tm → Prop) (nx V : Nat) (os : List AObj) (hV : V < nx)
 (N lb : Nat) (hN : N < 1000000000) (hS : SymAt C f c p nx V os N lb N) (bs : Nat) (hbs : 0 < bs) (hbN : bs < N) : ∀ (k : Nat) (T W : List (Tm × Nat)) (P L : List Tm) (m md : Nat) (a b : Int), T.length ≤ k → L = P ++ fs W → L.length = N → (∀ y ∈ L, p y) → Up T → Blk c bs T W → a = P.length → b = P.length + 2 * bs → k < m →
 ∃ md' T1 T3 W1 W3, T = T1 ++ T3 ∧ T3.length < 2 * bs ∧ Ful c (2 * bs) T1 W1 ∧ Blk c bs T3 W3 ∧ aft nx nx (loopH (evCode C n c82_b1) c82_m1 nx m (c82_f1 (.vec V 0 N 4 lb) (.int .i64 N) (.fn f []) (.int .i64 bs) (.int .i64 a) (.int .i64 b)) ⟨nx, Row os (nx - 1 - V) L, nx, md⟩) =
   some (.exit 4, FM 63 [(0, .vec V 0 N 4 lb), (1, .int .i64 N), (2, .fn f []), (6, .int .i64 bs), (7, .int .i64 (a + W1.length))], ⟨nx, Row os (nx - 1 - V) (P ++ (fs W1 ++ fs W3)), nx, md'⟩) := by
 intro k
 induction k with
 | zero =>
   intro T W P L m md a b hT e hl hp hup hB ha hb hk
   have hTe : T = [] := List.eq_nil_of_length_eq_zero (by omega)
   subst hTe
   have hWe : W = [] := List.eq_nil_of_length_eq_zero hB.len
   subst hWe
   obtain ⟨m, rfl⟩ : ∃ q, m = q + 1 := ⟨m - 1, by omega⟩
   have hlen : P.length = N := by rw [← hl, e]; simp
   refine ⟨md, [], [], [], [], rfl, by simp; omega, .nil, hB, ?_⟩
   have hv : (V + 1 ≤ nx) = True := eq_true (by omega)
   have hv' : (nx ≤ V) = False := eq_false (by omega)
   have c1 : (b ≤ (N : Int)) = False := eq_false (by omega)
   rw [loopH_succ]
   simp [-ldA, c82_b1, hv, hv', hV, c1, e]
 | succ k ih =>
   intro T W P L m md a b hT e hl hp hup hB ha hb hk
   obtain ⟨m, rfl⟩ : ∃ q, m = q + 1 := ⟨m - 1, by omega⟩
   have hWT := hB.len
   have hlen : P.length + T.length = N := by rw [← hl, e]; simp [hWT]
   have hv : (V + 1 ≤ nx) = True := eq_true (by omega)
   have hv' : (nx ≤ V) = False := eq_false (by omega)
   by_cases hb2 : 2 * bs ≤ T.length
   ·obtain ⟨T1, R, W1, WR, rfl, rfl, l1, d1, p1, hB1⟩ := hB.split1 (by omega)
    rw [List.length_append] at hb2 hT
    obtain ⟨T2, T3, W2, W3, rfl, rfl, l2, d2, p2, hB2⟩ : ∃ T2 T3 W2 W3, R = T2 ++ T3 ∧ WR = W2 ++ W3 ∧ T2.length = bs ∧ Sd c W2 ∧ W2.Perm T2 ∧ Blk c bs T3 W3 := by
     by_cases h : bs < R.length
     ·exact hB1.split1 h
     ·exact ⟨R, [], WR, [], by simp, by simp, by omega, hB1.small (by omega), hB1.perm, .last (by simp) (by simp [Sd]) (List.Perm.refl _)⟩
    have lw1 := p1.length_eq
    have lw2 := p2.length_eq
    have lw3 := hB2.len
    have hup' := List.pairwise_append.1 hup
    have hup2 := List.pairwise_append.1 hup'.2.1
    obtain ⟨a', rfl⟩ : ∃ q : Nat, a = (q : Int) := ⟨P.length, ha⟩
    obtain ⟨b', rfl⟩ : ∃ q : Nat, b = (q : Int) := ⟨P.length + 2 * bs, by omega⟩
    simp only [List.length_append] at hlen
    obtain ⟨md1, w, pw, dw, hcall⟩ := hS P (fs W3) W1 W2 nx md a' (a' + bs) b' (by rw [← hl, e]; simp) (fun y hy => hp y (by rw [e]; simpa using hy)) (fun h => by rw [h] at lw1; simp at lw1; omega) (fun h => by rw [h] at lw2; simp at lw2; omega) d1 d2 (fun x hx y hy => hup'.2.2 x (p1.mem_iff.1 hx) y (by simp [p2.mem_iff.1 hy])) (by omega) (by omega) (by omega) (by omega)
    have lw : w.length = 2 * bs := by rw [pw.length_eq, List.length_append]; omega
    obtain ⟨md2, Ta, Tb, Wa, Wb, q1, q2, q3, q4, q5⟩ := ih T3 W3 (P ++ fs w) _ m md1 (b' : Int) ((b' : Int) + 2 * bs) (by rw [List.length_append] at hT; omega) rfl (by simp [lw]; omega) (fun y hy => hp y (by
     rw [e]
     simp only [List.mem_append, List.map_append] at hy ⊢
     rcases hy with (h | h) | h
     ·exact .inl h
     ·obtain ⟨z, hz, rfl⟩ := List.mem_map.1 h
      rcases List.mem_append.1 (pw.mem_iff.1 hz) with h | h
      ·exact .inr (.inl (List.mem_map_of_mem h))
      ·exact .inr (.inr (.inl (List.mem_map_of_mem h)))
     ·exact .inr (.inr (.inr h)))) hup2.2.1 hB2 (by simp [lw]; omega) (by simp [lw]; omega) (by omega)
    refine ⟨md2, (T1 ++ T2) ++ Ta, Tb, w ++ Wa, Wb, by rw [q1]; simp, q2, .more (by simp; omega) dw (pw.trans (p1.append p2)) q3, q4, ?_⟩
    have c1 : ((b' : Int) ≤ (N : Int)) = True := eq_true (by omega)
    have c1' : (b' ≤ N) = True := eq_true (by omega)
    have w1 : IntKind.i64.wrap ((a' : Int) + bs) = (a' : Int) + bs := wrap_i64 (by omega) (by omega)
    have w2 : IntKind.i64.wrap (2 * (bs : Int)) = 2 * (bs : Int) := wrap_i64 (by omega) (by omega)
    have w3 : IntKind.i64.wrap ((b' : Int) + 2 * bs) = (b' : Int) + 2 * bs := wrap_i64 (by omega) (by omega)
    rw [show P ++ (fs W1 ++ (fs W2 ++ fs W3)) = L by rw [e]; simp, Int.natCast_add] at hcall
    simp only [c82_m1, List.append_assoc] at q5
    rw [loopH_succ]
    rw [show (a' : Int) + ((w ++ Wa).length : Nat) = (b' : Int) + Wa.length by rw [List.length_append, lw]; omega]
    simp [-ldA, c82_b1, c82_m1, hv, hv', hV, c1, c1', w1, w2, w3, hcall, -List.map_map]
    exact q5
   ·refine ⟨md, [], T, [], W, rfl, by omega, .nil, hB, ?_⟩
    have c1 : (b ≤ (N : Int)) = False := eq_false (by omega)
    rw [loopH_succ]
    simp [-ldA, c82_b1, hv, hv', hV, c1, e]
end Go.Proofs.YtlakiipofcibhaaGreatDoor

namespace Go.Proofs.YtlakiipofcibhaaGreatDoor
open Go Sz Srt
attribute [local simp] evCall_specK callS_nilK callS_oneFK spK_sK spK_nK frK_sK frK_nK evB_fmK
theorem fs_app (a b : List (Tm × Nat)) : fs (a ++ b) = fs a ++ fs b := List.map_append
theorem c82_l2 (C : Nat → List AV → Heap → Option (AV × Heap)) (n f : Nat) (c : Tm → Tm → Int) (o : Ord c) (p : Tm → Prop) (nx V : Nat) (os : List AObj) (hV : V < nx)
 (N lb : Nat) (hN : N < 100000000) (hn : N < n) (hS : SymAt C f c p nx V os N lb N) (T : List (Tm × Nat)) (hT : T.length = N) (hpT : ∀ y ∈ fs T, p y) (hup : Up T) : ∀ (m bs : Nat) (W : List (Tm × Nat)) (md : Nat), 0 < bs → bs ≤ 2 * N + 20 → Blk c bs T W → N - bs < m →
 ∃ md' W', Sd c W' ∧ W'.Perm T ∧ aft nx nx (loopH (evCode C n c82_b2) c82_m2 nx m (c82_f2 (.vec V 0 N 4 lb) (.int .i64 N) (.fn f []) (.int .i64 bs)) ⟨nx, Row os (nx - 1 - V) (fs W), nx, md⟩) =
   some (.exit 2, FM 63 [], ⟨nx, Row os (nx - 1 - V) (fs W'), nx, md'⟩) := by
 intro m
 induction m with
 | zero => intro bs W md _ _ _ h; omega
 | succ m ih =>
   intro bs W md hbs hbs2 hB hm
   have hv : (V + 1 ≤ nx) = True := eq_true (by omega)
   have hv' : (nx ≤ V) = False := eq_false (by omega)
   have hWT := hB.len
   by_cases hlt : bs < N
   ·have hlW : (fs W).length = N := by simp; omega
    have hpW : ∀ y ∈ fs W, p y := fun y hy => by
     obtain ⟨z, hz, rfl⟩ := List.mem_map.1 hy
     exact hpT _ (List.mem_map_of_mem (hB.perm.mem_iff.1 hz))
    obtain ⟨md1, T1, T3, W1, W3, rfl, q2, q3, q4, q5⟩ := c82_l1 C n f c o p nx V os hV N lb (by omega) hS bs hbs hlt N T W [] (fs W) n md 0 (2 * bs) (by omega) rfl hlW hpW hup hB rfl (by simp) hn
    have lw1 := q3.len
    have lw3 := q4.len
    rw [List.length_append] at hT
    have hup' := List.pairwise_append.1 hup
    have c1 : ((bs : Int) < (N : Int)) = True := eq_true (by omega)
    have w2 : IntKind.i64.wrap (2 * (bs : Int)) = 2 * (bs : Int) := wrap_i64 (by omega) (by omega)
    have w2' : IntKind.i64.wrap ((bs : Int) * 2) = (bs : Int) * 2 := wrap_i64 (by omega) (by omega)
    have w3 : IntKind.i64.wrap ((W1.length : Int) + bs) = (W1.length : Int) + bs := wrap_i64 (by omega) (by omega)
    simp only [List.nil_append, Int.zero_add, c82_m1] at q5
    by_cases hrest : bs < T3.length
    ·obtain ⟨Ta, Tb, Wa, Wb, rfl, rfl, l1, d1, p1, hB1⟩ := q4.split1 hrest
     have lwa := p1.length_eq
     have lwb := hB1.len
     simp only [List.length_append] at hT q2 lw3 hrest
     have hup2 := List.pairwise_append.1 hup'.2.1
     obtain ⟨md2, w, pw, dw, hcall⟩ := hS (fs W1) [] Wa Wb nx md1 W1.length (W1.length + bs) N (by simp; omega) (fun y hy => by
      simp only [List.mem_append, List.not_mem_nil, or_false] at hy
      rcases hy with h | h | h
      ·obtain ⟨z, hz, rfl⟩ := List.mem_map.1 h
       exact hpT _ (List.mem_map_of_mem (by simp [q3.perm.mem_iff.1 hz]))
      ·obtain ⟨z, hz, rfl⟩ := List.mem_map.1 h
       exact hpT _ (List.mem_map_of_mem (by simp [p1.mem_iff.1 hz]))
      ·obtain ⟨z, hz, rfl⟩ := List.mem_map.1 h
       exact hpT _ (List.mem_map_of_mem (by simp [hB1.perm.mem_iff.1 hz]))) (fun h => by rw [h] at lwa; simp at lwa; omega) (fun h => by rw [h] at lwb; simp at lwb; omega) d1 (hB1.small (by omega)) (fun x hx y hy => hup2.2.2 x (p1.mem_iff.1 hx) y (hB1.perm.mem_iff.1 hy)) (by omega) (by simp) (by omega) (by omega)
     have pw' : w.Perm (Ta ++ Tb) := pw.trans (p1.append hB1.perm)
     have hB' : Blk c (bs * 2) (T1 ++ (Ta ++ Tb)) (W1 ++ w) := by
      rw [Nat.mul_comm]
      exact q3.blk (.last (by simp; omega) dw pw')
     obtain ⟨md3, W', r1, r2, r3⟩ := ih (bs * 2) (W1 ++ w) md2 (by omega) (by omega) hB' (by omega)
     refine ⟨md3, W', r1, r2, ?_⟩
     have c2 : ((W1.length : Int) + bs < (N : Int)) = True := eq_true (by omega)
     simp only [List.append_nil, Int.natCast_add] at hcall
     simp only [List.map_append] at q5
     simp only [c82_m2, Int.natCast_mul] at r3
     rw [loopH_succ]
     simp [-ldA, c82_b2, c82_m2, c82_m1, hv, hv', hV, c1, c2, w2, w2', w3, q5, hcall, -List.map_map]
     rw [fs_app, show (((2 : Nat) : Int)) = 2 from rfl] at r3
     exact r3
    ·have hB' : Blk c (bs * 2) (T1 ++ T3) (W1 ++ W3) := by
      rw [Nat.mul_comm]
      exact q3.blk (.last (by omega) (q4.small (by omega)) q4.perm)
     obtain ⟨md3, W', r1, r2, r3⟩ := ih (bs * 2) (W1 ++ W3) md1 (by omega) (by omega) hB' (by omega)
     refine ⟨md3, W', r1, r2, ?_⟩
     have c2 : ((W1.length : Int) + bs < (N : Int)) = False := eq_false (by omega)
     simp only [c82_m2, Int.natCast_mul] at r3
     rw [loopH_succ]
     simp [-ldA, c82_b2, c82_m2, c82_m1, hv, hv', hV, c1, c2, w2, w2', w3, q5, -List.map_map]
     rw [fs_app, show (((2 : Nat) : Int)) = 2 from rfl] at r3
     exact r3
   ·refine ⟨md, W, hB.small (by omega), hB.perm, ?_⟩
    have c1 : ((bs : Int) < (N : Int)) = False := eq_false (by omega)
    rw [loopH_succ]
    simp [-ldA, c82_b2, hv, hv', hV, c1]
theorem c56_ok (ss : List KSpec) (n f : Nat) (c : Tm → Tm → Int) (o : Ord c) (p : Tm → Prop) (nx V : Nat) (os : List AObj) (hV : V < nx) (hos : nx - 1 - V < os.length) (N lb : Nat) (hN : N < 100000000) (hn : 2 * N + 10 < n)
 (h56 : lookF (ss ++ clones) 56 = []) (h82 : lookF (ss ++ clones) 82 = []) (h117 : lookF (ss ++ clones) 117 = []) (h118 : lookF (ss ++ clones) 118 = []) (h151 : lookF (ss ++ clones) 151 = []) (h165 : lookF (ss ++ clones) 165 = [])
 (hC : ∀ n, N < n → CmpAt (evCall (envK ss) n) f c p nx V os) (T : List (Tm × Nat)) (hT : T.length = N) (hpT : ∀ y ∈ fs T, p y) (hup : Up T) (wl md : Nat) :
 ∃ md' W, Sd c W ∧ W.Perm T ∧ evCall (envK ss) (n + 2) 56 [.vec V 0 N 4 lb, .fn f []] ⟨nx, Row os (nx - 1 - V) (fs T), wl, md⟩ = some (.tuple [], ⟨nx, Row os (nx - 1 - V) (fs W), wl, md'⟩) := by
 have hv : (V + 1 ≤ nx) = True := eq_true (by omega)
 have hv' : (nx ≤ V) = False := eq_false (by omega)
 have hSw : ∀ n, N + 1 < n → SwapAt (evCall (envK ss) n) nx V os N lb f := fun k hk => by
  obtain ⟨k, rfl⟩ : ∃ q, k = q + 1 := ⟨k - 1, by omega⟩
  exact c165_ok ss k nx V os hV hos h165 N lb f (by omega) (by omega)
 have hRo : ∀ n, N + 2 < n → RotAt (evCall (envK ss) n) nx V os N lb f := fun k hk => by
  obtain ⟨k, rfl⟩ : ∃ q, k = q + 1 := ⟨k - 1, by omega⟩
  exact c151_ok ss k nx V os hV hos h151 N lb f (by omega) (by omega) (hSw k (by omega))
 have hSy := sym_all ss f c o p nx V os hV hos h118 N lb (by omega) hC hRo N n (by omega)
 obtain ⟨n1, rfl⟩ : ∃ q, n = q + 1 := ⟨n - 1, by omega⟩
 have hIn := c117_ok ss n1 f c p nx V os hV hos h117 (hC n1 (by omega)) N lb (by omega) (by omega)
 obtain ⟨md1, T1, T3, W, rfl, q2, q3, q4⟩ := c82_l0 (evCall (envK ss) (n1 + 1)) (n1 + 1) f c o p nx V os hV N lb (by omega) hIn N T [] (fs T) (n1 + 1) nx 0 20 (by omega) rfl (by simp; omega) hpT hup rfl rfl (by omega)
 have hup' := List.pairwise_append.1 hup
 have lw := q3.len
 rw [List.length_append] at hT
 obtain ⟨md2, hins⟩ := hIn (fs W) (fs T3) [] nx md1 (by simp; omega) (fun y hy => hpT y (by simp only [List.map_append, List.mem_append]; exact .inr hy))
 have hs := isort_srt o T3 hup'.2.1
 have hmap : isort c (fs T3) = fs (isort (cT c) T3) := (isort_map T3).symm
 rw [hmap] at hins
 have hB : Blk c 20 (T1 ++ T3) (W ++ isort (cT c) T3) := q3.blk (.last (by omega) hs.1 hs.2)
 obtain ⟨md3, W', r1, r2, r3⟩ := c82_l2 (evCall (envK ss) (n1 + 1)) (n1 + 1) f c o p nx V os hV N lb (by omega) (by omega) hSy (T1 ++ T3) (by simp; omega) hpT hup (n1 + 1) 20 _ md2 (by omega) (by omega) hB (by omega)
 refine ⟨if (if md3 < nx then min nx md3 else nx) < nx then min md (if md3 < nx then min nx md3 else nx) else md, W', r1, r2, ?_⟩
 simp only [List.nil_append, Int.zero_add, c82_m0] at q4
 rw [show (((fs W).length + (fs T3).length : Nat) : Int) = (N : Int) by simp; omega, show ((fs W).length : Int) = (W.length : Int) by simp, List.append_nil, List.append_nil] at hins
 simp only [c82_m2, fs_app, show ((20 : Nat) : Int) = 20 from rfl] at r3
 simp only [fs_app] at q4
 simp only [fs_app]
 simp [-ldA, run56K, c56, run82K, c82, c82_m0, c82_m2, hv, hv', hV, h56, h82, -lookF_cons, -clones, q4, hins, r3, -List.map_map]
end Go.Proofs.YtlakiipofcibhaaGreatDoor
