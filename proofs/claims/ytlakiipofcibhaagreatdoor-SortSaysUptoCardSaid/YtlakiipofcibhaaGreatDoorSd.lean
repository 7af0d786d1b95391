import Derived.Test.YtlakiipofcibhaaGreatDoorAt
import Derived.Test.YtlakiipofcibhaaGreatDoorSc
import Derived.Test.YtlakiipofcibhaaGreatDoorSa
set_option linter.unusedVariables false
set_option linter.unusedSimpArgs false
set_option linter.unusedSectionVars false
set_option maxHeartbeats 16000000
set_option maxRecDepth 100000

namespace Go.Proofs.YtlakiipofcibhaaGreatDoor
open Go Sz Srt
attribute [local simp] evCall_specK callS_nilK callS_oneFK spK_sK spK_nK frK_sK frK_nK evB_fmK
def cgo (e : Tm → Tm → Bool) : Tm → List Tm → List Tm
 | _, [] => []
 | p, y :: r => if e y p then cgo e y r else y :: cgo e y r
theorem cgo_cons (e : Tm → Tm → Bool) (p y : Tm) (r : List Tm) : cgo e p (y :: r) = if e y p then cgo e y r else y :: cgo e y r := rfl
def cmpct (e : Tm → Tm → Bool) : List Tm → List Tm
 | [] => []
 | x :: r => x :: cgo e x r
def dup (e : Tm → Tm → Bool) : Tm → List Tm → Bool
 | _, [] => false
 | p, y :: r => e y p || dup e y r
theorem cgo_nodup (e : Tm → Tm → Bool) : ∀ (r : List Tm) (p : Tm), dup e p r = false → cgo e p r = r
 | [], p, _ => rfl
 | y :: r, p, h => by
   simp only [dup, Bool.or_eq_false_iff] at h
   unfold cgo
   rw [h.1, cgo_nodup e r y h.2]
   rfl
theorem cgo_len (e : Tm → Tm → Bool) : ∀ (r : List Tm) (p : Tm), (cgo e p r).length ≤ r.length
 | [], p => Nat.le_refl _
 | y :: r, p => by
   have := cgo_len e r y
   unfold cgo
   split
   ·simp; omega
   ·simp; omega
def EqAt (C : Nat → List AV → Heap → Option (AV × Heap)) (f : Nat) (e : Tm → Tm → Bool) (p : Tm → Prop) (nx V : Nat) (os : List AObj) : Prop :=
 ∀ x y, p x → p y → ∀ l wl md, C f [x.enc, y.enc] ⟨nx, Row os (nx - 1 - V) l, wl, md⟩ = some (.bool (e x y), ⟨nx, Row os (nx - 1 - V) l, wl, md⟩)
theorem ldA_row2 {nx V : Nat} {os : List AObj} (hV : V < nx) (hos : nx - 1 - V < os.length) (l : List Tm) (a b wl md : Nat) : ldA ⟨nx, Row os (nx - 1 - V) l, wl, md⟩ (some 4) (.ptr V (a * 4 + b * 4)) = (l[a + b]?).map Tm.enc := by
 rw [← Nat.add_mul]
 exact ldA_row hV hos l (a + b) wl md
section
variable (C : Nat → List AV → Heap → Option (AV × Heap)) (n f : Nat) (e : Tm → Tm → Bool) (p : Tm → Prop) (nx V : Nat) (os : List AObj) (hV : V < nx) (hos : nx - 1 - V < os.length) (hC : EqAt C f e p nx V os)
 (N lb : Nat) (hN : N < 1000000000)
include hV hos hC hN
theorem c58_l0 (k0 lb2 : Nat) : ∀ (rest D JQ M : List Tm) (q : Tm) (m md : Nat) (k2 : Int), M = D ++ (JQ ++ rest) → M.length = N → (∀ y ∈ M, p y) → JQ.getLast? = some q → k0 + k2 = (D.length + JQ.length : Nat) → 0 < k2 → k0 ≤ N → rest.length < m →
 ∃ md' JQ', (D ++ cgo e q rest).length + JQ'.length = N ∧ aft nx nx (loopH (evCode C n c58_b0) c58_m0 nx m (c58_f0 (.vec V 0 N 4 lb) (.fn f []) (.int .i64 D.length) (.vec V (k0 * 4) (N - k0) 4 lb2) (.int .i64 k2)) ⟨nx, Row os (nx - 1 - V) M, nx, md⟩) =
   some (.exit 2, FM 66 [(0, .vec V 0 N 4 lb), (5, .int .i64 (D ++ cgo e q rest).length)], ⟨nx, Row os (nx - 1 - V) (D ++ cgo e q rest ++ JQ'), nx, md'⟩)
 | [], D, JQ, M, q, m + 1, md, k2, eM, hl, hp, hq, hk, hk2, hk0, hm => by
   have hlen : D.length + JQ.length = N := by rw [← hl, eM]; simp
   have hv : (V + 1 ≤ nx) = True := eq_true (by omega)
   have hv' : (nx ≤ V) = False := eq_false (by omega)
   refine ⟨md, JQ, by simpa [cgo] using hlen, ?_⟩
   have c1 : (k2 < ((N - k0 : Nat) : Int)) = False := eq_false (by omega)
   have e1 : D ++ cgo e q [] ++ JQ = M := by rw [eM]; simp [cgo]
   rw [e1]
   simp [-ldA, loopH_succ, c58_b0, hv, hv', hV, c1, cgo]
 | z :: rest, D, JQ, M, q, m + 1, md, k2, eM, hl, hp, hq, hk, hk2, hk0, hm => by
   have hlen : D.length + (JQ.length + (rest.length + 1)) = N := by rw [← hl, eM]; simp
   have hv : (V + 1 ≤ nx) = True := eq_true (by omega)
   have hv' : (nx ≤ V) = False := eq_false (by omega)
   obtain ⟨J, rfl⟩ : ∃ J, JQ = J ++ [q] := by
    rcases List.eq_nil_or_concat JQ with rfl | ⟨J, b, rfl⟩
    ·simp at hq
    ·simp at hq
     subst hq
     exact ⟨J, by simp⟩
   simp only [List.length_append, List.length_cons, List.length_nil] at hk hlen
   obtain ⟨j2, rfl⟩ : ∃ j : Nat, k2 = (j : Int) + 1 := ⟨(k2 - 1).toNat, by omega⟩
   have gz : M[k0 + (j2 + 1)]? = some z := by
    rw [eM, List.getElem?_append_right (by omega), List.getElem?_append_right (by simp; omega), show k0 + (j2 + 1) - D.length - (J ++ [q]).length = 0 by simp; omega]
    rfl
   have gq : M[k0 + j2]? = some q := by
    rw [eM, List.getElem?_append_right (by omega), List.getElem?_append_left (by simp; omega), List.getElem?_append_right (by omega), show k0 + j2 - D.length - J.length = 0 by omega]
    rfl
   have pz : p z := hp z (by rw [eM]; simp)
   have pq : p q := hp q (by rw [eM]; simp)
   have hc := hC z q pz pq M
   have hld := fun (b wl md : Nat) => ldA_row2 hV hos M k0 b wl md
   have c1 : ((j2 : Int) + 1 < ((N - k0 : Nat) : Int)) = True := eq_true (by omega)
   have c2 : (0 ≤ (j2 : Int) + 1) = True := eq_true (by omega)
   have c3 : ((j2 : Int) + 1).toNat = j2 + 1 := by omega
   have c4 : IntKind.i64.wrap ((j2 : Int) + 1 - 1) = (j2 : Int) := by rw [wrap_i64 (by omega) (by omega)]; omega
   have c4' : IntKind.i64.wrap (j2 : Int) = (j2 : Int) := wrap_i64 (by omega) (by omega)
   have c5 : ((j2 : Int) < ((N - k0 : Nat) : Int)) = True := eq_true (by omega)
   have c6 : IntKind.i64.wrap ((j2 : Int) + 1 + 1) = (j2 : Int) + 1 + 1 := wrap_i64 (by omega) (by omega)
   cases he : e z q with
   | true =>
     obtain ⟨md', JQ', h1, h2⟩ := c58_l0 k0 lb2 rest D (J ++ [q] ++ [z]) M z m md ((j2 : Int) + 1 + 1) (by rw [eM]; simp) hl hp (by simp) (by simp; omega) (by omega) hk0 (by simp at hm; omega)
     have ec : cgo e q (z :: rest) = cgo e z rest := by rw [cgo_cons, he]; rfl
     rw [ec]
     refine ⟨md', JQ', h1, ?_⟩
     rw [he] at hc
     simp only [c58_m0] at h2
     rw [loopH_succ]
     simp [-ldA, -evOp_st, evOp_stA, c58_b0, c58_m0, hv, hv', hV, hld, gz, gq, c1, c2, c3, c4, c4', c5, c6, hc]
     simp only [List.append_assoc, List.length_append, Int.natCast_add, List.length_cons, List.length_nil, Nat.zero_add, List.singleton_append, List.cons_append] at h2
     exact h2
   | false =>
     obtain ⟨j, J', hJ⟩ : ∃ j J', J ++ [q] = j :: J' := by
      cases hh : J ++ [q] with
      | nil => simp at hh
      | cons j J' => exact ⟨j, J', rfl⟩
     have hJl := congrArg List.length hJ
     simp at hJl
     have eM' : M.set D.length z = (D ++ [z]) ++ ((J' ++ [z]) ++ rest) := by
      rw [eM, hJ, List.set_append_right _ _ (Nat.le_refl _), Nat.sub_self]
      simp
     obtain ⟨md', JQ', h1, h2⟩ := c58_l0 k0 lb2 rest (D ++ [z]) (J' ++ [z]) (M.set D.length z) z m (min md V) ((j2 : Int) + 1 + 1) eM' (by simp [hl]) (fun y hy => by
      rcases List.mem_or_eq_of_mem_set hy with h | h
      ·exact hp y h
      ·rw [h]; exact pz) (by simp) (by simp; omega) (by omega) hk0 (by simp at hm; omega)
     have ec : cgo e q (z :: rest) = z :: cgo e z rest := by rw [cgo_cons, he]; rfl
     rw [ec]
     refine ⟨md', JQ', by simp at h1 ⊢; omega, ?_⟩
     rw [he] at hc
     have hst := fun (wl md : Nat) => stA_row hV hos M D.length wl md z (by omega)
     have c7 : (D.length < N) = True := eq_true (by omega)
     have c8 : IntKind.i64.wrap ((D.length : Int) + 1) = (D.length : Int) + 1 := wrap_i64 (by omega) (by omega)
     simp only [c58_m0] at h2
     rw [loopH_succ]
     simp [-ldA, -evOp_st, evOp_stA, c58_b0, c58_m0, hv, hv', hV, hld, gz, gq, c1, c2, c3, c4, c4', c5, c6, c7, c8, hc, hst]
     simp only [List.append_assoc, List.length_append, Int.natCast_add, List.length_cons, List.length_nil, Nat.zero_add, List.singleton_append, List.cons_append] at h2
     exact h2
end
theorem flat_zero (k : Nat) : (List.replicate k zT).flatten = flatT (List.replicate k zeroT) := by
 induction k with
 | zero => rfl
 | succ k ih => rw [List.replicate_succ, List.replicate_succ, List.flatten_cons, ih]; rfl
def clrA (h : Heap) (z : List AV) (v : AV) : Option (AV × Heap) := match v with
 | .nils => some (.tuple [], h)
 | .vec id off len s _ => match h.row id with
   | some cs => if s = z.length ∧ off + len * s ≤ cs.length then some (.tuple [], (h.set id (.row (putAt cs off (List.replicate len z).flatten))).mark id (.agg z)) else none
   | none => none
 | _ => none
theorem evOp_clrA (fr : List AV) (h : Heap) (z : List AV) (x : Opd) : evOp fr h (.clr z x) = clrA h z (x.ev fr) := rfl
theorem clrA_row {nx V : Nat} {os : List AObj} (hV : V < nx) (hos : nx - 1 - V < os.length) (D J : List Tm) (lb wl md n : Nat) (hn : n = J.length) :
 clrA ⟨nx, Row os (nx - 1 - V) (D ++ J), wl, md⟩ [.int .i64 0, .int .i64 0, .str [], .nils] (.vec V (D.length * 4) n 4 lb) = some (.tuple [], ⟨nx, Row os (nx - 1 - V) (D ++ List.replicate n zeroT), wl, min md V⟩) := by
 have hle : D.length * 4 + n * 4 ≤ (flatT (D ++ J)).length := by rw [flatT_len, List.length_append]; omega
 have hz : [.int .i64 0, .int .i64 0, .str [], .nils] = zT := rfl
 have hput : putAt (flatT (D ++ J)) (D.length * 4) (List.replicate n zT).flatten = flatT (D ++ List.replicate n zeroT) := by
  have hl : (List.replicate n zT).flatten.length = n * 4 := by rw [flat_zero, flatT_len, List.length_replicate]
  rw [putAt_eq _ _ _ (by rw [hl, flatT_len, List.length_append]; omega), hl, flat_zero, flatT_append, flatT_append]
  have h1 : (flatT D).length = D.length * 4 := flatT_len D
  rw [← h1, List.take_left, ← List.drop_drop, List.drop_left, List.drop_of_length_le (by rw [flatT_len]; omega), List.append_nil]
 simp only [clrA, Heap.row, Row_get hV hos, hle, hz, show zT.length = 4 from rfl, and_self, if_true, hput]
 have hr : AV.refsL zT = 0 := rfl
 simp [Heap.set, Heap.mark, hV, Row_set, hr]
section
variable (C : Nat → List AV → Heap → Option (AV × Heap)) (n f : Nat) (e : Tm → Tm → Bool) (p : Tm → Prop) (nx V : Nat) (os : List AObj) (hV : V < nx) (hos : nx - 1 - V < os.length) (hC : EqAt C f e p nx V os)
 (N : Nat) (hN : N < 1000000000) (hn : N < n)
include hV hos hC hN hn
theorem c58_l1 : ∀ (rest A L : List Tm) (q : Tm) (m md : Nat), L = A ++ q :: rest → L.length = N → (∀ y ∈ L, p y) → rest.length < m →
 ∃ md' Z, aft nx nx (loopH (evCode C n c58_b1) c58_m1 nx m (c58_f1 (.vec V 0 N 4 N) (.fn f []) (.int .i64 (A.length + 1 : Nat))) ⟨nx, Row os (nx - 1 - V) L, nx, md⟩) =
   some (if dup e q rest then .ret else .exit 0, if dup e q rest then FM 66 [(4, .vec V 0 (A.length + 1 + (cgo e q rest).length) 4 N)] else FM 66 [(0, .vec V 0 N 4 N)], ⟨nx, Row os (nx - 1 - V) (A ++ q :: (cgo e q rest ++ Z)), nx, md'⟩)
 | [], A, L, q, m + 1, md, eL, hl, hp, hm => by
   have hlen : A.length + 1 = N := by rw [← hl, eL]; simp
   have hv : (V + 1 ≤ nx) = True := eq_true (by omega)
   have hv' : (nx ≤ V) = False := eq_false (by omega)
   refine ⟨md, [], ?_⟩
   have c1 : ((A.length : Int) + 1 < (N : Int)) = False := eq_false (by omega)
   have e1 : A ++ q :: (cgo e q [] ++ []) = L := by rw [eL]; rfl
   rw [e1]
   simp [-ldA, loopH_succ, c58_b1, hv, hv', hV, c1, dup]
 | z :: rest, A, L, q, m + 1, md, eL, hl, hp, hm => by
   have hlen : A.length + (rest.length + 2) = N := by rw [← hl, eL]; simp
   have hv : (V + 1 ≤ nx) = True := eq_true (by omega)
   have hv' : (nx ≤ V) = False := eq_false (by omega)
   have gz : L[A.length + 1]? = some z := by
    rw [eL, List.getElem?_append_right (by omega), show A.length + 1 - A.length = 1 by omega]
    rfl
   have gq : L[A.length]? = some q := by
    rw [eL, List.getElem?_append_right (by omega), Nat.sub_self]
    rfl
   have hc := hC z q (hp z (by rw [eL]; simp)) (hp q (by rw [eL]; simp)) L
   have hld := fun (wl md : Nat) => ldA_row hV hos L A.length wl md
   have hld2 := fun (wl md : Nat) => ldA_row hV hos L (A.length + 1) wl md
   have c1 : ((A.length : Int) + 1 < (N : Int)) = True := eq_true (by omega)
   have c2 : (0 ≤ (A.length : Int) + 1) = True := eq_true (by omega)
   have c3 : ((A.length : Int) + 1).toNat = A.length + 1 := by omega
   have c4 : IntKind.i64.wrap ((A.length : Int) + 1 - 1) = (A.length : Int) := by rw [wrap_i64 (by omega) (by omega)]; omega
   have c4' : IntKind.i64.wrap (A.length : Int) = (A.length : Int) := wrap_i64 (by omega) (by omega)
   have c5 : ((A.length : Int) < (N : Int)) = True := eq_true (by omega)
   have c6 : IntKind.i64.wrap ((A.length : Int) + 1 + 1) = (A.length : Int) + 1 + 1 := wrap_i64 (by omega) (by omega)
   cases he : e z q with
   | false =>
     obtain ⟨md', Z, h2⟩ := c58_l1 rest (A ++ [q]) L z m md (by rw [eL]; simp) hl hp (by simp at hm; omega)
     refine ⟨md', Z, ?_⟩
     rw [he] at hc
     have ed : dup e q (z :: rest) = dup e z rest := by simp [dup, he]
     have ec : cgo e q (z :: rest) = z :: cgo e z rest := by rw [cgo_cons, he]; rfl
     rw [ed, ec]
     simp only [c58_m1, List.length_append, List.length_cons, List.length_nil, Nat.zero_add, Int.natCast_add] at h2
     simp only [List.length_cons]
     rw [show A.length + 1 + ((cgo e z rest).length + 1) = A.length + 1 + 1 + (cgo e z rest).length by omega]
     rw [loopH_succ]
     simp [-ldA, c58_b1, c58_m1, hv, hv', hV, hld, hld2, gz, gq, c1, c2, c3, c4, c4', c5, c6, hc]
     simp only [List.append_assoc, List.singleton_append, List.cons_append, Int.natCast_one] at h2
     exact h2
   | true =>
     obtain ⟨md1, J, h1, h2⟩ := c58_l0 C n f e p nx V os hV hos hC N N hN (A.length + 1) (N - (A.length + 1)) rest (A ++ [q]) [z] L z n md 1 (by rw [eL]; simp) hl hp rfl (by simp) (by omega) (by omega) (by omega)
     rw [he] at hc
     have ed : dup e q (z :: rest) = true := by simp [dup, he]
     have ec : cgo e q (z :: rest) = cgo e z rest := by rw [cgo_cons, he]; rfl
     rw [ed, ec]
     simp only [if_true]
     have hg := cgo_len e rest z
     have lD : (A ++ [q] ++ cgo e z rest).length = A.length + 1 + (cgo e z rest).length := by simp; omega
     rw [lD] at h1 h2
     have hcl := fun (wl md : Nat) => clrA_row hV hos (A ++ [q] ++ cgo e z rest) J (N - (A.length + 1 + (cgo e z rest).length)) wl md (N - (A.length + 1 + (cgo e z rest).length)) (by omega)
     rw [lD] at hcl
     obtain ⟨K, hK⟩ : ∃ K, K = A.length + 1 + (cgo e z rest).length := ⟨_, rfl⟩
     rw [← hK] at h1 h2 hcl ⊢
     refine ⟨min md1 V, List.replicate (N - K) zeroT, ?_⟩
     simp only [List.append_assoc, List.cons_append, List.nil_append] at hcl
     have d1 : (max N N) = N := Nat.max_self N
     have d2 : (0 ≤ (K : Int) ∧ (K : Int) ≤ (N : Int)) = True := eq_true (by omega)
     have d3 : ((K : Int) ≤ (N : Int)) = True := eq_true (by omega)
     have d4 : ((A.length : Int) + 1 ≤ (N : Int)) = True := eq_true (by omega)
     have d5 : (K ≤ N) = True := eq_true (by omega)
     have d6 : (A.length + 1 ≤ N) = True := eq_true (by omega)
     simp only [c58_m0] at h2
     rw [show (((A ++ [q]).length : Nat) : Int) = (A.length : Int) + 1 by simp] at h2
     rw [loopH_succ]
     simp [-ldA, -evOp_clr, evOp_clrA, c58_b1, c58_m0, hv, hv', hV, hld, hld2, gz, gq, c1, c2, c3, c4, c4', c5, c6, hc, sliceC, sliceB, d1, d2, d3, d4, d5, d6, h2, hcl]
theorem c58_run (L : List Tm) (hl : L.length = N) (hp : ∀ y ∈ L, p y) (hL : L ≠ []) (md : Nat) :
 ∃ md' Z, (evCode C n c58.code (FM 66 [(0, .vec V 0 N 4 N), (1, .fn f [])]) ⟨nx, Row os (nx - 1 - V) L, nx, md⟩) =
   some (.ret, FM 66 [(4, .vec V 0 (cmpct e L).length 4 N)], ⟨nx, Row os (nx - 1 - V) (cmpct e L ++ Z), nx, md'⟩) := by
 have hv : (V + 1 ≤ nx) = True := eq_true (by omega)
 have hv' : (nx ≤ V) = False := eq_false (by omega)
 match L, hL with
 | [q], _ =>
   refine ⟨md, [], ?_⟩
   simp at hl
   subst hl
   simp [-ldA, c58, hv, hv', hV, cmpct, cgo]
 | q :: z :: rest, _ =>
   obtain ⟨md', Z, h⟩ := c58_l1 C n f e p nx V os hV hos hC N hN hn (z :: rest) [] (q :: z :: rest) q n md rfl hl hp (by simp at hl ⊢; omega)
   refine ⟨md', Z, ?_⟩
   have c1 : ((N : Int) < 2) = False := eq_false (by simp at hl; omega)
   have c1' : (N < 2) = False := eq_false (by simp at hl; omega)
   simp only [c58_m1, List.length_nil, Nat.zero_add, List.nil_append] at h
   rw [show ((1 : Nat) : Int) = 1 from rfl] at h
   rw [show cmpct e (q :: z :: rest) = q :: cgo e q (z :: rest) from rfl]
   cases hd : dup e q (z :: rest) with
   | true =>
     rw [hd] at h
     simp only [if_true] at h
     simp only [List.length_cons]
     rw [Nat.add_comm (cgo e q (z :: rest)).length 1]
     simp [-ldA, c58, c58_m1, hv, hv', hV, c1, c1', h]
   | false =>
     rw [hd] at h
     simp only [Bool.false_eq_true, if_false] at h
     rw [cgo_nodup e _ _ hd] at h ⊢
     have e1 : N = (q :: z :: rest).length := hl.symm
     simp only [List.length_cons] at e1 ⊢
     rw [← e1]
     simp [-ldA, c58, c58_m1, hv, hv', hV, c1, c1', h]
end
theorem enc_kind (x : Tm) : x.enc = .agg [.int .i64 x.kind, .int .i64 x.num, .str x.name, x.argV] := x.enc_eq
theorem frz_L2 {h : Heap} {n0 d id n lb : Nat} (L Z : List Tm) (hL : L.length = n) (hid : n0 ≤ id) (hg : h.get id = some (.row (flatT (L ++ Z)))) :
 frz h n0 (d + 2) (.vec id 0 n 4 lb) = some (.sl (L.map Tm.enc), [id]) :=
 frz_vec hid hg (by omega) (encs_elem L) (by simpa using hL) (by rw [flatT_len, List.length_append]; omega) (by
  rw [flatT_eq, flatT_append]
  have : n * 4 = (flatT L).length := by rw [flatT_len, hL]
  rw [this, List.take_left])
theorem cmpct_len (e : Tm → Tm → Bool) (l : List Tm) : (cmpct e l).length ≤ l.length := by
 cases l with
 | nil => exact Nat.le_refl _
 | cons x r => have := cgo_len e r x; simp [cmpct]; omega
theorem eqAt15 (ss : List KSpec) (n : Nat) (h15 : lookF (ss ++ clones) 15 = [sameS]) (nx V : Nat) (os : List AObj) : EqAt (evCall (envK ss) (n + 1)) 15 sameT okT nx V os := fun x y hx hy l wl md => by
 have hs := sameS_at x y ⟨hx.2, hy.2⟩
 rw [hx.1, hy.1] at hs
 simp [h15, -lookF_cons, -clones, enc_frz, hs, sameS_f]
theorem c58_call (ss : List KSpec) (n : Nat) (h58 : lookF (ss ++ clones) 58 = []) (h15 : lookF (ss ++ clones) 15 = [sameS]) (L : List Tm) {N : Nat} (hl : L.length = N) (hN : N < 1000000000) (hn : N < n) (hp : ∀ x ∈ L, okT x) (hL : L ≠ []) (tl t : Tm) (B : List AObj) (md : Nat) (hB : B.length = 2) :
 ∃ md' Z, evCall (envK ss) (n + 1) 58 [.vec 5 0 N 4 N, .fn 15 []] ⟨7, .row tl.cells :: .row (flatT L) :: .row tl.cells :: .row tl.cells :: .row t.cells :: B, 0, md⟩ = some (.vec 5 0 (cmpct sameT L).length 4 N, ⟨7, .row tl.cells :: .row (flatT (cmpct sameT L ++ Z)) :: .row tl.cells :: .row tl.cells :: .row t.cells :: B, 0, md'⟩) := by
 have hlen : (.row tl.cells :: .row (flatT L) :: .row tl.cells :: .row tl.cells :: .row t.cells :: B : List AObj).length = 7 := by simp [hB]
 obtain ⟨m, rfl⟩ : ∃ q, n = q + 1 := ⟨n - 1, by omega⟩
 obtain ⟨md1, Z, h⟩ := c58_run (evCall (envK ss) (m + 1)) (m + 1) 15 sameT okT 7 5 (.row tl.cells :: .row (flatT L) :: .row tl.cells :: .row tl.cells :: .row t.cells :: B) (by omega) (by rw [hlen]; omega) (eqAt15 ss m h15 7 5 _) N hN hn L hl hp hL 7
 simp only [Row, Nat.reduceSub, List.set_cons_succ, List.set_cons_zero] at h
 refine ⟨if md1 < 7 then min md md1 else md, Z, ?_⟩
 have hc : c58 = ⟨66, [.tmp 4], false, c58.code⟩ := rfl
 generalize c58.code = cd at h hc
 simp [run58K, hc, h, h58, -lookF_cons, -clones]
noncomputable def sortSet (t : Tm) : Tm := if (sItems t).2 = 0 then listT (cmpct sameT (sortT cmpT (sItems t).1)) emptyT else zeroT
open Classical in
noncomputable def setS : KSpec := ⟨29, fun | [v] => (match decTm v with | some t => if t.bulk < 1000000000 ∧ Ord cmpT then some (.tuple [(sortSet t).enc, .int .i64 (sItems t).2]) else none | none => none) | _ => none⟩
theorem setS_f : setS.f = 29 := (rfl)
theorem setS_at (t : Tm) (h : t.bulk < 1000000000) (o : Ord cmpT) : setS.S [t.enc] = some (.tuple [(sortSet t).enc, .int .i64 (sItems t).2]) := by
 simp only [setS, decTm_enc]
 exact if_pos ⟨h, o⟩
theorem setS_ok : KSpecOK Tryz.prog setS := fun args v hv => by
 unfold setS at hv ⊢
 dsimp only at hv ⊢
 split at hv
 ·rename_i x
  split at hv
  ·rename_i t ht
   split at hv
   ·rename_i hc
    obtain ⟨hb, o⟩ := hc
    cases hv
    rw [decTm_eq ht]
    have hsb := size_bulk t
    have hrefs : (AV.tuple [(sortSet t).enc, .int .i64 (sItems t).2]).refs = 0 := by simp [AV.refs, AV.refsL, Tm.enc_refs]
    refine prim_of (n := 4 * t.size + 40 + 3) (h' := h0) (envK_okX (X := fun _ => True) (ss := ssS) ssS_ok) ?_ hrefs (by simp [AV.refsL, Tm.enc_refs])
    have hkk : 4 * t.size + 30 < 4 * t.size + 40 := by omega
    generalize 4 * t.size + 40 = k at hkk
    have hxe := Tm.enc_eq t
    have hcl := Tm.cells_is t
    have hxr := argV_refs t
    have ezT : zeroT.enc = .agg [.int .i64 0, .int .i64 0, .str [], .nils] := rfl
    have h29 : lookF (ssS ++ clones) 29 = [] := by rfl
    have h57 : lookF (ssS ++ clones) 57 = [sListS] := by rfl
    unfold sortSet sItems
    cases hg : goodT t with
    | false =>
      have hi := items_bad ssS k t (.row t.cells) (.row zT) rfl rfl hb hg
      rw [evCall_specK, hxe, hcl] at hi
      rw [hxe, hcl]
      simp only [zT] at hi
      simp [run29K, c29, h29, -lookF_cons, -clones, hxr, hi, ezT]
    | true =>
      by_cases he : tailE (itemsT t).2 = 0
      ·obtain ⟨md, hi⟩ := items_ok ssS (k + 1) t (.row t.cells) (.row zT) rfl rfl rfl hb hg (by omega) he
       obtain ⟨hm1, hm2⟩ := items_mem hb hg
       simp only [he, if_true]
       generalize itemsT t = q at hi hm1 hm2 he
       obtain ⟨us, tl⟩ := q
       dsimp only at hi hm1 hm2 ⊢
       have htc := Tm.cells_is tl
       have htr := argV_refs tl
       cases us with
       | nil =>
         have hz : sortT cmpT [] = [] := by
          unfold sortT
          rw [srt_eq o (l := [].zipIdx) (m := []) (List.Perm.refl _) (by simp [Sd])]
          rfl
         have hl : (listT [] emptyT).enc = .agg [.int .i64 2, .int .i64 0, .str [91, 93], .nils] := rfl
         have h5 := fun (n nx : Nat) (os : List AObj) (wl md : Nat) => c56_nil ssS n 31 nx os wl md rfl rfl rfl
         obtain ⟨k', rfl⟩ : ∃ q, k = q + 4 := ⟨k - 4, by omega⟩
         have h58 : lookF (ssS ++ clones) 58 = [] := by rfl
         have hcn : cmpct sameT [] = [] := rfl
         have ee : emptyT.enc = .agg [.int .i64 2, .int .i64 0, .str [91, 93], .nils] := rfl
         rw [hz, hcn]
         rw [evCall_specK, hxe, hcl] at hi
         rw [hxe, hcl]
         simp only [evCall_specK] at h5
         simp only [zT, vT, iOs, hT, hcl] at hi
         simp [run29K, c29, h29, h57, -lookF_cons, -clones, hxr, hi, h5, h58, run58K, c58, sListS_nil, sListS_f, hl, ee]
       | cons y r =>
         obtain ⟨md', q1, q2, q3⟩ := sort_run ssS k 31 cmpT o okT rfl rfl rfl rfl rfl rfl (fun n nx V os => cmpAt31 ssS n rfl okT (fun x hx => hx) nx V os) y r (by simp at hm2 ⊢; omega) (by simp at hm2 ⊢; omega) hm1 tl t [.row zT, .row t.cells] 0 md 7 rfl rfl
         have hq0 : sortT cmpT (y :: r) ≠ [] := fun h => by rw [h] at q1; simp at q1
         obtain ⟨md2, Z, q4⟩ := c58_call ssS (k + 1) rfl rfl (sortT cmpT (y :: r)) q1 (by simp at hm2; omega) (by simp at hm2; omega) (fun x hx => hm1 x ((q2 x).1 hx)) hq0 tl t [.row zT, .row t.cells] md' rfl
         have hL : (cmpct sameT (sortT cmpT (y :: r))).length < 1000000000 := by
          have := cmpct_len sameT (sortT cmpT (y :: r))
          simp at hm2; omega
         have hs := sListS_at (cmpct sameT (sortT cmpT (y :: r))) hL
         have hxe2 := (listT (cmpct sameT (sortT cmpT (y :: r))) emptyT).enc_eq
         have hxc2 : (listT (cmpct sameT (sortT cmpT (y :: r))) emptyT).cells = [.int .i64 (listT (cmpct sameT (sortT cmpT (y :: r))) emptyT).kind, .int .i64 (listT (cmpct sameT (sortT cmpT (y :: r))) emptyT).num, .str (listT (cmpct sameT (sortT cmpT (y :: r))) emptyT).name, (listT (cmpct sameT (sortT cmpT (y :: r))) emptyT).argV] := rfl
         have hxr2 := argV_refs (listT (cmpct sameT (sortT cmpT (y :: r))) emptyT)
         have hsc : scal1 (listT (cmpct sameT (sortT cmpT (y :: r))) emptyT).argV = false := by
          cases hz : sortT cmpT (y :: r) with
          | nil => exact absurd hz hq0
          | cons z q => rfl
         generalize listT (cmpct sameT (sortT cmpT (y :: r))) emptyT = R at hs hxe2 hxc2 hxr2 hsc
         have hf := fun (h : Heap) (n0 d : Nat) (hid : n0 ≤ 5) (hg : h.get 5 = some (.row (flatT (cmpct sameT (sortT cmpT (y :: r)) ++ Z)))) => frz_L2 (lb := r.length + 1) (d := d) (cmpct sameT (sortT cmpT (y :: r))) Z rfl hid hg
         rw [hxe2, hxc2] at hs ⊢
         rw [evCall_specK, hxe, hcl] at hi
         rw [evCall_specK] at q3 q4
         rw [hxe, hcl]
         simp only [iOs, hT] at q3
         simp only [zT, vT, iOs, hT, hcl] at hi
         simp only [zT, hcl] at q3 q4
         simp [run29K, c29, h29, h57, -lookF_cons, -clones, hxr, hi, q3, q4, hf, hs, sListS_f, hxr2, hsc, frz_argV]
      ·obtain ⟨md, hi⟩ := items_err ssS (k + 1) t (.row t.cells) (.row zT) rfl rfl rfl hb hg (by omega) he
       simp only [he, if_false, if_true]
       generalize itemsT t = q at hi he
       obtain ⟨us, tl⟩ := q
       dsimp only at hi he ⊢
       have he' : (tailE tl = 0) = False := eq_false he
       have htc := Tm.cells_is tl
       have htr := argV_refs tl
       cases us with
       | nil =>
         rw [evCall_specK, hxe, hcl] at hi
         rw [hxe, hcl]
         simp only [zT, iOs, hT, hcl] at hi
         simp [run29K, c29, h29, -lookF_cons, -clones, hxr, hi, ezT, he']
       | cons y r =>
         rw [evCall_specK, hxe, hcl] at hi
         rw [hxe, hcl]
         simp only [zT, iOs, hT, hcl] at hi
         simp [run29K, c29, h29, -lookF_cons, -clones, hxr, hi, ezT, he']
   ·cases hv
  ·cases hv
 ·cases hv
end Go.Proofs.YtlakiipofcibhaaGreatDoor

namespace Go.Proofs.YtlakiipofcibhaaGreatDoor
open Go Sz Srt
theorem ord_pull {α β : Type} {c : α → α → Int} (o : Ord c) (f : β → α) : Ord (fun x y => c (f x) (f y)) := ⟨fun x y => o.anti (f x) (f y), fun x y z => o.trans (f x) (f y) (f z)⟩
theorem ord_lex {α : Type} {c d : α → α → Int} (o : Ord c) (p : Ord d) : Ord (fun x y => if c x y = 0 then d x y else c x y) := by
 have hz : ∀ x y, c x y = 0 → c y x = 0 := fun x y h => o.zero h
 refine ⟨fun x y => ?_, fun x y z h1 h2 => ?_⟩
 ·have a := o.anti x y
  have b := p.anti x y
  by_cases h : c x y = 0
  ·rw [if_pos h, if_pos (hz x y h)]; exact b
  ·have h' : ¬ c y x = 0 := fun g => h (hz y x g)
   rw [if_neg h, if_neg h']; exact a
 ·by_cases a : c x y = 0
  ·rw [if_pos a] at h1
   by_cases b : c y z = 0
   ·rw [if_pos b] at h2
    have e1 := o.trans x y z (by omega) (by omega)
    have e2 := o.trans z y x (by have := hz y z b; omega) (by have := hz x y a; omega)
    have e3 := o.anti x z
    have e4 := o.anti z x
    have e : c x z = 0 := by omega
    rw [if_pos e]
    exact p.trans x y z h1 h2
   ·rw [if_neg b] at h2
    have : c x z < 0 := o.tle (x := x) (y := y) (z := z) (by omega) (by omega)
    rw [if_neg (by omega)]
    omega
  ·rw [if_neg a] at h1
   have h2' : c y z ≤ 0 := by
    split at h2 <;> omega
   have : c x z < 0 := o.tlt (x := x) (y := y) (z := z) (by omega) h2'
   rw [if_neg (by omega)]
   omega
theorem cmpI_ord : Ord cmpI := by
 refine ⟨fun x y => ?_, fun x y z h1 h2 => ?_⟩
 ·unfold cmpI
  repeat' split
  all_goals omega
 ·unfold cmpI at *
  repeat' split at *
  all_goals omega
theorem less_irr : ∀ a : List UInt8, Op.bytesLess a a = false
 | [] => rfl
 | x :: r => by simp [Op.bytesLess, less_irr r]
theorem less_cons (a b : UInt8) (x y : List UInt8) : Op.bytesLess (a :: x) (b :: y) = true ↔ a.toNat < b.toNat ∨ (a.toNat = b.toNat ∧ Op.bytesLess x y = true) := by
 simp only [Op.bytesLess, Bool.or_eq_true, decide_eq_true_eq, Bool.and_eq_true, beq_iff_eq, UInt8.lt_iff_toNat_lt]
 constructor
 ·rintro (h | ⟨rfl, h⟩)
  ·exact .inl h
  ·exact .inr ⟨rfl, h⟩
 ·rintro (h | ⟨h1, h⟩)
  ·exact .inl h
  ·exact .inr ⟨UInt8.toNat_inj.1 h1, h⟩
theorem less_tri : ∀ a b : List UInt8, Op.bytesLess a b = true ∨ a = b ∨ Op.bytesLess b a = true
 | [], [] => .inr (.inl rfl)
 | [], _ :: _ => .inl rfl
 | _ :: _, [] => .inr (.inr rfl)
 | a :: x, b :: y => by
   rw [less_cons, less_cons]
   by_cases h : a.toNat = b.toNat
   ·have e : a = b := UInt8.toNat_inj.1 h
    rcases less_tri x y with h1 | h1 | h1
    ·exact .inl (.inr ⟨h, h1⟩)
    ·exact .inr (.inl (by rw [e, h1]))
    ·exact .inr (.inr (.inr ⟨h.symm, h1⟩))
   ·by_cases h2 : a.toNat < b.toNat
    ·exact .inl (.inl h2)
    ·exact .inr (.inr (.inl (by omega)))
theorem less_trans : ∀ a b c : List UInt8, Op.bytesLess a b = true → Op.bytesLess b c = true → Op.bytesLess a c = true
 | _, [], _, h, _ => by cases ‹List UInt8› <;> simp [Op.bytesLess] at h
 | _, _ :: _, [], _, h => by simp [Op.bytesLess] at h
 | [], _ :: _, _ :: _, _, _ => rfl
 | a :: x, b :: y, c :: z, h1, h2 => by
   rw [less_cons] at *
   rcases h1 with h1 | ⟨h1, g1⟩
   ·rcases h2 with h2 | ⟨h2, g2⟩
    ·exact .inl (by omega)
    ·exact .inl (by omega)
   ·rcases h2 with h2 | ⟨h2, g2⟩
    ·exact .inl (by omega)
    ·exact .inr ⟨by omega, less_trans x y z g1 g2⟩
theorem cmpB_neg {a b : List UInt8} : cmpB a b < 0 ↔ Op.bytesLess a b = true := by
 unfold cmpB
 split
 ·rename_i h; simp [h]
 ·rename_i h
  split <;> simp [h]
theorem cmpB_zero {a b : List UInt8} : cmpB a b = 0 ↔ a = b := by
 unfold cmpB
 split
 ·rename_i h
  constructor
  ·intro h'; omega
  ·rintro rfl; rw [less_irr] at h; cases h
 ·split
  ·rename_i h; simp [eq_of_beq h]
  ·rename_i h
   constructor
   ·intro h'; omega
   ·rintro rfl; simp at h
theorem cmpB_ord : Ord cmpB := by
 have key : ∀ x y, 0 < cmpB y x ↔ Op.bytesLess x y = true := fun x y => by
  have h1 := cmpB_neg (a := y) (b := x)
  have h2 := cmpB_zero (a := y) (b := x)
  constructor
  ·intro h
   rcases less_tri x y with g | g | g
   ·exact g
   ·have := h2.2 g.symm
    omega
   ·have := h1.2 g
    omega
  ·intro h
   have h3 : ¬ cmpB y x < 0 := fun g => by
    have := less_trans x y x h (h1.1 g)
    rw [less_irr] at this; cases this
   have h4 : ¬ cmpB y x = 0 := fun g => by
    rw [h2.1 g, less_irr] at h; cases h
   omega
 refine ⟨fun x y => by rw [key, cmpB_neg], fun x y z h1 h2 => ?_⟩
 have e : ∀ a b : List UInt8, cmpB a b ≤ 0 ↔ Op.bytesLess a b = true ∨ a = b := fun a b => by
  rw [← cmpB_neg, ← cmpB_zero]; omega
 rw [e] at *
 rcases h1 with h1 | rfl
 ·rcases h2 with h2 | rfl
  ·exact .inl (less_trans _ _ _ h1 h2)
  ·exact .inl h1
 ·exact h2
theorem headC_eq (a b : Tm) : headC a b = if cmpI (placeK a) (placeK b) = 0 then (if cmpI a.num b.num = 0 then (if cmpI a.args.length b.args.length = 0 then cmpB a.name b.name else cmpI a.args.length b.args.length) else cmpI a.num b.num) else cmpI (placeK a) (placeK b) := by
 unfold headC
 simp only [orL]
 split
 ·split
  ·split
   ·split
    ·rename_i h; exact h.symm
    ·rfl
   ·rfl
  ·rfl
 ·rfl
theorem headC_ord : Ord headC := by
 have h := ord_lex (ord_pull cmpI_ord placeK) (ord_lex (ord_pull cmpI_ord Tm.num) (ord_lex (ord_pull cmpI_ord (fun t : Tm => (t.args.length : Int))) (ord_pull cmpB_ord Tm.name)))
 have e : headC = _ := funext fun a => funext fun b => headC_eq a b
 rw [e]
 exact h
theorem headC_zero {a b : Tm} : headC a b = 0 ↔ placeK a = placeK b ∧ a.num = b.num ∧ a.args.length = b.args.length ∧ a.name = b.name := by
 rw [headC_eq]
 have h1 := cmpI_zero (a := placeK a) (b := placeK b)
 have h2 := cmpI_zero (a := a.num) (b := b.num)
 have h3 := cmpI_zero (a := (a.args.length : Int)) (b := b.args.length)
 have h4 := cmpB_zero (a := a.name) (b := b.name)
 constructor
 ·intro h
  split at h
  ·split at h
   ·split at h
    ·exact ⟨h1.1 ‹_›, h2.1 ‹_›, by have := h3.1 ‹_›; omega, h4.1 h⟩
    ·contradiction
   ·contradiction
  ·contradiction
 ·rintro ⟨g1, g2, g3, g4⟩
  rw [if_pos (h1.2 g1), if_pos (h2.2 g2), if_pos (h3.2 (by omega)), h4.2 g4]
def lexL {α : Type} (c : α → α → Int) : List α → List α → Int
 | [], [] => 0
 | [], _ :: _ => -1
 | _ :: _, [] => 1
 | x :: r, y :: q => if c x y = 0 then lexL c r q else c x y
theorem lexL_cons {α : Type} (c : α → α → Int) (x y : α) (r q : List α) : lexL c (x :: r) (y :: q) = if c x y = 0 then lexL c r q else c x y := rfl
theorem lexL_anti {α : Type} {c : α → α → Int} (o : Ord c) : ∀ x y : List α, lexL c x y < 0 ↔ 0 < lexL c y x
 | [], [] => by simp [lexL]
 | [], _ :: _ => by simp [lexL]
 | _ :: _, [] => by simp [lexL]
 | x :: r, y :: q => by
   have ih := lexL_anti o r q
   have h1 := o.anti x y
   unfold lexL
   by_cases h : c x y = 0
   ·rw [if_pos h, if_pos (o.zero h)]; exact ih
   ·have h' : ¬ c y x = 0 := fun g => h (o.zero g)
    rw [if_neg h, if_neg h']; exact h1
theorem lexL_trans {α : Type} {c : α → α → Int} (o : Ord c) : ∀ x y z : List α, lexL c x y ≤ 0 → lexL c y z ≤ 0 → lexL c x z ≤ 0
 | [], _, [], _, _ => by simp [lexL]
 | [], _, _ :: _, _, _ => by simp [lexL]
 | _ :: _, [], _, h, _ => by simp [lexL] at h
 | _ :: _, _ :: _, [], _, h => by simp [lexL] at h
 | x :: r, y :: q, z :: s, h1, h2 => by
   have ih := lexL_trans o r q s
   rw [lexL_cons] at *
   by_cases a : c x y = 0
   ·rw [if_pos a] at h1
    by_cases b : c y z = 0
    ·rw [if_pos b] at h2
     have e1 := o.trans x y z (by omega) (by omega)
     have e2 := o.trans z y x (by have := o.zero b; omega) (by have := o.zero a; omega)
     have e3 := o.anti x z
     have e4 := o.anti z x
     rw [if_pos (by omega)]
     exact ih h1 h2
    ·rw [if_neg b] at h2
     have : c x z < 0 := o.tle (x := x) (y := y) (z := z) (by omega) (by omega)
     rw [if_neg (by omega)]
     omega
   ·rw [if_neg a] at h1
    have h2' : c y z ≤ 0 := by
     split at h2 <;> omega
    have : c x z < 0 := o.tlt (x := x) (y := y) (z := z) (by omega) h2'
    rw [if_neg (by omega)]
    omega
theorem lexL_ord {α : Type} {c : α → α → Int} (o : Ord c) : Ord (lexL c) := ⟨lexL_anti o, lexL_trans o⟩
mutual
def ser : Tm → List Tm
 | .nl k n s => [.nl k n s]
 | .mk k n s us => .mk k n s us :: serL us
def serL : List Tm → List Tm
 | [] => []
 | x :: r => ser x ++ serL r
end
theorem ser_eq (x : Tm) : ser x = x :: serL x.args := by
 cases x with
 | nl k n s => simp [ser, Tm.args, serL]
 | mk k n s us => simp [ser, Tm.args]
theorem ser_gen (m : Nat) : (∀ x y : Tm, x.size < m → ∀ r q, lexL headC (ser x ++ r) (ser y ++ q) = if cmpT x y = 0 then lexL headC r q else cmpT x y) := by
 induction m with
 | zero => intro x y h; omega
 | succ m ih =>
   have hL : ∀ us ws : List Tm, us.length = ws.length → Tm.sizeL us < m → ∀ r q, lexL headC (serL us ++ r) (serL ws ++ q) = if cmpL us ws = 0 then lexL headC r q else cmpL us ws := by
    intro us
    induction us with
    | nil =>
      intro ws hw _ r q
      have : ws = [] := List.eq_nil_of_length_eq_zero (by simpa using hw.symm)
      subst this
      simp [serL, cmpL_nil]
    | cons x us ihu =>
      intro ws hw hs r q
      cases ws with
      | nil => simp at hw
      | cons y ws =>
        simp only [Tm.sizeL] at hs
        rw [serL, serL, List.append_assoc, List.append_assoc, ih x y (by omega), cmpL_cons]
        by_cases h : cmpT x y = 0
        ·rw [if_pos h, if_pos h]
         exact ihu ws (by simpa using hw) (by omega) r q
        ·rw [if_neg h, if_neg h, if_neg h]
   intro x y hx r q
   have s1 := size_args x
   rw [ser_eq, ser_eq, cmpT_eq]
   simp only [List.cons_append, lexL]
   by_cases h : headC x y = 0
   ·rw [if_pos h, if_pos h]
    exact hL x.args y.args (headC_zero.1 h).2.2.1 (by omega) r q
   ·rw [if_neg h, if_neg h, if_neg h]
theorem cmpT_ser (x y : Tm) : cmpT x y = lexL headC (ser x) (ser y) := by
 have h := ser_gen (x.size + 1) x y (by omega) [] []
 rw [List.append_nil, List.append_nil] at h
 rw [h]
 split
 ·rename_i h; rw [h]; rfl
 ·rfl
theorem cmpT_ord : Ord cmpT := by
 have h := ord_pull (lexL_ord headC_ord) ser
 have e : cmpT = _ := funext fun a => funext fun b => cmpT_ser a b
 rw [e]
 exact h
theorem kind_place {x y : Tm} (hx : oneK x = true) (hy : oneK y = true) (hl : x.args.length = y.args.length) : placeK x = placeK y ↔ x.kind = y.kind := by
 have k : ∀ {x : Tm}, oneK x = true → x.kind = 0 ∨ x.kind = 1 ∨ x.kind = 2 := fun {x} h => by
  unfold oneK at h
  split at h
  ·exact .inl ‹_›
  ·split at h
   ·exact .inr (.inl ‹_›)
   ·split at h
    ·exact .inr (.inr ‹_›)
    ·cases h
 have a := k hx
 have b := k hy
 unfold placeK
 constructor
 ·intro h
  split at h <;> split at h <;> omega
 ·intro h
  rw [h, hl]
theorem same_gen (m : Nat) : ∀ x y : Tm, x.size < m → x.allT oneK = true → y.allT oneK = true → (cmpT x y = 0 ↔ sameT x y = true) := by
 induction m with
 | zero => intro x y h; omega
 | succ m ih =>
   have hL : ∀ us ws : List Tm, us.length = ws.length → Tm.sizeL us < m → Tm.allL oneK us = true → Tm.allL oneK ws = true → (cmpL us ws = 0 ↔ sameL us ws = true) := by
    intro us
    induction us with
    | nil =>
      intro ws hw _ _ _
      have : ws = [] := List.eq_nil_of_length_eq_zero (by simpa using hw.symm)
      subst this
      simp [sameL_nil, cmpL_nil]
    | cons x us ihu =>
      intro ws hw hs h1 h2
      cases ws with
      | nil => simp at hw
      | cons y ws =>
        simp only [Tm.sizeL] at hs
        simp only [Tm.allL, Bool.and_eq_true] at h1 h2
        have e1 := ih x y (by omega) h1.1 h2.1
        have e2 := ihu ws (by simpa using hw) (by omega) h1.2 h2.2
        rw [sameL_cons, cmpL_cons, Bool.and_eq_true]
        constructor
        ·intro h
         split at h
         ·exact ⟨e1.1 ‹_›, e2.1 h⟩
         ·contradiction
        ·rintro ⟨g1, g2⟩
         rw [if_pos (e1.2 g1)]
         exact e2.2 g2
   intro x y hx h1 h2
   have s1 := size_args x
   have a1 : oneK x = true ∧ Tm.allL oneK x.args = true := by
    cases x with
    | nl k n s => simp [Tm.allT] at h1; exact ⟨h1, rfl⟩
    | mk k n s us => simp [Tm.allT] at h1; exact ⟨h1.1, h1.2⟩
   have a2 : oneK y = true ∧ Tm.allL oneK y.args = true := by
    cases y with
    | nl k n s => simp [Tm.allT] at h2; exact ⟨h2, rfl⟩
    | mk k n s us => simp [Tm.allT] at h2; exact ⟨h2.1, h2.2⟩
   rw [cmpT_eq, sameT_eq]
   simp only [Bool.and_eq_true, decide_eq_true_eq, beq_iff_eq]
   constructor
   ·intro h
    split at h
    ·rename_i hc
     obtain ⟨g1, g2, g3, g4⟩ := headC_zero.1 hc
     exact ⟨⟨⟨(kind_place a1.1 a2.1 g3).1 g1, g2⟩, g4⟩, (hL _ _ g3 (by omega) a1.2 a2.2).1 h⟩
    ·contradiction
   ·rintro ⟨⟨⟨g1, g2⟩, g4⟩, g5⟩
    have g3 : x.args.length = y.args.length := Classical.byContradiction fun h => by
     rw [sameL_len _ _ h] at g5; cases g5
    rw [if_pos (headC_zero.2 ⟨(kind_place a1.1 a2.1 g3).2 g1, g2, g3, g4⟩)]
    exact (hL _ _ g3 (by omega) a1.2 a2.2).2 g5
theorem same_cmp {x y : Tm} (hx : goodT x = true) (hy : goodT y = true) : sameT x y = true ↔ cmpT x y = 0 := by
 unfold goodT at hx hy
 simp only [Bool.and_eq_true] at hx hy
 exact (same_gen (x.size + 1) x y (by omega) hx.2 hy.2).symm
end Go.Proofs.YtlakiipofcibhaaGreatDoor
