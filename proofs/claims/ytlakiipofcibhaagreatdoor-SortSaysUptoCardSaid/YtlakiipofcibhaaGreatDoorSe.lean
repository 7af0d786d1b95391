import Derived.Test.YtlakiipofcibhaaGreatDoorAt
import Derived.Test.YtlakiipofcibhaaGreatDoorTm
import Derived.Test.YtlakiipofcibhaaGreatDoorSd
import Derived.Test.YtlakiipofcibhaaGreatDoorLs
import Derived.Test.YtlakiipofcibhaaGreatDoorSc
import Derived.Test.YtlakiipofcibhaaGreatDoorKa
set_option linter.unusedVariables false
set_option linter.unusedSimpArgs false
set_option linter.unusedSectionVars false
set_option maxHeartbeats 16000000
set_option maxRecDepth 100000

namespace Go.Proofs.YtlakiipofcibhaaGreatDoor
open Go Sz
def anyD (p : Tm → Bool) : List Tm → Bool
 | [] => false
 | x :: r => if p x then true else anyD p r
def deepT : Nat → Tm → Bool
 | 0, _ => true
 | n + 1, t => if 12 < t.args.length then true else anyD (deepT n) t.args
def deepKS (m : Nat) : KSpec := ⟨26, fun | [v, .int .i64 n] => (match decTm v with | some t => if n = m then some (.bool (deepT m t)) else none | none => none) | _ => none⟩
theorem deepKS_f (m : Nat) : (deepKS m).f = 26 := (rfl)
theorem deepKS_at (m : Nat) (t : Tm) : (deepKS m).S [t.enc, .int .i64 (m : Nat)] = some (.bool (deepT m t)) := by
 simp only [deepKS, decTm_enc, if_true]
theorem deepKS_no (m k : Nat) (v : AV) (h : k ≠ m) : (deepKS m).S [v, .int .i64 (k : Nat)] = none := by
 simp only [deepKS]
 split
 ·rw [if_neg (by omega)]
 ·rfl
theorem c26_loop (n m : Nat) (hm : m ≤ 100) (hm1 : 1 ≤ m) (K N : Int) (s : List UInt8) (us : List Tm) (hs : us.length ≤ 12) : ∀ (post pre : List Tm) (k : Nat), us = pre ++ post → post.length < k →
 ∃ md, aft 1 0 (loopH (evCode (evCall (envOf [deepKS (m - 1)]) (n + 1)) (n + 1) c26_b0) c26_m0 1 k (c26_f0 (.int .i64 m) (.ptr 0 0) (.int .i64 pre.length)) ⟨1, [.row [.int .i64 K, .int .i64 N, .str s, .sl (us.map Tm.enc)]], 1, 0⟩) =
   some (if anyD (deepT (m - 1)) post then .ret else .exit 0, if anyD (deepT (m - 1)) post then FM 29 [(4, .bool true)] else FM 29 [], ⟨1, [.row [.int .i64 K, .int .i64 N, .str s, .sl (us.map Tm.enc)]], 0, md⟩)
 | [], pre, k + 1, e, _ => by
   simp at e
   subst e
   have h5 : AV.refsL (us.map Tm.enc) = 0 := encs_refs _
   exact ⟨0, by simp [loopH_succ, c26_b0, h5, anyD]⟩
 | x :: post, pre, k + 1, e, hk => by
   have h1 : us[pre.length]? = some x := by rw [e]; simp
   have h5 : AV.refsL (us.map Tm.enc) = 0 := encs_refs _
   have hpl : pre.length < us.length := by rw [e]; simp
   have h6 : ((pre.length : Int) < (us.length : Int)) = True := eq_true (by omega)
   have h3 : IntKind.i64.wrap ((pre.length : Int) + 1) = (pre.length : Int) + 1 := wrap_i64 (by omega) (by omega)
   have hxe := Tm.enc_eq x
   have hcl := Tm.cells_is x
   have hxr := argV_refs x
   have w1 : IntKind.i64.wrap ((m : Int) - 1) = ((m - 1 : Nat) : Int) := by rw [wrap_i64 (by omega) (by omega)]; omega
   have hc := deepKS_at (m - 1) x
   rw [hxe, hcl] at hc
   obtain ⟨md, ih⟩ := c26_loop n m hm hm1 K N s us hs post (pre ++ [x]) k (by simp [e]) (by rw [List.length_cons] at hk; omega)
   simp only [List.length_append, List.length_cons, List.length_nil, Nat.zero_add] at ih
   rw [show ((pre.length + 1 : Nat) : Int) = (pre.length : Int) + 1 by omega] at ih
   rw [loopH_succ]
   cases hd : deepT (m - 1) x with
   | true =>
     rw [hd] at hc
     refine ⟨0, ?_⟩
     simp [c26_b0, c26_m0, h1, h3, h5, h6, hxe, hcl, hxr, w1, hc, frz_argV, deepKS_f, anyD, hd]
   | false =>
     rw [hd] at hc
     refine ⟨md, ?_⟩
     simp [c26_b0, c26_m0, h1, h3, h5, h6, hxe, hcl, hxr, w1, hc, frz_argV, deepKS_f, anyD, hd]
     exact ih
theorem deepKS_step (m : Nat) (hm1 : 1 ≤ m) (hm : m ≤ 100) (hp : KSpecOK Tryz.prog (deepKS (m - 1))) : KSpecOK Tryz.prog (deepKS m) := fun args v hv => by
 have hv0 := hv
 unfold deepKS at hv
 dsimp only at hv
 split at hv
 ·rename_i x n
  split at hv
  ·rename_i t ht
   split at hv
   ·rename_i hc
    subst hc
    cases hv
    rw [decTm_eq ht]
    have hno := deepKS_no (m - 1) m t.enc (by omega)
    refine prim_of (n := 20) (h' := h0) (envOf_ok (ss := [deepKS (m - 1)]) (by simp [hp])) ?_ rfl (by simp [AV.refsL, AV.refs, Tm.enc_refs])
    rw [deepKS_f]
    have hxe := Tm.enc_eq t
    obtain ⟨q, rfl⟩ : ∃ q, m = q + 1 := ⟨m - 1, by omega⟩
    have t1 : ((((q + 1 : Nat) : Int)) < 1) = False := eq_false (by omega)
    have t1' : ((q : Int) + 1 < 1) = False := eq_false (by omega)
    rw [Nat.add_sub_cancel] at hno
    cases t with
    | nl kk nn ss =>
      have hcl : (Tm.nl kk nn ss).cells = [.int .i64 kk, .int .i64 nn, .str ss, .nils] := rfl
      rw [hxe, hcl] at hno ⊢
      have hd : deepT (q + 1) (Tm.nl kk nn ss) = false := rfl
      rw [hd]
      simp only [Int.natCast_add, Int.natCast_one] at hno
      simp [run26, c26, c26_m0, c26_b0, loopH_succ, hno, deepKS_f, t1']
    | mk kk nn ss us =>
      have hcl : (Tm.mk kk nn ss us).cells = [.int .i64 kk, .int .i64 nn, .str ss, .sl (us.map Tm.enc)] := rfl
      have h5 : AV.refsL (us.map Tm.enc) = 0 := encs_refs _
      rw [hxe, hcl] at hno ⊢
      have hd : deepT (q + 1) (Tm.mk kk nn ss us) = if 12 < us.length then true else anyD (deepT q) us := rfl
      rw [hd]
      by_cases hl : 12 < us.length
      ·have t2 : ((12 : Int) < (us.length : Int)) = True := eq_true (by omega)
       simp only [Int.natCast_add, Int.natCast_one] at hno
       simp [run26, c26, hno, deepKS_f, t1', t2, h5, hl]
      ·have t2 : ((12 : Int) < (us.length : Int)) = False := eq_false (by omega)
       obtain ⟨md, lp⟩ := c26_loop 18 (q + 1) hm hm1 kk nn ss us (by omega) us [] 19 rfl (by omega)
       simp only [List.length_nil, Int.natCast_zero, Nat.add_sub_cancel, Int.natCast_add, Int.natCast_one, c26_m0] at lp
       simp only [Int.natCast_add, Int.natCast_one] at hno
       rw [if_neg hl]
       cases ha : anyD (deepT q) us with
       | true =>
         rw [ha] at lp
         simp only [if_true] at lp
         simp [run26, c26, c26_m0, hno, deepKS_f, t1', t2, h5, hl, lp]
       | false =>
         rw [ha] at lp
         simp only [Bool.false_eq_true, if_false] at lp
         simp [run26, c26, c26_m0, hno, deepKS_f, t1', t2, h5, hl, lp]
   ·cases hv
  ·cases hv
 ·cases hv
theorem deepKS_zero : KSpecOK Tryz.prog (deepKS 0) := fun args v hv => by
 unfold deepKS at hv
 dsimp only at hv
 split at hv
 ·rename_i x n
  split at hv
  ·rename_i t ht
   split at hv
   ·rename_i hc
    subst hc
    cases hv
    rw [decTm_eq ht]
    refine prim_of (n := 5) (h' := h0) (envOf_ok (ss := []) (by simp)) ?_ rfl (by simp [AV.refsL, AV.refs, Tm.enc_refs])
    rw [deepKS_f]
    have hxe := Tm.enc_eq t
    have hcl := Tm.cells_is t
    have hxr := argV_refs t
    have hd : deepT 0 t = true := rfl
    rw [hxe, hcl, hd]
    simp [run26, c26, hxr]
   ·cases hv
  ·cases hv
 ·cases hv
theorem deepKS_all : ∀ m, m ≤ 100 → KSpecOK Tryz.prog (deepKS m)
 | 0, _ => deepKS_zero
 | m + 1, h => deepKS_step (m + 1) (by omega) h (deepKS_all m (by omega))
end Go.Proofs.YtlakiipofcibhaaGreatDoor

namespace Go.Proofs.YtlakiipofcibhaaGreatDoor
open Go Sz Srt
theorem sortT_eq {c : Tm → Tm → Int} (o : Ord c) (us : List Tm) : sortT c us = isort c us := by
 have h := isort_srt o us.zipIdx (zip_up us 0).1
 unfold sortT
 rw [srt_eq o h.2 h.1]
 show fs _ = _
 unfold fs
 rw [isort_map]
 show isort c (fs us.zipIdx) = _
 rw [fs_zip]
theorem isort_perm {c : Tm → Tm → Int} (o : Ord c) (us : List Tm) : (isort c us).Perm us := by
 have h := isort_srt o us.zipIdx (zip_up us 0).1
 have h2 := h.2.map (·.1)
 rw [isort_map] at h2
 have e : us.zipIdx.map (·.1) = us := fs_zip us 0
 rw [e] at h2
 exact h2
theorem cgo_sub (e : Tm → Tm → Bool) : ∀ (r : List Tm) (p : Tm), (cgo e p r).Sublist r
 | [], _ => List.Sublist.slnil
 | y :: r, p => by
   rw [cgo_cons]
   split
   ·exact (cgo_sub e r y).cons y
   ·exact (cgo_sub e r y).cons_cons y
theorem cmpct_sub (e : Tm → Tm → Bool) (l : List Tm) : (cmpct e l).Sublist l := by
 cases l with
 | nil => exact List.Sublist.slnil
 | cons x r => exact (cgo_sub e r x).cons_cons x
end Go.Proofs.YtlakiipofcibhaaGreatDoor

namespace Go.Proofs.YtlakiipofcibhaaGreatDoor
open Go Sz
set_option maxRecDepth 100000
def awV0 : AV := .agg [.sl [.agg [.str [58, 45], .str [120, 102, 120], .int .i64 1200], .agg [.str [59], .str [120, 102, 121], .int .i64 1100], .agg [.str [45, 62], .str [120, 102, 121], .int .i64 1050], .agg [.str [44], .str [120, 102, 121], .int .i64 1000], .agg [.str [92, 43], .str [102, 121], .int .i64 900], .agg [.str [61], .str [120, 102, 120], .int .i64 700], .agg [.str [92, 61], .str [120, 102, 120], .int .i64 700], .agg [.str [61, 61], .str [120, 102, 120], .int .i64 700], .agg [.str [92, 61, 61], .str [120, 102, 120], .int .i64 700], .agg [.str [64, 60], .str [120, 102, 120], .int .i64 700], .agg [.str [64, 62], .str [120, 102, 120], .int .i64 700], .agg [.str [64, 61, 60], .str [120, 102, 120], .int .i64 700], .agg [.str [64, 62, 61], .str [120, 102, 120], .int .i64 700], .agg [.str [61, 46, 46], .str [120, 102, 120], .int .i64 700], .agg [.str [105, 115], .str [120, 102, 120], .int .i64 700], .agg [.str [61, 58, 61], .str [120, 102, 120], .int .i64 700], .agg [.str [61, 92, 61], .str [120, 102, 120], .int .i64 700], .agg [.str [60], .str [120, 102, 120], .int .i64 700], .agg [.str [62], .str [120, 102, 120], .int .i64 700], .agg [.str [61, 60], .str [120, 102, 120], .int .i64 700], .agg [.str [62, 61], .str [120, 102, 120], .int .i64 700], .agg [.str [43], .str [121, 102, 120], .int .i64 500], .agg [.str [45], .str [121, 102, 120], .int .i64 500], .agg [.str [47, 92], .str [121, 102, 120], .int .i64 500], .agg [.str [92, 47], .str [121, 102, 120], .int .i64 500], .agg [.str [120, 111, 114], .str [121, 102, 120], .int .i64 500], .agg [.str [42], .str [121, 102, 120], .int .i64 400], .agg [.str [47, 47], .str [121, 102, 120], .int .i64 400], .agg [.str [109, 111, 100], .str [121, 102, 120], .int .i64 400], .agg [.str [114, 101, 109], .str [121, 102, 120], .int .i64 400], .agg [.str [62, 62], .str [121, 102, 120], .int .i64 400], .agg [.str [60, 60], .str [121, 102, 120], .int .i64 400], .agg [.str [94], .str [120, 102, 121], .int .i64 200], .agg [.str [45], .str [102, 121], .int .i64 200], .agg [.str [92], .str [102, 121], .int .i64 200]]]
def awV1 : AV := .tuple [.sl [.agg [.int .i64 5, .str [91], .int .i64 0, .bool false, .int .i64 0], .agg [.int .i64 1, .str [98], .int .i64 0, .bool false, .int .i64 1], .agg [.int .i64 5, .str [44], .int .i64 0, .bool false, .int .i64 2], .agg [.int .i64 1, .str [97], .int .i64 0, .bool false, .int .i64 3], .agg [.int .i64 5, .str [44], .int .i64 0, .bool false, .int .i64 4], .agg [.int .i64 1, .str [98], .int .i64 0, .bool false, .int .i64 5], .agg [.int .i64 5, .str [93], .int .i64 0, .bool false, .int .i64 6], .agg [.int .i64 6, .str [], .int .i64 0, .bool false, .int .i64 8]], .int .i64 9, .int .i64 0]
def awV2 : AV := .tuple [.sl [.agg [.int .i64 5, .str [91], .int .i64 0, .bool false, .int .i64 0], .agg [.int .i64 1, .str [97], .int .i64 0, .bool false, .int .i64 1], .agg [.int .i64 5, .str [44], .int .i64 0, .bool false, .int .i64 2], .agg [.int .i64 1, .str [98], .int .i64 0, .bool false, .int .i64 3], .agg [.int .i64 5, .str [93], .int .i64 0, .bool false, .int .i64 4], .agg [.int .i64 6, .str [], .int .i64 0, .bool false, .int .i64 6]], .int .i64 7, .int .i64 0]
def awV3 : AV := .tuple [.agg [.int .i64 2, .int .i64 0, .str [46], .sl [.agg [.int .i64 2, .int .i64 0, .str [98], .nils], .agg [.int .i64 2, .int .i64 0, .str [46], .sl [.agg [.int .i64 2, .int .i64 0, .str [97], .nils], .agg [.int .i64 2, .int .i64 0, .str [46], .sl [.agg [.int .i64 2, .int .i64 0, .str [98], .nils], .agg [.int .i64 2, .int .i64 0, .str [91, 93], .nils]]]]]]], .nils, .int .i64 0]
def awV4 : AV := .tuple [.agg [.int .i64 2, .int .i64 0, .str [46], .sl [.agg [.int .i64 2, .int .i64 0, .str [97], .nils], .agg [.int .i64 2, .int .i64 0, .str [46], .sl [.agg [.int .i64 2, .int .i64 0, .str [98], .nils], .agg [.int .i64 2, .int .i64 0, .str [91, 93], .nils]]]]], .nils, .int .i64 0]
theorem awe1 : evCall (envOf ssA) 90 14 [] h0 = some (awV0, h0) := by kernel_rfl
theorem awe2 : evCall (envOf ssA) 90 73 [.str [91, 98, 44, 97, 44, 98, 93, 32, 46]] h0 = some (awV1, h0) := by kernel_rfl
theorem awe3 : evCall (envOf ssA) 90 73 [.str [91, 97, 44, 98, 93, 32, 46]] h0 = some (awV2, h0) := by kernel_rfl
def awT14 : KSpec := .tab 14 [([], awV0)]
theorem awT14_ok : KSpecOKX Tryz.prog TabX awT14 := KSpec.tab_ok (by
 have E := envOf_okX ssA_ok
 exact List.forall_mem_cons.2 ⟨prim_of E awe1 (by kernel_rfl) (by kernel_rfl), fun _ h => nomatch h⟩)
def awT73 : KSpec := .tab 73 [([.str [91, 98, 44, 97, 44, 98, 93, 32, 46]], awV1), ([.str [91, 97, 44, 98, 93, 32, 46]], awV2)]
theorem awT73_ok : KSpecOKX Tryz.prog TabX awT73 := KSpec.tab_ok (by
 have E := envOf_okX ssA_ok
 exact List.forall_mem_cons.2 ⟨prim_of E awe2 (by kernel_rfl) (by kernel_rfl), List.forall_mem_cons.2 ⟨prim_of E awe3 (by kernel_rfl) (by kernel_rfl), fun _ h => nomatch h⟩⟩)
def awS1 : List KSpec := awT14 :: awT73 :: ssA
theorem awS1_ok : ∀ s ∈ awS1, KSpecOKX Tryz.prog TabX s := List.forall_mem_cons.2 ⟨awT14_ok, List.forall_mem_cons.2 ⟨awT73_ok, ssA_ok⟩⟩
theorem awe4 : evCall (envOf awS1) 90 12 [awV0, .str [91, 98, 44, 97, 44, 98, 93, 32, 46]] h0 = some (awV3, h0) := by kernel_rfl
theorem awe5 : evCall (envOf awS1) 90 12 [awV0, .str [91, 97, 44, 98, 93, 32, 46]] h0 = some (awV4, h0) := by kernel_rfl
def awT12 : KSpec := .tab 12 [([awV0, .str [91, 98, 44, 97, 44, 98, 93, 32, 46]], awV3), ([awV0, .str [91, 97, 44, 98, 93, 32, 46]], awV4)]
theorem awT12_ok : KSpecOKX Tryz.prog TabX awT12 := KSpec.tab_ok (by
 have E := envOf_okX awS1_ok
 exact List.forall_mem_cons.2 ⟨prim_of E awe4 (by kernel_rfl) (by kernel_rfl), List.forall_mem_cons.2 ⟨prim_of E awe5 (by kernel_rfl) (by kernel_rfl), fun _ h => nomatch h⟩⟩)
def awS2 : List KSpec := awT12 :: awT14 :: ssI
theorem awS2_ok : ∀ s ∈ awS2, KSpecOKX Tryz.prog TabX s := List.forall_mem_cons.2 ⟨awT12_ok, List.forall_mem_cons.2 ⟨awT14_ok, ssI_ok⟩⟩
theorem awake25_run : evCall (envK awS2) 90 25 [] h0 = some (.bool true, h0) := by kernel_rfl
def awake25S : KSpec := ⟨25, fun | [] => some (.bool true) | _ => none⟩
theorem awake25S_f : awake25S.f = 25 := (rfl)
theorem awake25S_at : awake25S.S [] = some (.bool true) := (rfl)
theorem awake25S_ok : KSpecOKX Tryz.prog TabX awake25S := fun args v hv => by
 unfold awake25S at hv ⊢
 dsimp only at hv ⊢
 split at hv
 ·cases hv
  exact prim_of (envK_okX awS2_ok) awake25_run rfl rfl
 ·cases hv
end Go.Proofs.YtlakiipofcibhaaGreatDoor
