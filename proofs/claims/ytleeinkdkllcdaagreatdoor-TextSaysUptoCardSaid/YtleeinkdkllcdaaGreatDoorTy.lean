import Derived.Test.YtleeinkdkllcdaaGreatDoorFn
import Derived.Test.YtleeinkdkllcdaaGreatDoorArg
import Derived.Test.YtleeinkdkllcdaaGreatDoorRows
import Derived.ProofKit
import Derived.Test.YtleeinkdkllcdaaGreatDoorTm
set_option linter.unusedVariables false
set_option linter.unusedSimpArgs false
set_option linter.unusedSectionVars false
set_option maxHeartbeats 16000000
set_option maxRecDepth 100000

namespace Go.Proofs.YtleeinkdkllcdaaGreatDoor
open Go Sz
theorem Tryz.own : ownKnob Tryz.prog.godebug = none := by kernel_rfl
theorem Tryz.laidOut : laidOutB Tryz.prog = true := by kernel_rfl
theorem TabX_of {l : List (String × DataW Unit)} {W : World} (hL : laidMetH Tryz.prog l W)
 (h : (l.filter fun x => x.1 == "internal/strconv.uint64pow10") = [("internal/strconv.uint64pow10", Lib.tabData .u64 Lib.pow10Tab)] ∧ (l.filter fun x => x.1 == "strconv.ErrRange") = [("strconv.ErrRange", Rows.laid_strconv_ErrRange)]) : TabX W := by
 have h1 := hL.filter fun x => x.1 == "internal/strconv.uint64pow10"
 rw [h.1, MakeChecks.laidMetH_plain _ _ _ (by kernel_rfl)] at h1
 have h2 := hL.filter fun x => x.1 == "strconv.ErrRange"
 rw [h.2, MakeChecks.laidMetH_plain _ _ _ (by kernel_rfl)] at h2
 refine ⟨Lib.tabIs_of_head (g := 2) (by kernel_rfl) (t := 177) (by kernel_rfl) (e := 132) (n := 20) (by kernel_rfl) (by kernel_rfl) (by kernel_rfl) (by kernel_rfl) h1, ?_⟩
 exact iface_of_head (g := 1) (t := 87) (ms := #[("Error", 167)]) (by kernel_rfl) (by kernel_rfl) (by kernel_rfl) h2
end Go.Proofs.YtleeinkdkllcdaaGreatDoor

namespace Go.Proofs.YtleeinkdkllcdaaGreatDoor
open Go Sz Go.ChangeShapes Go.WideShapes Go.ChangeAt Go.RowKit
theorem tm_inv : ∀ (n : Nat) (v : AV), SizeOf.sizeOf v ≤ n → HasTy Tryz.prog 26 v → ∃ t : Tm, v = t.enc ∧ (∃ k n s us, t = .mk k n s us) ∧ -9223372036854775808 ≤ t.num ∧ t.num < 9223372036854775808
 | 0, v, h, _ => by cases v <;> simp at h
 | n + 1, v, hn, h => by
   obtain ⟨vs, rfl, hv⟩ := ty_agg Tryz.underlying26 h
   cases hv with
   | cons h1 r1 => cases r1 with
     | cons h2 r2 => cases r2 with
       | cons h3 r3 => cases r3 with
         | cons h4 r4 =>
           cases r4
           obtain ⟨k, rfl, _⟩ := ty_i64 Tryz.underlying3 h1
           obtain ⟨q, rfl, hq1, hq2⟩ := ty_i64 Tryz.underlying2 h2
           obtain ⟨s, rfl, _⟩ := ty_str Tryz.underlying9 h3
           obtain ⟨xs, rfl, _, hx⟩ := ty_sl Tryz.underlying24 h4
           have hsz : SizeOf.sizeOf xs ≤ n := by
            simp only [List.flatMap_cons, List.flatMap_nil, AV.cells, List.cons_append, List.nil_append, List.append_nil, AV.agg.sizeOf_spec, List.cons.sizeOf_spec, AV.sl.sizeOf_spec] at hn
            omega
           obtain ⟨us, rfl⟩ := ty_map (f := Tm.enc) fun x hm => by
            obtain ⟨t, e, _⟩ := tm_inv n x (by have := List.sizeOf_lt_of_mem hm; omega) (hx x hm)
            exact ⟨t, e⟩
           exact ⟨.mk k q s us, by simp [Tm.enc, AV.cells, encL_map], ⟨k, q, s, us, rfl⟩, hq1, hq2⟩
theorem tm_of {v : AV} (h : HasTy Tryz.prog 26 v) : ∃ t : Tm, v = t.enc ∧ (∃ k n s us, t = .mk k n s us) ∧ -9223372036854775808 ≤ t.num ∧ t.num < 9223372036854775808 := tm_inv _ v (Nat.le_refl _) h
mutual
def vb : AV → Nat
 | .bool _ => 1
 | .int .. => 1
 | .str s => s.length + 1
 | .sl xs => vbL xs + 1
 | .agg cs => vbL cs
 | _ => 0
def vbL : List AV → Nat
 | [] => 0
 | v :: r => vb v + vbL r
end
theorem vbL_append (a b : List AV) : vbL (a ++ b) = vbL a + vbL b := by
 induction a with
 | nil => simp [vbL]
 | cons v r ih => simp [vbL, ih]; omega
theorem vbL_cells (v : AV) : vbL v.cells = vb v := by
 cases v <;> simp [AV.cells, vbL, vb]
mutual
theorem vb_le {H : Type} : ∀ d : DataW H, vb (avOf d) ≤ Rows.uptoBulk d
 | .lit l => by cases l <;> simp [avOf, vb, Rows.uptoBulk, String.length, ByteArray.size]
 | .nil => by simp [avOf, vb, vbL, Rows.uptoBulk]
 | .ptr d => by simp [avOf, vb]
 | .slice es sp => by have := vbL_le es; simp [avOf, vb, Rows.uptoBulk]; omega
 | .agg ps => by have := vbC_le ps; simp [avOf, vb, Rows.uptoBulk]; omega
 | .iface _ d => by simp [avOf, vb]
 | .map _ => by simp [avOf, vb]
 | .held _ => by simp [avOf, vb]
theorem vbL_le {H : Type} : ∀ l : List (DataW H), vbL (avOfL l) ≤ Rows.uptoBulkAll l
 | [] => by simp [avOfL, vbL]
 | d :: r => by have := vb_le d; have := vbL_le r; simp [avOfL, vbL, Rows.uptoBulkAll]; omega
theorem vbC_le {H : Type} : ∀ l : List (DataW H), vbL (cellsOfL l) ≤ Rows.uptoBulkAll l
 | [] => by simp [cellsOfL, vbL]
 | d :: r => by have := vb_le d; have := vbC_le r; simp [cellsOfL, vbL_append, vbL_cells, Rows.uptoBulkAll]; omega
end
theorem upto_le {H : Type} {ds : List (DataW H)} (h : Rows.uptoSmall H ds = true) : vbL (ds.map avOf) ≤ 1048576 := by
 have h1 := vbL_le ds
 rw [avOfL_map] at h1
 have h2 : Rows.uptoBulkAll ds ≤ 1048576 := of_decide_eq_true h
 omega
mutual
theorem bulk_vb : ∀ t : Tm, t.bulk ≤ vb t.enc
 | .nl k n s => by simp [Tm.bulk, Tm.enc, vb, vbL]; omega
 | .mk k n s us => by have := bulkL_vb us; simp [Tm.bulk, Tm.enc, vb, vbL]; omega
theorem bulkL_vb : ∀ l : List Tm, Tm.bulkL l ≤ vbL (Tm.encL l)
 | [] => by simp [Tm.bulkL]
 | t :: r => by have := bulk_vb t; have := bulkL_vb r; simp [Tm.bulkL, Tm.encL, vbL]; omega
end
end Go.Proofs.YtleeinkdkllcdaaGreatDoor
