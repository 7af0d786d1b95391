import Derived.Test.YtleeinkdkllcdaaGreatDoorAt
import Derived.Test.YtleeinkdkllcdaaGreatDoorNa
import Derived.Test.YtleeinkdkllcdaaGreatDoorMb
import Derived.Test.YtleeinkdkllcdaaGreatDoorAw
import Derived.Test.YtleeinkdkllcdaaGreatDoorTy
set_option linter.unusedVariables false
set_option linter.unusedSimpArgs false
set_option linter.unusedSectionVars false
set_option maxHeartbeats 16000000
set_option maxRecDepth 100000

namespace Go.Proofs.YtleeinkdkllcdaaGreatDoor
open Go Sz
theorem own_letters (t : Tm) : lettersT (ownT t) = lettersT t := by
 unfold lettersT
 rw [own_good, own_kind, own_len, own_num, own_name]
theorem own_step (x : Tm) : stepE (ownT x) = stepE x := by
 unfold stepE
 rw [own_kind, own_len, own_name]
theorem own_joinL : ∀ (us : List Tm) (s : List UInt8), joinL (us.map ownT) s = joinL us s
 | [], s => rfl
 | x :: r, s => by
   rw [List.map_cons]
   unfold joinL
   rw [own_step, own_name, own_joinL r]
theorem own_joined (t : Tm) : joinedT (ownT t) = joinedT t := by
 have h := own_items t.size t (Nat.le_refl _)
 unfold joinedT
 rw [own_good, h, own_joinL, own_tail]
theorem own_name2 (t : Tm) : nameT (ownT t) = nameT t := by unfold nameT; rw [own_joined]
theorem own_number (t : Tm) : numberT (ownT t) = numberT t := by unfold numberT; rw [own_joined]
theorem own_chars (t : Tm) : charsE (ownT t) = charsE t := by unfold charsE; rw [own_letters]
theorem own_charsT (s : List UInt8) : ownT (charsT s) = charsT s := by
 unfold charsT
 rw [own_list, List.map_map]
 congr 1
theorem own_charsE (t : Tm) : ownT (charsE t).1 = (charsE t).1 := by
 unfold charsE
 split
 ·rfl
 ·split
  ·exact own_charsT _
  ·rfl
theorem own_nameT (t : Tm) : ownT (nameT t).1 = (nameT t).1 := by
 unfold nameT
 split
 ·rfl
 ·split <;> rfl
theorem own_numberT (t : Tm) : ownT (numberT t).1 = (numberT t).1 := by
 unfold numberT
 split
 ·rfl
 ·split <;> rfl
noncomputable def ssW : List KSpec := [awake16S, deepKS 70, downKS 1000000000, lengthS, dlengthS, charsS, dcharsS, nameS, dnameS, numberS, dnumberS, dsameKS 1000000000]
theorem ssW_ok : ∀ s ∈ ssW, KSpecOKX Tryz.prog TabX s := by
 simp [ssW, awake16S_ok, (deepKS_all 70 (by omega)).lift, (downKS_all 1000000000 (by omega)).lift, lengthS_ok, dlengthS_ok.lift, charsS_ok, dcharsS_ok.lift, nameS_ok.lift, dnameS_ok.lift, numberS_ok, dnumberS_ok.lift, (dsameKS_all 1000000000 (by omega)).lift]
theorem lw16 : lookF (ssW ++ clones) 16 = [awake16S] := by rfl
theorem lw27 : lookF (ssW ++ clones) 27 = [deepKS 70] := by rfl
theorem lw28 : lookF (ssW ++ clones) 28 = [downKS 1000000000] := by rfl
theorem lw25 : lookF (ssW ++ clones) 25 = [lengthS] := by rfl
theorem lw29 : lookF (ssW ++ clones) 29 = [dlengthS] := by rfl
theorem lw17 : lookF (ssW ++ clones) 17 = [charsS] := by rfl
theorem lw30 : lookF (ssW ++ clones) 30 = [dcharsS] := by rfl
theorem lw19 : lookF (ssW ++ clones) 19 = [nameS] := by rfl
theorem lw31 : lookF (ssW ++ clones) 31 = [dnameS] := by rfl
theorem lw22 : lookF (ssW ++ clones) 22 = [numberS] := by rfl
theorem lw32 : lookF (ssW ++ clones) 32 = [dnumberS] := by rfl
theorem lw33 : lookF (ssW ++ clones) 33 = [dsameKS 1000000000] := by rfl
theorem lw7 : lookF (ssW ++ clones) 7 = [] := by rfl
theorem charsE_size (t : Tm) (h : t.bulk < 100000000 ∧ -9223372036854775808 ≤ t.num ∧ t.num < 9223372036854775808) : (charsE t).1.size < 1000000000 := by
 have hl := lettersT_len t h.2
 unfold charsE
 split
 ·show (1 : Nat) < _; omega
 ·split
  ·show (charsT (lettersT t).1).size < _
   rw [size_chars]
   omega
  ·show (1 : Nat) < _; omega
theorem nl_size (k n : Int) (s : List UInt8) : (Tm.nl k n s).size < 1000000000 := by show (1 : Nat) < _; omega
theorem nameT_size (t : Tm) : (nameT t).1.size < 1000000000 := by
 unfold nameT
 split
 ·exact nl_size _ _ _
 ·split <;> exact nl_size _ _ _
theorem numberT_size (t : Tm) : (numberT t).1.size < 1000000000 := by
 unfold numberT
 split
 ·exact nl_size _ _ _
 ·split <;> exact nl_size _ _ _
theorem says_run (t : Tm) (hb : t.bulk < 100000000) (hn : -9223372036854775808 ≤ t.num ∧ t.num < 9223372036854775808) : ∃ h', evCall (envOf ssW) 10 7 [t.enc] h0 = some (.bool true, h') := by
 have hsb := size_bulk t
 have hxe := enc_kind t
 have hxr := argV_refs t
 have f1 := fun (h : Heap) (n0 d : Nat) => frz_argV h n0 d t
 have q27 := deepKS_at 70 t
 rw [show ((70 : Nat) : Int) = 70 from rfl] at q27
 rw [hxe] at q27 ⊢
 cases hd : deepT 70 t with
 | true =>
   rw [hd] at q27
   refine ⟨h0, ?_⟩
   simp [run7, c7, hxr, awake16S_f, awake16S_at, q27, f1, deepKS_f, lw7, lw16, lw27, -lookF_cons, -clones]
 | false =>
   rw [hd] at q27
   have hwb : (ownT t).bulk < 100000000 := by rw [own_bulk]; exact hb
   have hwn : -9223372036854775808 ≤ (ownT t).num ∧ (ownT t).num < 9223372036854775808 := by rw [own_num]; exact hn
   have q28 := downKS_at 1000000000 t (by omega)
   have q25 := lengthS_at t ⟨by omega, hn⟩
   have q29 := dlengthS_at (ownT t) ⟨by omega, hwn⟩
   have q17 := charsS_at t ⟨hb, hn⟩
   have q30 := dcharsS_at (ownT t) ⟨hwb, hwn⟩
   have q19 := nameS_at t (by omega)
   have q31 := dnameS_at (ownT t) (by omega)
   have q22 := numberS_at t (by omega)
   have q32 := dnumberS_at (ownT t) (by omega)
   rw [own_letters] at q29
   rw [own_chars] at q30
   rw [own_name2] at q31
   rw [own_number] at q32
   have z1 := charsE_size t ⟨hb, hn⟩
   have z2 := nameT_size t
   have z3 := numberT_size t
   have a1 := downKS_at 1000000000 (charsE t).1 z1
   have a2 := downKS_at 1000000000 (nameT t).1 z2
   have a3 := downKS_at 1000000000 (numberT t).1 z3
   rw [own_charsE] at a1
   rw [own_nameT] at a2
   rw [own_numberT] at a3
   have b1 := dsameKS_at 1000000000 (charsE t).1 (charsE t).1 ⟨z1, z1⟩
   have b2 := dsameKS_at 1000000000 (nameT t).1 (nameT t).1 ⟨z2, z2⟩
   have b3 := dsameKS_at 1000000000 (numberT t).1 (numberT t).1 ⟨z3, z3⟩
   rw [sameT_refl] at b1 b2 b3
   generalize lettersT t = p1 at *
   generalize charsE t = p2 at *
   generalize nameT t = p3 at *
   generalize numberT t = p4 at *
   obtain ⟨s, e1⟩ := p1
   obtain ⟨A, e2⟩ := p2
   obtain ⟨B, e3⟩ := p3
   obtain ⟨C, e4⟩ := p4
   dsimp only at q25 q29 q17 q30 q19 q31 q22 q32 a1 a2 a3 b1 b2 b3
   have k1 := enc_kind (ownT t)
   have k2 := enc_kind A
   have k3 := enc_kind B
   have k4 := enc_kind C
   have h1 := argV_refs (ownT t)
   have h2 := argV_refs A
   have h3 := argV_refs B
   have h4 := argV_refs C
   have g1 := fun (h : Heap) (n0 d : Nat) => frz_argV h n0 d (ownT t)
   have g2 := fun (h : Heap) (n0 d : Nat) => frz_argV h n0 d A
   have g3 := fun (h : Heap) (n0 d : Nat) => frz_argV h n0 d B
   have g4 := fun (h : Heap) (n0 d : Nat) => frz_argV h n0 d C
   rw [hxe] at q28 q25 q17 q19 q22
   rw [k1] at q28 q29 q30 q31 q32
   rw [k2] at q17 q30 a1 b1
   rw [k3] at q19 q31 a2 b2
   rw [k4] at q22 q32 a3 b3
   generalize ownT t = W at *
   refine ⟨h0, ?_⟩
   simp [run7, c7, hxr, awake16S_f, awake16S_at, f1, deepKS_f, downKS_f, lengthS_f, dlengthS_f, charsS_f, dcharsS_f, nameS_f, dnameS_f, numberS_f, dnumberS_f, dsameKS_f, lw7, lw16, lw27, lw28, lw25, lw29, lw17, lw30, lw19, lw31, lw22, lw32, lw33, -lookF_cons, -clones,
    q27, q28, q25, q29, q17, q30, q19, q31, q22, q32, a1, a2, a3, b1, b2, b3, h1, h2, h3, h4, g1, g2, g3, g4]
theorem says_prim (t : Tm) (hb : t.bulk < 100000000) (hn : -9223372036854775808 ≤ t.num ∧ t.num < 9223372036854775808) : PrimOKX Tryz.prog TabX 7 [t.enc] (.bool true) := by
 obtain ⟨h', e⟩ := says_run t hb hn
 exact prim_of (envOf_okX ssW_ok) e rfl (by simp [AV.refsL, Tm.enc_refs])
theorem textSays_lawX {H : Type} (ds : List (DataW H)) (h : HasTys Tryz.prog Tryz.f7.params.toList (ds.map avOf)) (_ : (DataW.weightsEach Tryz.prog Tryz.f7.params.toList ds).all (· ≤ reachBytes) = true) (hk : Rows.uptoSmall H ds = true) : PrimOKX Tryz.prog TabX 7 (ds.map avOf) (.bool true) := by
 have hb := upto_le hk
 generalize ds.map avOf = avs at h hb
 rw [Tryz.params7] at h
 cases h with
 | cons h1 r1 =>
   cases r1
   obtain ⟨t, rfl, _, ht⟩ := tm_of h1
   have := bulk_vb t
   simp only [vbL] at hb
   exact says_prim t (by omega) ht
end Go.Proofs.YtleeinkdkllcdaaGreatDoor
