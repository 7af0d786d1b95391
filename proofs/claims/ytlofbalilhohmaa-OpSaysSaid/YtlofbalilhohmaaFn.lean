import Derived.Test.YtlofbalilhohmaaCode
import Derived.Test.YtlofbalilhohmaaSz2
import Derived.Test.YtlofbalilhohmaaSz3
set_option linter.unusedVariables false
set_option linter.unusedSimpArgs false
set_option linter.unusedSectionVars false

namespace Go.Proofs.Ytlofbalilhohmaa
open Go Sz

/-- An operator. -/
structure Opr where
  n : List UInt8
  k : List UInt8
  l : Int
def Opr.enc (o : Opr) : AV := .agg [.str o.n, .str o.k, .int .i64 o.l]
theorem Opr.enc_inj {a b : Opr} (h : a.enc = b.enc) : a = b := by
  obtain ⟨a1, a2, a3⟩ := a
  obtain ⟨b1, b2, b3⟩ := b
  simp [Opr.enc] at h
  simp [h]
theorem encs_inj : ∀ {a b : List Opr}, a.map Opr.enc = b.map Opr.enc → a = b
  | [], [], _ => rfl
  | [], _ :: _, h => by simp at h
  | _ :: _, [], h => by simp at h
  | x :: a, y :: b, h => by
    simp only [List.map_cons, List.cons.injEq] at h
    rw [Opr.enc_inj h.1, encs_inj h.2]

attribute [local simp] evCode_skip evCode_reg evCode_dreg evCode_seq evCode_cond evCode_block evCode_exit evCode_ret evSteps_nil evSteps_op evSteps_opg evSteps_call evSteps_callg evSteps_callv evSteps_callvg evTr_nil evTr_cons evStep_op evStep_opg evStep_call evStep_callg evStep_callv evStep_callvg ldId chkTr
  evOp_mov evOp_pick evOp_box evOp_bld evOp_bsl evOp_ld evOp_st evOp_nck evOp_bin evOp_beq evOp_ceq evOp_peq evOp_not evOp_neg evOp_xor evOp_cvi evOp_cvss evOp_cvis evOp_cvsb evOp_mki evOp_mkf evOp_mkm evOp_mks evOp_sls evOp_slv evOp_fad evOp_fld1 evOp_fldn evOp_iad evOp_ixs evOp_ext evOp_lens evOp_lenv evOp_mx evOp_mn evOp_app evOp_bs0 evOp_snil evOp_clr
  unwanted Opd.ev putA cells_agg cells_bool cells_int cells_str cells_nilp cells_ptr cells_ip cells_nils cells_sl cells_vec cells_nilm cells_map cells_nilfn cells_fn cells_nili cells_iface ldA row_mk get_mk set_mk mark_mk alloc_mk' trunc_mk binA resAll_nil resAll_cons resA oneOf finish_mk frz_undef frz_bool frz_int frz_str frz_nilp frz_ptr frz_ip frz_nils frz_sl frz_nilm frz_map frz_nilfn frz_fn frz_nili frz_iface frz_old frz_agg frz_tuple frzL_nil frzL_cons kill AV.refs AV.refsL clear evCall_spec lookS evB clones cloneS_f cloneS_nils cloneS_sl0 fillA putAt_nil putAt_cons evCode_loop gc_mk bgn_mk aft_mk keeps objsAt ren renId AV.top lowObj h0

def aheadK (b : List UInt8) : Bool := b == [102, 121] || b == [102, 120]
def betweenK (b : List UInt8) : Bool := b == [120, 102, 120] || b == [120, 102, 121] || b == [121, 102, 120]

noncomputable def aheadS : Spec := .of 33 (fun o : Opr => [o.enc]) (fun _ => True) fun o => .bool (aheadK o.k)
@[simp] theorem aheadS_f : aheadS.f = 33 := rfl
@[simp] theorem aheadS_at (a b l) : aheadS.S [.agg [.str a, .str b, .int .i64 l]] = some (.bool (aheadK b)) :=
  Spec.of_at (f := 33) (enc := fun o : Opr => [o.enc]) (pre := fun _ => True) (val := fun o => .bool (aheadK o.k)) (fun a b _ _ h => by rw [Opr.enc_inj (List.cons.inj h).1]) ⟨a, b, l⟩ trivial
theorem aheadS_ok : SpecOK Try.prog aheadS := Spec.of_ok fun o _ => by
  refine prim_of (n := 5) (h' := h0) (envOf_ok (ss := []) (by simp)) ?_ rfl rfl
  obtain ⟨a, b, l⟩ := o
  cases e1 : b == [102, 121] <;> cases e2 : b == [102, 120] <;> simp [run33, c33, aheadK, Opr.enc, e1, e2]

noncomputable def betweenS : Spec := .of 35 (fun o : Opr => [o.enc]) (fun _ => True) fun o => .bool (betweenK o.k)
@[simp] theorem betweenS_f : betweenS.f = 35 := rfl
@[simp] theorem betweenS_at (a b l) : betweenS.S [.agg [.str a, .str b, .int .i64 l]] = some (.bool (betweenK b)) :=
  Spec.of_at (f := 35) (enc := fun o : Opr => [o.enc]) (pre := fun _ => True) (val := fun o => .bool (betweenK o.k)) (fun a b _ _ h => by rw [Opr.enc_inj (List.cons.inj h).1]) ⟨a, b, l⟩ trivial
theorem betweenS_ok : SpecOK Try.prog betweenS := Spec.of_ok fun o _ => by
  refine prim_of (n := 5) (h' := h0) (envOf_ok (ss := []) (by simp)) ?_ rfl rfl
  obtain ⟨a, b, l⟩ := o
  cases e1 : b == [120, 102, 120] <;> cases e2 : b == [120, 102, 121] <;> cases e3 : b == [121, 102, 120] <;> simp [run35, c35, betweenK, Opr.enc, e1, e2, e3]

theorem str_inj {a b : List UInt8} (h : [AV.str a] = [AV.str b]) : a = b := by simpa using h
noncomputable def rbetweenS : Spec := .of 32 (fun b => [.str b]) (fun _ => True) fun b => .bool (betweenK b)
@[simp] theorem rbetweenS_f : rbetweenS.f = 32 := rfl
@[simp] theorem rbetweenS_at (b) : rbetweenS.S [.str b] = some (.bool (betweenK b)) :=
  Spec.of_at (f := 32) (enc := fun b => [.str b]) (pre := fun _ => True) (val := fun b => .bool (betweenK b)) (fun a b _ _ h => by rw [str_inj h]) b trivial
theorem rbetweenS_ok : SpecOK Try.prog rbetweenS := Spec.of_ok fun b _ => by
  refine prim_of (n := 5) (h' := h0) (envOf_ok (ss := []) (by simp)) ?_ rfl rfl
  cases e1 : b == [120, 102, 120] <;> cases e2 : b == [120, 102, 121] <;> cases e3 : b == [121, 102, 120] <;> simp [run32, c32, betweenK, e1, e2, e3]
noncomputable def raheadS : Spec := .of 37 (fun b => [.str b]) (fun _ => True) fun b => .bool (aheadK b)
@[simp] theorem raheadS_f : raheadS.f = 37 := rfl
@[simp] theorem raheadS_at (b) : raheadS.S [.str b] = some (.bool (aheadK b)) :=
  Spec.of_at (f := 37) (enc := fun b => [.str b]) (pre := fun _ => True) (val := fun b => .bool (aheadK b)) (fun a b _ _ h => by rw [str_inj h]) b trivial
theorem raheadS_ok : SpecOK Try.prog raheadS := Spec.of_ok fun b _ => by
  refine prim_of (n := 5) (h' := h0) (envOf_ok (ss := []) (by simp)) ?_ rfl rfl
  cases e1 : b == [102, 121] <;> cases e2 : b == [102, 120] <;> simp [run37, c37, aheadK, e1, e2]

def mayK (a b : List UInt8) (l : Int) : Bool :=
  if a == [44] then b == [120, 102, 121] && decide (l = 1000)
  else if a == [] || decide (64 < a.length) || (a == [124] || a == [91, 93] || a == [123, 125]) then false
  else (betweenK b || aheadK b) && decide (1 ≤ l) && decide (l ≤ 1200)

noncomputable def mayS : Spec := .of 23 (fun o : Opr => [o.enc]) (fun _ => True) fun o => .bool (mayK o.n o.k o.l)
@[simp] theorem mayS_f : mayS.f = 23 := rfl
@[simp] theorem mayS_at (a b l) : mayS.S [.agg [.str a, .str b, .int .i64 l]] = some (.bool (mayK a b l)) :=
  Spec.of_at (f := 23) (enc := fun o : Opr => [o.enc]) (pre := fun _ => True) (val := fun o => .bool (mayK o.n o.k o.l)) (fun a b _ _ h => by rw [Opr.enc_inj (List.cons.inj h).1]) ⟨a, b, l⟩ trivial
set_option maxHeartbeats 4000000 in
theorem mayS_ok : SpecOK Try.prog mayS := Spec.of_ok fun o _ => by
  refine prim_of (n := 20) (h' := h0) (envOf_ok (ss := [aheadS, betweenS]) (by simp [aheadS_ok, betweenS_ok])) ?_ rfl rfl
  obtain ⟨a, b, l⟩ := o
  have hl : decide ((64 : Int) < (a.length : Int)) = decide (64 < a.length) := by
    congr 1
    exact propext ⟨fun h => by omega, fun h => by omega⟩
  cases e1 : a == [44] with
  | true => cases e2 : b == [120, 102, 121] <;> simp [run23, c23, mayK, Opr.enc, e1, e2]
  | false =>
  cases e2 : a == [] with
  | true => simp [run23, c23, mayK, Opr.enc, e1, e2]
  | false =>
  cases e3 : decide (64 < a.length) with
  | true => simp [run23, c23, mayK, Opr.enc, e1, e2, e3, hl]
  | false =>
  cases e4 : a == [124] with
  | true => simp [run23, c23, mayK, Opr.enc, e1, e2, e3, hl, e4, run34, run38, c34, c38, c38_m0, c38_b0, loopH_succ]
  | false =>
  cases e5 : a == [91, 93] with
  | true => simp [run23, c23, mayK, Opr.enc, e1, e2, e3, hl, e4, e5, run34, run38, c34, c38, c38_m0, c38_b0, loopH_succ, IntKind.wrap, IntKind.signed, IntKind.bits]
  | false =>
  cases e6 : a == [123, 125] with
  | true => simp [run23, c23, mayK, Opr.enc, e1, e2, e3, hl, e4, e5, e6, run34, run38, c34, c38, c38_m0, c38_b0, loopH_succ, IntKind.wrap, IntKind.signed, IntKind.bits]
  | false =>
  cases e7 : betweenK b <;> cases e8 : aheadK b <;> cases e9 : decide (1 ≤ l) <;>
    simp [run23, c23, mayK, Opr.enc, e1, e2, e3, hl, e4, e5, e6, e7, e8, e9, run34, run38, c34, c38, c38_m0, c38_b0, loopH_succ, IntKind.wrap, IntKind.signed, IntKind.bits]
end Go.Proofs.Ytlofbalilhohmaa

namespace Go.Proofs.Ytlofbalilhohmaa
open Go Sz
set_option linter.unusedSimpArgs false
attribute [local simp] evCode_skip evCode_reg evCode_dreg evCode_seq evCode_cond evCode_block evCode_exit evCode_ret evSteps_nil evSteps_op evSteps_opg evSteps_call evSteps_callg evSteps_callv evSteps_callvg evTr_nil evTr_cons evStep_op evStep_opg evStep_call evStep_callg evStep_callv evStep_callvg ldId chkTr
  evOp_mov evOp_pick evOp_box evOp_bld evOp_bsl evOp_ld evOp_st evOp_nck evOp_bin evOp_beq evOp_ceq evOp_peq evOp_not evOp_neg evOp_xor evOp_cvi evOp_cvss evOp_cvis evOp_cvsb evOp_mki evOp_mkf evOp_mkm evOp_mks evOp_sls evOp_slv evOp_fad evOp_fld1 evOp_fldn evOp_iad evOp_ixs evOp_ext evOp_lens evOp_lenv evOp_mx evOp_mn evOp_app evOp_bs0 evOp_snil evOp_clr
  unwanted Opd.ev putA cells_agg cells_bool cells_int cells_str cells_nilp cells_ptr cells_ip cells_nils cells_sl cells_vec cells_nilm cells_map cells_nilfn cells_fn cells_nili cells_iface ldA row_mk get_mk set_mk mark_mk alloc_mk' trunc_mk binA resAll_nil resAll_cons resA oneOf finish_mk frz_undef frz_bool frz_int frz_str frz_nilp frz_ptr frz_ip frz_nils frz_sl frz_nilm frz_map frz_nilfn frz_fn frz_nili frz_iface frz_old frz_agg frz_tuple frzL_nil frzL_cons kill AV.refs AV.refsL clear evCall_spec lookS evB clones cloneS_f cloneS_nils cloneS_sl0 fillA putAt_nil putAt_cons evCode_loop gc_mk bgn_mk aft_mk keeps objsAt ren renId AV.top lowObj h0


theorem encs_refs (l : List Opr) : AV.refsL (l.map Opr.enc) = 0 := by
  induction l with
  | nil => rfl
  | cons o r ih => simp [AV.refsL, ih, Opr.enc, AV.refs]
theorem c28_loop (C : Nat → List AV → Heap → Option (AV × Heap)) (n : Nat) (l : List Opr) (g : Nat) (caps : List AV) (hn : Nat) (os : List AObj) (p : Opr → Bool) (hcap : AV.refsL caps ≤ hn) (hl : l.length < 4611686018427387904)
    (hg : ∀ o ∈ l, C g (.agg [.str o.n, .str o.k, .int .i64 o.l] :: caps) ⟨hn, os, hn, hn⟩ = some (.bool (p o), ⟨hn, os, hn, hn⟩)) : ∀ post pre m, l = pre ++ post → post.length < m →
    loopH (evCode C n c28_b0) c28_m0 hn m (c28_f0 (.sl (l.map Opr.enc)) (.fn g caps) (.int .i64 l.length) (.int .i64 pre.length)) ⟨hn, os, hn, hn⟩ =
      match find1 p post with
      | some i => some (.ret, [.undef, .undef, .undef, .undef, .int .i64 (pre.length + i : Nat), .undef, .undef, .undef, .undef, .undef, .undef, .undef, .undef, .undef, .undef, .undef, .undef, .undef, .undef], ⟨hn, os, hn, hn⟩)
      | none => some (.exit 0, [.undef, .undef, .undef, .undef, .undef, .undef, .undef, .undef, .undef, .undef, .undef, .undef, .undef, .undef, .undef, .undef, .undef, .undef, .undef], ⟨hn, os, hn, hn⟩)
  | [], pre, m + 1, e, _ => by
    subst e
    simp [find1, loopH_succ, c28_b0]
  | o :: post, pre, m + 1, e, hm => by
    have ho := hg o (by simp [e])
    have ih := c28_loop C n l g caps hn os p hcap hl hg post (pre ++ [o]) m (by simp [e]) (by simpa using hm)
    have h1 : l[pre.length]? = some o := by rw [e]; simp
    have h2 : decide ((pre.length : Int) < (l.length : Int)) = true := by rw [e]; exact lt_mid _ _ _
    have h3 : IntKind.i64.wrap ((pre.length : Int) + 1) = (pre.length : Int) + 1 := by
      rw [wrap_succ (by rw [e] at hl; simp at hl; omega)]; simp
    have h4 : (o.enc).cells? = some [.str o.n, .str o.k, .int .i64 o.l] := rfl
    have h5 : AV.refsL (l.map Opr.enc) = 0 := encs_refs l
    have h6 : (pre.length : Int) < (l.length : Int) := by simpa using h2
    simp only [List.length_append, List.length_cons, List.length_nil, Nat.zero_add, Int.natCast_add, Int.natCast_one] at ih
    cases hp : p o with
    | true => simp [find1, loopH_succ, c28_b0, c28_m0, ho, h1, h3, h4, h5, h6, hp, hcap]
    | false =>
      simp [find1, loopH_succ, c28_b0, c28_m0, ho, h1, h3, h4, h5, h6, hp, hcap]
      refine Eq.trans ih ?_
      cases find1 p post with
      | none => rfl
      | some i => simp; omega

theorem indexFunc_run (ss : List Spec) (n : Nat) (l : List Opr) (g : Nat) (caps : List AV) (hn : Nat) (os : List AObj) (wl md : Nat) (p : Opr → Bool) (hcap : AV.refsL caps ≤ hn) (hl : l.length < 4611686018427387904) (hm : l.length < n)
    (hg : ∀ o ∈ l, evCall (envOf ss) n g (.agg [.str o.n, .str o.k, .int .i64 o.l] :: caps) ⟨hn, os, hn, hn⟩ = some (.bool (p o), ⟨hn, os, hn, hn⟩)) :
    evFn ss n 28 [.sl (l.map Opr.enc), .fn g caps] ⟨hn, os, wl, md⟩ = some (.int .i64 (match find1 p l with | some i => (i : Int) | none => -1), ⟨hn, os, wl, md⟩) := by
  have h := c28_loop (evCall (envOf ss) n) n l g caps hn os p hcap hl hg l [] n rfl hm
  simp only [List.length_nil] at h
  have h5 : AV.refsL (l.map Opr.enc) = 0 := encs_refs l
  have e : loopH (evCode (evCall (envOf ss) n) n c28_b0) c28_m0 hn n [.sl (l.map Opr.enc), .fn g caps, .undef, .undef, .undef, .undef, .undef, .int .i64 l.length, .int .i64 0, .undef, .undef, .undef, .undef, .undef, .undef, .undef, .undef, .undef, .undef] ⟨hn, os, hn, hn⟩ = _ := h
  cases hf : find1 p l with
  | none =>
    rw [hf] at e
    simp only [c28_m0] at e
    simp [run28, c28, c28_m0, h5, hcap, e]
  | some i =>
    rw [hf] at e
    simp only [c28_m0] at e
    simp [run28, c28, c28_m0, h5, hcap, e]

theorem encs_elem (l : List Opr) : ∀ x ∈ l.map Opr.enc, Elem 3 x := by
  intro x hx
  obtain ⟨o, _, rfl⟩ := List.mem_map.1 hx
  exact ⟨rfl, rfl, (fun h => by cases h), fun _ => rfl, rfl⟩
theorem encs_all (l : List Opr) : ((l.map Opr.enc).all fun x => (x.cells?.map List.length) == some 3) = true := elem_all (encs_elem l)

def alikeK (a b : Opr) : Bool := a.n == b.n && aheadK a.k == aheadK b.k
noncomputable def alikeS : Spec := .of 22 (fun p : Opr × Opr => [p.1.enc, p.2.enc]) (fun _ => True) fun p => .bool (alikeK p.1 p.2)
@[simp] theorem alikeS_f : alikeS.f = 22 := rfl
@[simp] theorem alikeS_at (a b l a' b' l') : alikeS.S [.agg [.str a, .str b, .int .i64 l], .agg [.str a', .str b', .int .i64 l']] = some (.bool (alikeK ⟨a, b, l⟩ ⟨a', b', l'⟩)) :=
  Spec.of_at (f := 22) (enc := fun p : Opr × Opr => [p.1.enc, p.2.enc]) (pre := fun _ => True) (val := fun p => .bool (alikeK p.1 p.2)) (fun a b _ _ h => by
    have h1 := (List.cons.inj h).1
    have h2 := (List.cons.inj (List.cons.inj h).2).1
    rw [Opr.enc_inj h1, Opr.enc_inj h2]) (⟨a, b, l⟩, ⟨a', b', l'⟩) trivial
theorem alikeS_ok : SpecOK Try.prog alikeS := Spec.of_ok fun ⟨⟨a, b, l⟩, ⟨a', b', l'⟩⟩ _ => by
  refine prim_of (n := 5) (h' := h0) (envOf_ok (ss := [aheadS]) (by simp [aheadS_ok])) ?_ rfl rfl
  cases e1 : a == a' <;> simp [run22, c22, Opr.enc, alikeK, e1]

/-- Whether a table may be. -/
def goodA : List Opr → List Opr → Bool
  | _, [] => true
  | pre, o :: post => if !mayK o.n o.k o.l then false else if (find1 (fun x => alikeK x o) pre).isSome then false else goodA (pre ++ [o]) post
def goodK (l : List Opr) : Bool := decide (l.length ≤ 128) && goodA [] l

theorem c8_loop (l : List Opr) (n : Nat) (hl : l.length < 4611686018427387904) (hn : l.length < n) : ∀ post pre m, l = pre ++ post → post.length < m →
    aft 1 0 (loopH (evCode (evCall (envOf [mayS, alikeS]) (n + 10)) (n + 10) c8_b0) c8_m0 1 m (c8_f0 (.ptr 0 0) (.sl (l.map Opr.enc)) (.int .i64 l.length) (.int .i64 pre.length)) ⟨1, [.row [.sl (l.map Opr.enc)]], 1, 0⟩) =
      if goodA pre post then some (.exit 0, List.replicate 31 .undef, ⟨1, [.row [.sl (l.map Opr.enc)]], 0, 0⟩)
      else some (.ret, (List.replicate 31 .undef).set 2 (.bool false), ⟨1, [.row [.sl (l.map Opr.enc)]], 0, 0⟩)
  | [], pre, m + 1, e, _ => by
    subst e
    simp [goodA, loopH_succ, c8_b0]
  | o :: post, pre, m + 1, e, hm => by
    have ih := c8_loop l n hl hn post (pre ++ [o]) m (by simp [e]) (by simpa using hm)
    have h1 : l[pre.length]? = some o := by rw [e]; simp
    have h2 : decide ((pre.length : Int) < (l.length : Int)) = true := by rw [e]; exact lt_mid _ _ _
    have h3 : IntKind.i64.wrap ((pre.length : Int) + 1) = (pre.length : Int) + 1 := by
      rw [wrap_succ (by rw [e] at hl; simp at hl; omega)]; simp
    have h4 : (o.enc).cells? = some [.str o.n, .str o.k, .int .i64 o.l] := rfl
    have h5 : AV.refsL (l.map Opr.enc) = 0 := encs_refs l
    have h6 : (pre.length : Int) < (l.length : Int) := by simpa using h2
    have h7 : l.take pre.length = pre := by rw [e]; simp
    have h8 := encs_all l
    have h9 : pre.length ≤ l.length := by rw [e]; simp
    have hf := indexFunc_run [mayS, alikeS] (n + 8) pre 21 [.ptr 1 0] 2 [.row [.str o.n, .str o.k, .int .i64 o.l], .row [.sl (l.map Opr.enc)]] 2 2 (fun x => alikeK x o) (by simp [AV.refsL, AV.refs]) (by omega) (by omega)
      (fun x hx => by simp [run21, c21])
    simp only [List.length_append, List.length_cons, List.length_nil, Nat.zero_add, Int.natCast_add, Int.natCast_one] at ih
    cases hm : mayK o.n o.k o.l with
    | false =>
      simp [goodA, loopH_succ, c8_b0, c8_m0, h1, h3, h4, h5, h6, hm]
    | true =>
      cases hs : find1 (fun x => alikeK x o) pre with
      | none =>
        rw [hs] at hf
        simp [goodA, loopH_succ, c8_b0, c8_m0, h1, h3, h4, h5, h6, hm, hs, h8, h9, h7, hf, sliceC, sliceB, run24, c24, ← List.map_take]
        exact ih
      | some i =>
        rw [hs] at hf
        simp [goodA, loopH_succ, c8_b0, c8_m0, h1, h3, h4, h5, h6, hm, hs, h8, h9, h7, hf, sliceC, sliceB, run24, c24, ← List.map_take]

/-- A slice of operators, nil or not. -/
def IsSl (v : AV) (l : List Opr) : Prop := v = .sl (l.map Opr.enc) ∨ (l = [] ∧ v = .nils)
theorem isSl_inj {v : AV} {l l' : List Opr} (h : IsSl v l) (h' : IsSl v l') : l = l' := by
  rcases h with rfl | ⟨rfl, rfl⟩ <;> rcases h' with h' | ⟨rfl, h'⟩
  · exact encs_inj (by simpa using h')
  · cases h'
  · cases h'
  · rfl

noncomputable def goodS : Spec := .of 8 (fun l : List Opr => [.agg [.sl (l.map Opr.enc)]]) (fun l => l.length < 4611686018427387904) fun l => .bool (goodK l)
@[simp] theorem goodS_f : goodS.f = 8 := rfl
theorem goodS_at (l : List Opr) (h : l.length < 4611686018427387904) : goodS.S [.agg [.sl (l.map Opr.enc)]] = some (.bool (goodK l)) :=
  Spec.of_at (f := 8) (enc := fun l : List Opr => [.agg [.sl (l.map Opr.enc)]]) (pre := fun l => l.length < 4611686018427387904) (val := fun l => .bool (goodK l)) (fun a b _ _ h => by
    rw [encs_inj (a := a) (b := b) (by simpa using h)]) l h
theorem goodS_ok : SpecOK Try.prog goodS := Spec.of_ok fun l hl => by
  refine prim_of (n := l.length + 12) (h' := h0) (envOf_ok (ss := [mayS, alikeS]) (by simp [mayS_ok, alikeS_ok])) ?_ rfl (by simp [AV.refsL, AV.refs, encs_refs])
  have h5 : AV.refsL (l.map Opr.enc) = 0 := encs_refs l
  by_cases h : l.length ≤ 128
  · have e := c8_loop l (l.length + 1) hl (by omega) l [] (l.length + 11) rfl (by omega)
    simp only [List.length_nil, c8_m0, c8_f0, Int.natCast_zero] at e
    have hd : ¬ (128 : Int) < (l.length : Int) := by omega
    cases hg : goodA [] l with
    | true =>
      rw [hg] at e
      simp [run8, c8, c8_m0, h5, e, goodK, h, hd, hg]
    | false =>
      rw [hg] at e
      simp [run8, c8, c8_m0, h5, e, goodK, h, hd, hg]
  · have hd : (128 : Int) < (l.length : Int) := by omega
    simp [run8, c8, goodK, h, hd]
end Go.Proofs.Ytlofbalilhohmaa

namespace Go.Proofs.Ytlofbalilhohmaa
open Go Sz
set_option linter.unusedSimpArgs false
attribute [local simp] evCode_skip evCode_reg evCode_dreg evCode_seq evCode_cond evCode_block evCode_exit evCode_ret evSteps_nil evSteps_op evSteps_opg evSteps_call evSteps_callg evSteps_callv evSteps_callvg evTr_nil evTr_cons evStep_op evStep_opg evStep_call evStep_callg evStep_callv evStep_callvg ldId chkTr
  evOp_mov evOp_pick evOp_box evOp_bld evOp_bsl evOp_ld evOp_st evOp_nck evOp_bin evOp_beq evOp_ceq evOp_peq evOp_not evOp_neg evOp_xor evOp_cvi evOp_cvss evOp_cvis evOp_cvsb evOp_mki evOp_mkf evOp_mkm evOp_mks evOp_sls evOp_slv evOp_fad evOp_fld1 evOp_fldn evOp_iad evOp_ixs evOp_ext evOp_lens evOp_lenv evOp_mx evOp_mn evOp_app evOp_bs0 evOp_snil evOp_clr
  unwanted Opd.ev putA cells_agg cells_bool cells_int cells_str cells_nilp cells_ptr cells_ip cells_nils cells_sl cells_vec cells_nilm cells_map cells_nilfn cells_fn cells_nili cells_iface ldA row_mk get_mk set_mk mark_mk alloc_mk' trunc_mk binA resAll_nil resAll_cons resA oneOf finish_mk frz_undef frz_bool frz_int frz_str frz_nilp frz_ptr frz_ip frz_nils frz_sl frz_nilm frz_map frz_nilfn frz_fn frz_nili frz_iface frz_old frz_agg frz_tuple frzL_nil frzL_cons kill AV.refs AV.refsL clear evCall_spec lookS evB clones cloneS_f cloneS_nils cloneS_sl0 fillA putAt_nil putAt_cons evCode_loop gc_mk bgn_mk aft_mk keeps objsAt ren renId AV.top lowObj h0


def zeroO : Opr := ⟨[], [], 0⟩
def findK (l : List Opr) (name : List UInt8) (ahead : Bool) : Opr × Bool :=
  match find1 (fun o => o.n == name && aheadK o.k == ahead) l with
  | none => (zeroO, false)
  | some i => if goodK l then (l.getD i zeroO, true) else (zeroO, false)

theorem find1_lt {α : Type} {p : α → Bool} : ∀ {l : List α} {i : Nat}, find1 p l = some i → i < l.length
  | [], i, h => by cases h
  | x :: r, i, h => by
    simp only [find1] at h
    split at h
    · cases h; simp
    · obtain ⟨j, hj, rfl⟩ := Option.map_eq_some_iff.1 h
      have := find1_lt hj
      simp; omega

noncomputable def findS : Spec := .of 25 (fun p : List Opr × List UInt8 × Bool => [.agg [.sl (p.1.map Opr.enc)], .str p.2.1, .bool p.2.2]) (fun p => p.1.length < 4611686018427387904)
  fun p => .tuple [(findK p.1 p.2.1 p.2.2).1.enc, .bool (findK p.1 p.2.1 p.2.2).2]
@[simp] theorem findS_f : findS.f = 25 := rfl
theorem findS_at (l : List Opr) (s : List UInt8) (b : Bool) (h : l.length < 4611686018427387904) : findS.S [.agg [.sl (l.map Opr.enc)], .str s, .bool b] = some (.tuple [(findK l s b).1.enc, .bool (findK l s b).2]) :=
  Spec.of_at (f := 25) (enc := fun p : List Opr × List UInt8 × Bool => [.agg [.sl (p.1.map Opr.enc)], .str p.2.1, .bool p.2.2]) (pre := fun p => p.1.length < 4611686018427387904)
    (val := fun p => .tuple [(findK p.1 p.2.1 p.2.2).1.enc, .bool (findK p.1 p.2.1 p.2.2).2]) (fun ⟨a1, a2, a3⟩ ⟨b1, b2, b3⟩ _ _ h => by
      simp at h
      obtain ⟨h1, h2, h3⟩ := h
      rw [encs_inj (a := a1) (b := b1) (by simpa using h1), h2, h3]) (l, s, b) h
theorem findS_ok : SpecOK Try.prog findS := Spec.of_ok fun ⟨l, s, b⟩ hl => by
  refine prim_of (n := l.length + 12) (h' := h0) (envOf_ok (ss := [aheadS, goodS]) (by simp [aheadS_ok, goodS_ok])) ?_ rfl (by simp [AV.refsL, AV.refs, encs_refs])
  have h5 : AV.refsL (l.map Opr.enc) = 0 := encs_refs l
  have hf := indexFunc_run [aheadS, goodS] (l.length + 10) l 36 [.ptr 1 0, .ptr 2 0] 4 [.row [.str [], .str [], .int .i64 0], .row [.bool b], .row [.str s], .row [.sl (l.map Opr.enc)]] 0 0 (fun o => o.n == s && aheadK o.k == b) (by simp [AV.refsL, AV.refs]) hl (by omega)
    (fun x hx => by cases e1 : x.n == s <;> simp [run36, c36, e1])
  have hg := goodS_at l hl
  cases hs : find1 (fun o => o.n == s && aheadK o.k == b) l with
  | none =>
    rw [hs] at hf
    simp [run25, c25, hf, findK, hs, Opr.enc, zeroO]
  | some i =>
    rw [hs] at hf
    have hi := find1_lt hs
    have h1 : l[i]? = some l[i] := List.getElem?_eq_getElem hi
    have h4 : (l[i].enc).cells? = some [.str l[i].n, .str l[i].k, .int .i64 l[i].l] := rfl
    have hne : ¬ ((i : Int) < 0) := by omega
    cases hgk : goodK l with
    | false => simp [run25, c25, hf, findK, hs, Opr.enc, zeroO, hg, hgk, hne]
    | true =>
      simp [run25, c25, hf, findK, hs, zeroO, hg, hgk, h1, h4, hne]
      simp [Opr.enc]

noncomputable def preS : Spec := .of 10 (fun p : List Opr × List UInt8 => [.agg [.sl (p.1.map Opr.enc)], .str p.2]) (fun p => p.1.length < 4611686018427387904)
  fun p => .tuple [(findK p.1 p.2 true).1.enc, .bool (findK p.1 p.2 true).2]
@[simp] theorem preS_f : preS.f = 10 := rfl
theorem preS_at (l : List Opr) (s : List UInt8) (h : l.length < 4611686018427387904) : preS.S [.agg [.sl (l.map Opr.enc)], .str s] = some (.tuple [(findK l s true).1.enc, .bool (findK l s true).2]) :=
  Spec.of_at (f := 10) (enc := fun p : List Opr × List UInt8 => [.agg [.sl (p.1.map Opr.enc)], .str p.2]) (pre := fun p => p.1.length < 4611686018427387904)
    (val := fun p => .tuple [(findK p.1 p.2 true).1.enc, .bool (findK p.1 p.2 true).2]) (fun ⟨a1, a2⟩ ⟨b1, b2⟩ _ _ h => by
      simp at h
      obtain ⟨h1, h2⟩ := h
      rw [encs_inj (a := a1) (b := b1) (by simpa using h1), h2]) (l, s) h
theorem preS_ok : SpecOK Try.prog preS := Spec.of_ok fun ⟨l, s⟩ hl => by
  refine prim_of (n := 12) (h' := h0) (envOf_ok (ss := [findS]) (by simp [findS_ok])) ?_ rfl (by simp [AV.refsL, AV.refs, encs_refs])
  have hg := findS_at l s true hl
  have h4 : ((findK l s true).1.enc).cells? = some [.str (findK l s true).1.n, .str (findK l s true).1.k, .int .i64 (findK l s true).1.l] := rfl
  simp [run10, c10, hg, h4]
  simp [Opr.enc]
noncomputable def inS : Spec := .of 11 (fun p : List Opr × List UInt8 => [.agg [.sl (p.1.map Opr.enc)], .str p.2]) (fun p => p.1.length < 4611686018427387904)
  fun p => .tuple [(findK p.1 p.2 false).1.enc, .bool (findK p.1 p.2 false).2]
@[simp] theorem inS_f : inS.f = 11 := rfl
theorem inS_at (l : List Opr) (s : List UInt8) (h : l.length < 4611686018427387904) : inS.S [.agg [.sl (l.map Opr.enc)], .str s] = some (.tuple [(findK l s false).1.enc, .bool (findK l s false).2]) :=
  Spec.of_at (f := 11) (enc := fun p : List Opr × List UInt8 => [.agg [.sl (p.1.map Opr.enc)], .str p.2]) (pre := fun p => p.1.length < 4611686018427387904)
    (val := fun p => .tuple [(findK p.1 p.2 false).1.enc, .bool (findK p.1 p.2 false).2]) (fun ⟨a1, a2⟩ ⟨b1, b2⟩ _ _ h => by
      simp at h
      obtain ⟨h1, h2⟩ := h
      rw [encs_inj (a := a1) (b := b1) (by simpa using h1), h2]) (l, s) h
theorem inS_ok : SpecOK Try.prog inS := Spec.of_ok fun ⟨l, s⟩ hl => by
  refine prim_of (n := 12) (h' := h0) (envOf_ok (ss := [findS]) (by simp [findS_ok])) ?_ rfl (by simp [AV.refsL, AV.refs, encs_refs])
  have hg := findS_at l s false hl
  have h4 : ((findK l s false).1.enc).cells? = some [.str (findK l s false).1.n, .str (findK l s false).1.k, .int .i64 (findK l s false).1.l] := rfl
  simp [run11, c11, hg, h4]
  simp [Opr.enc]

def dec1 (x : Int) : Int := IntKind.i64.wrap (x - 1)
def sidesK (k : List UInt8) (l : Int) : Int × Int :=
  if k == [120, 102, 120] then (dec1 l, dec1 l) else if k == [120, 102, 121] then (dec1 l, l) else if k == [121, 102, 120] then (l, dec1 l)
  else if k == [102, 121] then (0, l) else if k == [102, 120] then (0, dec1 l) else (0, 0)
noncomputable def sidesS (f : Nat) : Spec := .of f (fun o : Opr => [o.enc]) (fun _ => True) fun o => .tuple [.int .i64 (sidesK o.k o.l).1, .int .i64 (sidesK o.k o.l).2]
@[simp] theorem sidesS_f (f : Nat) : (sidesS f).f = f := rfl
@[simp] theorem sidesS_at (f : Nat) (a b l) : (sidesS f).S [.agg [.str a, .str b, .int .i64 l]] = some (.tuple [.int .i64 (sidesK b l).1, .int .i64 (sidesK b l).2]) :=
  Spec.of_at (f := f) (enc := fun o : Opr => [o.enc]) (pre := fun _ => True) (val := fun o => .tuple [.int .i64 (sidesK o.k o.l).1, .int .i64 (sidesK o.k o.l).2]) (fun a b _ _ h => by rw [Opr.enc_inj (List.cons.inj h).1]) ⟨a, b, l⟩ trivial
theorem sides9_ok : SpecOK Try.prog (sidesS 9) := Spec.of_ok fun ⟨a, b, l⟩ _ => by
  refine prim_of (n := 5) (h' := h0) (envOf_ok (ss := []) (by simp)) ?_ rfl rfl
  cases e1 : b == [120, 102, 120] with
  | true => simp [run9, c9, Opr.enc, sidesK, dec1, e1]
  | false =>
  cases e2 : b == [120, 102, 121] with
  | true => simp [run9, c9, Opr.enc, sidesK, dec1, e1, e2]
  | false =>
  cases e3 : b == [121, 102, 120] with
  | true => simp [run9, c9, Opr.enc, sidesK, dec1, e1, e2, e3]
  | false =>
  cases e4 : b == [102, 121] with
  | true => simp [run9, c9, Opr.enc, sidesK, dec1, e1, e2, e3, e4]
  | false =>
  cases e5 : b == [102, 120] <;> simp [run9, c9, Opr.enc, sidesK, dec1, e1, e2, e3, e4, e5]
theorem sides19_ok : SpecOK Try.prog (sidesS 19) := Spec.of_ok fun ⟨a, b, l⟩ _ => by
  refine prim_of (n := 5) (h' := h0) (envOf_ok (ss := []) (by simp)) ?_ rfl rfl
  cases e1 : b == [120, 102, 120] with
  | true => simp [run19, c19, Opr.enc, sidesK, dec1, e1]
  | false =>
  cases e2 : b == [120, 102, 121] with
  | true => simp [run19, c19, Opr.enc, sidesK, dec1, e1, e2]
  | false =>
  cases e3 : b == [121, 102, 120] with
  | true => simp [run19, c19, Opr.enc, sidesK, dec1, e1, e2, e3]
  | false =>
  cases e4 : b == [102, 121] with
  | true => simp [run19, c19, Opr.enc, sidesK, dec1, e1, e2, e3, e4]
  | false =>
  cases e5 : b == [102, 120] <;> simp [run19, c19, Opr.enc, sidesK, dec1, e1, e2, e3, e4, e5]

/-- Whether an operator may be, as the document says. -/
def rgoodK (a b : List UInt8) (l : Int) : Bool :=
  if a == [] || decide (64 < a.length) || a == [124] || a == [91, 93] || a == [123, 125] || decide (l < 1) || decide (1200 < l) then false
  else if a == [44] then b == [120, 102, 121] && decide (l = 1000)
  else betweenK b || aheadK b
noncomputable def rgoodS : Spec := .of 31 (fun o : Opr => [o.enc]) (fun _ => True) fun o => .bool (rgoodK o.n o.k o.l)
@[simp] theorem rgoodS_f : rgoodS.f = 31 := rfl
@[simp] theorem rgoodS_at (a b l) : rgoodS.S [.agg [.str a, .str b, .int .i64 l]] = some (.bool (rgoodK a b l)) :=
  Spec.of_at (f := 31) (enc := fun o : Opr => [o.enc]) (pre := fun _ => True) (val := fun o => .bool (rgoodK o.n o.k o.l)) (fun a b _ _ h => by rw [Opr.enc_inj (List.cons.inj h).1]) ⟨a, b, l⟩ trivial
set_option maxHeartbeats 1000000 in
theorem rgoodS_ok : SpecOK Try.prog rgoodS := Spec.of_ok fun ⟨a, b, l⟩ _ => by
  refine prim_of (n := 5) (h' := h0) (envOf_ok (ss := [rbetweenS, raheadS]) (by simp [rbetweenS_ok, raheadS_ok])) ?_ rfl rfl
  have hl : decide ((64 : Int) < (a.length : Int)) = decide (64 < a.length) := by
    congr 1
    exact propext ⟨fun h => by omega, fun h => by omega⟩
  cases e1 : a == [] with
  | true => simp [run31, c31, Opr.enc, rgoodK, e1]
  | false =>
  cases e2 : decide (64 < a.length) with
  | true => simp [run31, c31, Opr.enc, rgoodK, e1, e2, hl]
  | false =>
  cases e3 : a == [124] with
  | true => simp [run31, c31, Opr.enc, rgoodK, e1, e2, hl, e3]
  | false =>
  cases e4 : a == [91, 93] with
  | true => simp [run31, c31, Opr.enc, rgoodK, e1, e2, hl, e3, e4]
  | false =>
  cases e5 : a == [123, 125] with
  | true => simp [run31, c31, Opr.enc, rgoodK, e1, e2, hl, e3, e4, e5]
  | false =>
  cases e6 : decide (l < 1) with
  | true => simp [run31, c31, Opr.enc, rgoodK, e1, e2, hl, e3, e4, e5, e6]
  | false =>
  cases e7 : decide (1200 < l) with
  | true => simp [run31, c31, Opr.enc, rgoodK, e1, e2, hl, e3, e4, e5, e6, e7]
  | false =>
  cases e8 : a == [44] with
  | true => cases e9 : b == [120, 102, 121] <;> simp [run31, c31, Opr.enc, rgoodK, e1, e2, hl, e3, e4, e5, e6, e7, e8, e9]
  | false => cases e9 : betweenK b <;> simp [run31, c31, Opr.enc, rgoodK, e1, e2, hl, e3, e4, e5, e6, e7, e8, e9]
end Go.Proofs.Ytlofbalilhohmaa

namespace Go.Proofs.Ytlofbalilhohmaa
open Go Sz
set_option linter.unusedSimpArgs false
attribute [local simp] evCode_skip evCode_reg evCode_dreg evCode_seq evCode_cond evCode_block evCode_exit evCode_ret evSteps_nil evSteps_op evSteps_opg evSteps_call evSteps_callg evSteps_callv evSteps_callvg evTr_nil evTr_cons evStep_op evStep_opg evStep_call evStep_callg evStep_callv evStep_callvg ldId chkTr
  evOp_mov evOp_pick evOp_box evOp_bld evOp_bsl evOp_ld evOp_st evOp_nck evOp_bin evOp_beq evOp_ceq evOp_peq evOp_not evOp_neg evOp_xor evOp_cvi evOp_cvss evOp_cvis evOp_cvsb evOp_mki evOp_mkf evOp_mkm evOp_mks evOp_sls evOp_slv evOp_fad evOp_fld1 evOp_fldn evOp_iad evOp_ixs evOp_ext evOp_lens evOp_lenv evOp_mx evOp_mn evOp_app evOp_bs0 evOp_snil evOp_clr
  unwanted Opd.ev putA cells_agg cells_bool cells_int cells_str cells_nilp cells_ptr cells_ip cells_nils cells_sl cells_vec cells_nilm cells_map cells_nilfn cells_fn cells_nili cells_iface ldA row_mk get_mk set_mk mark_mk alloc_mk' trunc_mk binA resAll_nil resAll_cons resA oneOf finish_mk frz_undef frz_bool frz_int frz_str frz_nilp frz_ptr frz_ip frz_nils frz_sl frz_nilm frz_map frz_nilfn frz_fn frz_nili frz_iface frz_old frz_agg frz_tuple frzL_nil frzL_cons kill AV.refs AV.refsL clear evCall_spec lookS evB clones cloneS_f cloneS_nils cloneS_sl0 fillA putAt_nil putAt_cons evCode_loop gc_mk bgn_mk aft_mk keeps objsAt ren renId AV.top lowObj h0


/-- A slice's value: nil, if it is empty. -/
def slN (l : List Opr) : AV := if l = [] then .nils else .sl (l.map Opr.enc)
theorem slN_nil : slN [] = .nils := rfl
theorem slN_cons (o : Opr) (r : List Opr) : slN (o :: r) = .sl ((o :: r).map Opr.enc) := rfl
theorem slN_is (l : List Opr) : IsSl (slN l) l := by
  cases l with
  | nil => exact .inr ⟨rfl, rfl⟩
  | cons o r => exact .inl rfl
theorem isSl_refs {v : AV} {l : List Opr} (h : IsSl v l) : v.refs = 0 := by
  rcases h with rfl | ⟨_, rfl⟩ <;> rfl
theorem isSl_len {fr : List AV} {h : Heap} {x : Opd} {l : List Opr} (hv : IsSl (x.ev fr) l) : evOp fr h (.lenv x) = some (.int .i64 l.length, h) := by
  rw [evOp_lenv]
  rcases hv with e | ⟨rfl, e⟩ <;> rw [e] <;> simp

def flat (l : List Opr) : List AV := (l.map Opr.enc).flatMap AV.cells
theorem flat_length (l : List Opr) : (flat l).length = l.length * 3 := by unfold flat; rw [flat_len (encs_elem l)]; simp
theorem flat_nil : flat [] = [] := rfl
theorem flat_append (a b : List Opr) : flat (a ++ b) = flat a ++ flat b := by simp [flat]
theorem flat_one (o : Opr) : flat [o] = [.str o.n, .str o.k, .int .i64 o.l] := rfl
theorem flat_takeAll (l : List Opr) : (flat l).take (l.length * 3) = flat l := List.take_of_length_le (by rw [flat_length]; exact Nat.le_refl _)
theorem flat_cells (l : List Opr) : List.flatMap AV.cells (l.map Opr.enc) = flat l := rfl
theorem flat_cells' (l : List Opr) : List.flatMap (fun a => (Opr.enc a).cells) l = flat l := by unfold flat; rw [List.flatMap_map]
theorem flat_refs (l : List Opr) : AV.refsL (flat l) = 0 := refsL_basic (flat_all (encs_elem l))
theorem flat_at {l : List Opr} {i : Nat} {o : Opr} (h : l[i]? = some o) : ((flat l).drop (i * 3)).take 3 = [.str o.n, .str o.k, .int .i64 o.l] := by
  obtain ⟨hi, rfl⟩ := List.getElem?_eq_some_iff.1 h
  unfold flat
  rw [flat_drop i (encs_elem l) (by simp; omega), ← List.map_drop, List.drop_eq_getElem_cons hi]
  rfl

/-- Where the first is of that name, on that side; -1. -/
def rfindI (l : List Opr) (name : List UInt8) (between : Bool) : Int := match find1 (fun o => o.n == name && betweenK o.k == between) l with | some i => i | none => -1

theorem c20_loop (l : List Opr) (name : List UInt8) (between : Bool) (n : Nat) (hl : l.length < 4611686018427387904) : ∀ post pre m, l = pre ++ post → post.length < m →
    aft 0 0 (loopH (evCode (evCall (envOf [rbetweenS]) (n + 1)) (n + 1) c20_b0) c20_m0 0 m (c20_f0 (.sl (l.map Opr.enc)) (.str name) (.bool between) (.int .i64 pre.length)) ⟨0, [], 0, 0⟩) =
      match find1 (fun o => o.n == name && betweenK o.k == between) post with
      | some i => some (.ret, (List.replicate 32 .undef).set 6 (.int .i64 (pre.length + i : Nat)), ⟨0, [], 0, 0⟩)
      | none => some (.exit 0, List.replicate 32 .undef, ⟨0, [], 0, 0⟩)
  | [], pre, m + 1, e, _ => by
    subst e
    simp [find1, loopH_succ, c20_b0]
  | o :: post, pre, m + 1, e, hm => by
    have ih := c20_loop l name between n hl post (pre ++ [o]) m (by simp [e]) (by simpa using hm)
    have h1 : l[pre.length]? = some o := by rw [e]; simp
    have h2 : decide ((pre.length : Int) < (l.length : Int)) = true := by rw [e]; exact lt_mid _ _ _
    have h3 : IntKind.i64.wrap ((pre.length : Int) + 1) = (pre.length : Int) + 1 := by
      rw [wrap_succ (by rw [e] at hl; simp at hl; omega)]; simp
    have h4 : (o.enc).cells? = some [.str o.n, .str o.k, .int .i64 o.l] := rfl
    have h5 : AV.refsL (l.map Opr.enc) = 0 := encs_refs l
    have h6 : (pre.length : Int) < (l.length : Int) := by simpa using h2
    simp only [List.length_append, List.length_cons, List.length_nil, Nat.zero_add, Int.natCast_add, Int.natCast_one] at ih
    cases e1 : o.n == name with
    | false =>
      simp [find1, loopH_succ, c20_b0, c20_m0, h1, h3, h4, h5, h6, e1]
      refine ih.trans ?_
      cases find1 (fun o => o.n == name && betweenK o.k == between) post with
      | none => rfl
      | some i => simp; omega
    | true =>
      cases e2 : betweenK o.k == between with
      | true => simp [find1, loopH_succ, c20_b0, c20_m0, h1, h3, h4, h5, h6, e1, e2]
      | false =>
        simp [find1, loopH_succ, c20_b0, c20_m0, h1, h3, h4, h5, h6, e1, e2]
        refine ih.trans ?_
        cases find1 (fun o => o.n == name && betweenK o.k == between) post with
        | none => rfl
        | some i => simp; omega

noncomputable def rfindS : Spec := .of 20 (fun p : AV × List Opr × List UInt8 × Bool => [p.1, .str p.2.2.1, .bool p.2.2.2]) (fun p => IsSl p.1 p.2.1 ∧ p.2.1.length < 4611686018427387904) fun p => .int .i64 (rfindI p.2.1 p.2.2.1 p.2.2.2)
@[simp] theorem rfindS_f : rfindS.f = 20 := rfl
theorem rfindS_at {v : AV} {l : List Opr} (s : List UInt8) (b : Bool) (hv : IsSl v l) (h : l.length < 4611686018427387904) : rfindS.S [v, .str s, .bool b] = some (.int .i64 (rfindI l s b)) :=
  Spec.of_at (f := 20) (enc := fun p : AV × List Opr × List UInt8 × Bool => [p.1, .str p.2.2.1, .bool p.2.2.2]) (pre := fun p => IsSl p.1 p.2.1 ∧ p.2.1.length < 4611686018427387904) (val := fun p => .int .i64 (rfindI p.2.1 p.2.2.1 p.2.2.2))
    (fun ⟨a1, a2, a3, a4⟩ ⟨b1, b2, b3, b4⟩ ha hb h => by
      simp at h
      obtain ⟨rfl, rfl, rfl⟩ := h
      rw [isSl_inj ha.1 hb.1]) (v, l, s, b) ⟨hv, h⟩
theorem rfindS_ok : SpecOK Try.prog rfindS := Spec.of_ok fun ⟨v, l, s, b⟩ ⟨hv, hl⟩ => by
  refine prim_of (n := l.length + 5) (h' := h0) (envOf_ok (ss := [rbetweenS]) (by simp [rbetweenS_ok])) ?_ rfl (by simp [AV.refsL, AV.refs, isSl_refs hv])
  have h5 : AV.refsL (l.map Opr.enc) = 0 := encs_refs l
  rcases (show IsSl v l from hv) with rfl | ⟨rfl, rfl⟩
  · have e := c20_loop l s b (l.length + 3) hl l [] (l.length + 4) rfl (by omega)
    simp only [List.length_nil, c20_m0, c20_f0, Int.natCast_zero] at e
    cases hf : find1 (fun o => o.n == s && betweenK o.k == b) l with
    | none => rw [hf] at e; simp [run20, c20, c20_m0, h5, e, rfindI, hf]
    | some i => rw [hf] at e; simp [run20, c20, c20_m0, h5, e, rfindI, hf]
  · simp [run20, c20, c20_m0, c20_b0, loopH_succ, rfindI, find1]

/-- Whether a table may be, as the document says. -/
def rgoodA : List Opr → List Opr → Bool
  | _, [] => true
  | pre, o :: post => if !rgoodK o.n o.k o.l then false else if (find1 (fun x => x.n == o.n && betweenK x.k == betweenK o.k) pre).isSome then false else rgoodA (pre ++ [o]) post
def rgoodsK (l : List Opr) : Bool := rgoodA [] l && decide (l.length ≤ 128)

theorem c18_loop0 (l : List Opr) (o : Opr) (i : Nat) (ho : l[i]? = some o) (n : Nat) (hl : l.length < 4611686018427387904) (pre : List Opr) (hpre : pre = l.take i) : ∀ post done m, pre = done ++ post → post.length < m →
    aft 0 0 (loopH (evCode (evCall (envOf [rbetweenS, rgoodS]) (n + 1)) (n + 1) c18_b0) c18_m0 0 m (c18_f0 (.sl (l.map Opr.enc)) (.int .i64 i) (.int .i64 done.length)) ⟨0, [], 0, 0⟩) =
      match find1 (fun x => x.n == o.n && betweenK x.k == betweenK o.k) post with
      | some _ => some (.ret, (List.replicate 51 .undef).set 2 (.bool false), ⟨0, [], 0, 0⟩)
      | none => some (.exit 2, ((List.replicate 51 .undef).set 0 (.sl (l.map Opr.enc))).set 3 (.int .i64 i), ⟨0, [], 0, 0⟩)
  | [], done, m + 1, e, _ => by
    have hi := (List.getElem?_eq_some_iff.1 ho).1
    have hd : done.length = i := by
      have : pre.length = i := by rw [hpre]; simp; omega
      rw [← this, e]; simp
    have h5 : AV.refsL (l.map Opr.enc) = 0 := encs_refs l
    simp [find1, loopH_succ, c18_b0, hd, h5]
  | x :: post, done, m + 1, e, hm => by
    have ih := c18_loop0 l o i ho n hl pre hpre post (done ++ [x]) m (by simp [e]) (by simpa using hm)
    have hi := (List.getElem?_eq_some_iff.1 ho).1
    have hp : pre.length = i := by rw [hpre]; simp; omega
    have hd : done.length < i := by rw [← hp, e]; simp
    have h1 : l[done.length]? = some x := by
      have : pre[done.length]? = some x := by rw [e]; simp
      rw [hpre, List.getElem?_take, if_pos hd] at this
      exact this
    have h3 : IntKind.i64.wrap ((done.length : Int) + 1) = (done.length : Int) + 1 := by
      rw [wrap_succ (by omega)]; simp
    have h4 : (o.enc).cells? = some [.str o.n, .str o.k, .int .i64 o.l] := rfl
    have h4x : (x.enc).cells? = some [.str x.n, .str x.k, .int .i64 x.l] := rfl
    have h5 : AV.refsL (l.map Opr.enc) = 0 := encs_refs l
    simp only [List.length_append, List.length_cons, List.length_nil, Nat.zero_add, Int.natCast_add, Int.natCast_one] at ih
    cases e1 : x.n == o.n with
    | false =>
      simp [find1, loopH_succ, c18_b0, c18_m0, ho, h1, h3, h4, h4x, h5, hd, e1]
      refine ih.trans ?_
      cases find1 (fun x => x.n == o.n && betweenK x.k == betweenK o.k) post <;> rfl
    | true =>
      cases e2 : betweenK x.k == betweenK o.k with
      | true => simp [find1, loopH_succ, c18_b0, c18_m0, ho, h1, h3, h4, h4x, h5, hd, e1, e2]
      | false =>
        simp [find1, loopH_succ, c18_b0, c18_m0, ho, h1, h3, h4, h4x, h5, hd, e1, e2]
        refine ih.trans ?_
        cases find1 (fun x => x.n == o.n && betweenK x.k == betweenK o.k) post <;> rfl

theorem c18_loop1 (l : List Opr) (n : Nat) (hl : l.length < 4611686018427387904) (hn : l.length < n + 1) : ∀ post pre m, l = pre ++ post → post.length < m →
    aft 0 0 (loopH (evCode (evCall (envOf [rbetweenS, rgoodS]) (n + 1)) (n + 1) c18_b1) c18_m1 0 m (c18_f1 (.sl (l.map Opr.enc)) (.int .i64 pre.length)) ⟨0, [], 0, 0⟩) =
      if rgoodA pre post then some (.exit 0, (List.replicate 51 .undef).set 0 (.sl (l.map Opr.enc)), ⟨0, [], 0, 0⟩) else some (.ret, (List.replicate 51 .undef).set 2 (.bool false), ⟨0, [], 0, 0⟩)
  | [], pre, m + 1, e, _ => by
    subst e
    have h5 : AV.refsL (pre.map Opr.enc) = 0 := encs_refs pre
    simp [rgoodA, loopH_succ, c18_b1, h5]
  | o :: post, pre, m + 1, e, hm => by
    have ih := c18_loop1 l n hl hn post (pre ++ [o]) m (by simp [e]) (by simpa using hm)
    have h1 : l[pre.length]? = some o := by rw [e]; simp
    have h2 : decide ((pre.length : Int) < (l.length : Int)) = true := by rw [e]; exact lt_mid _ _ _
    have h3 : IntKind.i64.wrap ((pre.length : Int) + 1) = (pre.length : Int) + 1 := by
      rw [wrap_succ (by rw [e] at hl; simp at hl; omega)]; simp
    have h4 : (o.enc).cells? = some [.str o.n, .str o.k, .int .i64 o.l] := rfl
    have h5 : AV.refsL (l.map Opr.enc) = 0 := encs_refs l
    have h6 : (pre.length : Int) < (l.length : Int) := by simpa using h2
    have hp : pre = l.take pre.length := by rw [e]; simp
    have hin := c18_loop0 l o pre.length h1 n hl pre hp pre [] (n + 1) rfl (by have : pre.length ≤ l.length := by rw [e]; simp
                                                                               omega)
    simp only [List.length_nil, c18_m0, c18_f0, Int.natCast_zero] at hin
    simp only [List.length_append, List.length_cons, List.length_nil, Nat.zero_add, Int.natCast_add, Int.natCast_one] at ih
    rw [loopH_succ]
    cases hm : rgoodK o.n o.k o.l with
    | false => simp [rgoodA, c18_b1, c18_m1, h1, h3, h4, h5, h6, hm]
    | true =>
      cases hs : find1 (fun x => x.n == o.n && betweenK x.k == betweenK o.k) pre with
      | some _ =>
        rw [hs] at hin
        simp [rgoodA, c18_b1, c18_m1, c18_m0, h1, h3, h4, h5, h6, hm, hs, hin]
      | none =>
        rw [hs] at hin
        simp [rgoodA, c18_b1, c18_m1, c18_m0, h1, h3, h4, h5, h6, hm, hs, hin]
        exact ih

noncomputable def rgoodsS : Spec := .of 18 (fun p : AV × List Opr => [p.1]) (fun p => IsSl p.1 p.2 ∧ p.2.length < 4611686018427387904) fun p => .bool (rgoodsK p.2)
@[simp] theorem rgoodsS_f : rgoodsS.f = 18 := rfl
theorem rgoodsS_at {v : AV} {l : List Opr} (hv : IsSl v l) (h : l.length < 4611686018427387904) : rgoodsS.S [v] = some (.bool (rgoodsK l)) :=
  Spec.of_at (f := 18) (enc := fun p : AV × List Opr => [p.1]) (pre := fun p => IsSl p.1 p.2 ∧ p.2.length < 4611686018427387904) (val := fun p => .bool (rgoodsK p.2))
    (fun ⟨a1, a2⟩ ⟨b1, b2⟩ ha hb h => by
      simp at h
      subst h
      rw [isSl_inj ha.1 hb.1]) (v, l) ⟨hv, h⟩
theorem rgoodsS_ok : SpecOK Try.prog rgoodsS := Spec.of_ok fun ⟨v, l⟩ ⟨hv, hl⟩ => by
  refine prim_of (n := l.length + 5) (h' := h0) (envOf_ok (ss := [rbetweenS, rgoodS]) (by simp [rbetweenS_ok, rgoodS_ok])) ?_ rfl (by simp [AV.refsL, isSl_refs hv])
  have h5 : AV.refsL (l.map Opr.enc) = 0 := encs_refs l
  have hd : decide ((l.length : Int) ≤ 128) = decide (l.length ≤ 128) := by
    congr 1
    exact propext ⟨fun h => by omega, fun h => by omega⟩
  rcases (show IsSl v l from hv) with rfl | ⟨rfl, rfl⟩
  · have e := c18_loop1 l (l.length + 3) hl (by omega) l [] (l.length + 4) rfl (by omega)
    simp only [List.length_nil, c18_m1, c18_f1, Int.natCast_zero] at e
    cases hf : rgoodA [] l with
    | false => rw [hf] at e; simp [run18, c18, c18_m1, h5, e, rgoodsK, hf]
    | true => rw [hf] at e; simp [run18, c18, c18_m1, h5, e, rgoodsK, hf, hd]
  · simp [run18, c18, c18_m1, c18_b1, loopH_succ, rgoodsK, rgoodA]
end Go.Proofs.Ytlofbalilhohmaa

namespace Go.Proofs.Ytlofbalilhohmaa
open Go Sz
set_option linter.unusedSimpArgs false
attribute [local simp] evCode_skip evCode_reg evCode_dreg evCode_seq evCode_cond evCode_block evCode_exit evCode_ret evSteps_nil evSteps_op evSteps_opg evSteps_call evSteps_callg evSteps_callv evSteps_callvg evTr_nil evTr_cons evStep_op evStep_opg evStep_call evStep_callg evStep_callv evStep_callvg ldId chkTr
  evOp_mov evOp_pick evOp_box evOp_bld evOp_bsl evOp_ld evOp_st evOp_nck evOp_bin evOp_beq evOp_ceq evOp_peq evOp_not evOp_neg evOp_xor evOp_cvi evOp_cvss evOp_cvis evOp_cvsb evOp_mki evOp_mkf evOp_mkm evOp_mks evOp_sls evOp_slv evOp_fad evOp_fld1 evOp_fldn evOp_iad evOp_ixs evOp_ext evOp_lens evOp_lenv evOp_mx evOp_mn evOp_app evOp_bs0 evOp_snil evOp_clr
  unwanted Opd.ev putA cells_agg cells_bool cells_int cells_str cells_nilp cells_ptr cells_ip cells_nils cells_sl cells_vec cells_nilm cells_map cells_nilfn cells_fn cells_nili cells_iface ldA row_mk get_mk set_mk mark_mk alloc_mk' trunc_mk binA resAll_nil resAll_cons resA oneOf finish_mk frz_undef frz_bool frz_int frz_str frz_nilp frz_ptr frz_ip frz_nils frz_sl frz_nilm frz_map frz_nilfn frz_fn frz_nili frz_iface frz_old frz_agg frz_tuple frzL_nil frzL_cons kill AV.refs AV.refsL clear evCall_spec lookS evB clones cloneS_f cloneS_nils cloneS_sl0 fillA putAt_nil putAt_cons evCode_loop gc_mk bgn_mk aft_mk keeps objsAt ren renId AV.top lowObj h0 succ_le_f


/-- Alike, one by one. -/
def sameA : List Opr → List Opr → Bool
  | o :: a, p :: b => o.n == p.n && (o.k == p.k && decide (o.l = p.l)) && sameA a b
  | _, _ => true
def sameK (a b : List Opr) : Bool := decide (a.length = b.length) && sameA a b

theorem c14_loop (a b : List Opr) (hab : a.length = b.length) (n : Nat) (hl : a.length < 4611686018427387904) : ∀ post post' pre pre' m, a = pre ++ post → b = pre' ++ post' → pre.length = pre'.length → post.length < m →
    aft 0 0 (loopH (evCode (evCall (envOf []) (n + 1)) (n + 1) c14_b0) c14_m0 0 m (c14_f0 (.sl (a.map Opr.enc)) (.sl (b.map Opr.enc)) (.int .i64 pre.length)) ⟨0, [], 0, 0⟩) =
      if sameA post post' then some (.exit 0, List.replicate 26 .undef, ⟨0, [], 0, 0⟩) else some (.ret, (List.replicate 26 .undef).set 4 (.bool false), ⟨0, [], 0, 0⟩)
  | [], post', pre, pre', m + 1, e, e', hp, _ => by
    have : post' = [] := by
      apply List.length_eq_zero_iff.1
      have h1 : a.length = pre.length := by rw [e]; simp
      have h2 : b.length = pre'.length + post'.length := by rw [e']; simp
      omega
    subst this e e'
    simp [sameA, loopH_succ, c14_b0]
  | o :: post, [], pre, pre', m + 1, e, e', hp, _ => by
    have h1 : a.length = pre.length + (post.length + 1) := by rw [e]; simp
    have h2 : b.length = pre'.length := by rw [e']; simp
    omega
  | o :: post, p :: post', pre, pre', m + 1, e, e', hp, hm => by
    have ih := c14_loop a b hab n hl post post' (pre ++ [o]) (pre' ++ [p]) m (by simp [e]) (by simp [e']) (by simp [hp]) (by simpa using hm)
    have h1 : a[pre.length]? = some o := by rw [e]; simp
    have h1' : b[pre.length]? = some p := by rw [e', hp]; simp
    have h2 : decide ((pre.length : Int) < (a.length : Int)) = true := by rw [e]; exact lt_mid _ _ _
    have h3 : IntKind.i64.wrap ((pre.length : Int) + 1) = (pre.length : Int) + 1 := by
      rw [wrap_succ (by rw [e] at hl; simp at hl; omega)]; simp
    have h4 : (o.enc).cells? = some [.str o.n, .str o.k, .int .i64 o.l] := rfl
    have h4' : (p.enc).cells? = some [.str p.n, .str p.k, .int .i64 p.l] := rfl
    have h5 : AV.refsL (a.map Opr.enc) = 0 := encs_refs a
    have h5' : AV.refsL (b.map Opr.enc) = 0 := encs_refs b
    have h6 : (pre.length : Int) < (a.length : Int) := by simpa using h2
    simp only [List.length_append, List.length_cons, List.length_nil, Nat.zero_add, Int.natCast_add, Int.natCast_one] at ih
    rw [loopH_succ]
    cases hs : (o.n == p.n && (o.k == p.k && decide (o.l = p.l))) with
    | true =>
      simp [sameA, c14_b0, c14_m0, h1, h1', h3, h4, h4', h5, h5', h6, hs, eqCells, eqCell]
      exact ih
    | false => simp [sameA, c14_b0, c14_m0, h1, h1', h3, h4, h4', h5, h5', h6, hs, eqCells, eqCell]

noncomputable def sameS : Spec := .of 14 (fun p : (AV × List Opr) × AV × List Opr => [p.1.1, p.2.1]) (fun p => IsSl p.1.1 p.1.2 ∧ IsSl p.2.1 p.2.2 ∧ p.1.2.length < 4611686018427387904) fun p => .bool (sameK p.1.2 p.2.2)
@[simp] theorem sameS_f : sameS.f = 14 := rfl
theorem sameS_at {v v' : AV} {l l' : List Opr} (hv : IsSl v l) (hv' : IsSl v' l') (h : l.length < 4611686018427387904) : sameS.S [v, v'] = some (.bool (sameK l l')) :=
  Spec.of_at (f := 14) (enc := fun p : (AV × List Opr) × AV × List Opr => [p.1.1, p.2.1]) (pre := fun p => IsSl p.1.1 p.1.2 ∧ IsSl p.2.1 p.2.2 ∧ p.1.2.length < 4611686018427387904) (val := fun p => .bool (sameK p.1.2 p.2.2))
    (fun ⟨⟨a1, a2⟩, a3, a4⟩ ⟨⟨b1, b2⟩, b3, b4⟩ ha hb h => by
      simp at h
      obtain ⟨rfl, rfl⟩ := h
      rw [isSl_inj ha.1 hb.1, isSl_inj ha.2.1 hb.2.1]) ((v, l), v', l') ⟨hv, hv', h⟩
theorem sameS_ok : SpecOK Try.prog sameS := Spec.of_ok fun ⟨⟨v, a⟩, v', b⟩ ⟨hv, hv', hl⟩ => by
  refine prim_of (n := a.length + 5) (h' := h0) (envOf_ok (ss := []) (by simp)) ?_ rfl (by simp [AV.refsL, isSl_refs hv, isSl_refs hv'])
  have h5 : AV.refsL (a.map Opr.enc) = 0 := encs_refs a
  have h5' : AV.refsL (b.map Opr.enc) = 0 := encs_refs b
  by_cases hab : a.length = b.length
  · rcases (show IsSl v a from hv) with rfl | ⟨rfl, rfl⟩ <;> rcases (show IsSl v' b from hv') with rfl | ⟨rfl, rfl⟩
    · have e := c14_loop a b hab (a.length + 3) hl a b [] [] (a.length + 4) rfl rfl rfl (by omega)
      simp only [List.length_nil, c14_m0, c14_f0, Int.natCast_zero, hab] at e
      cases hf : sameA a b with
      | false => rw [hf] at e; simp [run14, c14, c14_m0, h5, h5', e, sameK, hf, hab]
      | true => rw [hf] at e; simp [run14, c14, c14_m0, h5, h5', e, sameK, hf, hab]
    · have : a = [] := List.length_eq_zero_iff.1 hab
      subst this
      simp [run14, c14, c14_m0, c14_b0, loopH_succ, sameK, sameA]
    · have : b = [] := List.length_eq_zero_iff.1 hab.symm
      subst this
      simp [run14, c14, c14_m0, c14_b0, loopH_succ, sameK, sameA]
    · simp [run14, c14, c14_m0, c14_b0, loopH_succ, sameK, sameA]
  · have hne : ¬ ((a.length : Int) = (b.length : Int)) := by omega
    rcases (show IsSl v a from hv) with rfl | ⟨rfl, rfl⟩ <;> rcases (show IsSl v' b from hv') with rfl | ⟨rfl, rfl⟩
    · simp [run14, c14, sameK, hab, hne]
    · simp at hne hab
      simp [run14, c14, sameK, hab, hne]
    · simp at hne hab
      simp [run14, c14, sameK, hab, hne]
    · exact absurd rfl hab

/-- ownOps. -/
theorem c15_loop (l : List Opr) (n : Nat) (hl : l.length < 1099511627776) : ∀ post pre m, l = pre ++ post → pre ≠ [] → post.length < m →
    aft 1 0 (loopH (evCode (evCall (envOf []) (n + 1)) (n + 1) c15_b0) c15_m0 1 m (c15_f0 (.ptr 0 0) (.vec 1 0 pre.length 3 pre.length) (.int .i64 pre.length)) ⟨2, [.row (flat pre), .row [.sl (l.map Opr.enc)]], 1, 0⟩) =
      some (.exit 0, (List.replicate 35 .undef).set 3 (.vec 1 0 l.length 3 l.length), ⟨2, [.row (flat l), .row [.sl (l.map Opr.enc)]], 0, 0⟩)
  | [], pre, m + 1, e, _, _ => by
    simp at e
    subst e
    simp [loopH_succ, c15_b0, c15_m0, flat_refs]
  | o :: post, pre, m + 1, e, hne, hm => by
    have ih := c15_loop l n hl post (pre ++ [o]) m (by simp [e]) (by simp) (by simpa using hm)
    have h1 : l[pre.length]? = some o := by rw [e]; simp
    have h2 : decide ((pre.length : Int) < (l.length : Int)) = true := by rw [e]; exact lt_mid _ _ _
    have h3 : IntKind.i64.wrap ((pre.length : Int) + 1) = (pre.length : Int) + 1 := by
      rw [wrap_succ (by rw [e] at hl; simp at hl; omega)]; simp
    have h4 : (o.enc).cells? = some [.str o.n, .str o.k, .int .i64 o.l] := rfl
    have h5 : AV.refsL (l.map Opr.enc) = 0 := encs_refs l
    have h6 : (pre.length : Int) < (l.length : Int) := by simpa using h2
    have h7 := flat_takeAll pre
    have h8 := flat_length pre
    have h9 : (pre.length + 1) * 40 ≤ 140737488355328 := by omega
    have h10 : pre.length + 1 < 9223372036854775808 := by omega
    have h11 : AV.refsL (flat pre ++ [.str o.n, .str o.k, .int .i64 o.l]) = 0 := by rw [← flat_one, ← flat_append]; exact flat_refs _
    simp only [List.length_append, List.length_cons, List.length_nil, Nat.zero_add, Int.natCast_add, Int.natCast_one, flat_append, flat_one] at ih
    rw [loopH_succ]
    simp [c15_b0, c15_m0, h1, h3, h4, h5, h6, h7, h8, h9, h10, h11, elemsA]
    exact ih
theorem c15_all (o : Opr) (r : List Opr) (n : Nat) (hl : (o :: r).length < 1099511627776) (m : Nat) (hm : r.length + 1 < m) :
    aft 1 0 (loopH (evCode (evCall (envOf []) (n + 1)) (n + 1) c15_b0) c15_m0 1 m (c15_f0 (.ptr 0 0) .nils (.int .i64 0)) ⟨1, [.row [.sl ((o :: r).map Opr.enc)]], 1, 0⟩) =
      some (.exit 0, (List.replicate 35 .undef).set 3 (.vec 1 0 (o :: r).length 3 (o :: r).length), ⟨2, [.row (flat (o :: r)), .row [.sl ((o :: r).map Opr.enc)]], 0, 0⟩) := by
  obtain ⟨m, rfl⟩ : ∃ k, m = k + 1 := ⟨m - 1, by omega⟩
  have e := c15_loop (o :: r) n hl r [o] m rfl (by simp) (by omega)
  have h4 : (o.enc).cells? = some [.str o.n, .str o.k, .int .i64 o.l] := rfl
  have h4' : (o.enc).refs = 0 := rfl
  have h5 : AV.refsL (r.map Opr.enc) = 0 := encs_refs r
  rw [loopH_succ]
  simp [c15_b0, c15_m0, h4, h4', h5, elemsA, IntKind.wrap_i64]
  exact e
noncomputable def ownS : Spec := .of 15 (fun p : AV × List Opr => [.agg [p.1]]) (fun p => IsSl p.1 p.2 ∧ p.2.length < 1099511627776) fun p => slN p.2
@[simp] theorem ownS_f : ownS.f = 15 := rfl
theorem ownS_at {v : AV} {l : List Opr} (hv : IsSl v l) (h : l.length < 1099511627776) : ownS.S [.agg [v]] = some (slN l) :=
  Spec.of_at (f := 15) (enc := fun p : AV × List Opr => [.agg [p.1]]) (pre := fun p => IsSl p.1 p.2 ∧ p.2.length < 1099511627776) (val := fun p => slN p.2)
    (fun ⟨a1, a2⟩ ⟨b1, b2⟩ ha hb h => by
      simp at h
      subst h
      rw [isSl_inj ha.1 hb.1]) (v, l) ⟨hv, h⟩
theorem ownS_ok : SpecOK Try.prog ownS := Spec.of_ok fun ⟨v, l⟩ ⟨hv, hl⟩ => by
  refine prim_of (n := l.length + 5) (h' := h0) (envOf_ok (ss := []) (by simp)) ?_ (isSl_refs (slN_is l)) (by simp [AV.refsL, AV.refs, isSl_refs hv])
  rcases (show IsSl v l from hv) with rfl | ⟨rfl, rfl⟩
  · cases l with
    | nil => simp [run15, c15, c15_m0, c15_b0, loopH_succ, slN]
    | cons o r =>
      have e := c15_all o r (r.length + 4) hl (r.length + 5) (by omega)
      simp only [List.map_cons, List.length_cons, c15_f0, c15_m0] at e
      have h4' : (o.enc).refs = 0 := rfl
      have h5 : AV.refsL (r.map Opr.enc) = 0 := encs_refs r
      have hf := frz_vec (h := ⟨2, [.row (flat (o :: r)), .row [.sl (o.enc :: r.map Opr.enc)]], 0, 0⟩) (n0 := 0) (d := 6) (id := 1) (len := r.length + 1) (sz := 3) (lb := r.length + 1) (xs := (o :: r).map Opr.enc) (cs := flat (o :: r)) (by omega) rfl (by omega) (encs_elem _) (by simp) (by rw [flat_length]; simp) (flat_takeAll (o :: r))
      simp [run15, c15, c15_m0, h4', h5, e, hf, slN]
  · simp [run15, c15, c15_m0, c15_b0, loopH_succ, slN]
end Go.Proofs.Ytlofbalilhohmaa

namespace Go.Proofs.Ytlofbalilhohmaa
open Go Sz
set_option linter.unusedSimpArgs false
attribute [local simp] evCode_skip evCode_reg evCode_dreg evCode_seq evCode_cond evCode_block evCode_exit evCode_ret evSteps_nil evSteps_op evSteps_opg evSteps_call evSteps_callg evSteps_callv evSteps_callvg evTr_nil evTr_cons evStep_op evStep_opg evStep_call evStep_callg evStep_callv evStep_callvg ldId chkTr
  evOp_mov evOp_pick evOp_box evOp_bld evOp_bsl evOp_ld evOp_st evOp_nck evOp_bin evOp_beq evOp_ceq evOp_peq evOp_not evOp_neg evOp_xor evOp_cvi evOp_cvss evOp_cvis evOp_cvsb evOp_mki evOp_mkf evOp_mkm evOp_mks evOp_sls evOp_slv evOp_fad evOp_fld1 evOp_fldn evOp_iad evOp_ixs evOp_ext evOp_lens evOp_lenv evOp_mx evOp_mn evOp_app evOp_bs0 evOp_snil evOp_clr
  unwanted Opd.ev putA cells_agg cells_bool cells_int cells_str cells_nilp cells_ptr cells_ip cells_nils cells_sl cells_vec cells_nilm cells_map cells_nilfn cells_fn cells_nili cells_iface ldA row_mk get_mk set_mk mark_mk alloc_mk' trunc_mk binA resAll_nil resAll_cons resA oneOf finish_mk frz_undef frz_bool frz_int frz_str frz_nilp frz_ptr frz_ip frz_nils frz_sl frz_nilm frz_map frz_nilfn frz_fn frz_nili frz_iface frz_old frz_agg frz_tuple frzL_nil frzL_cons kill AV.refs AV.refsL clear evCall_spec lookS evB clones cloneS_f cloneS_nils cloneS_sl0 fillA putAt_nil putAt_cons evCode_loop gc_mk bgn_mk aft_mk keeps objsAt ren renId AV.top lowObj h0 succ_le_f


/-- The operators at first. -/
def plainL : List Opr := [⟨[58, 45], [120, 102, 120], 1200⟩,
  ⟨[59], [120, 102, 121], 1100⟩,
  ⟨[45, 62], [120, 102, 121], 1050⟩,
  ⟨[44], [120, 102, 121], 1000⟩,
  ⟨[92, 43], [102, 121], 900⟩,
  ⟨[61], [120, 102, 120], 700⟩,
  ⟨[92, 61], [120, 102, 120], 700⟩,
  ⟨[61, 61], [120, 102, 120], 700⟩,
  ⟨[92, 61, 61], [120, 102, 120], 700⟩,
  ⟨[64, 60], [120, 102, 120], 700⟩,
  ⟨[64, 62], [120, 102, 120], 700⟩,
  ⟨[64, 61, 60], [120, 102, 120], 700⟩,
  ⟨[64, 62, 61], [120, 102, 120], 700⟩,
  ⟨[61, 46, 46], [120, 102, 120], 700⟩,
  ⟨[105, 115], [120, 102, 120], 700⟩,
  ⟨[61, 58, 61], [120, 102, 120], 700⟩,
  ⟨[61, 92, 61], [120, 102, 120], 700⟩,
  ⟨[60], [120, 102, 120], 700⟩,
  ⟨[62], [120, 102, 120], 700⟩,
  ⟨[61, 60], [120, 102, 120], 700⟩,
  ⟨[62, 61], [120, 102, 120], 700⟩,
  ⟨[43], [121, 102, 120], 500⟩,
  ⟨[45], [121, 102, 120], 500⟩,
  ⟨[47, 92], [121, 102, 120], 500⟩,
  ⟨[92, 47], [121, 102, 120], 500⟩,
  ⟨[120, 111, 114], [121, 102, 120], 500⟩,
  ⟨[42], [121, 102, 120], 400⟩,
  ⟨[47, 47], [121, 102, 120], 400⟩,
  ⟨[109, 111, 100], [121, 102, 120], 400⟩,
  ⟨[114, 101, 109], [121, 102, 120], 400⟩,
  ⟨[62, 62], [121, 102, 120], 400⟩,
  ⟨[60, 60], [121, 102, 120], 400⟩,
  ⟨[94], [120, 102, 121], 200⟩,
  ⟨[45], [102, 121], 200⟩,
  ⟨[92], [102, 121], 200⟩]
noncomputable def plainS : Spec := .of 12 (fun _ : Unit => []) (fun _ => True) fun _ => .agg [.sl (plainL.map Opr.enc)]
@[simp] theorem plainS_f : plainS.f = 12 := rfl
@[simp] theorem plainS_at : plainS.S [] = some (.agg [.sl (plainL.map Opr.enc)]) :=
  Spec.of_at (f := 12) (enc := fun _ : Unit => []) (pre := fun _ => True) (val := fun _ => .agg [.sl (plainL.map Opr.enc)]) (fun _ _ _ _ _ => rfl) () trivial
theorem plain_run : evCall (envOf []) 60 12 [] h0 = some (.agg [.sl (plainL.map Opr.enc)], h0) := by kernel_rfl
theorem plainS_ok : SpecOK Try.prog plainS := Spec.of_ok fun _ _ => prim_of (h' := h0) (envOf_ok (ss := []) (by simp)) plain_run rfl rfl
noncomputable def rplainS : Spec := .of 16 (fun _ : Unit => []) (fun _ => True) fun _ => .sl (plainL.map Opr.enc)
@[simp] theorem rplainS_f : rplainS.f = 16 := rfl
@[simp] theorem rplainS_at : rplainS.S [] = some (.sl (plainL.map Opr.enc)) :=
  Spec.of_at (f := 16) (enc := fun _ : Unit => []) (pre := fun _ => True) (val := fun _ => .sl (plainL.map Opr.enc)) (fun _ _ _ _ _ => rfl) () trivial
theorem rplain_run : evCall (envOf []) 60 16 [] h0 = some (.sl (plainL.map Opr.enc), h0) := by kernel_rfl
theorem rplainS_ok : SpecOK Try.prog rplainS := Spec.of_ok fun _ _ => prim_of (h' := h0) (envOf_ok (ss := []) (by simp)) rplain_run rfl rfl

theorem clone_run (ss : List Spec) (n : Nat) (l : List Opr) (hne : l ≠ []) (hl : l.length < 1099511627776) (hn : Nat) (os : List AObj) (wl md : Nat) (hwl : wl ≤ hn) (hmd : md ≤ hn) :
    evFn ss n 27 [.sl (l.map Opr.enc)] ⟨hn, os, wl, md⟩ = some (.vec hn 0 l.length 3 l.length, ⟨hn + 1, .row (flat l) :: os, wl, md⟩) := by
  cases l with
  | nil => exact absurd rfl hne
  | cons o r =>
    have h1 := encs_all (o :: r)
    have h2 : (r.length + 1) * 40 ≤ 140737488355328 := by simp at hl; omega
    have h3 : r.length + 1 < 9223372036854775808 := by simp at hl; omega
    simp at h1
    have h4 : (o.enc).cells ++ List.flatMap AV.cells (r.map Opr.enc) = flat (o :: r) := rfl
    have h5 : ∀ o : Opr, (o.enc).cells? = some [.str o.n, .str o.k, .int .i64 o.l] := fun _ => rfl
    simp [run27, c27, elemsA, h2, h3, h4, h5, finish, Nat.min_eq_left hwl, Nat.min_eq_left hmd]

theorem c28_loopv (C : Nat → List AV → Heap → Option (AV × Heap)) (n : Nat) (l : List Opr) (g : Nat) (caps : List AV) (id lb hn : Nat) (os : List AObj) (p : Opr → Bool) (hcap : AV.refsL caps ≤ hn) (hl : l.length < 4611686018427387904) (hid : id < hn) (hrow : os[hn - 1 - id]? = some (.row (flat l)))
    (hg : ∀ o ∈ l, C g (.agg [.str o.n, .str o.k, .int .i64 o.l] :: caps) ⟨hn, os, hn, hn⟩ = some (.bool (p o), ⟨hn, os, hn, hn⟩)) : ∀ post pre m, l = pre ++ post → post.length < m →
    loopH (evCode C n c28_b0) c28_m0 hn m (c28_f0 (.vec id 0 l.length 3 lb) (.fn g caps) (.int .i64 l.length) (.int .i64 pre.length)) ⟨hn, os, hn, hn⟩ =
      match find1 p post with
      | some i => some (.ret, [.undef, .undef, .undef, .undef, .int .i64 (pre.length + i : Nat), .undef, .undef, .undef, .undef, .undef, .undef, .undef, .undef, .undef, .undef, .undef, .undef, .undef, .undef], ⟨hn, os, hn, hn⟩)
      | none => some (.exit 0, [.undef, .undef, .undef, .undef, .undef, .undef, .undef, .undef, .undef, .undef, .undef, .undef, .undef, .undef, .undef, .undef, .undef, .undef, .undef], ⟨hn, os, hn, hn⟩)
  | [], pre, m + 1, e, _ => by
    subst e
    simp [find1, loopH_succ, c28_b0]
  | o :: post, pre, m + 1, e, hm => by
    have ho := hg o (by simp [e])
    have ih := c28_loopv C n l g caps id lb hn os p hcap hl hid hrow hg post (pre ++ [o]) m (by simp [e]) (by simpa using hm)
    have h1 : l[pre.length]? = some o := by rw [e]; simp
    have h2 : decide ((pre.length : Int) < (l.length : Int)) = true := by rw [e]; exact lt_mid _ _ _
    have h3 : IntKind.i64.wrap ((pre.length : Int) + 1) = (pre.length : Int) + 1 := by
      rw [wrap_succ (by rw [e] at hl; simp at hl; omega)]; simp
    have h6 : (pre.length : Int) < (l.length : Int) := by simpa using h2
    have h7 := flat_at h1
    have h8 := flat_length l
    have h9 : pre.length * 3 + 3 ≤ l.length * 3 := by omega
    have h10 : ¬ hn ≤ id := by omega
    simp only [List.length_append, List.length_cons, List.length_nil, Nat.zero_add, Int.natCast_add, Int.natCast_one] at ih
    rw [loopH_succ]
    cases hp : p o with
    | true => simp [find1, c28_b0, c28_m0, ho, h1, h3, h6, h7, h8, h9, h10, hid, hrow, hp, hcap]
    | false =>
      simp [find1, c28_b0, c28_m0, ho, h1, h3, h6, h7, h8, h9, h10, hid, hrow, hp, hcap]
      refine Eq.trans ih ?_
      cases find1 p post with
      | none => rfl
      | some i => simp; omega

theorem indexFunc_runv (ss : List Spec) (n : Nat) (l : List Opr) (g : Nat) (caps : List AV) (id lb hn : Nat) (os : List AObj) (wl md : Nat) (p : Opr → Bool) (hcap : AV.refsL caps ≤ hn) (hl : l.length < 4611686018427387904) (hid : id < hn) (hrow : os[hn - 1 - id]? = some (.row (flat l))) (hm : l.length < n)
    (hg : ∀ o ∈ l, evCall (envOf ss) n g (.agg [.str o.n, .str o.k, .int .i64 o.l] :: caps) ⟨hn, os, hn, hn⟩ = some (.bool (p o), ⟨hn, os, hn, hn⟩)) :
    evFn ss n 28 [.vec id 0 l.length 3 lb, .fn g caps] ⟨hn, os, wl, md⟩ = some (.int .i64 (match find1 p l with | some i => (i : Int) | none => -1), ⟨hn, os, wl, md⟩) := by
  have e := c28_loopv (evCall (envOf ss) n) n l g caps id lb hn os p hcap hl hid hrow hg l [] n rfl hm
  simp only [List.length_nil, c28_m0, c28_f0, Int.natCast_zero] at e
  have h10 : ¬ hn ≤ id := by omega
  cases hf : find1 p l with
  | none =>
    rw [hf] at e
    simp [run28, c28, c28_m0, hcap, h10, hid, e]
  | some i =>
    rw [hf] at e
    simp [run28, c28, c28_m0, hcap, h10, hid, e]

def addK (l : List Opr) (o : Opr) : Int × List Opr :=
  if !goodK l then (1, []) else if o.n == [44] then (8, []) else if !mayK o.n o.k (if o.l = 0 then 1 else o.l) then (1, []) else
  match find1 (fun x => alikeK x o) l with
  | none => if o.l = 0 then (13, []) else if 128 ≤ l.length then (14, []) else (0, l ++ [o])
  | some i => if o.l = 0 then (0, l.eraseIdx i) else (0, l.set i o)

noncomputable def addS : Spec := .of 13 (fun p : List Opr × Opr => [.agg [.sl (p.1.map Opr.enc)], p.2.enc]) (fun p => p.1.length < 4611686018427387904)
  fun p => .tuple [.agg [if (addK p.1 p.2).1 = 0 then .sl ((addK p.1 p.2).2.map Opr.enc) else .nils], .int .i64 (addK p.1 p.2).1]
@[simp] theorem addS_f : addS.f = 13 := rfl
theorem addS_at (l : List Opr) (a b c) (h : l.length < 4611686018427387904) : addS.S [.agg [.sl (l.map Opr.enc)], .agg [.str a, .str b, .int .i64 c]] =
    some (.tuple [.agg [if (addK l ⟨a, b, c⟩).1 = 0 then .sl ((addK l ⟨a, b, c⟩).2.map Opr.enc) else .nils], .int .i64 (addK l ⟨a, b, c⟩).1]) :=
  Spec.of_at (f := 13) (enc := fun p : List Opr × Opr => [.agg [.sl (p.1.map Opr.enc)], p.2.enc]) (pre := fun p => p.1.length < 4611686018427387904)
    (val := fun p => .tuple [.agg [if (addK p.1 p.2).1 = 0 then .sl ((addK p.1 p.2).2.map Opr.enc) else .nils], .int .i64 (addK p.1 p.2).1]) (fun ⟨a1, a2⟩ ⟨b1, b2⟩ _ _ h => by
      have h1 := (List.cons.inj h).1
      have h2 := (List.cons.inj (List.cons.inj h).2).1
      simp at h1
      rw [encs_inj (a := a1) (b := b1) (by simpa using h1), Opr.enc_inj h2]) (l, ⟨a, b, c⟩) h

set_option maxHeartbeats 4000000 in
theorem add_fin (l : List Opr) (a b : List UInt8) (c : Int) (hl : l.length ≤ 128) (hg : goodK l = true) (e1 : (a == [44]) = false) (hm : mayK a b (if c = 0 then 1 else c) = true) :
    evCall (envOf [goodS, mayS, alikeS]) (l.length + 20) 13 [.agg [.sl (l.map Opr.enc)], .agg [.str a, .str b, .int .i64 c]] h0 =
      some (.tuple [.agg [if (addK l ⟨a, b, c⟩).1 = 0 then .sl ((addK l ⟨a, b, c⟩).2.map Opr.enc) else .nils], .int .i64 (addK l ⟨a, b, c⟩).1], h0) := by
  have hgs := goodS_at l (by omega)
  by_cases hne : l = []
  · subst hne
    simp at hgs
    by_cases hc : c = 0
    · subst hc
      simp only [if_true] at hm
      simp [run13, c13, hgs, hg, e1, hm, addK, find1, run28, c28, c28_m0, c28_b0, loopH_succ]
    · rw [if_neg hc] at hm
      have hz : ∀ (h : Heap) (lb : Nat), h.get 5 = some (.row [.str a, .str b, .int .i64 c]) → frz h 0 6 (.vec 5 0 1 3 lb) = some (.sl [(⟨a, b, c⟩ : Opr).enc], [5]) := fun h lb hh =>
        frz_vec (d := 4) (xs := [(⟨a, b, c⟩ : Opr).enc]) (by omega) hh (by omega) (encs_elem [⟨a, b, c⟩]) rfl (by simp) rfl
      simp [run13, c13, hgs, hg, e1, hm, addK, find1, run28, c28, c28_m0, c28_b0, loopH_succ, hc, elemsA, hz]
  · have hcl := fun (os : List AObj) => clone_run [goodS, mayS, alikeS] (l.length + 18) l hne (by omega) 4 os 0 0 (by omega) (by omega)
    have hfi := fun (os : List AObj) (hos : os[2]? = some (.row [.str a, .str b, .int .i64 c])) => indexFunc_runv [goodS, mayS, alikeS] (l.length + 18) l 29 [.ptr 1 0] 4 l.length 5 (.row (flat l) :: os) 0 0 (fun x => alikeK x ⟨a, b, c⟩) (by simp [AV.refsL, AV.refs]) (by omega) (by omega) rfl (by omega)
      (fun x hx => by simp [run29, c29, hos])
    have hcs : (cloneS 27).S [AV.sl (l.map Opr.enc)] = none := cloneS_sl _ (by simpa using hne)
    have hfl := flat_length l
    by_cases hc : c = 0
    · subst hc
      simp only [if_true] at hm
      cases hf : find1 (fun x => alikeK x ⟨a, b, 0⟩) l with
      | none =>
        rw [hf] at hfi
        simp [run13, c13, hgs, hg, e1, hm, hcs, hcl, hfi, addK, hf]
      | some i =>
        rw [hf] at hfi
        have hi := find1_lt hf
        have hw : IntKind.i64.wrap ((i : Int) + 1) = (i : Int) + 1 := by rw [wrap_i64 (by omega) (by omega)]
        have hn0 : ¬ ((i : Int) < 0) := by omega
        have k0 : ¬ ((i : Int) = (i : Int) + 1) := by omega
        have k0' : ¬ (l.length = i) := by omega
        have q1 : (0 : Int) ≤ (i : Int) + 1 ∧ (i : Int) + 1 ≤ (l.length : Int) := by omega
        have q2 : i ≤ l.length := by omega
        have q3 : i + 1 ≤ l.length := by omega
        have q4 : (i : Int) + 1 ≤ (l.length : Int) := by omega
        have q5 : i + (l.length - (i + 1)) ≤ l.length := by omega
        have q6 : (i : Int) ≤ (i : Int) + 1 := by omega
        have k1 : sliceC l.length l.length (some (.int .i64 i)) (some (.int .i64 ((i : Int) + 1))) (some (.int .i64 l.length)) = some (i, i + 1, some l.length) := by
          simp [sliceC, sliceB, q1.1, q1.2, q2, q3, q6]
        have k2 : sliceC l.length l.length none (some (.int .i64 i)) none = some (0, i, none) := by
          simp [sliceC, sliceB, q2]
        have k3 : sliceC l.length l.length (some (.int .i64 ((i : Int) + 1))) none none = some (i + 1, l.length, none) := by
          simp [sliceC, sliceB, q1.1, q1.2, q3]
        have k4' : ∀ K : Nat, K ≤ l.length → sliceC K l.length (some (.int .i64 (K : Int))) (some (.int .i64 l.length)) none = some (K, l.length, none) := fun K hK => by
          simp [sliceC, sliceB, hK]
        obtain ⟨N, hN⟩ : ∃ N, l.length - (i + 1) = N := ⟨_, rfl⟩
        have hlen : l.length = i + (N + 1) := by omega
        have q5' : i + N ≤ l.length := by omega
        have k4 := k4' (i + N) q5'
        rw [Int.natCast_add] at k4
        have k5 : (i + 1) * 3 + N * 3 ≤ l.length * 3 := by omega
        have k7 : (i + N) * 3 ≤ l.length * 3 := by omega
        have k7' : i * 3 ≤ l.length * 3 := by omega
        have k8 : l.length - (i + N) = 1 := by omega
        have k11 : (i + N) * 3 + 3 ≤ l.length * 3 := by omega
        have hdel : ((flat l).drop ((i + 1) * 3)).take (N * 3) = flat (l.drop (i + 1)) := by
          unfold flat
          rw [flat_drop (i + 1) (encs_elem l) (by simp; omega), ← List.map_drop]
          exact List.take_of_length_le (by rw [flat_len (encs_elem _)]; simp; omega)
        have hdl : (flat (l.drop (i + 1))).length = N * 3 := by rw [flat_length]; simp; omega
        have hR : ((putAt (flat l) (i * 3) (flat (l.drop (i + 1)))).take ((i + N) * 3)) = flat (l.eraseIdx i) := by
          have e := putAt_takeTo (flat (l.drop (i + 1))) (cs := flat l) (k := i * 3) (by rw [hdl, hfl]; omega)
          rw [hdl, ← Nat.add_mul] at e
          rw [e, List.eraseIdx_eq_take_drop_succ, flat_append]
          congr 1
          unfold flat
          rw [flat_take i (encs_elem l) (by simp; omega), List.map_take]
        have hz : ∀ (h : Heap) (lb : Nat), h.get 4 = some (.row (putAt (putAt (flat l) (i * 3) (flat (l.drop (i + 1)))) ((i + N) * 3) [.str [], .str [], .int .i64 0])) → frz h 0 6 (.vec 4 0 (i + N) 3 lb) = some (.sl ((l.eraseIdx i).map Opr.enc), [4]) := fun h lb hh =>
            frz_vec (d := 4) (xs := (l.eraseIdx i).map Opr.enc) (by omega) hh (by omega) (encs_elem _) (by simp [List.length_eraseIdx, hi]; omega) (by rw [putAt_length, putAt_length, hfl]; omega) (by
              rw [flat_cells, putAt_take _ (by rw [putAt_length, hfl]; simp; omega)]
              exact hR)
        have hfr := flat_refs (l.drop (i + 1))
        have hcond : (if N = 0 then i else i + N) = i + N := by split <;> omega
        by_cases hN0 : N = 0
        · subst hN0
          have hd0 : flat (l.drop (i + 1)) = [] := List.length_eq_zero_iff.1 (by rw [hdl])
          rw [hd0] at hz
          simp only [putAt_nil, Nat.add_zero] at hz k8 k11
          have k4 := k4' i (by omega)
          have k5' : (i + 1) * 3 ≤ l.length * 3 := by omega
          simp [run13, c13, hgs, hg, e1, hm, hcs, hcl, hfi, addK, hf, run30, c30, hw, hn0, k0, k0', k1, k2, k3, k4, k5', k7', hfl, elemsA, hN, k8, k11, hz, putAt_length]
        · simp [run13, c13, hgs, hg, e1, hm, hcs, hcl, hfi, addK, hf, run30, c30, hw, hn0, k0, k0', k1, k2, k3, k4, k5, q5', k7, k7', k8, k11, hfl, elemsA, hdel, hN, hN0, hfr, hz, putAt_length]
    · rw [if_neg hc] at hm
      cases hf : find1 (fun x => alikeK x ⟨a, b, c⟩) l with
      | none =>
        rw [hf] at hfi
        by_cases h128 : 128 ≤ l.length
        · have h128' : (128 : Int) ≤ l.length := by omega
          simp [run13, c13, hgs, hg, e1, hm, hcs, hcl, hfi, addK, hf, hc, h128, h128']
        · have h128' : ¬ ((128 : Int) ≤ l.length) := by omega
          have h9 : (l.length + 1) * 40 ≤ 140737488355328 := by omega
          have h10 : l.length + 1 < 9223372036854775808 := by omega
          have h7 := flat_takeAll l
          have hz : ∀ (h : Heap) (lb : Nat), h.get 6 = some (.row (flat l ++ [.str a, .str b, .int .i64 c])) → frz h 0 6 (.vec 6 0 (l.length + 1) 3 lb) = some (.sl ((l ++ [(⟨a, b, c⟩ : Opr)]).map Opr.enc), [6]) := fun h lb hh =>
            frz_vec (d := 4) (xs := (l ++ [(⟨a, b, c⟩ : Opr)]).map Opr.enc) (by omega) hh (by omega) (encs_elem _) (by simp) (by simp [hfl]; omega) (by
              have := flat_takeAll (l ++ [(⟨a, b, c⟩ : Opr)])
              rw [flat_append] at this
              rw [flat_cells, flat_append]
              simpa [flat_one] using this)
          simp [run13, c13, hgs, hg, e1, hm, hcs, hcl, hfi, addK, hf, hc, h128, h128', elemsA, hfl, h9, h10, h7, hz]
      | some i =>
        rw [hf] at hfi
        have hi := find1_lt hf
        have hn0 : ¬ ((i : Int) < 0) := by omega
        have k1 : i * 3 + 3 ≤ l.length * 3 := by omega
        have hset : putAt (flat l) (i * 3) [.str a, .str b, .int .i64 c] = flat (l.set i ⟨a, b, c⟩) := by
          rw [putAt_eq _ _ _ (by simp [hfl]; omega), List.set_eq_take_append_cons_drop, if_pos hi, flat_append]
          have e1 : (flat l).take (i * 3) = flat (l.take i) := by
            unfold flat
            rw [flat_take i (encs_elem l) (by simp; omega), List.map_take]
          have e2 : (flat l).drop (i * 3 + 3) = flat (l.drop (i + 1)) := by
            unfold flat
            rw [show i * 3 + 3 = (i + 1) * 3 by omega, flat_drop (i + 1) (encs_elem l) (by simp; omega), List.map_drop]
          simp only [List.length_cons, List.length_nil]
          rw [e1, e2, List.append_assoc]
          rfl
        have hz : ∀ (h : Heap) (lb : Nat), h.get 4 = some (.row (flat (l.set i ⟨a, b, c⟩))) → frz h 0 6 (.vec 4 0 l.length 3 lb) = some (.sl ((l.set i ⟨a, b, c⟩).map Opr.enc), [4]) := fun h lb hh =>
            frz_vec (d := 4) (xs := (l.set i ⟨a, b, c⟩).map Opr.enc) (by omega) hh (by omega) (encs_elem _) (by simp) (by simp [flat_length]) (by
              have := flat_takeAll (l.set i ⟨a, b, c⟩)
              rw [flat_cells]
              rw [List.length_set] at this
              exact this)
        simp [run13, c13, hgs, hg, e1, hm, hcs, hcl, hfi, addK, hf, hc, hn0, hi, hfl, k1, hset, hz]
theorem addS_ok : SpecOK Try.prog addS := Spec.of_ok fun ⟨l, ⟨a, b, c⟩⟩ hl => by
  refine prim_of (n := l.length + 20) (h' := h0) (envOf_ok (ss := [goodS, mayS, alikeS]) (by simp [goodS_ok, mayS_ok, alikeS_ok])) ?_ (by dsimp only; split <;> rfl) (by simp [AV.refsL, AV.refs, encs_refs, Opr.enc])
  have hgs := goodS_at l hl
  cases hg : goodK l with
  | false =>
    by_cases hc : c = 0
    · subst hc; simp [run13, c13, hgs, hg, addK, Opr.enc]
    · simp [run13, c13, hgs, hg, addK, Opr.enc, hc]
  | true =>
    have h128 : l.length ≤ 128 := by
      unfold goodK at hg
      simp at hg
      exact hg.1
    cases e1 : a == [44] with
    | true =>
      by_cases hc : c = 0
      · subst hc; simp [run13, c13, hgs, hg, addK, Opr.enc, e1]
      · simp [run13, c13, hgs, hg, addK, Opr.enc, hc, e1]
    | false =>
      cases hm : mayK a b (if c = 0 then 1 else c) with
      | false =>
        by_cases hc : c = 0
        · subst hc
          simp only [if_true] at hm
          simp [run13, c13, hgs, hg, addK, Opr.enc, e1, hm]
        · rw [if_neg hc] at hm
          simp [run13, c13, hgs, hg, addK, Opr.enc, hc, e1, hm]
      | true => exact add_fin l a b c h128 hg e1 hm
end Go.Proofs.Ytlofbalilhohmaa

namespace Go.Proofs.Ytlofbalilhohmaa
open Go Sz
set_option linter.unusedSimpArgs false
attribute [local simp] evCode_skip evCode_reg evCode_dreg evCode_seq evCode_cond evCode_block evCode_exit evCode_ret evSteps_nil evSteps_op evSteps_opg evSteps_call evSteps_callg evSteps_callv evSteps_callvg evTr_nil evTr_cons evStep_op evStep_opg evStep_call evStep_callg evStep_callv evStep_callvg ldId chkTr
  evOp_mov evOp_pick evOp_box evOp_bld evOp_bsl evOp_ld evOp_st evOp_nck evOp_bin evOp_beq evOp_ceq evOp_peq evOp_not evOp_neg evOp_xor evOp_cvi evOp_cvss evOp_cvis evOp_cvsb evOp_mki evOp_mkf evOp_mkm evOp_mks evOp_sls evOp_slv evOp_fad evOp_fld1 evOp_fldn evOp_iad evOp_ixs evOp_ext evOp_lens evOp_lenv evOp_mx evOp_mn evOp_app evOp_bs0 evOp_snil evOp_clr
  unwanted Opd.ev putA cells_agg cells_bool cells_int cells_str cells_nilp cells_ptr cells_ip cells_nils cells_sl cells_vec cells_nilm cells_map cells_nilfn cells_fn cells_nili cells_iface ldA row_mk get_mk set_mk mark_mk alloc_mk' trunc_mk binA resAll_nil resAll_cons resA oneOf finish_mk frz_undef frz_bool frz_int frz_str frz_nilp frz_ptr frz_ip frz_nils frz_sl frz_nilm frz_map frz_nilfn frz_fn frz_nili frz_iface frz_old frz_agg frz_tuple frzL_nil frzL_cons kill AV.refs AV.refsL clear evCall_spec lookS evB clones cloneS_f cloneS_nils cloneS_sl0 fillA putAt_nil putAt_cons evCode_loop gc_mk bgn_mk aft_mk keeps objsAt ren renId AV.top lowObj h0 succ_le_f elemsA_nils elemsA_vec elemsA_str


def raddK (l : List Opr) (o : Opr) : Int × List Opr :=
  if !rgoodsK l then (1, []) else if o.n == [44] then (8, []) else if !rgoodK o.n o.k (if o.l = 0 then 1 else o.l) then (1, []) else
  match find1 (fun x => x.n == o.n && betweenK x.k == betweenK o.k) l with
  | none => if o.l = 0 then (13, []) else if 128 ≤ l.length then (14, []) else (0, l ++ [o])
  | some i => if o.l = 0 then (0, l.eraseIdx i) else (0, l.set i o)

theorem slN_inj {a b : List Opr} (h : slN a = slN b) : a = b := isSl_inj (slN_is a) (h ▸ slN_is b)
theorem slN_refs (l : List Opr) : (slN l).refs = 0 := isSl_refs (slN_is l)
noncomputable def raddS : Spec := .of 17 (fun p : List Opr × Opr => [slN p.1, p.2.enc]) (fun p => p.1.length < 1099511627776)
  fun p => .tuple [slN (raddK p.1 p.2).2, .int .i64 (raddK p.1 p.2).1]
@[simp] theorem raddS_f : raddS.f = 17 := rfl
theorem raddS_at (l : List Opr) (a b c) (h : l.length < 1099511627776) : raddS.S [slN l, .agg [.str a, .str b, .int .i64 c]] = some (.tuple [slN (raddK l ⟨a, b, c⟩).2, .int .i64 (raddK l ⟨a, b, c⟩).1]) :=
  Spec.of_at (f := 17) (enc := fun p : List Opr × Opr => [slN p.1, p.2.enc]) (pre := fun p => p.1.length < 1099511627776)
    (val := fun p => .tuple [slN (raddK p.1 p.2).2, .int .i64 (raddK p.1 p.2).1]) (fun ⟨a1, a2⟩ ⟨b1, b2⟩ _ _ h => by
      have h1 := (List.cons.inj h).1
      have h2 := (List.cons.inj (List.cons.inj h).2).1
      rw [slN_inj h1, Opr.enc_inj h2]) (l, ⟨a, b, c⟩) h

theorem frz_flat {h : Heap} {n0 d id lb len : Nat} (l : List Opr) (hid : n0 ≤ id) (hl : l.length = len) (hh : h.get id = some (.row (flat l))) : frz h n0 (d + 2) (.vec id 0 len 3 lb) = some (.sl (l.map Opr.enc), [id]) := by
  subst hl
  exact frz_vec hid hh (by omega) (encs_elem l) (by simp) (by rw [flat_length]; omega) (flat_takeAll l)

set_option maxHeartbeats 4000000 in
theorem radd_fin (l : List Opr) (a b : List UInt8) (c : Int) (hl : l.length ≤ 128) (hg : rgoodsK l = true) (e1 : (a == [44]) = false) (hm : rgoodK a b (if c = 0 then 1 else c) = true) :
    evCall (envOf [rgoodsS, rgoodS, rbetweenS, rfindS]) 20 17 [slN l, .agg [.str a, .str b, .int .i64 c]] h0 =
      some (.tuple [slN (raddK l ⟨a, b, c⟩).2, .int .i64 (raddK l ⟨a, b, c⟩).1], h0) := by
  have hgs := rgoodsS_at (slN_is l) (by omega)
  have hfi := rfindS_at a (betweenK b) (slN_is l) (by omega)
  unfold rfindI at hfi
  by_cases hne : l = []
  · subst hne
    simp [find1, slN_nil] at hfi hgs
    by_cases hc : c = 0
    · subst hc
      simp only [if_true] at hm
      simp [run17, c17, hgs, hg, e1, hm, raddK, find1, hfi, slN_nil]
    · rw [if_neg hc] at hm
      have hz : ∀ (h : Heap) (lb : Nat), h.get 3 = some (.row [.str a, .str b, .int .i64 c]) → frz h 0 7 (.vec 3 0 1 3 lb) = some (.sl [(⟨a, b, c⟩ : Opr).enc], [3]) := fun h lb hh =>
        frz_flat (d := 5) [⟨a, b, c⟩] (by omega) rfl hh
      simp [run17, c17, hgs, hg, e1, hm, raddK, find1, hfi, slN_nil, hc, hz, slN_cons]
  · have hsl : slN l = .sl (l.map Opr.enc) := by simp [slN, hne]
    rw [hsl] at hgs hfi
    rw [hsl]
    have hfl := flat_length l
    have hall := encs_all l
    have hne' : ¬ (l.length = 0) := by simpa using hne
    have b1 : l.length * 40 ≤ 140737488355328 := by omega
    have b2 : l.length < 9223372036854775808 := by omega
    by_cases hc : c = 0
    · subst hc
      simp only [if_true] at hm
      cases hf : find1 (fun x => x.n == a && betweenK x.k == betweenK b) l with
      | none =>
        rw [hf] at hfi
        simp [run17, c17, hgs, hg, e1, hm, hfi, raddK, hf, slN_nil]
      | some i =>
        rw [hf] at hfi
        have hi := find1_lt hf
        have hw : IntKind.i64.wrap ((i : Int) + 1) = (i : Int) + 1 := by rw [wrap_i64 (by omega) (by omega)]
        have hn0 : ¬ ((i : Int) < 0) := by omega
        obtain ⟨N, hN⟩ : ∃ N, l.length - (i + 1) = N := ⟨_, rfl⟩
        have hNl : (l.drop (i + 1)).length = N := by simp; omega
        have hil : (l.take i).length = i := by simp; omega
        have k2 : sliceC l.length l.length none (some (.int .i64 i)) none = some (0, i, none) := by
          simp [sliceC, sliceB, show i ≤ l.length by omega]
        have k3 : sliceC l.length l.length (some (.int .i64 ((i : Int) + 1))) none none = some (i + 1, l.length, none) := by
          have q1 : (0 : Int) ≤ (i : Int) + 1 ∧ (i : Int) + 1 ≤ (l.length : Int) := by omega
          simp [sliceC, sliceB, q1.1, q1.2]
        have a1 : ((l.take i).map Opr.enc).all (fun x => (x.cells?.map List.length) == some 3) = true := encs_all _
        have a2 : ((l.drop (i + 1)).map Opr.enc).all (fun x => (x.cells?.map List.length) == some 3) = true := encs_all _
        have t3 : (l.map Opr.enc).take l.length = l.map Opr.enc := List.take_of_length_le (by simp)
        have E1 : ∀ h : Heap, elemsA h 3 (.sl ((l.map Opr.enc).take i)) = some (i, flat (l.take i)) := fun h => by
          rw [← List.map_take]
          simp only [elemsA, a1, if_true, List.length_map, hil]; rfl
        have E2 : ∀ h : Heap, elemsA h 3 (.sl ((l.map Opr.enc).drop (i + 1))) = some (N, flat (l.drop (i + 1))) := fun h => by
          rw [← List.map_drop]
          simp only [elemsA, a2, if_true, List.length_map, hNl]; rfl
        have her : l.eraseIdx i = l.take i ++ l.drop (i + 1) := List.eraseIdx_eq_take_drop_succ ..
        have f1 : (flat (l.take i)).length = i * 3 := by rw [flat_length, hil]
        have f2 : (flat (l.take i)).take (i * 3) = flat (l.take i) := List.take_of_length_le (by omega)
        have c1 : i * 40 ≤ 140737488355328 := by omega
        have c2 : i < 9223372036854775808 := by omega
        have c3 : N * 40 ≤ 140737488355328 := by omega
        have c4 : N < 9223372036854775808 := by omega
        have c5 : (i + N) * 40 ≤ 140737488355328 := by omega
        have c6 : i + N < 9223372036854775808 := by omega
        have lel : (l.eraseIdx i).length = i + N := by rw [her, List.length_append, hil, hNl]
        have her' : slN (l.eraseIdx i) = if l.eraseIdx i = [] then .nils else .sl ((l.eraseIdx i).map Opr.enc) := rfl
        have hT : flat (l.take i) ++ flat (l.drop (i + 1)) = flat (l.eraseIdx i) := by rw [her, flat_append]
        have hem : (l.eraseIdx i = []) = (i + N = 0) := by rw [← List.length_eq_zero_iff, lel]
        have k3' := k3
        by_cases hi0 : i = 0
        · have hi1 : (i = 0) = True := eq_true hi0
          by_cases hN0 : N = 0
          · have hN1 : (N = 0) = True := eq_true hN0
            have hs0 : slN (l.eraseIdx i) = .nils := by rw [her', if_pos (by rw [hem]; omega)]
            simp [run17, c17, hgs, hg, e1, hm, hfi, raddK, hf, hs0, hall, k2, k3, t3, E1, E2, hw, hn0, hi1, hN1]
          · have hN1 : (N = 0) = False := eq_false hN0
            have hs0 : slN (l.eraseIdx i) = .sl ((l.eraseIdx i).map Opr.enc) := by rw [her', if_neg (by rw [hem]; omega)]
            have hz : ∀ (h : Heap) (lb : Nat), h.get 2 = some (.row (flat (l.drop (i + 1)))) → frz h 0 7 (.vec 2 0 N 3 lb) = some (.sl ((l.eraseIdx i).map Opr.enc), [2]) := fun h lb hh => by
              have e : l.eraseIdx i = l.drop (i + 1) := by rw [her, hi0]; rfl
              rw [e]
              exact frz_flat (d := 5) (l.drop (i + 1)) (by omega) hNl hh
            simp [run17, c17, hgs, hg, e1, hm, hfi, raddK, hf, hs0, hall, k2, k3, t3, E1, E2, hw, hn0, hi1, hN1, c3, c4, hz]
        · have hi1 : (i = 0) = False := eq_false hi0
          have hs0 : slN (l.eraseIdx i) = .sl ((l.eraseIdx i).map Opr.enc) := by rw [her', if_neg (by rw [hem]; omega)]
          by_cases hN0 : N = 0
          · have hN1 : (N = 0) = True := eq_true hN0
            have hz : ∀ (h : Heap) (lb : Nat), h.get 2 = some (.row (flat (l.take i))) → frz h 0 7 (.vec 2 0 i 3 lb) = some (.sl ((l.eraseIdx i).map Opr.enc), [2]) := fun h lb hh => by
              have e : l.eraseIdx i = l.take i := by rw [her, List.length_eq_zero_iff.1 (hNl.trans hN0)]; simp
              rw [e]
              exact frz_flat (d := 5) (l.take i) (by omega) hil hh
            simp [run17, c17, hgs, hg, e1, hm, hfi, raddK, hf, hs0, hall, k2, k3, t3, E1, E2, hw, hn0, hi1, hN1, c1, c2, hz, f1]
          · have hN1 : (N = 0) = False := eq_false hN0
            have hnl : ¬ (i + N ≤ i) := by omega
            have hz : ∀ (h : Heap) (lb : Nat), h.get 3 = some (.row (flat (l.eraseIdx i))) → frz h 0 7 (.vec 3 0 (i + N) 3 lb) = some (.sl ((l.eraseIdx i).map Opr.enc), [3]) := fun h lb hh =>
              frz_flat (d := 5) (l.eraseIdx i) (by omega) lel hh
            simp [run17, c17, hgs, hg, e1, hm, hfi, raddK, hf, hs0, hall, k2, k3, t3, E1, E2, hw, hn0, hi1, hN1, c1, c2, c5, c6, hz, f1, f2, hnl, hT]
    · rw [if_neg hc] at hm
      have E0 : ∀ h : Heap, elemsA h 3 (.sl (l.map Opr.enc)) = some (l.length, flat l) := fun h => by
        simp only [elemsA, hall, if_true, List.length_map]; rfl
      cases hf : find1 (fun x => x.n == a && betweenK x.k == betweenK b) l with
      | none =>
        rw [hf] at hfi
        by_cases h128 : 128 ≤ l.length
        · have h128' : (128 : Int) ≤ l.length := by omega
          simp [run17, c17, hgs, hg, e1, hm, hfi, raddK, hf, hc, h128, h128', slN_nil]
        · have h128' : ¬ ((128 : Int) ≤ l.length) := by omega
          have h9 : (l.length + 1) * 40 ≤ 140737488355328 := by omega
          have h10 : l.length + 1 < 9223372036854775808 := by omega
          have h7 := flat_takeAll l
          have hz : ∀ (h : Heap) (lb : Nat), h.get 4 = some (.row (flat l ++ [.str a, .str b, .int .i64 c])) → frz h 0 7 (.vec 4 0 (l.length + 1) 3 lb) = some (.sl ((l ++ [(⟨a, b, c⟩ : Opr)]).map Opr.enc), [4]) := fun h lb hh =>
            frz_flat (d := 5) (l ++ [⟨a, b, c⟩]) (by omega) (by simp) (by rw [flat_append]; exact hh)
          have hsn : slN (l ++ [(⟨a, b, c⟩ : Opr)]) = .sl ((l ++ [(⟨a, b, c⟩ : Opr)]).map Opr.enc) := by simp [slN]
          simp [run17, c17, hgs, hg, e1, hm, hfi, raddK, hf, hc, h128, h128', E0, hfl, h9, h10, h7, hz, b1, b2, hne', hsn]
      | some i =>
        rw [hf] at hfi
        have hi := find1_lt hf
        have hn0 : ¬ ((i : Int) < 0) := by omega
        have k1 : i * 3 + 3 ≤ l.length * 3 := by omega
        have hset : putAt (flat l) (i * 3) [.str a, .str b, .int .i64 c] = flat (l.set i ⟨a, b, c⟩) := by
          rw [putAt_eq _ _ _ (by simp [hfl]; omega), List.set_eq_take_append_cons_drop, if_pos hi, flat_append]
          have e1 : (flat l).take (i * 3) = flat (l.take i) := by
            unfold flat
            rw [flat_take i (encs_elem l) (by simp; omega), List.map_take]
          have e2 : (flat l).drop (i * 3 + 3) = flat (l.drop (i + 1)) := by
            unfold flat
            rw [show i * 3 + 3 = (i + 1) * 3 by omega, flat_drop (i + 1) (encs_elem l) (by simp; omega), List.map_drop]
          simp only [List.length_cons, List.length_nil]
          rw [e1, e2, List.append_assoc]
          rfl
        have hz : ∀ (h : Heap) (lb : Nat), h.get 2 = some (.row (flat (l.set i ⟨a, b, c⟩))) → frz h 0 7 (.vec 2 0 l.length 3 lb) = some (.sl ((l.set i ⟨a, b, c⟩).map Opr.enc), [2]) := fun h lb hh =>
          frz_flat (d := 5) (l.set i ⟨a, b, c⟩) (by omega) (by simp) hh
        have hsn : slN (l.set i ⟨a, b, c⟩) = .sl ((l.set i ⟨a, b, c⟩).map Opr.enc) := by simp [slN, hne]
        simp [run17, c17, hgs, hg, e1, hm, hfi, raddK, hf, hc, hn0, hi, hfl, k1, hset, hz, E0, b1, b2, hne', hsn]
theorem raddS_ok : SpecOK Try.prog raddS := Spec.of_ok fun ⟨l, ⟨a, b, c⟩⟩ hl => by
  refine prim_of (n := 20) (h' := h0) (envOf_ok (ss := [rgoodsS, rgoodS, rbetweenS, rfindS]) (by simp [rgoodsS_ok, rgoodS_ok, rbetweenS_ok, rfindS_ok])) ?_ (by simp [AV.refs, AV.refsL, slN_refs]) (by simp [AV.refsL, AV.refs, slN_refs, Opr.enc])
  have hgs := rgoodsS_at (slN_is l) (Nat.lt_trans hl (by omega))
  cases hg : rgoodsK l with
  | false => simp [run17, c17, hgs, hg, raddK, Opr.enc, slN_nil]
  | true =>
    have h128 : l.length ≤ 128 := by
      unfold rgoodsK at hg
      simp at hg
      exact hg.2
    cases e1 : a == [44] with
    | true => simp [run17, c17, hgs, hg, raddK, Opr.enc, e1, slN_nil]
    | false =>
      cases hm : rgoodK a b (if c = 0 then 1 else c) with
      | false =>
        by_cases hc : c = 0
        · subst hc
          simp only [if_true] at hm
          simp [run17, c17, hgs, hg, raddK, Opr.enc, e1, hm, slN_nil]
        · rw [if_neg hc] at hm
          simp [run17, c17, hgs, hg, raddK, Opr.enc, hc, e1, hm, slN_nil]
      | true => exact radd_fin l a b c h128 hg e1 hm
end Go.Proofs.Ytlofbalilhohmaa

namespace Go.Proofs.Ytlofbalilhohmaa
open Go Sz

theorem may_eq (a b : List UInt8) (c : Int) : mayK a b c = rgoodK a b c := by
  unfold mayK rgoodK
  cases e1 : a == [44] with
  | true =>
    have : a = [44] := by simpa using e1
    subst this
    cases e2 : b == [120, 102, 121] with
    | false => simp [e2]
    | true =>
      by_cases h : c = 1000
      · subst h; simp [e2]
      · simp [h]
  | false =>
    cases e2 : a == [] <;> cases e3 : decide (64 < a.length) <;> cases e4 : a == [124] <;> cases e5 : a == [91, 93] <;> cases e6 : a == [123, 125] <;> simp_all
    by_cases h1 : c < 1
    · have : ¬ (1 ≤ c) := by omega
      simp [h1, this]
    · by_cases h2 : 1200 < c
      · have : ¬ (c ≤ 1200) := by omega
        simp [h2, this]
      · have h3 : 1 ≤ c := by omega
        have h4 : c ≤ 1200 := by omega
        simp [h1, h2, h3, h4]

/-- What may be is ahead or between, of a level. -/
theorem may_kind {a b : List UInt8} {c : Int} (h : mayK a b c = true) : betweenK b = !aheadK b ∧ 1 ≤ c ∧ c ≤ 1200 := by
  have key : (betweenK b || aheadK b) = true → betweenK b = !aheadK b := fun hk => by
    unfold betweenK aheadK at hk ⊢
    simp only [Bool.or_eq_true, beq_iff_eq] at hk
    rcases hk with ((rfl | rfl) | rfl) | rfl | rfl <;> rfl
  unfold mayK at h
  split at h
  · simp only [Bool.and_eq_true, beq_iff_eq, decide_eq_true_eq] at h
    obtain ⟨rfl, rfl⟩ := h
    exact ⟨rfl, by omega, by omega⟩
  · split at h
    · cases h
    · simp only [Bool.and_eq_true, decide_eq_true_eq] at h
      exact ⟨key h.1.1, h.1.2, h.2⟩

theorem find1_congr {α : Type} {p q : α → Bool} : ∀ {l : List α}, (∀ x ∈ l, p x = q x) → find1 p l = find1 q l
  | [], _ => rfl
  | x :: r, h => by
    simp only [find1]
    rw [h x (by simp), find1_congr fun y hy => h y (by simp [hy])]
theorem find1_none {α : Type} {p : α → Bool} : ∀ {l : List α}, find1 p l = none ↔ ∀ x ∈ l, p x = false
  | [] => by simp [find1]
  | x :: r => by
    simp only [find1]
    cases hx : p x with
    | true => simp [hx]
    | false => simp [hx, find1_none (l := r)]
theorem find1_append {α : Type} {p : α → Bool} : ∀ {a b : List α}, find1 p a = none → find1 p (a ++ b) = (find1 p b).map (a.length + ·)
  | [], b, _ => by simp
  | x :: a, b, h => by
    simp only [find1] at h
    split at h
    · cases h
    · rename_i hx
      have h' : find1 p a = none := by simpa using h
      simp only [List.cons_append, find1, hx, if_false, Bool.false_eq_true, find1_append h']
      cases find1 p b with
      | none => rfl
      | some k => simp; omega
theorem find1_some {α : Type} {p : α → Bool} : ∀ {l : List α} {i : Nat}, find1 p l = some i → ∃ x, l[i]? = some x ∧ p x = true ∧ ∀ y ∈ l.take i, p y = false
  | [], i, h => by cases h
  | x :: r, i, h => by
    simp only [find1] at h
    split at h
    · rename_i hx
      cases h
      exact ⟨x, rfl, hx, fun y hy => by cases hy⟩
    · rename_i hx
      obtain ⟨j, hj, rfl⟩ := Option.map_eq_some_iff.1 h
      obtain ⟨y, h1, h2, h3⟩ := find1_some hj
      refine ⟨y, h1, h2, fun z hz => ?_⟩
      rw [List.take_succ_cons] at hz
      cases hz with
      | head => simpa using hx
      | tail _ hz => exact h3 z hz
theorem find1_at {α : Type} {p : α → Bool} {l : List α} {i : Nat} {x : α} (h1 : l[i]? = some x) (h2 : p x = true) (h3 : ∀ y ∈ l.take i, p y = false) : find1 p l = some i := by
  obtain ⟨hi, rfl⟩ := List.getElem?_eq_some_iff.1 h1
  have e : l = l.take i ++ l[i] :: l.drop (i + 1) := by simp
  conv => lhs; rw [e]
  rw [find1_append (find1_none.2 h3)]
  simp [find1, h2]
  omega

/-- What a good table is: each may be, none is alike another. -/
def Good (l : List Opr) : Prop := (∀ o ∈ l, mayK o.n o.k o.l = true) ∧ l.Pairwise fun a b => alikeK a b = false

theorem goodA_iff : ∀ {post pre : List Opr}, goodA pre post = true ↔ (∀ o ∈ post, mayK o.n o.k o.l = true) ∧ (post.Pairwise fun a b => alikeK a b = false) ∧ ∀ a ∈ pre, ∀ b ∈ post, alikeK a b = false
  | [], pre => by simp [goodA]
  | o :: post, pre => by
    simp only [goodA]
    cases hm : mayK o.n o.k o.l with
    | false => simp [hm]
    | true =>
      cases hf : find1 (fun x => alikeK x o) pre with
      | some i =>
        obtain ⟨x, h1, h2, _⟩ := find1_some hf
        simp only [Bool.not_true, Bool.false_eq_true, if_false, Option.isSome_some, if_true, false_iff, not_and]
        intro _ _ h
        have := h x (List.mem_of_getElem? h1) o (by simp)
        rw [this] at h2
        cases h2
      | none =>
        have hn := find1_none.1 hf
        simp only [Bool.not_true, Bool.false_eq_true, if_false, Option.isSome_none, goodA_iff (post := post), List.mem_cons, List.pairwise_cons, List.mem_append, List.not_mem_nil, or_false, forall_eq_or_imp, hm, true_and]
        constructor
        · rintro ⟨h1, h2, h3⟩
          exact ⟨h1, ⟨fun b hb => h3 o (.inr rfl) b hb, h2⟩, fun a ha => ⟨hn a ha, fun b hb => h3 a (.inl ha) b hb⟩⟩
        · rintro ⟨h1, ⟨h2, h2'⟩, h3⟩
          refine ⟨h1, h2', fun a ha b hb => ?_⟩
          rcases ha with ha | rfl
          · exact (h3 a ha).2 b hb
          · exact h2 b hb
theorem goodK_iff {l : List Opr} : goodK l = true ↔ l.length ≤ 128 ∧ Good l := by
  unfold goodK Good
  rw [Bool.and_eq_true, goodA_iff]
  simp

theorem alike_symm (a b : Opr) : alikeK a b = alikeK b a := by
  unfold alikeK
  have h1 : (a.n == b.n) = (b.n == a.n) := by
    rw [Bool.eq_iff_iff]; simp only [beq_iff_eq]; exact eq_comm
  rw [h1]
  cases aheadK a.k <;> cases aheadK b.k <;> rfl

/-- In a good table each stands where it is found. -/
theorem good_at {l : List Opr} (hg : Good l) {i : Nat} {o : Opr} (h : l[i]? = some o) : find1 (fun x => x.n == o.n && aheadK x.k == aheadK o.k) l = some i := by
  refine find1_at h (by simp) fun y hy => ?_
  obtain ⟨hi, rfl⟩ := List.getElem?_eq_some_iff.1 h
  have e : l = l.take i ++ l[i] :: l.drop (i + 1) := by simp
  have hp := hg.2
  rw [e, List.pairwise_append] at hp
  exact hp.2.2 y hy l[i] List.mem_cons_self

theorem sides_of {o : Opr} (h : mayK o.n o.k o.l = true) : ¬ o.l < (sidesK o.k o.l).1 ∧ ¬ o.l < (sidesK o.k o.l).2 ∧ ¬ ((sidesK o.k o.l).1 = o.l ∧ (sidesK o.k o.l).2 = o.l) ∧ ¬ (sidesK o.k o.l).1 < 0 ∧ ¬ (sidesK o.k o.l).2 < 0 := by
  obtain ⟨h1, h2, h3⟩ := may_kind h
  have hd : dec1 o.l = o.l - 1 := wrap_i64 (by omega) (by omega)
  unfold sidesK
  rw [hd]
  repeat' split
  all_goals (simp only; omega)

/-! ### The tables of both sides -/
theorem may_alike {x o : Opr} (hx : mayK x.n x.k x.l = true) {c : Int} (ho : mayK o.n o.k c = true) : alikeK x o = (x.n == o.n && betweenK x.k == betweenK o.k) := by
  unfold alikeK
  rw [(may_kind hx).1, (may_kind ho).1]
  cases aheadK x.k <;> cases aheadK o.k <;> rfl
theorem rgoodA_eq : ∀ (post pre : List Opr), (∀ o ∈ pre, mayK o.n o.k o.l = true) → rgoodA pre post = goodA pre post
  | [], _, _ => rfl
  | o :: post, pre, hp => by
    simp only [rgoodA, goodA, ← may_eq]
    cases hm : mayK o.n o.k o.l with
    | false => rfl
    | true =>
      have e : find1 (fun x => x.n == o.n && betweenK x.k == betweenK o.k) pre = find1 (fun x => alikeK x o) pre := find1_congr fun x hx => (may_alike (hp x hx) hm).symm
      rw [e, rgoodA_eq post (pre ++ [o]) (fun x hx => by
        rcases List.mem_append.1 hx with h | h
        · exact hp x h
        · rw [List.mem_singleton] at h; rw [h]; exact hm)]
theorem rgoods_eq (l : List Opr) : rgoodsK l = goodK l := by
  unfold rgoodsK goodK
  rw [rgoodA_eq l [] (fun _ h => by cases h), Bool.and_comm]
theorem radd_eq (l : List Opr) (o : Opr) : raddK l o = addK l o := by
  unfold raddK addK
  rw [rgoods_eq, ← may_eq]
  cases hg : goodK l with
  | false => rfl
  | true =>
    cases hm : mayK o.n o.k (if o.l = 0 then 1 else o.l) with
    | false => rfl
    | true =>
      have hG := (goodK_iff.1 hg).2
      have e : find1 (fun x => x.n == o.n && betweenK x.k == betweenK o.k) l = find1 (fun x => alikeK x o) l := find1_congr fun x hx => (may_alike (hG.1 x hx) hm).symm
      first
        | (rw [e]; done)
        | (rw [e]; cases find1 (fun x => alikeK x o) l <;> rfl)
theorem findI_eq {l : List Opr} (hg : Good l) (name : List UInt8) (ahead : Bool) : find1 (fun o => o.n == name && betweenK o.k == !ahead) l = find1 (fun o => o.n == name && aheadK o.k == ahead) l :=
  find1_congr fun x hx => by
    rw [(may_kind (hg.1 x hx)).1]
    cases aheadK x.k <;> cases ahead <;> rfl
theorem sameA_refl : ∀ l : List Opr, sameA l l = true
  | [] => rfl
  | o :: r => by simp [sameA, sameA_refl r]
theorem sameK_refl (l : List Opr) : sameK l l = true := by simp [sameK, sameA_refl]

/-! ### What is added -/
theorem mem_set_or {l : List Opr} {i : Nat} {o x : Opr} (h : x ∈ l.set i o) : x = o ∨ ∃ j, j ≠ i ∧ l[j]? = some x := by
  obtain ⟨j, hj, rfl⟩ := List.getElem_of_mem h
  rw [List.length_set] at hj
  rw [List.getElem_set]
  split
  · exact .inl rfl
  · rename_i hne
    exact .inr ⟨j, fun e => hne e.symm, List.getElem?_eq_getElem hj⟩

/-- The table behind an addition. -/
theorem add_spec {l : List Opr} {o : Opr} {L : List Opr} (h : addK l o = (0, L)) : goodK l = true ∧ mayK o.n o.k (if o.l = 0 then 1 else o.l) = true ∧ goodK L = true ∧
    (∀ x, x ∈ L ↔ (o.l ≠ 0 ∧ x = o) ∨ (x ∈ l ∧ alikeK x o = false)) := by
  unfold addK at h
  cases hg : goodK l with
  | false => simp [hg] at h
  | true =>
    cases e1 : o.n == [44] with
    | true => simp [hg, e1] at h
    | false =>
    cases hm : mayK o.n o.k (if o.l = 0 then 1 else o.l) with
    | false => simp [hg, e1, hm] at h
    | true =>
        simp only [hg, e1, hm, Bool.not_true, Bool.false_eq_true, if_false] at h
        obtain ⟨hlen, hG⟩ := goodK_iff.1 hg
        have hmo : o.l ≠ 0 → mayK o.n o.k o.l = true := fun hne => by rw [if_neg hne] at hm; exact hm
        refine ⟨rfl, rfl, ?_⟩
        cases hf : find1 (fun x => alikeK x o) l with
        | none =>
          have hn := find1_none.1 hf
          simp only [hf] at h
          split at h
          · simp at h
          · rename_i hne
            split at h
            · simp at h
            · rename_i h128
              simp only [Prod.mk.injEq, true_and] at h
              subst h
              refine ⟨goodK_iff.2 ⟨by simp; omega, ?_, ?_⟩, fun x => ?_⟩
              · intro x hx
                rcases List.mem_append.1 hx with h | h
                · exact hG.1 x h
                · rw [List.mem_singleton] at h; rw [h]; exact hmo hne
              · rw [List.pairwise_append]
                exact ⟨hG.2, by simp, fun a ha b hb => by rw [List.mem_singleton] at hb; rw [hb]; exact hn a ha⟩
              · simp only [List.mem_append, List.mem_singleton]
                constructor
                · rintro (hx | rfl)
                  · exact .inr ⟨hx, hn x hx⟩
                  · exact .inl ⟨hne, rfl⟩
                · rintro (⟨_, rfl⟩ | ⟨hx, _⟩)
                  · exact .inr rfl
                  · exact .inl hx
        | some i =>
          obtain ⟨y, hy, hya, hyb⟩ := find1_some hf
          obtain ⟨hi, hyi⟩ := List.getElem?_eq_some_iff.1 hy
          have hsplit : l = l.take i ++ y :: l.drop (i + 1) := by rw [← hyi]; simp
          have hp := hG.2
          rw [hsplit, List.pairwise_append, List.pairwise_cons] at hp
          obtain ⟨p1, ⟨p2, p3⟩, p4⟩ := hp
          -- those alike are one
          have hya' : y.n = o.n ∧ aheadK y.k = aheadK o.k := by
            unfold alikeK at hya
            simpa using hya
          have tr : ∀ x, alikeK x y = alikeK x o := fun x => by unfold alikeK; rw [hya'.1, hya'.2]
          have b1 : ∀ x ∈ l.take i, alikeK x o = false := hyb
          have b2 : ∀ x ∈ l.drop (i + 1), alikeK x o = false := fun x hx => by rw [← tr, alike_symm]; exact p2 x hx
          simp only [hf] at h
          split at h
          · rename_i h0
            simp only [Prod.mk.injEq, true_and] at h
            subst h
            rw [List.eraseIdx_eq_take_drop_succ]
            refine ⟨goodK_iff.2 ⟨by simp; omega, ?_, ?_⟩, fun x => ?_⟩
            · intro x hx
              rcases List.mem_append.1 hx with h | h
              · exact hG.1 x (List.mem_of_mem_take h)
              · exact hG.1 x (List.mem_of_mem_drop h)
            · rw [List.pairwise_append]
              exact ⟨p1, p3, fun a ha b hb => p4 a ha b (List.mem_cons_of_mem _ hb)⟩
            · rw [List.mem_append]
              constructor
              · rintro (hx | hx)
                · exact .inr ⟨List.mem_of_mem_take hx, b1 x hx⟩
                · exact .inr ⟨List.mem_of_mem_drop hx, b2 x hx⟩
              · rintro (⟨hne, _⟩ | ⟨hx, hxa⟩)
                · exact absurd h0 hne
                · rw [hsplit] at hx
                  simp only [List.mem_append, List.mem_cons] at hx
                  rcases hx with hx | rfl | hx
                  · exact .inl hx
                  · rw [hya] at hxa; cases hxa
                  · exact .inr hx
          · rename_i hne
            simp only [Prod.mk.injEq, true_and] at h
            subst h
            rw [List.set_eq_take_append_cons_drop, if_pos hi]
            refine ⟨goodK_iff.2 ⟨by simp; omega, ?_, ?_⟩, fun x => ?_⟩
            · intro x hx
              simp only [List.mem_append, List.mem_cons] at hx
              rcases hx with h | rfl | h
              · exact hG.1 x (List.mem_of_mem_take h)
              · exact hmo hne
              · exact hG.1 x (List.mem_of_mem_drop h)
            · rw [List.pairwise_append, List.pairwise_cons]
              refine ⟨p1, ⟨fun b hb => by rw [alike_symm]; exact b2 b hb, p3⟩, fun a ha b hb => ?_⟩
              cases hb with
              | head => exact b1 a ha
              | tail _ hb => exact p4 a ha b (List.mem_cons_of_mem _ hb)
            · simp only [List.mem_append, List.mem_cons]
              constructor
              · rintro (hx | rfl | hx)
                · exact .inr ⟨List.mem_of_mem_take hx, b1 x hx⟩
                · exact .inl ⟨hne, rfl⟩
                · exact .inr ⟨List.mem_of_mem_drop hx, b2 x hx⟩
              · rintro (⟨_, rfl⟩ | ⟨hx, hxa⟩)
                · exact .inr (.inl rfl)
                · rw [hsplit] at hx
                  simp only [List.mem_append, List.mem_cons] at hx
                  rcases hx with hx | rfl | hx
                  · exact .inl hx
                  · rw [hya] at hxa; cases hxa
                  · exact .inr (.inr hx)

/-- What is found in a good table: that one of the name, on the side. -/
theorem findK_mem {l : List Opr} (hg : goodK l = true) {x : Opr} (hx : x ∈ l) : findK l x.n (aheadK x.k) = (x, true) := by
  obtain ⟨i, hi, rfl⟩ := List.getElem_of_mem hx
  have h1 : l[i]? = some l[i] := List.getElem?_eq_getElem hi
  have h2 := good_at (goodK_iff.1 hg).2 h1
  unfold findK
  rw [h2]
  simp [hg, List.getD_eq_getElem?_getD, h1]
theorem findK_none {l : List Opr} {name : List UInt8} {a : Bool} (h : ∀ x ∈ l, (x.n == name && aheadK x.k == a) = false) : findK l name a = (zeroO, false) := by
  unfold findK
  rw [find1_none.2 h]
theorem findK_cases {l : List Opr} (hg : goodK l = true) (name : List UInt8) (a : Bool) : (∃ x ∈ l, x.n = name ∧ aheadK x.k = a ∧ findK l name a = (x, true)) ∨ ((∀ x ∈ l, (x.n == name && aheadK x.k == a) = false) ∧ findK l name a = (zeroO, false)) := by
  cases hf : find1 (fun o => o.n == name && aheadK o.k == a) l with
  | none => exact .inr ⟨find1_none.1 hf, findK_none (find1_none.1 hf)⟩
  | some i =>
    obtain ⟨x, h1, h2, _⟩ := find1_some hf
    simp only [Bool.and_eq_true, beq_iff_eq] at h2
    have hx := List.mem_of_getElem? h1
    have := findK_mem hg hx
    rw [h2.1, h2.2] at this
    exact .inl ⟨x, hx, h2.1, h2.2, this⟩
end Go.Proofs.Ytlofbalilhohmaa
