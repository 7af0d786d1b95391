import Derived.Test.YtlakiipofcibhaaGreatDoorSz3
set_option linter.unusedVariables false
set_option linter.unusedSimpArgs false
set_option linter.unusedSectionVars false

/- A machine in small steps: a closed run may be cut anywhere. No program is named here. -/
namespace Sz
open Go

/-- What waits for a code's end. -/
inductive MK where
  | seq (n : Nat) (b : ACode)
  | block (id : Nat)
  | loop (n : Nat) (live : List Bool) (a : ACode) (n0 m wl : Nat)
  | call (n : Nat) (F : AFun) (h0 : Heap) (dst : Option Nat) (rest : List AStep) (fr : List AV)
  | dcall (n : Nat) (F : AFun) (h0 hb : Heap) (s : AStep) (acc : List (Nat × Heap × Heap)) (rest : List AStep) (chk : List (Nat × Nat)) (fr : List AV)
/-- A code, or a drawn row under way. -/
inductive MC where
  | code (c : ACode)
  | tr (acc : List (Nat × Heap × Heap)) (rest : List AStep) (chk : List (Nat × Nat))
inductive MS where
  | run (n : Nat) (c : MC) (fr : List AV) (h : Heap) (ks : List MK)
  | res (ex : Ex) (fr : List AV) (h : Heap) (ks : List MK)

def primE (E : Env) (f : Nat) (args : List AV) (h : Heap) : Option (AV × Heap) :=
  (frzL (frz h 0 8) args).bind fun p => (E.prim f p.1).map fun v => (v, if scal v then h else kill h p.2)
def callEnd (F : AFun) (h0 : Heap) : Option (Ex × List AV × Heap) → Option (AV × Heap)
  | some (.exit _, _, _) => none
  | some (_, fr, h') => (resAll fr h' F.results).map fun vs => finish F.keep h0 (oneOf vs) h'
  | none => none
theorem evCall_eq (E : Env) (n f : Nat) (args : List AV) (h : Heap) : evCall E (n + 1) f args h = (match primE E f args h with
    | some r => some r
    | none => match E.fn f with
      | none => none
      | some F => callEnd F h (evCode (evCall E n) n F.code (args ++ List.replicate (F.ntmps - args.length) .undef) { h with wl := h.next, md := h.next })) := by
  rw [evCall]
  rfl

def loopEnd (n0 wl : Nat) (r : Ex × List AV × Heap) : Ex × List AV × Heap := (r.1, (gc n0 r.2.1 r.2.2).1, { (gc n0 r.2.1 r.2.2).2 with wl := min wl (gc n0 r.2.1 r.2.2).2.wl })

section
variable (E : Env)
def trDen (n : Nat) (acc : List (Nat × Heap × Heap)) (rest : List AStep) (chk : List (Nat × Nat)) (fr : List AV) (h : Heap) : Option (Ex × List AV × Heap) :=
  match evTr (evCall E n) rest fr h with
  | some (fr', h', tr) => if chkTr (acc ++ tr) chk then some (.normal, fr', h') else none
  | none => none
def MK.den : MK → Option (Ex × List AV × Heap) → Option (Ex × List AV × Heap)
  | .seq n b, r => (match r with
    | some (.normal, fr', h') => evCode (evCall E n) n b fr' h'
    | r => r)
  | .block id, r => (match r with
    | some (.exit i, fr', h') => some (if i = id then .normal else .exit i, fr', h')
    | r => r)
  | .loop n live a n0 m wl, r => (match r with
    | some (.normal, fr', h') => loopN (evCode (evCall E n) n a) live n0 m fr' h'
    | r => r).map (loopEnd n0 wl)
  | .call n F h0 dst rest fr, r => (match callEnd F h0 r with
    | some q => (evSteps (evCall E n) rest (putA fr dst q.1) q.2).map fun p => (.normal, p.1, p.2)
    | none => none)
  | .dcall n F h0 hb s acc rest chk fr, r => (match callEnd F h0 r with
    | some q => trDen E n (acc ++ [(ldId s fr, hb, q.2)]) rest chk (putA fr s.dst q.1) { q.2 with md := min hb.md q.2.md }
    | none => none)
def denK : List MK → Option (Ex × List AV × Heap) → Option (Ex × List AV × Heap)
  | [], r => r
  | k :: ks, r => denK ks (k.den E r)
def MS.den : MS → Option (Ex × List AV × Heap)
  | .run n (.code c) fr h ks => denK E ks (evCode (evCall E n) n c fr h)
  | .run n (.tr acc rest chk) fr h ks => denK E ks (trDen E n acc rest chk fr h)
  | .res ex fr h ks => denK E ks (some (ex, fr, h))

def enterM (n : Nat) (f : Nat) (args : List AV) (h : Heap) (known : AV × Heap → MS) (k : AFun → MK) (ks : List MK) : Option MS :=
  match n with
  | 0 => none
  | n + 1 => match primE E f args h with
    | some r => some (known r)
    | none => match E.fn f with
      | none => none
      | some F => some (.run n (.code F.code) (args ++ List.replicate (F.ntmps - args.length) .undef) { h with wl := h.next, md := h.next } (k F :: ks))
def stepR (n : Nat) (s : AStep) (rest : List AStep) (fr : List AV) (h : Heap) (ks : List MK) : Option MS :=
  match unwanted fr s.guard with
  | none => none
  | some true => some (.run n (.code (.reg rest)) (putA fr s.dst (.tuple [])) h ks)
  | some false =>
    match s.op with
    | .op o => (match evOp fr h o with
      | some p => some (.run n (.code (.reg rest)) (putA fr s.dst p.1) p.2 ks)
      | none => none)
    | .call f args => enterM E n f (args.map (·.ev fr)) h (fun r => .run n (.code (.reg rest)) (putA fr s.dst r.1) r.2 ks) (fun F => .call n F h s.dst rest fr) ks
    | .callv x args => (match x.ev fr with
      | .fn f caps => enterM E n f (args.map (·.ev fr) ++ caps) h (fun r => .run n (.code (.reg rest)) (putA fr s.dst r.1) r.2 ks) (fun F => .call n F h s.dst rest fr) ks
      | _ => none)
def stepT (n : Nat) (acc : List (Nat × Heap × Heap)) (s : AStep) (rest : List AStep) (chk : List (Nat × Nat)) (fr : List AV) (h : Heap) (ks : List MK) : Option MS :=
  match unwanted fr s.guard with
  | none => none
  | some true => some (.run n (.tr (acc ++ [(ldId s fr, h, { h with md := h.next })]) rest chk) (putA fr s.dst (.tuple [])) { h with md := min h.md h.next } ks)
  | some false =>
    match s.op with
    | .op o => (match evOp fr { h with md := h.next } o with
      | some p => some (.run n (.tr (acc ++ [(ldId s fr, h, p.2)]) rest chk) (putA fr s.dst p.1) { p.2 with md := min h.md p.2.md } ks)
      | none => none)
    | .call f args => enterM E n f (args.map (·.ev fr)) { h with md := h.next } (fun r => .run n (.tr (acc ++ [(ldId s fr, h, r.2)]) rest chk) (putA fr s.dst r.1) { r.2 with md := min h.md r.2.md } ks) (fun F => .dcall n F { h with md := h.next } h s acc rest chk fr) ks
    | .callv x args => (match x.ev fr with
      | .fn f caps => enterM E n f (args.map (·.ev fr) ++ caps) { h with md := h.next } (fun r => .run n (.tr (acc ++ [(ldId s fr, h, r.2)]) rest chk) (putA fr s.dst r.1) { r.2 with md := min h.md r.2.md } ks) (fun F => .dcall n F { h with md := h.next } h s acc rest chk fr) ks
      | _ => none)
def stepK (ex : Ex) (fr : List AV) (h : Heap) (ks : List MK) : MK → Option MS
  | .seq n b => (match ex with
    | .normal => some (.run n (.code b) fr h ks)
    | ex => some (.res ex fr h ks))
  | .block id => (match ex with
    | .exit i => some (.res (if i = id then .normal else .exit i) fr h ks)
    | ex => some (.res ex fr h ks))
  | .loop n live a n0 m wl => (match ex with
    | .normal => (match m with
      | 0 => none
      | m + 1 => some (.run n (.code a) (gc n0 (clear live fr) h).1 (gc n0 (clear live fr) h).2 (.loop n live a n0 m wl :: ks)))
    | ex => some (.res ex (gc n0 fr h).1 { (gc n0 fr h).2 with wl := min wl (gc n0 fr h).2.wl } ks))
  | .call n F h0 dst rest fr0 => (match callEnd F h0 (some (ex, fr, h)) with
    | some q => some (.run n (.code (.reg rest)) (putA fr0 dst q.1) q.2 ks)
    | none => none)
  | .dcall n F h0 hb s acc rest chk fr0 => (match callEnd F h0 (some (ex, fr, h)) with
    | some q => some (.run n (.tr (acc ++ [(ldId s fr0, hb, q.2)]) rest chk) (putA fr0 s.dst q.1) { q.2 with md := min hb.md q.2.md } ks)
    | none => none)
def stepC (n : Nat) (fr : List AV) (h : Heap) (ks : List MK) : ACode → Option MS
  | .skip => some (.res .normal fr h ks)
  | .reg [] => some (.res .normal fr h ks)
  | .reg (s :: rest) => stepR E n s rest fr h ks
  | .dreg ops chk => some (.run n (.tr [] ops chk) fr h ks)
  | .seq a b => some (.run n (.code a) fr h (.seq n b :: ks))
  | .cond c a b => (match c.ev fr with
    | .bool t => some (.run n (.code (if t then a else b)) fr h ks)
    | _ => none)
  | .block id a => some (.run n (.code a) fr h (.block id :: ks))
  | .loop live a => (match n with
    | 0 => none
    | m + 1 => some (.run (m + 1) (.code a) (gc h.next (clear live fr) { h with wl := h.next }).1 (gc h.next (clear live fr) { h with wl := h.next }).2 (.loop (m + 1) live a h.next m h.wl :: ks)))
  | .exit id live => some (.res (.exit id) (clear live fr) h ks)
  | .ret live => some (.res .ret (clear live fr) h ks)
def stepM : MS → Option MS
  | .run n (.code c) fr h ks => stepC E n fr h ks c
  | .run n (.tr acc (s :: rest) chk) fr h ks => stepT E n acc s rest chk fr h ks
  | .run _ (.tr acc [] chk) fr h ks => if chkTr acc chk then some (.res .normal fr h ks) else none
  | .res ex fr h (k :: ks) => stepK ex fr h ks k
  | .res _ _ _ [] => none
/-- So many steps. -/
def runM : Nat → MS → Option MS
  | 0, s => some s
  | k + 1, s => match stepM E s with
    | some s' => runM k s'
    | none => none
end

section
variable {E : Env}
theorem enterM_ok {n f : Nat} {args : List AV} {h : Heap} {known : AV × Heap → MS} {k : AFun → MK} {ks : List MK} {s' : MS} (e : enterM E n f args h known k ks = some s') {D : Option (AV × Heap) → Option (Ex × List AV × Heap)}
    (h1 : ∀ r, (known r).den E = D (some r)) (h2 : ∀ F r, denK E (k F :: ks) r = D (callEnd F h r)) : D (evCall E n f args h) = s'.den E := by
  cases n with
  | zero => simp [enterM] at e
  | succ n =>
    simp only [enterM] at e
    rw [evCall_eq]
    cases hp : primE E f args h with
    | some r =>
      rw [hp] at e
      cases e
      exact (h1 r).symm
    | none =>
      rw [hp] at e
      dsimp only at e ⊢
      cases hF : E.fn f with
      | none => rw [hF] at e; cases e
      | some F =>
        rw [hF] at e
        cases e
        exact (h2 F _).symm
theorem stepR_ok {n : Nat} {s : AStep} {rest : List AStep} {fr : List AV} {h : Heap} {ks : List MK} {s' : MS} (e : stepR E n s rest fr h ks = some s') : denK E ks (evCode (evCall E n) n (.reg (s :: rest)) fr h) = s'.den E := by
  have hd : evCode (evCall E n) n (.reg (s :: rest)) fr h = (match evStep (evCall E n) s fr h with | some q => evCode (evCall E n) n (.reg rest) q.1 q.2 | none => none) := by
    simp only [evCode, evSteps]
    cases evStep (evCall E n) s fr h with
    | none => rfl
    | some q => rfl
  rw [hd]
  unfold stepR at e
  unfold evStep
  split at e
  · cases e
  · rename_i hu
    cases e
    rw [hu]
    rfl
  · rename_i hu
    rw [hu]
    dsimp only
    split at e
    · rename_i o ho
      rw [ho]
      dsimp only
      split at e
      · rename_i p hp
        cases e
        rw [hp]
        rfl
      · cases e
    · rename_i f args ho
      rw [ho]
      dsimp only
      refine Eq.trans ?_ (enterM_ok (D := fun r => denK E ks (match (r.map fun p => (putA fr s.dst p.1, p.2)) with | some q => evCode (evCall E n) n (.reg rest) q.1 q.2 | none => none)) e (fun r => rfl) fun F r => ?_)
      · rfl
      · show denK E ks (MK.den E _ r) = _
        simp only [MK.den]
        cases callEnd F h r with
        | none => rfl
        | some q => rfl
    · rename_i x args ho
      rw [ho]
      dsimp only
      split at e
      · rename_i f caps hx
        rw [hx]
        dsimp only
        refine Eq.trans ?_ (enterM_ok (D := fun r => denK E ks (match (r.map fun p => (putA fr s.dst p.1, p.2)) with | some q => evCode (evCall E n) n (.reg rest) q.1 q.2 | none => none)) e (fun r => rfl) fun F r => ?_)
        · rfl
        · show denK E ks (MK.den E _ r) = _
          simp only [MK.den]
          cases callEnd F h r with
          | none => rfl
          | some q => rfl
      · cases e
theorem stepT_ok {n : Nat} {acc : List (Nat × Heap × Heap)} {s : AStep} {rest : List AStep} {chk : List (Nat × Nat)} {fr : List AV} {h : Heap} {ks : List MK} {s' : MS} (e : stepT E n acc s rest chk fr h ks = some s') : denK E ks (trDen E n acc (s :: rest) chk fr h) = s'.den E := by
  have hd : trDen E n acc (s :: rest) chk fr h = (match evStep (evCall E n) s fr { h with md := h.next } with | some q => trDen E n (acc ++ [(ldId s fr, h, q.2)]) rest chk q.1 { q.2 with md := min h.md q.2.md } | none => none) := by
    simp only [trDen, evTr]
    cases evStep (evCall E n) s fr { h with md := h.next } with
    | none => rfl
    | some q =>
      obtain ⟨fr', h'⟩ := q
      dsimp only
      cases evTr (evCall E n) rest fr' { h' with md := min h.md h'.md } with
      | none => rfl
      | some p => simp only [Option.map_some, List.append_assoc, List.singleton_append]
  rw [hd]
  unfold stepT at e
  unfold evStep
  split at e
  · cases e
  · rename_i hu
    cases e
    rw [hu]
    rfl
  · rename_i hu
    rw [hu]
    dsimp only
    split at e
    · rename_i o ho
      rw [ho]
      dsimp only
      split at e
      · rename_i p hp
        cases e
        rw [hp]
        rfl
      · cases e
    · rename_i f args ho
      rw [ho]
      dsimp only
      refine Eq.trans ?_ (enterM_ok (D := fun r => denK E ks (match (r.map fun p => (putA fr s.dst p.1, p.2)) with | some q => trDen E n (acc ++ [(ldId s fr, h, q.2)]) rest chk q.1 { q.2 with md := min h.md q.2.md } | none => none)) e (fun r => rfl) fun F r => ?_)
      · rfl
      · show denK E ks (MK.den E _ r) = _
        simp only [MK.den]
        cases callEnd F { h with md := h.next } r with
        | none => rfl
        | some q => rfl
    · rename_i x args ho
      rw [ho]
      dsimp only
      split at e
      · rename_i f caps hx
        rw [hx]
        dsimp only
        refine Eq.trans ?_ (enterM_ok (D := fun r => denK E ks (match (r.map fun p => (putA fr s.dst p.1, p.2)) with | some q => trDen E n (acc ++ [(ldId s fr, h, q.2)]) rest chk q.1 { q.2 with md := min h.md q.2.md } | none => none)) e (fun r => rfl) fun F r => ?_)
        · rfl
        · show denK E ks (MK.den E _ r) = _
          simp only [MK.den]
          cases callEnd F { h with md := h.next } r with
          | none => rfl
          | some q => rfl
      · cases e
theorem stepK_ok {ex : Ex} {fr : List AV} {h : Heap} {ks : List MK} {k : MK} {s' : MS} (e : stepK ex fr h ks k = some s') : denK E (k :: ks) (some (ex, fr, h)) = s'.den E := by
  show denK E ks (k.den E (some (ex, fr, h))) = _
  cases k with
  | seq n b => cases ex <;> (simp only [stepK, Option.some.injEq] at e; subst e; rfl)
  | block id => cases ex <;> (simp only [stepK, Option.some.injEq] at e; subst e; rfl)
  | loop n live a n0 m wl =>
    cases ex with
    | normal =>
      simp only [stepK] at e
      cases m with
      | zero => simp at e
      | succ m =>
        simp only [Option.some.injEq] at e
        subst e
        simp only [MK.den, MS.den, denK]
        conv => lhs; rw [loopN]
        rfl
    | exit i => simp only [stepK, Option.some.injEq] at e; subst e; rfl
    | ret => simp only [stepK, Option.some.injEq] at e; subst e; rfl
  | call n F h0 dst rest fr0 =>
    simp only [stepK] at e
    split at e
    · rename_i q hq
      cases e
      simp only [MK.den, hq]
      rfl
    · cases e
  | dcall n F h0 hb s acc rest chk fr0 =>
    simp only [stepK] at e
    split at e
    · rename_i q hq
      cases e
      simp only [MK.den, hq]
      rfl
    · cases e
theorem stepC_ok {n : Nat} {fr : List AV} {h : Heap} {ks : List MK} {c : ACode} {s' : MS} (e : stepC E n fr h ks c = some s') : denK E ks (evCode (evCall E n) n c fr h) = s'.den E := by
  cases c with
  | skip => simp only [stepC, Option.some.injEq] at e; subst e; rfl
  | reg ops =>
    cases ops with
    | nil => simp only [stepC, Option.some.injEq] at e; subst e; rfl
    | cons s rest => exact stepR_ok e
  | dreg ops chk =>
    simp only [stepC, Option.some.injEq] at e
    subst e
    rfl
  | seq a b => simp only [stepC, Option.some.injEq] at e; subst e; rfl
  | cond c a b =>
    simp only [stepC] at e
    split at e
    · rename_i t ht
      cases e
      simp only [evCode, ht]
      cases t <;> rfl
    · cases e
  | block id a => simp only [stepC, Option.some.injEq] at e; subst e; rfl
  | loop live a =>
    cases n with
    | zero => simp [stepC] at e
    | succ m =>
      simp only [stepC, Option.some.injEq] at e
      subst e
      simp only [MK.den, MS.den, denK, evCode]
      conv => lhs; rw [loopN]
      rfl
  | exit id live => simp only [stepC, Option.some.injEq] at e; subst e; rfl
  | ret live => simp only [stepC, Option.some.injEq] at e; subst e; rfl
theorem stepM_ok {s s' : MS} (e : stepM E s = some s') : s.den E = s'.den E := by
  cases s with
  | run n c fr h ks =>
    cases c with
    | code c => exact stepC_ok e
    | tr acc rest chk =>
      cases rest with
      | nil =>
        simp only [stepM] at e
        split at e
        · rename_i hc
          cases e
          simp only [MS.den, trDen, evTr, List.append_nil, hc, if_true]
        · cases e
      | cons s rest => exact stepT_ok e
  | res ex fr h ks =>
    cases ks with
    | nil => simp [stepM] at e
    | cons k ks => exact stepK_ok e
theorem runM_ok : ∀ {k : Nat} {s s' : MS}, runM E k s = some s' → s.den E = s'.den E
  | 0, s, s', e => by
    simp only [runM, Option.some.injEq] at e
    rw [e]
  | k + 1, s, s', e => by
    simp only [runM] at e
    split at e
    · rename_i s1 h1
      rw [stepM_ok h1]
      exact runM_ok e
    · cases e
/-- A call, by the machine. -/
theorem mach_call {n f : Nat} {args : List AV} {h : Heap} {F : AFun} {s : MS} {ex : Ex} {fr : List AV} {h' : Heap} {r : AV × Heap} (hp : primE E f args h = none) (hF : E.fn f = some F)
    (hs : (MS.run n (.code F.code) (args ++ List.replicate (F.ntmps - args.length) .undef) { h with wl := h.next, md := h.next } []).den E = s.den E) (hr : s = .res ex fr h' []) (he : callEnd F h (some (ex, fr, h')) = some r) : evCall E (n + 1) f args h = some r := by
  rw [evCall_eq, hp, hF]
  dsimp only
  rw [← he]
  subst hr
  exact congrArg _ hs
theorem mach_run {n f : Nat} {args : List AV} {h : Heap} {F : AFun} {s0 s : MS} {ex : Ex} {fr : List AV} {h' : Heap} {r : AV × Heap} (hp : primE E f args h = none) (hF : E.fn f = some F)
    (h0 : MS.run n (.code F.code) (args ++ List.replicate (F.ntmps - args.length) .undef) { h with wl := h.next, md := h.next } [] = s0)
    (hs : s0.den E = s.den E) (hr : s = .res ex fr h' []) (he : callEnd F h (some (ex, fr, h')) = some r) : evCall E (n + 1) f args h = some r :=
  mach_call hp hF (by rw [h0]; exact hs) hr he
end

/-! Where a code stands in a function. -/
def ACode.at : ACode → List Nat → ACode
  | c, [] => c
  | .seq a _, 0 :: r => a.at r
  | .seq _ b, 1 :: r => b.at r
  | .cond _ a _, 0 :: r => a.at r
  | .cond _ _ b, 1 :: r => b.at r
  | .block _ a, 0 :: r => a.at r
  | .loop _ a, 0 :: r => a.at r
  | .reg ops, k :: _ => .reg (ops.drop k)
  | .dreg ops chk, k :: _ => .dreg (ops.drop k) chk
  | _, _ => .skip
def ACode.ops : ACode → List AStep
  | .reg o => o
  | .dreg o _ => o
  | _ => []
def ACode.chk : ACode → List (Nat × Nat)
  | .dreg _ c => c
  | _ => []
def ACode.lv : ACode → List Bool
  | .loop l _ => l
  | _ => []
def ACode.s0 (c : ACode) : AStep := c.ops.headD ⟨none, .op .die, none⟩
end Sz
