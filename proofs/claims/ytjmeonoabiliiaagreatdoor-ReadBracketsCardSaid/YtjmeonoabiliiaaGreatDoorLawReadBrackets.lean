/- Proved: sizarlaw8.ReadBrackets answers true for every input and leaves its arguments as they were. Conditions: none beyond the row. -/
import Derived.Test.YtjmeonoabiliiaaGreatDoorBd4
import Derived.Test.YtjmeonoabiliiaaGreatDoorCards
import Derived.Test.YtjmeonoabiliiaaGreatDoorTie
import Derived.Deep.DeepHandedRow
import Derived.Lay
import Derived.OpenShut
set_option linter.unusedVariables false
set_option linter.unusedSimpArgs false
set_option linter.unusedSectionVars false
set_option maxHeartbeats 16000000
set_option maxRecDepth 100000

namespace Go.Proofs.YtjmeonoabiliiaaGreatDoor
open Go Sz Go.ChangeShapes Go.WideShapes Go.ChangeAt Go.RowKit
noncomputable def iX (os:Os):World:=World.laidAll Tryz.prog os Rows.readBracketsRow.laid
theorem s0 (os:Os):laidMetH Tryz.prog Rows.readBracketsRow.laid ((iX os).forCall (fun _ _=>0) ⟨#[],#[.string ⟨#[]⟩],[]⟩).memory:=by
 rw[MakeChecks.laidMetH_plain _ _ _ (by kernel_rfl)];exact laidMet_laidAll _ (by kernel_rfl) (by kernel_rfl)
theorem qN (os:Os) {H:Type} (enc:TypeId×Value→H):∃places,DataW.whole enc Tryz.prog ((iX os).forCall (fun _ _=>0) ⟨#[],#[.string ⟨#[]⟩],[]⟩).memory Tryz.f4.params.toList Rows.readBracketsSpec.vars false (#[.string ⟨#[]⟩]:Array Value).toList 8=some ([.lit (.string [])],[],places):=
 ⟨[],by kernel_rfl⟩
theorem w5 {W:World} (hL:laidMetH Tryz.prog Rows.readBracketsRow.laid W):cm W:=LC hL ⟨by kernel_rfl,by kernel_rfl⟩
theorem pE (os:Os) (started:os.Started) (H:Type) (enc:TypeId×Value→H) (F:Stop.Interp):
 ReturnsInHanded {} Tryz.checked os 4 .any ((OpenSpec.ofChange Rows.readBracketsSpec).preRow enc Tryz.prog Tryz.f4 Rows.readBracketsRow.domain false Rows.readBracketsRow.laid) (((OpenSpec.ofChange Rows.readBracketsSpec).at F).post enc Tryz.prog Tryz.f4 false true false false):=by
 obtain⟨places,hx⟩:=qN os enc
 refine returnsInHanded_of_row (C:=Tryz.checked) (s:=(OpenSpec.ofChange Rows.readBracketsSpec)) Tryz.own started (by kernel_rfl) Tryz.func4
  (witness_row_at (enc:=enc) (C:=Tryz.checked) false (iX os) #[.string ⟨#[]⟩] (World.laidAll_os _ _ _) (by kernel_rfl) (by kernel_rfl) (by kernel_rfl)
   (OpenSpec.preRow_of_cond 8 hx (by kernel_rfl) (fun k hk=>by cases hk) (by kernel_rfl) (s0 os))) ?_
 intro W base args ds gs before hval hW _ hcond hw hL hsh _;have hgs:gs=[]:=JG rfl hW;have hvt:(OpenSpec.ofChange Rows.readBracketsSpec).bare.plain.varTypes Tryz.checked.prog=[]:=by kernel_rfl
 rw[hvt,List.append_nil,hgs,List.append_nil] at hw;have hk:True:=trivial;skip;have hw2:(DataW.weightsEach Tryz.prog Tryz.f4.params.toList ds).all (·≤reachBytes)=true:=hw
 exact C9 (P:=Tryz.prog) (X:=cm) (S:=[9]) Tryz.func4 rfl rfl (by kernel_rfl) (by kernel_rfl) Tryz.underlying4 rfl Tryz.laidOut rfl (fun ds hd=>by
  match ds,hd with
  | [d0],_=>rfl) (fun h=>qY ds h hw2) hval hW hsh (w5 hL)
theorem sQ:Rows.ReadBracketsSaid:=
 OpenClaim.holds_of_cond 4 Tryz.f4 rfl rfl rfl rfl rfl rfl rfl ⟨rfl,rfl,rfl,rfl,rfl⟩ rfl rfl rfl rfl rfl (by kernel_rfl) Tryz.func4 (by kernel_rfl)
  (of_decide_eq_true (by kernel_rfl)) (by unfold Func.isWrapper;first | (rw[if_pos (by decide+kernel)];kernel_rfl) | (rw[if_neg (by decide+kernel)];exact⟨rfl,rfl⟩))
  (fun os started H enc _ F=>by rw[OpenClaim.pre_eq_preRow];exact pE os started H enc F)
theorem qq (f:FuncId) (fn:Func) (hf:Tryz.pinned.checked.prog.funcNamed "sizar/sizarlaw8.ReadBrackets" =some f) (hfn:Tryz.pinned.checked.prog.funcs[f]? =some fn):
 true=Tryz.pinned.checked.prog.looks []∧∀(j:Nat) t,fn.params[j]? =some t→Tryz.pinned.checked.prog.wantsStandIn t=false:=by
 obtain rfl:f=4:=Option.some.inj ((show Tryz.prog.funcNamed "sizar/sizarlaw8.ReadBrackets" =some 4 by kernel_rfl).symm.trans hf) |>.symm;obtain rfl:fn=Tryz.f4:=(Option.some.inj (Tryz.func4.symm.trans hfn)).symm
 exact⟨by kernel_rfl,fun j t ht=>by
  rw[Tryz.params4] at ht;have hm:t ∈ ([9]:List TypeId):=by simpa using Array.mem_of_getElem? ht
  have hall:(([9]:List TypeId).all fun u=>!Tryz.prog.wantsStandIn u)=true:=by kernel_rfl
  exact (show Tryz.prog.wantsStandIn t=false by simpa using List.all_eq_true.1 hall t hm)⟩
theorem readBrackets_card:Rows.ReadBracketsCardSaid:=
 Claim7.holds_tied_plain_at .later [] _ _ _ _ sQ (fun _ h=>by cases h) (by kernel_rfl) (fun _ h=>by cases h) readBrackets_row_tie rfl ⟨rfl,rfl⟩ (by kernel_rfl) rfl qq (by kernel_rfl)
end Go.Proofs.YtjmeonoabiliiaaGreatDoor
