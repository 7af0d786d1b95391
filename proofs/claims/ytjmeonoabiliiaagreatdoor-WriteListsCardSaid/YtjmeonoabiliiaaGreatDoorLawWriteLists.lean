/- Proved: sizarlaw9.WriteLists answers true for every input and leaves its arguments as they were. Conditions: none beyond the row. -/
import Derived.Test.YtjmeonoabiliiaaGreatDoorBd5
import Derived.Test.YtjmeonoabiliiaaGreatDoorCards
import Derived.Test.YtjmeonoabiliiaaGreatDoorTie
import Derived.Deep.DeepHandedRow
import Derived.Lay
import Derived.OpenShut
set_option linter.all false
set_option maxHeartbeats 16000000
set_option maxRecDepth 100000
namespace Go.Proofs.YtjmeonoabiliiaaGreatDoor
open Go Sz Go.ChangeShapes Go.WideShapes Go.ChangeAt Go.RowKit
noncomputable def od(os:Os):World:=World.laidAll Tryz.prog os Rows.writeListsRow.laid
theorem Dk(os:Os):laidMetH Tryz.prog Rows.writeListsRow.laid ((od os).forCall (λ_ _=>0) ⟨#[],#[.slice none 0 0,.bool false],[]⟩).memory:=by rw[MakeChecks.laidMetH_plain _ _ _ (by kernel_rfl)];exact laidMet_laidAll _ (by kernel_rfl) (by kernel_rfl)
theorem Ba(os:Os){H:Type}(enc:TypeId×Value->H):∃places,DataW.whole enc Tryz.prog ((od os).forCall (λ_ _=>0) ⟨#[],#[.slice none 0 0,.bool false],[]⟩).memory Tryz.f9.params.toList Rows.writeListsSpec.vars false (#[.slice none 0 0,.bool false]:Array Value).toList 8=some ([.nil,.lit (.bool false)],[],places):=⟨[],by kernel_rfl⟩
theorem Jc{W:World}(hL:laidMetH Tryz.prog Rows.writeListsRow.laid W):bV W:=Qi hL ⟨by kernel_rfl,by kernel_rfl⟩
theorem y9(os:Os)(started:os.Started)(H:Type)(enc:TypeId×Value->H)(F:Stop.Interp):
 ReturnsInHanded {} Tryz.checked os 9 .any ((OpenSpec.ofChange Rows.writeListsSpec).preRow enc Tryz.prog Tryz.f9 Rows.writeListsRow.domain false Rows.writeListsRow.laid) (((OpenSpec.ofChange Rows.writeListsSpec).at F).post enc Tryz.prog Tryz.f9 false true false false):=by
 obtain⟨places,hx⟩:=Ba os enc
 refine returnsInHanded_of_row (C:=Tryz.checked) (s:=(OpenSpec.ofChange Rows.writeListsSpec)) Tryz.own started (by kernel_rfl) Tryz.func9
  (witness_row_at (enc:=enc) (C:=Tryz.checked) false (od os) #[.slice none 0 0,.bool false] (World.laidAll_os _ _ _) (by kernel_rfl) (by kernel_rfl) (by kernel_rfl)
   (OpenSpec.preRow_of_cond 8 hx (by kernel_rfl) (λk hk=>by cases hk) (by kernel_rfl) (Dk os))) ?_
 intro W base args ds gs before Jl hW _ ah6 hw hL hsh _;have hgs:gs=[]:=JH rfl hW;have hvt:(OpenSpec.ofChange Rows.writeListsSpec).bare.plain.varTypes Tryz.checked.prog=[]:=by kernel_rfl
 rw[hvt,List.append_nil,hgs,List.append_nil] at hw;have hk:True:=trivial;skip;have hw2:(DataW.weightsEach Tryz.prog Tryz.f9.params.toList ds).all (·<=reachBytes)=true:=hw
 exact EX (P:=Tryz.prog) (X:=bV) (S:=[62,4,9]) Tryz.func9 rfl rfl (by kernel_rfl) (by kernel_rfl) Tryz.underlying4 rfl Tryz.laidOut rfl (λds hd=>by
  match ds,hd with
  |[d0,d1],_=>rfl) (λh=>B5 ds h hw2) Jl hW hsh (Jc hL)
theorem Ca:Rows.WriteListsSaid:=
 OpenClaim.holds_of_cond 9 Tryz.f9 rfl rfl rfl rfl rfl rfl rfl ⟨rfl,rfl,rfl,rfl,rfl⟩ rfl rfl rfl rfl rfl (by kernel_rfl) Tryz.func9 (by kernel_rfl)
  (of_decide_eq_true (by kernel_rfl)) (by unfold Func.isWrapper;first|(rw[if_pos (by decide+kernel)];kernel_rfl)|(rw[if_neg (by decide+kernel)];exact⟨rfl,rfl⟩))
  (λos started H enc _ F=>by rw[OpenClaim.pre_eq_preRow];exact y9 os started H enc F)
theorem Bc(f:FuncId)(fn:Func)(hf:Tryz.pinned.checked.prog.funcNamed "sizar/sizarlaw9.WriteLists" =some f)(C4:Tryz.pinned.checked.prog.funcs[f]? =some fn):
 true=Tryz.pinned.checked.prog.looks []/\∀(j:Nat) t,fn.params[j]? =some t->Tryz.pinned.checked.prog.wantsStandIn t=false:=by
 obtain rfl:f=9:=Option.some.inj ((show Tryz.prog.funcNamed "sizar/sizarlaw9.WriteLists" =some 9 by kernel_rfl).symm.trans hf) |>.symm;obtain rfl:fn=Tryz.f9:=(Option.some.inj (Tryz.func9.symm.trans C4)).symm
 exact⟨by kernel_rfl,λj t ht=>by
  rw[Tryz.params9] at ht;have hm:t∈([62,4]:List TypeId):=by simpa using Array.mem_of_getElem? ht
  have im:(([62,4]:List TypeId).all λu=>!Tryz.prog.wantsStandIn u)=true:=by kernel_rfl
  exact (show Tryz.prog.wantsStandIn t=false by simpa using List.all_eq_true.1 im t hm)⟩
theorem writeLists_card:Rows.WriteListsCardSaid:=Claim7.holds_tied_plain_at .later [] _ _ _ _ Ca (λ_ h=>by cases h) (by kernel_rfl) (λ_ h=>by cases h) writeLists_row_tie rfl ⟨rfl,rfl⟩ (by kernel_rfl) rfl Bc (by kernel_rfl)
end Go.Proofs.YtjmeonoabiliiaaGreatDoor
