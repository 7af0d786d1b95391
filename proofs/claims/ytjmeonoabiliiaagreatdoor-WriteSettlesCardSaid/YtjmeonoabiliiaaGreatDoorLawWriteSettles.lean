/- Proved: sizarlaw9.WriteSettles answers true for every input and leaves its arguments as they were. Conditions: none beyond the row. -/
import Derived.Test.YtjmeonoabiliiaaGreatDoorBd6
import Derived.Test.YtjmeonoabiliiaaGreatDoorCards
import Derived.Test.YtjmeonoabiliiaaGreatDoorTie
import Derived.Deep.DeepHandedRow
import Derived.Lay
import Derived.OpenShut
set_option linter.all false
set_option maxHeartbeats 16000000
set_option maxRecDepth 100000
namespace Go.Proofs.YtjmeonoabiliiaaGreatDoor
open Go Sz Go.ChangeShapes Go.WideShapes Go.ChangeAt Go.RowKit
noncomputable def mq(os:Os):World:=World.laidAll Tryz.prog os Rows.writeSettlesRow.laid
theorem AB(os:Os):laidMetH Tryz.prog Rows.writeSettlesRow.laid ((mq os).forCall (λ_ _=>0) ⟨#[],#[.string ⟨#[]⟩,.string ⟨#[]⟩],[]⟩).memory:=by rw[MakeChecks.laidMetH_plain _ _ _ (by kernel_rfl)];exact laidMet_laidAll _ (by kernel_rfl) (by kernel_rfl)
theorem xq(os:Os){H:Type}(enc:TypeId×Value->H):∃places,DataW.whole enc Tryz.prog ((mq os).forCall (λ_ _=>0) ⟨#[],#[.string ⟨#[]⟩,.string ⟨#[]⟩],[]⟩).memory Tryz.f10.params.toList Rows.writeSettlesSpec.vars false (#[.string ⟨#[]⟩,.string ⟨#[]⟩]:Array Value).toList 8=some ([.lit (.string []),.lit (.string [])],[],places):=⟨[],by kernel_rfl⟩
theorem Fc{W:World}(hL:laidMetH Tryz.prog Rows.writeSettlesRow.laid W):bV W:=Qi hL ⟨by kernel_rfl,by kernel_rfl⟩
theorem wB(os:Os)(started:os.Started)(H:Type)(enc:TypeId×Value->H)(F:Stop.Interp):
 ReturnsInHanded {} Tryz.checked os 10 .any ((OpenSpec.ofChange Rows.writeSettlesSpec).preRow enc Tryz.prog Tryz.f10 Rows.writeSettlesRow.domain false Rows.writeSettlesRow.laid) (((OpenSpec.ofChange Rows.writeSettlesSpec).at F).post enc Tryz.prog Tryz.f10 false true false false):=by
 obtain⟨places,hx⟩:=xq os enc
 refine returnsInHanded_of_row (C:=Tryz.checked) (s:=(OpenSpec.ofChange Rows.writeSettlesSpec)) Tryz.own started (by kernel_rfl) Tryz.func10
  (witness_row_at (enc:=enc) (C:=Tryz.checked) false (mq os) #[.string ⟨#[]⟩,.string ⟨#[]⟩] (World.laidAll_os _ _ _) (by kernel_rfl) (by kernel_rfl) (by kernel_rfl)
   (OpenSpec.preRow_of_cond 8 hx (by kernel_rfl) (λk hk=>by cases hk) (by kernel_rfl) (AB os))) ?_
 intro W base args ds gs before Jl hW _ ah6 hw hL hsh _;have hgs:gs=[]:=JH rfl hW;have hvt:(OpenSpec.ofChange Rows.writeSettlesSpec).bare.plain.varTypes Tryz.checked.prog=[]:=by kernel_rfl
 rw[hvt,List.append_nil,hgs,List.append_nil] at hw;have hk:True:=trivial;skip;have hw2:(DataW.weightsEach Tryz.prog Tryz.f10.params.toList ds).all (·<=reachBytes)=true:=hw
 exact EX (P:=Tryz.prog) (X:=bV) (S:=[9]) Tryz.func10 rfl rfl (by kernel_rfl) (by kernel_rfl) Tryz.underlying4 rfl Tryz.laidOut rfl (λds hd=>by
  match ds,hd with
  |[d0,d1],_=>rfl) (λh=>zi ds h hw2) Jl hW hsh (Fc hL)
theorem y6:Rows.WriteSettlesSaid:=
 OpenClaim.holds_of_cond 10 Tryz.f10 rfl rfl rfl rfl rfl rfl rfl ⟨rfl,rfl,rfl,rfl,rfl⟩ rfl rfl rfl rfl rfl (by kernel_rfl) Tryz.func10 (by kernel_rfl)
  (of_decide_eq_true (by kernel_rfl)) (by unfold Func.isWrapper;first|(rw[if_pos (by decide+kernel)];kernel_rfl)|(rw[if_neg (by decide+kernel)];exact⟨rfl,rfl⟩))
  (λos started H enc _ F=>by rw[OpenClaim.pre_eq_preRow];exact wB os started H enc F)
theorem xj(f:FuncId)(fn:Func)(hf:Tryz.pinned.checked.prog.funcNamed "sizar/sizarlaw9.WriteSettles" =some f)(C4:Tryz.pinned.checked.prog.funcs[f]? =some fn):
 true=Tryz.pinned.checked.prog.looks []/\∀(j:Nat) t,fn.params[j]? =some t->Tryz.pinned.checked.prog.wantsStandIn t=false:=by
 obtain rfl:f=10:=Option.some.inj ((show Tryz.prog.funcNamed "sizar/sizarlaw9.WriteSettles" =some 10 by kernel_rfl).symm.trans hf) |>.symm;obtain rfl:fn=Tryz.f10:=(Option.some.inj (Tryz.func10.symm.trans C4)).symm
 exact⟨by kernel_rfl,λj t ht=>by
  rw[Tryz.params10] at ht;have hm:t∈([9,9]:List TypeId):=by simpa using Array.mem_of_getElem? ht
  have im:(([9,9]:List TypeId).all λu=>!Tryz.prog.wantsStandIn u)=true:=by kernel_rfl
  exact (show Tryz.prog.wantsStandIn t=false by simpa using List.all_eq_true.1 im t hm)⟩
theorem writeSettles_card:Rows.WriteSettlesCardSaid:=Claim7.holds_tied_plain_at .later [] _ _ _ _ y6 (λ_ h=>by cases h) (by kernel_rfl) (λ_ h=>by cases h) writeSettles_row_tie rfl ⟨rfl,rfl⟩ (by kernel_rfl) rfl xj (by kernel_rfl)
end Go.Proofs.YtjmeonoabiliiaaGreatDoor
