/- Proved: sizarlaw8.ReadPlain answers true for every input and leaves its arguments as they were. Conditions: none beyond the row. -/
import Derived.Test.YtjmeonoabiliiaaGreatDoorBd6
import Derived.Test.YtjmeonoabiliiaaGreatDoorCards
import Derived.Test.YtjmeonoabiliiaaGreatDoorTie
import Derived.Deep.DeepHandedRow
import Derived.Lay
import Derived.OpenShut
set_option linter.all false
set_option maxHeartbeats 16000000
set_option maxRecDepth 100000
namespace Go.Proofs.YtjmeonoabiliiaaGreatDoor
open Go Sz Go.ChangeShapes Go.WideShapes Go.ChangeAt Go.RowKit
noncomputable def ph(os:Os):World:=World.laidAll Tryz.prog os Rows.readPlainRow.laid
theorem Fm(os:Os):laidMetH Tryz.prog Rows.readPlainRow.laid ((ph os).forCall (λ_ _=>0) ⟨#[],#[.string ⟨#[]⟩],[]⟩).memory:=by rw[MakeChecks.laidMetH_plain _ _ _ (by kernel_rfl)];exact laidMet_laidAll _ (by kernel_rfl) (by kernel_rfl)
theorem BL(os:Os){H:Type}(enc:TypeId×Value->H):∃places,DataW.whole enc Tryz.prog ((ph os).forCall (λ_ _=>0) ⟨#[],#[.string ⟨#[]⟩],[]⟩).memory Tryz.f3.params.toList Rows.readPlainSpec.vars false (#[.string ⟨#[]⟩]:Array Value).toList 8=some ([.lit (.string [])],[],places):=⟨[],by kernel_rfl⟩
theorem KQ{W:World}(hL:laidMetH Tryz.prog Rows.readPlainRow.laid W):cX W:=Zi hL ⟨by kernel_rfl,by kernel_rfl⟩
theorem AF(os:Os)(started:os.Started)(H:Type)(enc:TypeId×Value->H)(F:Stop.Interp):
 ReturnsInHanded {} Tryz.checked os 3 .any ((OpenSpec.ofChange Rows.readPlainSpec).preRow enc Tryz.prog Tryz.f3 Rows.readPlainRow.domain false Rows.readPlainRow.laid) (((OpenSpec.ofChange Rows.readPlainSpec).at F).post enc Tryz.prog Tryz.f3 false true false false):=by
 obtain⟨places,hx⟩:=BL os enc
 refine returnsInHanded_of_row (C:=Tryz.checked) (s:=(OpenSpec.ofChange Rows.readPlainSpec)) Tryz.own started (by kernel_rfl) Tryz.func3
  (witness_row_at (enc:=enc) (C:=Tryz.checked) false (ph os) #[.string ⟨#[]⟩] (World.laidAll_os _ _ _) (by kernel_rfl) (by kernel_rfl) (by kernel_rfl)
   (OpenSpec.preRow_of_cond 8 hx (by kernel_rfl) (λk hk=>by cases hk) (by kernel_rfl) (Fm os))) ?_
 intro W base args ds gs before IS hW _ amx hw hL hsh _;have hgs:gs=[]:=S3 rfl hW;have hvt:(OpenSpec.ofChange Rows.readPlainSpec).bare.plain.varTypes Tryz.checked.prog=[]:=by kernel_rfl
 rw[hvt,List.append_nil,hgs,List.append_nil] at hw;have hk:True:=trivial;skip;have hw2:(DataW.weightsEach Tryz.prog Tryz.f3.params.toList ds).all (·<=reachBytes)=true:=hw
 exact NK (P:=Tryz.prog) (X:=cX) (S:=[9]) Tryz.func3 rfl rfl (by kernel_rfl) (by kernel_rfl) Tryz.underlying4 rfl Tryz.laidOut rfl (λds hd=>by
  match ds,hd with
  |[d0],_=>rfl) (λh=>EJ ds h hw2) IS hW hsh (KQ hL)
theorem C9:Rows.ReadPlainSaid:=
 OpenClaim.holds_of_cond 3 Tryz.f3 rfl rfl rfl rfl rfl rfl rfl ⟨rfl,rfl,rfl,rfl,rfl⟩ rfl rfl rfl rfl rfl (by kernel_rfl) Tryz.func3 (by kernel_rfl)
  (of_decide_eq_true (by kernel_rfl)) (by unfold Func.isWrapper;first|(rw[if_pos (by decide+kernel)];kernel_rfl)|(rw[if_neg (by decide+kernel)];exact⟨rfl,rfl⟩))
  (λos started H enc _ F=>by rw[OpenClaim.pre_eq_preRow];exact AF os started H enc F)
theorem BF(f:FuncId)(fn:Func)(hf:Tryz.pinned.checked.prog.funcNamed "sizar/sizarlaw8.ReadPlain" =some f)(EZ:Tryz.pinned.checked.prog.funcs[f]? =some fn):
 true=Tryz.pinned.checked.prog.looks []/\∀(j:Nat) t,fn.params[j]? =some t->Tryz.pinned.checked.prog.wantsStandIn t=false:=by
 obtain rfl:f=3:=Option.some.inj ((show Tryz.prog.funcNamed "sizar/sizarlaw8.ReadPlain" =some 3 by kernel_rfl).symm.trans hf) |>.symm;obtain rfl:fn=Tryz.f3:=(Option.some.inj (Tryz.func3.symm.trans EZ)).symm
 exact⟨by kernel_rfl,λj t ht=>by
  rw[Tryz.params3] at ht;have hm:t∈([9]:List TypeId):=by simpa using Array.mem_of_getElem? ht
  have nY:(([9]:List TypeId).all λu=>!Tryz.prog.wantsStandIn u)=true:=by kernel_rfl
  exact (show Tryz.prog.wantsStandIn t=false by simpa using List.all_eq_true.1 nY t hm)⟩
theorem readPlain_card:Rows.ReadPlainCardSaid:=Claim7.holds_tied_plain_at .later [] _ _ _ _ C9 (λ_ h=>by cases h) (by kernel_rfl) (λ_ h=>by cases h) readPlain_row_tie rfl ⟨rfl,rfl⟩ (by kernel_rfl) rfl BF (by kernel_rfl)
end Go.Proofs.YtjmeonoabiliiaaGreatDoor
