/- Proved: sizarlaw9.WritePlain answers true for every input of bulk at most 1048576 and leaves its arguments as they were. Conditions: none beyond the row. -/
import Derived.Test.YtjmeonoabiliiaaGreatDoorBd6
import Derived.Test.YtjmeonoabiliiaaGreatDoorCards
import Derived.Test.YtjmeonoabiliiaaGreatDoorTie
import Derived.Deep.DeepHandedRow
import Derived.Lay
import Derived.OpenShut
set_option linter.all false
set_option maxHeartbeats 16000000
set_option maxRecDepth 100000
namespace Go.Proofs.YtjmeonoabiliiaaGreatDoor
open Go Sz Go.ChangeShapes Go.WideShapes Go.ChangeAt Go.RowKit
noncomputable def oL(os:Os):World:=World.laidAll Tryz.prog os Rows.writePlainUptoRow.laid
theorem Fi(os:Os):laidMetH Tryz.prog Rows.writePlainUptoRow.laid ((oL os).forCall (λ_ _=>0) ⟨#[],#[.agg #[.int .i64 0,.int .i64 0,.string ⟨#[]⟩,.slice none 0 0]],[]⟩).memory:=by rw[MakeChecks.laidMetH_plain _ _ _ (by kernel_rfl)];exact laidMet_laidAll _ (by kernel_rfl) (by kernel_rfl)
theorem B1(os:Os){H:Type}(enc:TypeId×Value->H):∃places,DataW.whole enc Tryz.prog ((oL os).forCall (λ_ _=>0) ⟨#[],#[.agg #[.int .i64 0,.int .i64 0,.string ⟨#[]⟩,.slice none 0 0]],[]⟩).memory Tryz.f8.params.toList Rows.writePlainSpec.vars false (#[.agg #[.int .i64 0,.int .i64 0,.string ⟨#[]⟩,.slice none 0 0]]:Array Value).toList 8=some ([.agg [.lit (.int .i64 0),.lit (.int .i64 0),.lit (.string []),.nil]],[],places):=⟨[],by kernel_rfl⟩
theorem Ja{W:World}(hL:laidMetH Tryz.prog Rows.writePlainUptoRow.laid W):bV W:=R5 hL ⟨by kernel_rfl,by kernel_rfl⟩
theorem zD(os:Os)(started:os.Started)(H:Type)(enc:TypeId×Value->H)(F:Stop.Interp):
 ReturnsInHanded {} Tryz.checked os 8 .any ((Rows.OpenSpec.upto Rows.writePlainSpec).preRow enc Tryz.prog Tryz.f8 Rows.writePlainUptoRow.domain false Rows.writePlainUptoRow.laid) (((Rows.OpenSpec.upto Rows.writePlainSpec).at F).post enc Tryz.prog Tryz.f8 false true false false):=by
 obtain⟨places,hx⟩:=B1 os enc
 refine returnsInHanded_of_row (C:=Tryz.checked) (s:=(Rows.OpenSpec.upto Rows.writePlainSpec)) Tryz.own started (by kernel_rfl) Tryz.func8
  (witness_row_at (enc:=enc) (C:=Tryz.checked) false (oL os) #[.agg #[.int .i64 0,.int .i64 0,.string ⟨#[]⟩,.slice none 0 0]] (World.laidAll_os _ _ _) (by kernel_rfl) (by kernel_rfl) (by kernel_rfl)
   (OpenSpec.preRow_of_cond 8 hx (by kernel_rfl) (λk hk=>by cases hk;kernel_rfl) (by kernel_rfl) (Fi os))) ?_
 intro W base args ds gs before KB hW _ Z0 hw hL hsh _;have hgs:gs=[]:=KT rfl hW;have hvt:(Rows.OpenSpec.upto Rows.writePlainSpec).bare.plain.varTypes Tryz.checked.prog=[]:=by kernel_rfl
 rw[hvt,List.append_nil,hgs,List.append_nil] at hw;have hk:Rows.uptoSmall H (ds++gs)=true:=Z0 _ rfl;rw[hgs,List.append_nil] at hk;have hw2:(DataW.weightsEach Tryz.prog Tryz.f8.params.toList ds).all (·<=reachBytes)=true:=hw
 exact FP (P:=Tryz.prog) (X:=bV) (S:=[31,29,3,2,9]) Tryz.func8 rfl rfl (by kernel_rfl) (by kernel_rfl) Tryz.underlying4 rfl Tryz.laidOut rfl (λds hd=>by
  match ds,hd with
  |[d0],_=>rfl) (λh=>CU ds h hw2 hk) KB hW hsh (Ja hL)
theorem CZ:Rows.WritePlainUptoSaid:=
 OpenClaim.holds_of_cond 8 Tryz.f8 rfl rfl rfl rfl rfl rfl rfl ⟨rfl,rfl,rfl,rfl,rfl⟩ rfl rfl rfl rfl rfl (by kernel_rfl) Tryz.func8 (by kernel_rfl)
  (of_decide_eq_true (by kernel_rfl)) (by unfold Func.isWrapper;first|(rw[if_pos (by decide+kernel)];kernel_rfl)|(rw[if_neg (by decide+kernel)];exact⟨rfl,rfl⟩))
  (λos started H enc _ F=>by rw[OpenClaim.pre_eq_preRow];exact zD os started H enc F)
theorem BH(f:FuncId)(fn:Func)(hf:Tryz.pinned.checked.prog.funcNamed "sizar/sizarlaw9.WritePlain" =some f)(AU:Tryz.pinned.checked.prog.funcs[f]? =some fn):
 true=Tryz.pinned.checked.prog.looks []/\∀(j:Nat) t,fn.params[j]? =some t->Tryz.pinned.checked.prog.wantsStandIn t=false:=by
 obtain rfl:f=8:=Option.some.inj ((show Tryz.prog.funcNamed "sizar/sizarlaw9.WritePlain" =some 8 by kernel_rfl).symm.trans hf) |>.symm;obtain rfl:fn=Tryz.f8:=(Option.some.inj (Tryz.func8.symm.trans AU)).symm
 exact⟨by kernel_rfl,λj t ht=>by
  rw[Tryz.params8] at ht;have hm:t∈([31]:List TypeId):=by simpa using Array.mem_of_getElem? ht
  have iF:(([31]:List TypeId).all λu=>!Tryz.prog.wantsStandIn u)=true:=by kernel_rfl
  exact (show Tryz.prog.wantsStandIn t=false by simpa using List.all_eq_true.1 iF t hm)⟩
theorem writePlain_card:Rows.WritePlainUptoCardSaid:=Claim7.holds_tied_plain_at .later [] _ _ _ _ CZ (λ_ h=>by cases h) (by kernel_rfl) (λ_ h=>by cases h) writePlainUpto_row_tie rfl ⟨rfl,rfl⟩ (by kernel_rfl) rfl BH (by kernel_rfl)
end Go.Proofs.YtjmeonoabiliiaaGreatDoor
