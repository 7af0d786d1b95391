/- Proved: sizarlaw9.WriteSays answers true for every input of bulk at most 1048576 and leaves its arguments as they were. Conditions: none beyond the row. -/
import Derived.Test.YtjmeonoabiliiaaGreatDoorBd5
import Derived.Test.YtjmeonoabiliiaaGreatDoorCards
import Derived.Test.YtjmeonoabiliiaaGreatDoorTie
import Derived.Deep.DeepHandedRow
import Derived.Lay
import Derived.OpenShut
set_option linter.unusedVariables false
set_option linter.unusedSimpArgs false
set_option linter.unusedSectionVars false
set_option maxHeartbeats 16000000
set_option maxRecDepth 100000

namespace Go.Proofs.YtjmeonoabiliiaaGreatDoor
open Go Sz Go.ChangeShapes Go.WideShapes Go.ChangeAt Go.RowKit
noncomputable def lh (os:Os):World:=World.laidAll Tryz.prog os Rows.writeSaysUptoRow.laid
theorem Aj (os:Os):laidMetH Tryz.prog Rows.writeSaysUptoRow.laid ((lh os).forCall (fun _ _=>0) ⟨#[],#[.slice none 0 0,.agg #[.int .i64 0,.int .i64 0,.string ⟨#[]⟩,.slice none 0 0]],[]⟩).memory:=by
 rw[MakeChecks.laidMetH_plain _ _ _ (by kernel_rfl)];exact laidMet_laidAll _ (by kernel_rfl) (by kernel_rfl)
theorem wZ (os:Os) {H:Type} (enc:TypeId×Value→H):∃places,DataW.whole enc Tryz.prog ((lh os).forCall (fun _ _=>0) ⟨#[],#[.slice none 0 0,.agg #[.int .i64 0,.int .i64 0,.string ⟨#[]⟩,.slice none 0 0]],[]⟩).memory Tryz.f6.params.toList Rows.writeSaysSpec.vars false (#[.slice none 0 0,.agg #[.int .i64 0,.int .i64 0,.string ⟨#[]⟩,.slice none 0 0]]:Array Value).toList 8=some ([.nil,.agg [.lit (.int .i64 0),.lit (.int .i64 0),.lit (.string []),.nil]],[],places):=
 ⟨[],by kernel_rfl⟩
theorem DH {W:World} (hL:laidMetH Tryz.prog Rows.writeSaysUptoRow.laid W):dm W:=Rl hL ⟨by kernel_rfl,by kernel_rfl⟩
theorem vn (os:Os) (started:os.Started) (H:Type) (enc:TypeId×Value→H) (F:Stop.Interp):
 ReturnsInHanded {} Tryz.checked os 6 .any ((Rows.OpenSpec.upto Rows.writeSaysSpec).preRow enc Tryz.prog Tryz.f6 Rows.writeSaysUptoRow.domain false Rows.writeSaysUptoRow.laid) (((Rows.OpenSpec.upto Rows.writeSaysSpec).at F).post enc Tryz.prog Tryz.f6 false true false false):=by
 obtain⟨places,hx⟩:=wZ os enc
 refine returnsInHanded_of_row (C:=Tryz.checked) (s:=(Rows.OpenSpec.upto Rows.writeSaysSpec)) Tryz.own started (by kernel_rfl) Tryz.func6
  (witness_row_at (enc:=enc) (C:=Tryz.checked) false (lh os) #[.slice none 0 0,.agg #[.int .i64 0,.int .i64 0,.string ⟨#[]⟩,.slice none 0 0]] (World.laidAll_os _ _ _) (by kernel_rfl) (by kernel_rfl) (by kernel_rfl)
   (OpenSpec.preRow_of_cond 8 hx (by kernel_rfl) (fun k hk=>by cases hk;kernel_rfl) (by kernel_rfl) (Aj os))) ?_
 intro W base args ds gs before hval hW _ hcond hw hL hsh _;have hgs:gs=[]:=MY rfl hW;have hvt:(Rows.OpenSpec.upto Rows.writeSaysSpec).bare.plain.varTypes Tryz.checked.prog=[]:=by kernel_rfl
 rw[hvt,List.append_nil,hgs,List.append_nil] at hw;have hk:Rows.uptoSmall H (ds++gs)=true:=hcond _ rfl;rw[hgs,List.append_nil] at hk;have hw2:(DataW.weightsEach Tryz.prog Tryz.f6.params.toList ds).all (·≤reachBytes)=true:=hw
 exact HF (P:=Tryz.prog) (X:=dm) (S:=[31,29,3,2,9,23,65]) Tryz.func6 rfl rfl (by kernel_rfl) (by kernel_rfl) Tryz.underlying4 rfl Tryz.laidOut rfl (fun ds hd=>by
  match ds,hd with
  | [d0,d1],_=>rfl) (fun h=>xD ds h hw2 hk) hval hW hsh (DH hL)
theorem yk:Rows.WriteSaysUptoSaid:=
 OpenClaim.holds_of_cond 6 Tryz.f6 rfl rfl rfl rfl rfl rfl rfl ⟨rfl,rfl,rfl,rfl,rfl⟩ rfl rfl rfl rfl rfl (by kernel_rfl) Tryz.func6 (by kernel_rfl)
  (of_decide_eq_true (by kernel_rfl)) (by unfold Func.isWrapper;first | (rw[if_pos (by decide+kernel)];kernel_rfl) | (rw[if_neg (by decide+kernel)];exact⟨rfl,rfl⟩))
  (fun os started H enc _ F=>by rw[OpenClaim.pre_eq_preRow];exact vn os started H enc F)
theorem wX (f:FuncId) (fn:Func) (hf:Tryz.pinned.checked.prog.funcNamed "sizar/sizarlaw9.WriteSays" =some f) (hfn:Tryz.pinned.checked.prog.funcs[f]? =some fn):
 true=Tryz.pinned.checked.prog.looks []∧∀(j:Nat) t,fn.params[j]? =some t→Tryz.pinned.checked.prog.wantsStandIn t=false:=by
 obtain rfl:f=6:=Option.some.inj ((show Tryz.prog.funcNamed "sizar/sizarlaw9.WriteSays" =some 6 by kernel_rfl).symm.trans hf) |>.symm;obtain rfl:fn=Tryz.f6:=(Option.some.inj (Tryz.func6.symm.trans hfn)).symm
 exact⟨by kernel_rfl,fun j t ht=>by
  rw[Tryz.params6] at ht;have hm:t ∈ ([23,31]:List TypeId):=by simpa using Array.mem_of_getElem? ht
  have hall:(([23,31]:List TypeId).all fun u=>!Tryz.prog.wantsStandIn u)=true:=by kernel_rfl
  exact (show Tryz.prog.wantsStandIn t=false by simpa using List.all_eq_true.1 hall t hm)⟩
theorem writeSays_card:Rows.WriteSaysUptoCardSaid:=
 Claim7.holds_tied_plain_at .later [] _ _ _ _ yk (fun _ h=>by cases h) (by kernel_rfl) (fun _ h=>by cases h) writeSaysUpto_row_tie rfl ⟨rfl,rfl⟩ (by kernel_rfl) rfl wX (by kernel_rfl)
end Go.Proofs.YtjmeonoabiliiaaGreatDoor
