import Derived.Test.YtjmeonoabiliiaaGreatDoorSz2
import Derived.OrdersIn
import Derived.LoopNIn
import Derived.TacticsIn
import Derived.RangeFuncCalls
import Derived.Test.YtjmeonoabiliiaaGreatDoorArg
import Derived.RangeFuncBox
import Derived.Shelf.Abstract
import Derived.Test.YtjmeonoabiliiaaGreatDoorSz3
import Derived.RangeFuncNested
import Derived.RangeFuncBound
import Derived.RangeFuncLeaves
set_option linter.unusedVariables false
set_option linter.unusedSimpArgs false
set_option linter.unusedSectionVars false
set_option maxHeartbeats 16000000
set_option maxRecDepth 100000

/- The abstract run is sound inside a round of a range over a function. Printed by wip/gen/mkin.py out of the texts on the plain frame. No program is named here. -/
namespace Sz
open Go
variable {X:World→Prop} {l0:Option Nat} {n0:Nat}
section
variable {P:Program} {C:Nat→List AV→aa→Option (AV×aa)}
end
section
variable {P:Program} {C:Nat→List AV→aa→Option (AV×aa)} {ops:Array Oper} {ss:List aA} {b:List Nat} {F:Nat→List AV} {H:Nat→aa} {φ0:dj} {w0:World} {d0:List Deferred}
 {listed:Array Bool} {φ:dj} {pe:Nat→PE} {cu:List AV} {k:Nat} {a:Act} {w:World}
end
section
variable {P:Program} {C:Nat→List AV→aa→Option (AV×aa)}
end
end Sz

/- Walks by hand beside known calls: what is held while a loop over an iterator runs. No program is named here. -/
namespace Sz
open Go Go.RowKit
mutual
def AV.fC:AV→Bool
 | .sl xs=>AV.pj xs
 | .ip cs=>!cs.isEmpty&&AV.kp cs
 | .agg cs=>AV.kp cs
 | .fn _ caps=>AV.kp caps
 | .iface _ v=>v.fC
 | .tuple vs=>AV.kp vs
 | _=>true
def AV.kp:List AV→Bool
 | []=>true
 | v::r=>v.fC&&AV.kp r
def AV.pj:List AV→Bool
 | []=>true
 | v::r=>!v.cells.isEmpty&&v.fC&&AV.pj r
end
theorem jC:∀{l:List AV},AV.kp l=true→∀j (h:j < l.length),(l[j]).fC=true
 | v::r,hs,0,_=>by simp only[AV.kp,Bool.and_eq_true] at hs;exact hs.1
 | v::r,hs,j+1,h=>by
   simp only[AV.kp,Bool.and_eq_true] at hs;exact jC hs.2 j (by simpa using h)
theorem ry:∀{l:List AV},AV.pj l=true→∀j (h:j < l.length),(l[j]).cells≠[]∧(l[j]).fC=true
 | v::r,hs,0,_=>by
   simp only[AV.pj,Bool.and_eq_true] at hs;exact⟨by simpa using hs.1.1,hs.1.2⟩
 | v::r,hs,j+1,h=>by
   simp only[AV.pj,Bool.and_eq_true] at hs;exact ry hs.2 j (by simpa using h)
theorem Fa {v:AV} (hs:v.fC=true):∀j (h:j < v.cells.length),(v.cells[j]).fC=true:=by
 intro j h
 cases v with
 | agg cs=>
   simp only[AV.fC] at hs;exact jC (l:=cs) hs j h
 | _=>
   simp only[AV.cells,List.length_singleton] at h;have:j=0:=by omega
   subst this;simpa[AV.cells] using hs
def jU (w:World) (b:Nat):Prop:=∃o:Obj,w.heap[b]? =some o∧o.isCells=true
theorem jU.I8 {w:World} {b o:Nat} {v:Value} (h:w.cell? ⟨b,o,none⟩=some v):jU w b:=cells_of_cell h
theorem RV.fC {φ:dj} {nx:Nat} {pr:Nat→Prop} {w:World} {v:AV} {cv:Value} (h:RV φ nx pr w v cv):v.fC=true→RV φ nx (fun b=>pr b∧jU w b) w v cv:=by
 induction h with
 | undef v=>exact fun _=>.undef v
 | bool b=>exact fun _=>.bool b
 | int k n=>exact fun _=>.int k n
 | str s=>exact fun _=>.str s
 | kF=>exact fun _=>.kF
 | ptr id off h=>exact fun _=>.ptr id off h
 | ip cs b o vs hp hrf h1 hc hv ih=>
   intro hs;simp only[AV.fC,Bool.and_eq_true] at hs
   have hn:0 < cs.length:=by
    cases cs with
    | nil=>simp at hs
    | cons _ _=>simp
   exact .ip cs b o vs ⟨hp,jU.I8 (hc 0 hn)⟩ hrf h1 hc fun j hj=>ih j hj (jC hs.2 j hj)
 | ax a=>exact fun _=>.ax a
 | slnil a cap=>exact fun _=>.slnil a cap
 | sl xs b o cap sz vs hp hcap hrf h1 hsz hc hv ih=>
   intro hs;have hs':AV.pj xs=true:=hs;by_cases hn:xs.length=0
   ·have:xs=[]:=List.eq_nil_of_length_eq_zero hn;subst this;exact .slnil _ _
   ·have h0:0 < xs.length:=by omega
    obtain⟨c1,c2⟩:=ry hs' 0 h0
    have hpos:0 < sz:=by
     have:=hsz 0 h0
     cases hc2:(xs[0]).cells? with
     | none=>rw[hc2] at this;cases this
     | some l=>
       rw[hc2] at this;simp only[Option.map_some,Option.some.injEq] at this;have e:=nD hc2;rw[←e] at this;rw[←this];exact List.length_pos_iff.2 c1
    refine .sl xs b o cap sz vs ⟨hp,jU.I8 (hc 0 0 h0 hpos)⟩ hcap hrf h1 hsz hc fun i hi j hj=>ih i hi j hj ?_
    exact Fa (ry hs' i hi).2 j hj
 | vec id off len sz lb cap a h hl hb hr ha=>exact fun _=>.vec id off len sz lb cap a h hl hb hr ha
 | gP=>exact fun _=>.gP
 | map id h=>exact fun _=>.map id h
 | gj=>exact fun _=>.gj
 | fn f caps cvs hl hv ih=>exact fun hs=>.fn f caps cvs hl fun j hj=>ih j hj (jC (by simpa[AV.fC] using hs) j hj)
 | jI=>exact fun _=>.jI
 | iface t v cv hv ih=>exact fun hs=>.iface t v cv (ih (by simpa[AV.fC] using hs))
 | agg cs cvs hl h1 hv ih=>exact fun hs=>.agg cs cvs hl h1 fun j hj=>ih j hj (jC (by simpa[AV.fC] using hs) j hj)
 | tuple cs cvs hl hv ih=>exact fun hs=>.tuple cs cvs hl fun j hj=>ih j hj (jC (by simpa[AV.fC] using hs) j hj)
def Sk (φ:dj) (h:aa) (w:World) (k:Nat) (W:World) (b:Nat):Prop:=Pr φ h w b∨(w.heap.size+k≤b∧jU W b)
abbrev qG (φ:dj) (h:aa) (w:World) (k:Nat) (W:World):AV→Value→Prop:=RV φ h.next (Sk φ h w k W) W
section
variable {φ:dj} {h:aa} {w W W':World} {k:Nat} {v:AV} {cv:Value}
theorem jU.grown {row:Option Nat} {b:Nat} (hc:jU W b) (hg:W.grownBy W' row) (hr:∀r,row=some r→∃o:Obj,W.heap[r]? =some o∧o.isCells=false):jU W' b∧W'.heap[b]? =W.heap[b]?:=by
 obtain⟨o,h1,h2⟩:=hc;have e:=grownBy_keeps_cells hg hr h1 h2;exact⟨⟨o,e.trans h1,h2⟩,e⟩
theorem qG.own {row:Option Nat} (hv:qG φ h w k W v cv) (hg:W.grownBy W' row) (hr:∀r,row=some r→w.heap.size≤r∧∃o:Obj,W.heap[r]? =some o∧o.isCells=false) (hsz:w.heap.size≤W.heap.size):qG φ h w k W' v cv:=
 hv.mono (fun _ _ hid=>⟨rfl,hid⟩) fun b hb=>by
  rcases hb with hb | ⟨h1,h2⟩
  ·refine⟨.inl hb,hg.block b (Nat.lt_of_lt_of_le hb.1 hsz) fun e=>?_⟩;have:=(hr b e.symm).1;have:=hb.1;omega
  ·obtain⟨g1,g2⟩:=h2.grown hg fun r e=>(hr r e).2
   exact⟨.inr ⟨h1,g1⟩,g2⟩
theorem qG.same (hv:qG φ h w k W v cv) (hs:∀b,b < w.heap.size∨w.heap.size+k≤b→b < W.heap.size→W'.heap[b]? =W.heap[b]?) (hsz:w.heap.size≤W.heap.size):qG φ h w k W' v cv:=
 hv.mono (fun _ _ hid=>⟨rfl,hid⟩) fun b hb=>by
  rcases hb with hb | ⟨h1,o,h2,h3⟩
  ·exact⟨.inl hb,hs b (.inl hb.1) (Nat.lt_of_lt_of_le hb.1 hsz)⟩
  ·have e:=hs b (.inr h1) (Array.getElem?_eq_some_iff.1 h2).1;exact⟨.inr ⟨h1,o,e.trans h2,h3⟩,e⟩
theorem qG.below (hv:qG φ h w k W v cv) (hB:Below W.heap.size W W') (hsz:w.heap.size≤W.heap.size):qG φ h w k W' v cv:=hv.same (fun b _ hb=>hB.block b hb) hsz
theorem qG.done (hr:HR φ h w) (hsz:w.heap.size≤W.heap.size) (hv:qG φ h w k W v cv):dL φ h W v cv:=
 hv.mono (fun _ _ hid=>⟨rfl,hid⟩) fun b hb=>by
  refine⟨?_,rfl⟩;rcases hb with hb | ⟨h1,o,h2,h3⟩
  ·exact⟨Nat.lt_of_lt_of_le hb.1 hsz,hb.2⟩
  ·refine⟨(Array.getElem?_eq_some_iff.1 h2).1,fun id hl e=>?_,fun hg=>?_⟩
   ·have:=hr.dS hl;omega
   ·have:=(hr.gh b hg).1;omega
theorem qG.call {P:Program} {X:World→Prop} {f:Nat} {args:List AV} {cargs:Array Value} (hp:fL P X f args v) (hv:v.fC=true) (hr:HR φ h w) (hG:gZ P X φ h w) (hB:Below w.heap.size w W) (hk:w.heap.size+k≤W.heap.size)
 (ha:cargs.size=args.length∧∀j (hj:j < args.length),qG φ h w k W args[j] (cargs.getD j default)):
 ((callFunc f cargs).run P W=.ok (.enter f cargs) W∧Calls P f cargs W fun e W'=>∃cv,e=.returned cv∧qG φ h w k W' v cv∧Below W.heap.size W W')∨
 ∃cv W',(callFunc f cargs).run P W=.ok (.value cv) W'∧qG φ h w k W' v cv∧Below W.heap.size W W':=by
 let φ':dj:=⟨φ.at_,fun b=>φ.gh b∨(w.heap.size≤b∧b < W.heap.size∧(b < w.heap.size+k∨¬ jU W b))⟩
 have hsz:w.heap.size≤W.heap.size:=by omega
 have Pw:∀b,Pr φ h w b→Pr φ' h W b∧W.heap[b]? =w.heap[b]?:=fun b hb=>by
  refine⟨⟨Nat.lt_of_lt_of_le hb.1 hsz,hb.2.1,fun hg=>?_⟩,hB.block b hb.1⟩;rcases hg with hg | ⟨hg,_⟩
  ·exact hb.2.2 hg
  ·have:=hb.1;omega
 have ex:∀b,φ.gh b→W.heap[b]? =w.heap[b]?:=fun b hb=>hB.block b (hr.gh b hb).1
 have up:∀{u:AV} {cu:Value},dL φ h w u cu→dL φ' h W u cu:=fun hu=>hu.mono (fun _ _ hid=>⟨rfl,hid⟩) Pw
 have hr':HR φ' h W:=by
  refine⟨hr.wf,fun id cs hg=>?_,fun id es hg=>?_,hr.inj,fun b hb=>?_⟩
  ·obtain⟨c,el,fr,g1,g2,g3,g4,g5,g6⟩:=hr.rows id cs hg;exact⟨c,el,fr,(hB.block _ (hr.dS ⟨_,hg,fun e=>by cases e⟩)).trans g1,g2,g3,g4,g5,fun j hj=>up (g6 j hj)⟩
  ·obtain⟨ents,clk,g1,g2,g3⟩:=hr.maps id es hg;exact⟨ents,clk,(hB.block _ (hr.dS ⟨_,hg,fun e=>by cases e⟩)).trans g1,g2,fun j hj=>⟨up (g3 j hj).1,up (g3 j hj).2⟩⟩
  ·rcases hb with hb | ⟨h1,h2,_⟩
   ·exact⟨Nat.lt_of_lt_of_le (hr.gh b hb).1 hsz,(hr.gh b hb).2⟩
   ·refine⟨h2,fun id hl e=>?_⟩;have:=hr.dS hl;have e':(φ id).eA=b:=e;omega
 have hG':gZ P X φ' h W:=by
  obtain⟨w1,g1,g2⟩:=hG;refine⟨w1,g1,fun b hb=>?_⟩;obtain⟨a1,a2,a3⟩:=g2 b hb;refine⟨by omega,?_,(hB.block b a1).trans a3⟩;rcases a2 with a2 | a2
  ·exact .inl (.inl a2)
  ·exact .inr (Pw b a2).1
 have ha':ju φ' h W args cargs:=⟨ha.1,fun j hj=>(ha.2 j hj).mono (fun _ _ hid=>⟨rfl,hid⟩) fun b hb=>by
  refine⟨?_,rfl⟩;rcases hb with hb | ⟨h1,h2⟩
  ·exact (Pw b hb).1
  ·obtain⟨o,h3,h4⟩:=h2;refine⟨(Array.getElem?_eq_some_iff.1 h3).1,fun id hl e=>?_,fun hg=>?_⟩
   ·have:=hr.dS hl;have e':(φ id).eA=b:=e;omega
   ·rcases hg with hg | ⟨_,_,hg⟩
    ·have:=(hr.gh b hg).1;omega
    ·rcases hg with hg | hg
     ·omega
     ·exact hg ⟨o,h3,h4⟩⟩
 have back:∀{cv:Value} {W':World},oY φ' h W v cv W'→qG φ h w k W' v cv∧Below W.heap.size W W':=fun {cv W'} hp=>by
  obtain⟨g1,_,g3,g4⟩:=hp;refine⟨(RV.fC g1 hv).mono (fun _ _ hid=>⟨rfl,hid⟩) fun b hb=>⟨?_,rfl⟩,⟨g3.os,g3.tape,g3.output,g3.size,g4⟩⟩;obtain⟨⟨b1,b2,b3⟩,b4⟩:=hb;by_cases hl:b < w.heap.size
  ·exact .inl ⟨hl,b2,fun hg=>b3 (.inl hg)⟩
  ·refine .inr ⟨?_,b4⟩;by_cases hl2:b < w.heap.size+k
   ·exact absurd (.inr ⟨by omega,by omega,.inl hl2⟩) b3
   ·omega
 rcases hp φ' h W cargs hr' hG' ha' with⟨e1,e2⟩ | ⟨cv,W',e1,e2⟩
 ·refine .inl ⟨e1,e2.mono fun e W' he=>?_⟩;obtain⟨cv,rfl,hpost⟩:=he;exact⟨cv,rfl,back hpost⟩
 ·exact .inr ⟨cv,W',e1,back e2⟩
end
end Sz

/- A range over a function whose rounds are runs of the evaluator. No program is named here. -/
namespace Sz
open Go Go.RowKit
variable {X:World→Prop} {P:Program}
theorem HR.move {φ φ':dj} {h:aa} {w w':World} (hr:HR φ h w) (hat:∀id,id < h.next→φ' id=φ id)
 (pr:∀b,Pr φ h w b→Pr φ' h w' b∧w'.heap[b]? =w.heap[b]?) (lv:∀id,live h id→w'.heap[(φ id).eA]? =w.heap[(φ id).eA]?)
 (gh:∀b,φ'.gh b→b < w'.heap.size∧∀id,live h id→(φ id).eA≠b):HR φ' h w':=by
 have up:∀{v:AV} {cv:Value},dL φ h w v cv→dL φ' h w' v cv:=fun hv=>hv.mono (fun id _ hid=>⟨hat id hid,hid⟩) pr
 have lt:∀id,live h id→id < h.next:=fun id ⟨o,hg,_⟩=>aa.cV hg
 refine⟨hr.wf,fun id cs hg=>?_,fun id es hg=>?_,fun i j hi hj e=>?_,fun b hb=>?_⟩
 ·obtain⟨c,el,fr,g1,g2,g3,g4,g5,g6⟩:=hr.rows id cs hg;have e:=hat id (aa.cV hg);unfold pf;rw[e];exact⟨c,el,fr,(lv id ⟨_,hg,fun e=>by cases e⟩).trans g1,g2,g3,g4,g5,fun j hj=>up (g6 j hj)⟩
 ·obtain⟨ents,clk,g1,g2,g3⟩:=hr.maps id es hg;have e:=hat id (aa.cV hg);unfold se;rw[e];exact⟨ents,clk,(lv id ⟨_,hg,fun e=>by cases e⟩).trans g1,g2,fun j hj=>⟨up (g3 j hj).1,up (g3 j hj).2⟩⟩
 ·rw[hat i (lt i hi),hat j (lt j hj)] at e;exact hr.inj i j hi hj e
 ·obtain⟨g1,g2⟩:=gh b hb;exact⟨g1,fun id hl=>by rw[hat id (lt id hl)];exact g2 id hl⟩
structure RI (φ1:dj) (h1:aa) (W0:World) (fr:List AV) (tm:Array Value) (Es:List AV) (ce:Nat→Value) (hk:aa) (φ':dj) (W:World):Prop where
 hr:HR φ' hk W
 fr:FR φ' hk W fr tm
 es:∀j (hj:j < Es.length),dL φ' hk W Es[j] (ce j)
 MI:∀b,b < W0.heap.size→(φ'.gh b↔φ1.gh b)
 Ph:∀b,W0.heap.size≤b→(φ'.gh b↔∃o:Obj,W.heap[b]? =some o∧o.isCells=false)
 nx:hk.next=h1.next
 at_:∀id,id < h1.next→φ' id=φ1 id
 lv:∀id,live hk id→live h1 id
 os:W.os=W0.os
 tape:W.tape=W0.tape
 output:W.output=W0.output
 size:W0.heap.size≤W.heap.size
 ez:∀b,b < W0.heap.size→(∀id,live h1 id→(φ1 id).eA≠b)→W.heap[b]? =W0.heap[b]?
section
variable {φ1:dj} {h1 hk:aa} {W0 W W':World} {fr:List AV} {tm:Array Value} {Es:List AV} {ce:Nat→Value} {φ':dj}
theorem RI.OB (hr1:HR φ1 h1 W0) (r:RI φ1 h1 W0 fr tm Es ce hk φ' W) {id:Nat} (hl:live hk id):φ' id=φ1 id∧(φ1 id).eA < W0.heap.size:=by
 have hl1:=r.lv id hl;obtain⟨o,hg,_⟩:=hl1;exact⟨r.at_ id (aa.cV hg),hr1.dS (r.lv id hl)⟩
theorem RI.own (hr1:HR φ1 h1 W0) (r:RI φ1 h1 W0 fr tm Es ce hk φ' W) {row:Option Nat} (hg:W.grownBy W' row) (hrow:∀b,row=some b→W0.heap.size≤b∧∃o:Obj,W.heap[b]? =some o∧o.isCells=false):
 ∃φ'',RI φ1 h1 W0 fr tm Es ce hk φ'' W':=by
 have hne:∀b,b < W.heap.size→¬ φ'.gh b→W'.heap[b]? =W.heap[b]?:=fun b hb hn=>hg.block b hb fun e=>by
  obtain⟨g1,g2⟩:=hrow b e.symm;exact hn ((r.Ph b g1).2 g2)
 have hlo:∀b,b < W0.heap.size→W'.heap[b]? =W.heap[b]?:=fun b hb=>hg.block b (Nat.lt_of_lt_of_le hb r.size) fun e=>by
  have:=(hrow b e.symm).1;omega
 have hsz:=hg.size
 let φ'':dj:=⟨φ'.at_,fun b=>(b < W0.heap.size∧φ'.gh b)∨(W0.heap.size≤b∧∃o:Obj,W'.heap[b]? =some o∧o.isCells=false)⟩
 have pr:∀b,Pr φ' hk W b→Pr φ'' hk W' b∧W'.heap[b]? =W.heap[b]?:=fun b hb=>by
  have e:=hne b hb.1 hb.2.2;refine⟨⟨Nat.lt_of_lt_of_le hb.1 hsz,hb.2.1,fun hgh=>?_⟩,e⟩;rcases hgh with hgh | ⟨hgh,ho⟩
  ·exact hb.2.2 hgh.2
  ·rw[e] at ho;exact hb.2.2 ((r.Ph b hgh).2 ho)
 have up:∀{v:AV} {cv:Value},dL φ' hk W v cv→dL φ'' hk W' v cv:=fun hv=>hv.mono (fun id _ hid=>⟨rfl,hid⟩) pr
 refine⟨φ'',r.hr.move (fun _ _=>rfl) pr (fun id hl=>?_) (fun b hb=>?_),⟨r.fr.1,fun t=>up (r.fr.2 t)⟩,fun j hj=>up (r.es j hj),fun b hb=>?_,fun b hb=>?_,r.nx,r.at_,r.lv,hg.os.trans r.os,hg.tape.trans r.tape,hg.output.trans r.output,Nat.le_trans r.size hsz,
  fun b hb hn=>(hlo b hb).trans (r.ez b hb hn)⟩
 ·obtain⟨e1,e2⟩:=r.OB hr1 hl;rw[e1];exact hlo _ e2
 ·rcases hb with hb | ⟨hb,o,ho,_⟩
  ·exact⟨Nat.lt_of_lt_of_le (r.hr.gh b hb.2).1 hsz,(r.hr.gh b hb.2).2⟩
  ·refine⟨(Array.getElem?_eq_some_iff.1 ho).1,fun id hl e=>?_⟩;obtain⟨e1,e2⟩:=r.OB hr1 hl;rw[e1] at e;omega
 ·refine⟨fun h=>?_,fun h=>.inl ⟨hb,(r.MI b hb).2 h⟩⟩;rcases h with h | h
  ·exact (r.MI b hb).1 h.2
  ·omega
 ·refine⟨fun h=>?_,fun h=>.inr ⟨hb,h⟩⟩;rcases h with h | h
  ·omega
  ·exact h.2
theorem RI.done (hr1:HR φ1 h1 W0) (r:RI φ1 h1 W0 fr tm Es ce hk φ' W):HR ⟨φ'.at_,φ1.gh⟩ hk W∧FR ⟨φ'.at_,φ1.gh⟩ hk W fr tm∧Ext φ1 h1 W0 ⟨φ'.at_,φ1.gh⟩ hk W:=by
 have pr:∀b,Pr φ' hk W b→Pr ⟨φ'.at_,φ1.gh⟩ hk W b∧W.heap[b]? =W.heap[b]?:=fun b hb=>
  ⟨⟨hb.1,hb.2.1,fun h=>hb.2.2 ((r.MI b (hr1.gh b h).1).2 h)⟩,rfl⟩
 have up:∀{v:AV} {cv:Value},dL φ' hk W v cv→dL ⟨φ'.at_,φ1.gh⟩ hk W v cv:=fun hv=>hv.mono (fun id _ hid=>⟨rfl,hid⟩) pr
 have hno:∀b,(∀id,live h1 id→(φ1 id).eA≠b)→∀id,live hk id→(φ' id).eA≠b:=fun b hb id hl=>by
  rw[(r.OB hr1 hl).1];exact hb id (r.lv id hl)
 refine⟨r.hr.move (fun _ _=>rfl) pr (fun _ _=>rfl) fun b hb=>?_,⟨r.fr.1,fun t=>up (r.fr.2 t)⟩,r.os,r.tape,r.output,r.size,by rw[r.nx];exact Nat.le_refl _,fun id hid=>r.at_ id hid,fun b hb=>?_,rfl,fun b hb=>?_⟩
 ·obtain⟨g1,g2⟩:=hr1.gh b hb;exact⟨Nat.lt_of_lt_of_le g1 r.size,hno b g2⟩
 ·exact⟨⟨Nat.lt_of_lt_of_le hb.1 r.size,hno b hb.2.1,hb.2.2⟩,r.ez b hb.1 hb.2.1⟩
 ·obtain⟨g1,g2⟩:=hr1.gh b hb;exact r.ez b g1 g2
theorem RI.next (hr1:HR φ1 h1 W0) (r:RI φ1 h1 W0 fr tm Es ce hk φ' W) {φ2:dj} {h2 hk':aa} (hr2:HR φ2 h2 W') (x:Ext φ' hk W φ2 h2 W') (hcl:CL hk h2) (hnl:h1.next≤h2.wl)
 (htr:(h2.gS h1.next).eg=hk'.eg) (hnx:hk'.next=h1.next) (hlv:∀id,live hk' id→live hk id)
 (hsr:∀id cs,hk'.get id=some (.row cs)→∀v ∈ cs,v.fC=true) (hsm:∀id es,hk'.get id=some (.map es)→∀e ∈ es,e.1.fC=true∧e.2.fC=true):
 (∃φ3,RI φ1 h1 W0 fr tm Es ce hk' φ3 W')∧KeepsFrom W0.heap.size W W'∧∀b,b < W0.heap.size→(∀id,live h1 id→(φ1 id).eA≠b)→W'.heap[b]? =W.heap[b]?:=by
 have hn2:h1.next≤h2.next:=by have:=x.next;rw[r.nx] at this;exact this
 obtain⟨t1,t2,t3⟩:=Dt hr2 hn2 (hcl.le h1.next (by rw[r.nx];exact Nat.le_refl _) hnl (by rw[←r.nx];exact fun id hid=>r.hr.Jl id hid))
 -- the same heap
 obtain⟨t4,_⟩:=t1.tp hk'.wl hk'.md;have hmin:min h2.next h1.next=h1.next:=Nat.min_eq_right hn2
 have heq:({h2.gS h1.next with wl:=hk'.wl,md:=hk'.md}:aa)=hk':=by
  cases hk';simp only[aa.gS] at htr hnx ⊢;simp only[aa.mk.injEq,and_true];exact⟨by omega,htr⟩
 rw[heq] at t4;have hlv2:∀id,live hk' id↔live (h2.gS h1.next) id:=fun id=>by rw[←heq];exact .rfl
 have pr2:∀b,Pr φ2 h2 W' b→Pr φ2 hk' W' b:=fun b hb=>by
  obtain⟨p1,p2,p3⟩:=t2 b hb;exact⟨p1,fun id hl=>p2 id ((hlv2 id).1 hl),p3⟩
 have hgh:φ2.gh=φ'.gh:=x.gh.1
 have hcells:∀b,W0.heap.size≤b→b < W.heap.size→¬ φ'.gh b→∃o:Obj,W.heap[b]? =some o∧o.isCells=true:=fun b h1' h2' hn=>by
  refine⟨W.heap[b],Array.getElem?_eq_getElem h2',?_⟩
  cases hc:(W.heap[b]).isCells with
  | true=>rfl
  | false=>exact absurd ((r.Ph b h1').2 ⟨_,Array.getElem?_eq_getElem h2',hc⟩) hn
 let φ3:dj:=⟨φ2.at_,fun b=>(b < W0.heap.size∧φ2.gh b)∨(W0.heap.size≤b∧∃o:Obj,W'.heap[b]? =some o∧o.isCells=false)⟩
 have lvt:∀id,live hk' id→φ2 id=φ1 id∧(φ1 id).eA < W0.heap.size:=fun id hl=>by
  have hl':=hlv id hl;obtain⟨e1,e2⟩:=r.OB hr1 hl';obtain⟨o,hg,_⟩:=hl';exact⟨(x.yw id (aa.cV hg)).trans e1,e2⟩
 -- what was held
 have old:∀{v:AV} {cv:Value},dL φ' hk W v cv→dL φ3 hk' W' v cv:=fun hv=>hv.mono (fun id _ hid=>⟨x.yw id hid,by rw[hnx,←r.nx];exact hid⟩) fun b hb=>by
  obtain⟨q1,q2⟩:=x.pr b hb;obtain⟨p1,p2,p3⟩:=pr2 b q1;refine⟨⟨p1,p2,fun h=>?_⟩,q2⟩;rcases h with h | ⟨h,o,ho,hc⟩
  ·exact p3 h.2
  ·rw[q2] at ho;exact hb.2.2 ((r.Ph b h).2 ⟨o,ho,hc⟩)
 -- what lies in the objects
 have new:∀{v:AV} {cv:Value},v.fC=true→dL φ2 hk' W' v cv→dL φ3 hk' W' v cv:=fun hs hv=>(RV.fC hv hs).mono (fun id _ hid=>⟨rfl,hid⟩) fun b hb=>by
  obtain⟨⟨p1,p2,p3⟩,o,ho,hc⟩:=hb;refine⟨⟨p1,p2,fun h=>?_⟩,rfl⟩;rcases h with h | ⟨h,o',ho',hc'⟩
  ·exact p3 h.2
  ·rw[ho] at ho';cases ho';rw[hc] at hc';cases hc'
 have hr3:HR φ3 hk' W':=by
  refine⟨t4.wf,fun id cs hg=>?_,fun id es hg=>?_,t4.inj,fun b hb=>?_⟩
  ·obtain⟨c,el,fz,g1,g2,g3,g4,g5,g6⟩:=t4.rows id cs hg;exact⟨c,el,fz,g1,g2,g3,g4,g5,fun j hj=>new (hsr id cs hg _ (List.getElem_mem hj)) (g6 j hj)⟩
  ·obtain⟨ents,clk,g1,g2,g3⟩:=t4.maps id es hg;exact⟨ents,clk,g1,g2,fun j hj=>⟨new (hsm id es hg _ (List.getElem_mem hj)).1 (g3 j hj).1,new (hsm id es hg _ (List.getElem_mem hj)).2 (g3 j hj).2⟩⟩
  ·rcases hb with hb | ⟨hb,o,ho,_⟩
   ·exact t4.gh b hb.2
   ·refine⟨(Array.getElem?_eq_some_iff.1 ho).1,fun id hl e=>?_⟩;obtain⟨e1,e2⟩:=lvt id hl;have e':(φ2 id).eA=b:=e;rw[e1] at e';omega
 have keepb:∀b,b < W0.heap.size→(∀id,live h1 id→(φ1 id).eA≠b)→W'.heap[b]? =W.heap[b]?:=fun b hb hn=>by
  by_cases hg:φ'.gh b
  ·exact x.gh.2 b hg
  ·refine (x.pr b ⟨Nat.lt_of_lt_of_le hb r.size,fun id hl=>?_,hg⟩).2;rw[(r.OB hr1 hl).1];exact hn id (r.lv id hl)
 refine⟨⟨φ3,hr3,⟨r.fr.1,fun t=>old (r.fr.2 t)⟩,fun j hj=>old (r.es j hj),fun b hb=>?_,fun b hb=>?_,hnx,fun id hid=>?_,fun id hl=>r.lv id (hlv id hl),x.os.trans r.os,x.tape.trans r.tape,x.output.trans r.output,Nat.le_trans r.size x.size,
  fun b hb hn=>(keepb b hb hn).trans (r.ez b hb hn)⟩,⟨x.size,fun k o hB hk' hc=>?_⟩,keepb⟩
 ·refine⟨fun h=>?_,fun h=>.inl ⟨hb,by rw[hgh];exact (r.MI b hb).2 h⟩⟩;rcases h with h | h
  ·rw[hgh] at h;exact (r.MI b hb).1 h.2
  ·omega
 ·refine⟨fun h=>?_,fun h=>.inr ⟨hb,h⟩⟩;rcases h with h | h
  ·omega
  ·exact h.2
 ·exact (x.yw id (by rw[r.nx];exact hid)).trans (r.at_ id hid)
 ·exact (x.gh.2 k ((r.Ph k hB).2 ⟨o,hk',hc⟩)).trans hk'
end
end Sz

/- A range over a function of two loop variables, the second boxed: the rule. No program is named here. -/
namespace Sz
open Go Go.RowKit
variable {X:World→Prop} {P:Program} {C:Nat→List AV→aa→Option (AV×aa)}
section
variable {φ1:dj} {h1:aa} {W0:World}
end
end Sz

/- A closure over a box of its own that it only reads: what it holds, by value. No program is named here. -/
namespace Sz
open Go
variable {X:World→Prop} {P:Program}
end Sz
