import Derived.Test.YtjmeonoabiliiaaGreatDoorArg
import Derived.RangeFuncBox
import Derived.Shelf.Abstract
import Derived.Test.YtjmeonoabiliiaaGreatDoorSz3
import Derived.Test.YtjmeonoabiliiaaGreatDoorSz2
import Derived.RangeFuncNested
import Derived.RangeFuncBound
import Derived.RangeFuncLeaves
set_option linter.all false
set_option maxHeartbeats 16000000
set_option maxRecDepth 100000
namespace Sz
open Go
section
open Go.RowKit
mutual
def AV.fK:AV->Bool
 |.sl xs=>AV.uh xs
 |.ip cs=>!cs.isEmpty&&AV.ot cs
 |.agg cs=>AV.ot cs
 |.fn _ bC=>AV.ot bC
 |.iface _ v=>v.fK
 |.tuple vs=>AV.ot vs
 |_=>true
def AV.ot:List AV->Bool
 |[]=>true
 |v::r=>v.fK&&AV.ot r
def AV.uh:List AV->Bool
 |[]=>true
 |v::r=>!v.cells.isEmpty&&v.fK&&AV.uh r
end
theorem lY:∀{l:List AV},AV.ot l=true->∀j (h:j<l.length),(l[j]).fK=true
 |v::r,hs,0,_=>by simp only[AV.ot,Bool.and_eq_true] at hs;exact hs.1
 |v::r,hs,j+1,h=>by simp only[AV.ot,Bool.and_eq_true] at hs;exact lY hs.2 j (by simpa using h)
theorem xc:∀{l:List AV},AV.uh l=true->∀j (h:j<l.length),(l[j]).cells≠[]/\(l[j]).fK=true
 |v::r,hs,0,_=>by simp only[AV.uh,Bool.and_eq_true] at hs;exact⟨by simpa using hs.1.1,hs.1.2⟩
 |v::r,hs,j+1,h=>by simp only[AV.uh,Bool.and_eq_true] at hs;exact xc hs.2 j (by simpa using h)
theorem Kb{v:AV}(hs:v.fK=true):∀j (h:j<v.cells.length),(v.cells[j]).fK=true:=by
 intro j h
 cases v with
 |agg cs=>simp only[AV.fK] at hs;exact lY (l:=cs) hs j h
 |_=>
   simp only[AV.cells,List.length_singleton] at h;have:j=0:=by omega
   subst this;simpa[AV.cells] using hs
def mH(w:World)(b:Nat):Prop:=∃o:Obj,w.heap[b]? =some o/\o.isCells=true
theorem mH.Pv{w:World}{b o:Nat}{v:Value}(h:w.cell? ⟨b,o,none⟩=some v):mH w b:=cells_of_cell h
theorem RV.fK{φ:eL}{nx:Nat}{pr:Nat->Prop}{w:World}{v:AV}{cv:Value}(h:RV φ nx pr w v cv):v.fK=true->RV φ nx (λb=>pr b/\mH w b) w v cv:=by
 induction h with
 |undef v=>exact λ_=>.undef v
 |bool b=>exact λ_=>.bool b
 |int k n=>exact λ_=>.int k n
 |str s=>exact λ_=>.str s
 |mV=>exact λ_=>.mV
 |ptr id off h=>exact λ_=>.ptr id off h
 |ip cs b o vs hp wi h1 hc hv ih=>
   intro hs;simp only[AV.fK,Bool.and_eq_true] at hs
   have hn:0<cs.length:=by
    cases cs with
    |nil=>simp at hs
    |cons _ _=>simp
   exact .ip cs b o vs ⟨hp,mH.Pv (hc 0 hn)⟩ wi h1 hc λj hj=>ih j hj (lY hs.2 j hj)
 |aJ a=>exact λ_=>.aJ a
 |slnil a cap=>exact λ_=>.slnil a cap
 |sl xs b o cap sz vs hp mW wi h1 kU hc hv ih=>
   intro hs;have IQ:AV.uh xs=true:=hs;by_cases hn:xs.length=0
   .have:xs=[]:=List.eq_nil_of_length_eq_zero hn;subst this;exact .slnil _ _
   .have h0:0<xs.length:=by omega
    obtain⟨c1,c2⟩:=xc IQ 0 h0
    have nH:0<sz:=by
     have:=kU 0 h0
     cases Oe:(xs[0]).cells? with
     |none=>rw[Oe] at this;cases this
     |some l=>rw[Oe] at this;simp only[Option.map_some,Option.some.injEq] at this;have e:=su Oe;rw[<-e] at this;rw[<-this];exact List.length_pos_iff.2 c1
    refine .sl xs b o cap sz vs ⟨hp,mH.Pv (hc 0 0 h0 nH)⟩ mW wi h1 kU hc λi hi j hj=>ih i hi j hj ?_
    exact Kb (xc IQ i hi).2 j hj
 |vec id off len sz lb cap a h hl hb hr ha=>exact λ_=>.vec id off len sz lb cap a h hl hb hr ha
 |om=>exact λ_=>.om
 |map id h=>exact λ_=>.map id h
 |jv=>exact λ_=>.jv
 |fn f bC fu hl hv ih=>exact λhs=>.fn f bC fu hl λj hj=>ih j hj (lY (by simpa[AV.fK] using hs) j hj)
 |mR=>exact λ_=>.mR
 |iface t v cv hv ih=>exact λhs=>.iface t v cv (ih (by simpa[AV.fK] using hs))
 |agg cs fu hl h1 hv ih=>exact λhs=>.agg cs fu hl h1 λj hj=>ih j hj (lY (by simpa[AV.fK] using hs) j hj)
 |tuple cs fu hl hv ih=>exact λhs=>.tuple cs fu hl λj hj=>ih j hj (lY (by simpa[AV.fK] using hs) j hj)
def Sk(φ:eL)(h:ai)(w:World)(k:Nat)(W:World)(b:Nat):Prop:=Pr φ h w b\/(w.heap.size+k<=b/\mH W b)
abbrev tK(φ:eL)(h:ai)(w:World)(k:Nat)(W:World):AV->Value->Prop:=RV φ h.next (Sk φ h w k W) W
section
variable {φ:eL}{h:ai}{w W W':World}{k:Nat}{v:AV}{cv:Value}
theorem tK.start(hv:fI φ h w v cv)(hB:Below w.heap.size w W):tK φ h w k W v cv:=hv.mono (λ_ _ cG=>⟨rfl,cG⟩) λb hb=>⟨.inl hb,hB.block b hb.1⟩
theorem mH.grown{row:Option Nat}{b:Nat}(hc:mH W b)(hg:W.grownBy W' row)(hr:∀r,row=some r->∃o:Obj,W.heap[r]? =some o/\o.isCells=false):mH W' b/\W'.heap[b]? =W.heap[b]?:=by obtain⟨o,h1,h2⟩:=hc;have e:=grownBy_keeps_cells hg hr h1 h2;exact⟨⟨o,e.trans h1,h2⟩,e⟩
theorem tK.own{row:Option Nat}(hv:tK φ h w k W v cv)(hg:W.grownBy W' row)(hr:∀r,row=some r->w.heap.size<=r/\∃o:Obj,W.heap[r]? =some o/\o.isCells=false)(kU:w.heap.size<=W.heap.size):tK φ h w k W' v cv:=
 hv.mono (λ_ _ cG=>⟨rfl,cG⟩) λb hb=>by
  rcases hb with hb|⟨h1,h2⟩
  .refine⟨.inl hb,hg.block b (Nat.lt_of_lt_of_le hb.1 kU) λe=>?_⟩;have:=(hr b e.symm).1;have:=hb.1;omega
  .obtain⟨g1,g2⟩:=h2.grown hg λr e=>(hr r e).2
   exact⟨.inr ⟨h1,g1⟩,g2⟩
theorem tK.same(hv:tK φ h w k W v cv)(hs:∀b,b<w.heap.size\/w.heap.size+k<=b->b<W.heap.size->W'.heap[b]? =W.heap[b]?)(kU:w.heap.size<=W.heap.size):tK φ h w k W' v cv:=
 hv.mono (λ_ _ cG=>⟨rfl,cG⟩) λb hb=>by
  rcases hb with hb|⟨h1,o,h2,h3⟩
  .exact⟨.inl hb,hs b (.inl hb.1) (Nat.lt_of_lt_of_le hb.1 kU)⟩
  .have e:=hs b (.inr h1) (Array.getElem?_eq_some_iff.1 h2).1;exact⟨.inr ⟨h1,o,e.trans h2,h3⟩,e⟩
theorem tK.below(hv:tK φ h w k W v cv)(hB:Below W.heap.size W W')(kU:w.heap.size<=W.heap.size):tK φ h w k W' v cv:=hv.same (λb _ hb=>hB.block b hb) kU
theorem tK.done(hr:HR φ h w)(kU:w.heap.size<=W.heap.size)(hv:tK φ h w k W v cv):fI φ h W v cv:=
 hv.mono (λ_ _ cG=>⟨rfl,cG⟩) λb hb=>by
  refine⟨?_,rfl⟩;rcases hb with hb|⟨h1,o,h2,h3⟩
  .exact⟨Nat.lt_of_lt_of_le hb.1 kU,hb.2⟩
  .refine⟨(Array.getElem?_eq_some_iff.1 h2).1,λid hl e=>?_,λhg=>?_⟩
   .have:=hr.gJ hl;omega
   .have:=(hr.gh b hg).1;omega
theorem tK.call{P:Program}{X:World->Prop}{f:Nat}{args:List AV}{bu:Array Value}(hp:jA P X f args v)(hv:v.fK=true)(hr:HR φ h w)(hG:jM P X φ h w)(hB:Below w.heap.size w W)(hk:w.heap.size+k<=W.heap.size)
 (ha:bu.size=args.length/\∀j (hj:j<args.length),tK φ h w k W args[j] (bu.getD j default)):
 ((callFunc f bu).run P W=.ok (.enter f bu) W/\Calls P f bu W λe W'=>∃cv,e=.returned cv/\tK φ h w k W' v cv/\Below W.heap.size W W')\/
 ∃cv W',(callFunc f bu).run P W=.ok (.value cv) W'/\tK φ h w k W' v cv/\Below W.heap.size W W':=by
 let φ':eL:=⟨φ.at_,λb=>φ.gh b\/(w.heap.size<=b/\b<W.heap.size/\(b<w.heap.size+k\/¬mH W b))⟩
 have kU:w.heap.size<=W.heap.size:=by omega
 have Xm:∀b,Pr φ h w b->Pr φ' h W b/\W.heap[b]? =w.heap[b]?:=λb hb=>by
  refine⟨⟨Nat.lt_of_lt_of_le hb.1 kU,hb.2.1,λhg=>?_⟩,hB.block b hb.1⟩;rcases hg with hg|⟨hg,_⟩
  .exact hb.2.2 hg
  .have:=hb.1;omega
 have ex:∀b,φ.gh b->W.heap[b]? =w.heap[b]?:=λb hb=>hB.block b (hr.gh b hb).1
 have up:∀{u:AV} {cu:Value},fI φ h w u cu->fI φ' h W u cu:=λhu=>hu.mono (λ_ _ cG=>⟨rfl,cG⟩) Xm
 have Of:HR φ' h W:=by
  refine⟨hr.wf,λid cs hg=>?_,λid es hg=>?_,hr.inj,λb hb=>?_⟩
  .obtain⟨c,el,fr,g1,g2,g3,g4,g5,g6⟩:=hr.rows id cs hg;exact⟨c,el,fr,(hB.block _ (hr.gJ ⟨_,hg,λe=>by cases e⟩)).trans g1,g2,g3,g4,g5,λj hj=>up (g6 j hj)⟩
  .obtain⟨mX,AZ,g1,g2,g3⟩:=hr.maps id es hg;exact⟨mX,AZ,(hB.block _ (hr.gJ ⟨_,hg,λe=>by cases e⟩)).trans g1,g2,λj hj=>⟨up (g3 j hj).1,up (g3 j hj).2⟩⟩
  .rcases hb with hb|⟨h1,h2,_⟩
   .exact⟨Nat.lt_of_lt_of_le (hr.gh b hb).1 kU,(hr.gh b hb).2⟩
   .refine⟨h2,λid hl e=>?_⟩;have:=hr.gJ hl;have e':(φ id).ib=b:=e;omega
 have hG':jM P X φ' h W:=by
  obtain⟨w1,g1,g2⟩:=hG;refine⟨w1,g1,λb hb=>?_⟩;obtain⟨a1,a2,a3⟩:=g2 b hb;refine⟨by omega,?_,(hB.block b a1).trans a3⟩;rcases a2 with a2|a2
  .exact .inl (.inl a2)
  .exact .inr (Xm b a2).1
 have ha':mo φ' h W args bu:=⟨ha.1,λj hj=>(ha.2 j hj).mono (λ_ _ cG=>⟨rfl,cG⟩) λb hb=>by
  refine⟨?_,rfl⟩;rcases hb with hb|⟨h1,h2⟩
  .exact (Xm b hb).1
  .obtain⟨o,h3,h4⟩:=h2;refine⟨(Array.getElem?_eq_some_iff.1 h3).1,λid hl e=>?_,λhg=>?_⟩
   .have:=hr.gJ hl;have e':(φ id).ib=b:=e;omega
   .rcases hg with hg|⟨_,_,hg⟩
    .have:=(hr.gh b hg).1;omega
    .rcases hg with hg|hg
     .omega
     .exact hg ⟨o,h3,h4⟩⟩
 have back:∀{cv:Value} {W':World},uP φ' h W v cv W'->tK φ h w k W' v cv/\Below W.heap.size W W':=λ{cv W'} hp=>by
  obtain⟨g1,_,g3,g4⟩:=hp;refine⟨(RV.fK g1 hv).mono (λ_ _ cG=>⟨rfl,cG⟩) λb hb=>⟨?_,rfl⟩,⟨g3.os,g3.tape,g3.output,g3.size,g4⟩⟩;obtain⟨⟨b1,b2,b3⟩,b4⟩:=hb;by_cases hl:b<w.heap.size
  .exact .inl ⟨hl,b2,λhg=>b3 (.inl hg)⟩
  .refine .inr ⟨?_,b4⟩;by_cases n6:b<w.heap.size+k
   .exact absurd (.inr ⟨by omega,by omega,.inl n6⟩) b3
   .omega
 rcases hp φ' h W bu Of hG' ha' with⟨e1,e2⟩|⟨cv,W',e1,e2⟩
 .refine .inl ⟨e1,e2.mono λe W' he=>?_⟩;obtain⟨cv,rfl,ahB⟩:=he;exact⟨cv,rfl,back ahB⟩
 .exact .inr ⟨cv,W',e1,back e2⟩
end
end
section
open Go.RowKit
variable {X:World->Prop}{P:Program}
theorem HR.move{φ φ':eL}{h:ai}{w w':World}(hr:HR φ h w)(mQ:∀id,id<h.next->φ' id=φ id)
 (pr:∀b,Pr φ h w b->Pr φ' h w' b/\w'.heap[b]? =w.heap[b]?) (lv:∀id,live h id->w'.heap[(φ id).ib]? =w.heap[(φ id).ib]?)
 (gh:∀b,φ'.gh b->b<w'.heap.size/\∀id,live h id->(φ id).ib≠b):HR φ' h w':=by
 have up:∀{v:AV} {cv:Value},fI φ h w v cv->fI φ' h w' v cv:=λhv=>hv.mono (λid _ cG=>⟨mQ id cG,cG⟩) pr
 have lt:∀id,live h id->id<h.next:=λid ⟨o,hg,_⟩=>ai.eK hg
 refine⟨hr.wf,λid cs hg=>?_,λid es hg=>?_,λi j hi hj e=>?_,λb hb=>?_⟩
 .obtain⟨c,el,fr,g1,g2,g3,g4,g5,g6⟩:=hr.rows id cs hg;have e:=mQ id (ai.eK hg);unfold tS;rw[e];exact⟨c,el,fr,(lv id ⟨_,hg,λe=>by cases e⟩).trans g1,g2,g3,g4,g5,λj hj=>up (g6 j hj)⟩
 .obtain⟨mX,AZ,g1,g2,g3⟩:=hr.maps id es hg;have e:=mQ id (ai.eK hg);unfold yt;rw[e];exact⟨mX,AZ,(lv id ⟨_,hg,λe=>by cases e⟩).trans g1,g2,λj hj=>⟨up (g3 j hj).1,up (g3 j hj).2⟩⟩
 .rw[mQ i (lt i hi),mQ j (lt j hj)] at e;exact hr.inj i j hi hj e
 .obtain⟨g1,g2⟩:=gh b hb;exact⟨g1,λid hl=>by rw[mQ id (lt id hl)];exact g2 id hl⟩
structure RI(φ1:eL)(h1:ai)(W0:World)(fr:List AV)(tm:Array Value)(Es:List AV)(ce:Nat->Value)(hk:ai)(φ':eL)(W:World):Prop where
 hr:HR φ' hk W
 fr:FR φ' hk W fr tm
 es:∀j (hj:j<Es.length),fI φ' hk W Es[j] (ce j)
 Mu:∀b,b<W0.heap.size->(φ'.gh b↔φ1.gh b)
 Q8:∀b,W0.heap.size<=b->(φ'.gh b↔∃o:Obj,W.heap[b]? =some o/\o.isCells=false)
 nx:hk.next=h1.next
 at_:∀id,id<h1.next->φ' id=φ1 id
 lv:∀id,live hk id->live h1 id
 os:W.os=W0.os
 tape:W.tape=W0.tape
 output:W.output=W0.output
 size:W0.heap.size<=W.heap.size
 gK:∀b,b<W0.heap.size->(∀id,live h1 id->(φ1 id).ib≠b)->W.heap[b]? =W0.heap[b]?
section
variable {φ1:eL}{h1 hk:ai}{W0 W W':World}{fr:List AV}{tm:Array Value}{Es:List AV}{ce:Nat->Value}{φ':eL}
theorem RI.Nw(mw:HR φ1 h1 W0)(r:RI φ1 h1 W0 fr tm Es ce hk φ' W){id:Nat}(hl:live hk id):φ' id=φ1 id/\(φ1 id).ib<W0.heap.size:=by have zi:=r.lv id hl;obtain⟨o,hg,_⟩:=zi;exact⟨r.at_ id (ai.eK hg),mw.gJ (r.lv id hl)⟩
theorem RI.start(mw:HR φ1 h1 W0)(hf:FR φ1 h1 W0 fr tm)(he:∀j (hj:j<Es.length),fI φ1 h1 W0 Es[j] (ce j)):RI φ1 h1 W0 fr tm Es ce h1 φ1 W0:=⟨mw,hf,he,λ_ _=>.rfl,λb hb=>⟨λh=>by have:=(mw.gh b h).1;omega,λ⟨o,ho,_⟩=>by have:=(Array.getElem?_eq_some_iff.1 ho).1;omega⟩,rfl,λ_ _=>rfl,λ_ h=>h,rfl,rfl,rfl,Nat.le_refl _,λ_ _ _=>rfl⟩
theorem RI.own(mw:HR φ1 h1 W0)(r:RI φ1 h1 W0 fr tm Es ce hk φ' W){row:Option Nat}(hg:W.grownBy W' row)(tj:∀b,row=some b->W0.heap.size<=b/\∃o:Obj,W.heap[b]? =some o/\o.isCells=false):
 ∃φ'',RI φ1 h1 W0 fr tm Es ce hk φ'' W':=by
 have fy:∀b,b<W.heap.size->¬φ'.gh b->W'.heap[b]? =W.heap[b]?:=λb hb hn=>hg.block b hb λe=>by obtain⟨g1,g2⟩:=tj b e.symm;exact hn ((r.Q8 b g1).2 g2)
 have IN:∀b,b<W0.heap.size->W'.heap[b]? =W.heap[b]?:=λb hb=>hg.block b (Nat.lt_of_lt_of_le hb r.size) λe=>by have:=(tj b e.symm).1;omega
 have kU:=hg.size
 let φ'':eL:=⟨φ'.at_,λb=>(b<W0.heap.size/\φ'.gh b)\/(W0.heap.size<=b/\∃o:Obj,W'.heap[b]? =some o/\o.isCells=false)⟩
 have pr:∀b,Pr φ' hk W b->Pr φ'' hk W' b/\W'.heap[b]? =W.heap[b]?:=λb hb=>by
  have e:=fy b hb.1 hb.2.2;refine⟨⟨Nat.lt_of_lt_of_le hb.1 kU,hb.2.1,λCm=>?_⟩,e⟩;rcases Cm with Cm|⟨Cm,ho⟩
  .exact hb.2.2 Cm.2
  .rw[e] at ho;exact hb.2.2 ((r.Q8 b Cm).2 ho)
 have up:∀{v:AV} {cv:Value},fI φ' hk W v cv->fI φ'' hk W' v cv:=λhv=>hv.mono (λid _ cG=>⟨rfl,cG⟩) pr
 refine⟨φ'',r.hr.move (λ_ _=>rfl) pr (λid hl=>?_) (λb hb=>?_),⟨r.fr.1,λt=>up (r.fr.2 t)⟩,λj hj=>up (r.es j hj),λb hb=>?_,λb hb=>?_,r.nx,r.at_,r.lv,hg.os.trans r.os,hg.tape.trans r.tape,hg.output.trans r.output,Nat.le_trans r.size kU,
  λb hb hn=>(IN b hb).trans (r.gK b hb hn)⟩
 .obtain⟨e1,e2⟩:=r.Nw mw hl;rw[e1];exact IN _ e2
 .rcases hb with hb|⟨hb,o,ho,_⟩
  .exact⟨Nat.lt_of_lt_of_le (r.hr.gh b hb.2).1 kU,(r.hr.gh b hb.2).2⟩
  .refine⟨(Array.getElem?_eq_some_iff.1 ho).1,λid hl e=>?_⟩;obtain⟨e1,e2⟩:=r.Nw mw hl;rw[e1] at e;omega
 .refine⟨λh=>?_,λh=>.inl ⟨hb,(r.Mu b hb).2 h⟩⟩;rcases h with h|h
  .exact (r.Mu b hb).1 h.2
  .omega
 .refine⟨λh=>?_,λh=>.inr ⟨hb,h⟩⟩;rcases h with h|h
  .omega
  .exact h.2
theorem RI.done(mw:HR φ1 h1 W0)(r:RI φ1 h1 W0 fr tm Es ce hk φ' W):HR ⟨φ'.at_,φ1.gh⟩ hk W/\FR ⟨φ'.at_,φ1.gh⟩ hk W fr tm/\Ext φ1 h1 W0 ⟨φ'.at_,φ1.gh⟩ hk W:=by
 have pr:∀b,Pr φ' hk W b->Pr ⟨φ'.at_,φ1.gh⟩ hk W b/\W.heap[b]? =W.heap[b]?:=λb hb=>⟨⟨hb.1,hb.2.1,λh=>hb.2.2 ((r.Mu b (mw.gh b h).1).2 h)⟩,rfl⟩
 have up:∀{v:AV} {cv:Value},fI φ' hk W v cv->fI ⟨φ'.at_,φ1.gh⟩ hk W v cv:=λhv=>hv.mono (λid _ cG=>⟨rfl,cG⟩) pr
 have jm:∀b,(∀id,live h1 id->(φ1 id).ib≠b)->∀id,live hk id->(φ' id).ib≠b:=λb hb id hl=>by rw[(r.Nw mw hl).1];exact hb id (r.lv id hl)
 refine⟨r.hr.move (λ_ _=>rfl) pr (λ_ _=>rfl) λb hb=>?_,⟨r.fr.1,λt=>up (r.fr.2 t)⟩,r.os,r.tape,r.output,r.size,by rw[r.nx];exact Nat.le_refl _,λid cG=>r.at_ id cG,λb hb=>?_,rfl,λb hb=>?_⟩
 .obtain⟨g1,g2⟩:=mw.gh b hb;exact⟨Nat.lt_of_lt_of_le g1 r.size,jm b g2⟩
 .exact⟨⟨Nat.lt_of_lt_of_le hb.1 r.size,jm b hb.2.1,hb.2.2⟩,r.gK b hb.1 hb.2.1⟩
 .obtain⟨g1,g2⟩:=mw.gh b hb;exact r.gK b g1 g2
theorem RI.ajf(mw:HR φ1 h1 W0)(hG:jM P X φ1 h1 W0)(r:RI φ1 h1 W0 fr tm Es ce hk φ' W):jM P X φ' hk W:=by
 obtain⟨w1,g1,g2⟩:=hG;refine⟨w1,g1,λb hb=>?_⟩;obtain⟨a1,a2,a3⟩:=g2 b hb
 have a4:∀id,live h1 id->(φ1 id).ib≠b:=by
  rcases a2 with a2|a2
  .exact (mw.gh b a2).2
  .exact a2.2.1
 refine⟨Nat.lt_of_lt_of_le a1 r.size,?_,(r.gK b a1 a4).trans a3⟩;rcases a2 with a2|a2
 .exact .inl ((r.Mu b a1).2 a2)
 .refine .inr ⟨Nat.lt_of_lt_of_le a1 r.size,λid hl=>?_,λh=>a2.2.2 ((r.Mu b a1).1 h)⟩;rw[(r.Nw mw hl).1];exact a4 id (r.lv id hl)
theorem RI.next(mw:HR φ1 h1 W0)(r:RI φ1 h1 W0 fr tm Es ce hk φ' W){φ2:eL}{h2 A2:ai}(hr2:HR φ2 h2 W')(x:Ext φ' hk W φ2 h2 W')(jn:CL hk h2)(hnl:h1.next<=h2.wl)
 (htr:(h2.kz h1.next).iF=A2.iF) (BR:A2.next=h1.next) (dF:∀id,live A2 id->live hk id)
 (hsr:∀id cs,A2.get id=some (.row cs)->∀v∈cs,v.fK=true) (WZ:∀id es,A2.get id=some (.map es)->∀e∈es,e.1.fK=true/\e.2.fK=true):
 (∃φ3,RI φ1 h1 W0 fr tm Es ce A2 φ3 W')/\KeepsFrom W0.heap.size W W'/\∀b,b<W0.heap.size->(∀id,live h1 id->(φ1 id).ib≠b)->W'.heap[b]? =W.heap[b]?:=by
 have cO:h1.next<=h2.next:=by have:=x.next;rw[r.nx] at this;exact this
 obtain⟨t1,t2,t3⟩:=KV hr2 cO (jn.le h1.next (by rw[r.nx];exact Nat.le_refl _) hnl (by rw[<-r.nx];exact λid cG=>r.hr.PO id cG))
 -- the same heap
 obtain⟨t4,_⟩:=t1.yN A2.wl A2.md;have ant:min h2.next h1.next=h1.next:=Nat.min_eq_right cO
 have heq:({h2.kz h1.next with wl:=A2.wl,md:=A2.md}:ai)=A2:=by cases A2;simp only[ai.kz] at htr BR|-;simp only[ai.mk.injEq,and_true];exact⟨by omega,htr⟩
 rw[heq] at t4;have akX:∀id,live A2 id↔live (h2.kz h1.next) id:=λid=>by rw[<-heq];exact .rfl
 have pr2:∀b,Pr φ2 h2 W' b->Pr φ2 A2 W' b:=λb hb=>by obtain⟨p1,p2,p3⟩:=t2 b hb;exact⟨p1,λid hl=>p2 id ((akX id).1 hl),p3⟩
 have Cm:φ2.gh=φ'.gh:=x.gh.1
 have A1:∀b,W0.heap.size<=b->b<W.heap.size->¬φ'.gh b->∃o:Obj,W.heap[b]? =some o/\o.isCells=true:=λb G4 Qi hn=>by
  refine⟨W.heap[b],Array.getElem?_eq_getElem Qi,?_⟩
  cases hc:(W.heap[b]).isCells with
  |true=>rfl
  |false=>exact absurd ((r.Q8 b G4).2 ⟨_,Array.getElem?_eq_getElem Qi,hc⟩) hn
 let φ3:eL:=⟨φ2.at_,λb=>(b<W0.heap.size/\φ2.gh b)\/(W0.heap.size<=b/\∃o:Obj,W'.heap[b]? =some o/\o.isCells=false)⟩
 have lvt:∀id,live A2 id->φ2 id=φ1 id/\(φ1 id).ib<W0.heap.size:=λid hl=>by have BP:=dF id hl;obtain⟨e1,e2⟩:=r.Nw mw BP;obtain⟨o,hg,_⟩:=BP;exact⟨(x.BK id (ai.eK hg)).trans e1,e2⟩
 -- what was held
 have EX:∀{v:AV} {cv:Value},fI φ' hk W v cv->fI φ3 A2 W' v cv:=λhv=>hv.mono (λid _ cG=>⟨x.BK id cG,by rw[BR,<-r.nx];exact cG⟩) λb hb=>by
  obtain⟨q1,q2⟩:=x.pr b hb;obtain⟨p1,p2,p3⟩:=pr2 b q1;refine⟨⟨p1,p2,λh=>?_⟩,q2⟩;rcases h with h|⟨h,o,ho,hc⟩
  .exact p3 h.2
  .rw[q2] at ho;exact hb.2.2 ((r.Q8 b h).2 ⟨o,ho,hc⟩)
 -- what lies in the objects
 have new:∀{v:AV} {cv:Value},v.fK=true->fI φ2 A2 W' v cv->fI φ3 A2 W' v cv:=λhs hv=>(RV.fK hv hs).mono (λid _ cG=>⟨rfl,cG⟩) λb hb=>by
  obtain⟨⟨p1,p2,p3⟩,o,ho,hc⟩:=hb;refine⟨⟨p1,p2,λh=>?_⟩,rfl⟩;rcases h with h|⟨h,o',G5,WW⟩
  .exact p3 h.2
  .rw[ho] at G5;cases G5;rw[hc] at WW;cases WW
 have hr3:HR φ3 A2 W':=by
  refine⟨t4.wf,λid cs hg=>?_,λid es hg=>?_,t4.inj,λb hb=>?_⟩
  .obtain⟨c,el,fz,g1,g2,g3,g4,g5,g6⟩:=t4.rows id cs hg;exact⟨c,el,fz,g1,g2,g3,g4,g5,λj hj=>new (hsr id cs hg _ (List.getElem_mem hj)) (g6 j hj)⟩
  .obtain⟨mX,AZ,g1,g2,g3⟩:=t4.maps id es hg;exact⟨mX,AZ,g1,g2,λj hj=>⟨new (WZ id es hg _ (List.getElem_mem hj)).1 (g3 j hj).1,new (WZ id es hg _ (List.getElem_mem hj)).2 (g3 j hj).2⟩⟩
  .rcases hb with hb|⟨hb,o,ho,_⟩
   .exact t4.gh b hb.2
   .refine⟨(Array.getElem?_eq_some_iff.1 ho).1,λid hl e=>?_⟩;obtain⟨e1,e2⟩:=lvt id hl;have e':(φ2 id).ib=b:=e;rw[e1] at e';omega
 have aba:∀b,b<W0.heap.size->(∀id,live h1 id->(φ1 id).ib≠b)->W'.heap[b]? =W.heap[b]?:=λb hb hn=>by
  by_cases hg:φ'.gh b
  .exact x.gh.2 b hg
  .refine (x.pr b ⟨Nat.lt_of_lt_of_le hb r.size,λid hl=>?_,hg⟩).2;rw[(r.Nw mw hl).1];exact hn id (r.lv id hl)
 refine⟨⟨φ3,hr3,⟨r.fr.1,λt=>EX (r.fr.2 t)⟩,λj hj=>EX (r.es j hj),λb hb=>?_,λb hb=>?_,BR,λid cG=>?_,λid hl=>r.lv id (dF id hl),x.os.trans r.os,x.tape.trans r.tape,x.output.trans r.output,Nat.le_trans r.size x.size,
  λb hb hn=>(aba b hb hn).trans (r.gK b hb hn)⟩,⟨x.size,λk o hB A2 hc=>?_⟩,aba⟩
 .refine⟨λh=>?_,λh=>.inl ⟨hb,by rw[Cm];exact (r.Mu b hb).2 h⟩⟩;rcases h with h|h
  .rw[Cm] at h;exact (r.Mu b hb).1 h.2
  .omega
 .refine⟨λh=>?_,λh=>.inr ⟨hb,h⟩⟩;rcases h with h|h
  .omega
  .exact h.2
 .exact (x.BK id (by rw[r.nx];exact cG)).trans (r.at_ id cG)
 .exact (x.gh.2 k ((r.Q8 k hB).2 ⟨o,A2,hc⟩)).trans A2
end
end
section
open Go.RowKit
variable {X:World->Prop}{P:Program}{C:Nat->List AV->ai->Option (AV×ai)}
def KpR(φ1:eL)(h1:ai)(W0 A B:World):Prop:=∀b,b<W0.heap.size->(∀id,live h1 id->(φ1 id).ib≠b)->B.heap[b]? =A.heap[b]?
theorem agd(p0 p1:Nat)(u v:Value)(tm:Array Value):(#[p0,p1].zip #[u,v]).foldl (λt (p,v)=>t.setIfInBounds p v) tm=(tm.setIfInBounds p0 u).setIfInBounds p1 v:=by simp
theorem aaV{F:Fence}{n:Nat}{ops:Array Oper}{Q:Exit->Act->World->Prop}{a:Act}{w w':World}{rest:List Oper}{o:Oper}{v:Value}{l:Nat}(hF:∀f,F.fn f)(hro:F.round=some l)(hg:o.guard=none)(Fq:∀c,o.op≠.defer c)
 (hr:(execOp a.eval o).run P w=.ok (.value v) w'\/((execOp a.eval o).run P w=.ok .skip w'/\v=undef)) (h:wpListIn F n P ops Q rest (a.put o.dst v) w'):wpListIn F n P ops Q (o::rest) a w:=by
 refine wpListIn_plain hg λK hK=>⟨λf _=>hF f,?_⟩
 rw[hro,Oper.semAt_some l a.eval o Fq];rcases hr with hr|⟨hr,rfl⟩
 .rw[hr,Oper.uponIn_value];exact hK _ _ h
 .rw[hr,Oper.uponIn_skip];exact hK _ _ h
theorem NP{n l:Nat}{ia T d p1:Nat}{o1 o2:Oper}(h1:o1.op=.alloc T/\o1.dst=some d/\o1.guard=none)(h2:o2.op=.store T (.tmp d) (.tmp p1)/\o2.dst=none/\o2.guard=none)
 {i:TypeInfo} {z:Value} (hi:P.info? T=some i) (hz:i.zero=some z) (WM:z.cells.size=i.size) {tm:Array Value} (hd:d<tm.size) (Qe:p1<tm.size) (fy:d≠p1) {cs:Array Value} (hv:tm.getD p1 undef=.agg cs) (oC:cs.size=i.size) (h1c:∀j,(cs.getD j default).oneCell'=true)
 (W:World) {K:Act->World->Prop} (hK:∀W',W.grownBy W' none->(∃c,W'.heap[W.heap.size]? =some (.cells c T)/\c.size=i.size/\∀j,j<i.size->c.getD j default=cs.getD j default)->
  K {tmps:=tm.setIfInBounds d (.pointer (some ⟨W.heap.size,0,none⟩)),defers:=[]} W'):
 (Code.region ia #[o1,o2] false).wpIn (Fence.wide.inRound l) n P (Exit.then K (λ_ _ _=>False)) {tmps:=tm,defers:=[]} W:=by
 obtain⟨iH,h12,h13⟩:=h1;obtain⟨h21,h22,h23⟩:=h2;refine wpIn_region_lit ?_
 have e1:(execOp ({tmps:=tm,defers:=[]}:Act).eval o1).run P W=.ok (.value (.pointer (some ⟨W.heap.size,0,none⟩))) (W.alloc (.cells z.cells T)):=by unfold execOp;simp[iH,Instr.alloc,zeroValue,typeInfo,hi,hz,newVar,newRow]
 refine aaV (λ_=>trivial) rfl h13 (λc hc=>by rw[iH] at hc;cases hc) (.inl e1) ?_;rw[h12]
 obtain⟨w',s1,s2,s3,s4,s5,s6,s7⟩:=mz (P:=P) (b:=W.heap.size) cs.toList z.cells 0 0 (W.alloc (.cells z.cells T)) (el:=T) (fz:=(0,0)) (World.alloc_heap_new W _) (by simp[WM,oC]) (λx _ h=>by omega) (λv hvm=>by
  obtain⟨j,hj,rfl⟩:=List.getElem_of_mem hvm;have:=h1c j;have kP:j<cs.size:=by simpa using hj
  simpa[Array.getD,kP] using this)
 obtain⟨a1,SK⟩:∃a1,(({tmps:=tm,defers:=[]}:Act).put (some d) (.pointer (some ⟨W.heap.size,0,none⟩)))=a1:=⟨_,rfl⟩
 have ahC:a1.tmps=tm.setIfInBounds d (.pointer (some ⟨W.heap.size,0,none⟩)):=by rw[<-SK];rfl
 have anB:a1.defers=[]:=by rw[<-SK];rfl
 have ed:a1.eval (.tmp d)=.pointer (some ⟨W.heap.size,0,none⟩):=by show a1.tmps.getD d undef=_;rw[ahC];simp[Array.getD,hd]
 have ep:a1.eval (.tmp p1)=.agg cs:=by show a1.tmps.getD p1 undef=_;rw[ahC,<-hv];rw[Array.getD_eq_getD_getElem?,Array.getD_eq_getD_getElem?,Array.getElem?_setIfInBounds_ne fy]
 have e2:(execOp a1.eval o2).run P (W.alloc (.cells z.cells T))=.ok .skip w':=by unfold execOp;have hce:(Value.agg cs).cells=cs:=rfl;simp[h21,Instr.storeAt,Instr.sureAddr,ed,ep,storeVar,kV hi,hce,oC,s1]
 rw[SK];refine aaV (λ_=>trivial) rfl h23 (λc hc=>by rw[h21] at hc;cases hc) (.inr ⟨e2,rfl⟩) (wpListIn_nil ?_);rw[h22];have aeh:a1.put none undef={tmps:=tm.setIfInBounds d (.pointer (some ⟨W.heap.size,0,none⟩)),defers:=[]}:=by rw[<-SK];rfl
 rw[aeh]
 have cR:∀k,k<W.heap.size->w'.heap[k]? =W.heap[k]?:=λk hk=>by rw[s4 k (by omega)];exact Below.heap_alloc W _ k hk
 refine hK w' ⟨s5,s6,s7,?_,λk hk _=>cR k hk⟩ ⟨_,s2,by rw[mq];exact WM,λj hj=>?_⟩
 .rw[s3];simp
 .rw[nG _ _ _ _ (by simp[WM,oC]),if_pos (by simp[oC,hj])];have:j<cs.size:=by omega
  simp[List.getD,Array.getD,this]
section
variable {φ1:eL}{h1:ai}{W0:World}
theorem Hg(hC:qw P X C)(BC:pw C)(hm:P.follows .mixedOrders=true){n m:Nat}(hn:1<=n){g:Operand}{ia T d p0 p1:Nat}{o1 o2:Oper}{body:Code}{acB:bW}{Q:Exit->Act->World->Prop}{a:Act}{fr:List AV}
 (mw:HR φ1 h1 W0) (hG:jM P X φ1 h1 W0) (hf:FR φ1 h1 W0 fr a.tmps)
 {gf:Nat} {lb:Array Value} (hg:a.eval g=.func (.func gf) #[] lb) (eg:∀args w,(callFunc gf args).run P w=.ok (.enter gf args) w)
 (a1:o1.op=.alloc T/\o1.dst=some d/\o1.guard=none) (a2:o2.op=.store T (.tmp d) (.tmp p1)/\o2.dst=none/\o2.guard=none)
 {i:TypeInfo} {z:Value} (hi:P.info? T=some i) (hz:i.zero=some z) (WM:z.cells.size=i.size) (hd:d<fr.length) (hp0:p0<fr.length) (Qe:p1<fr.length) (fy:d≠p1)
 {Es:List AV} {vs:Nat->Array Value} (hEs:∀j (hj:j<Es.length),fI φ1 h1 W0 Es[j] (.agg (vs j))) (hEa:∀v∈Es,∃cs,v=.agg cs/\cs.length=i.size/\AV.aw cs=0)
 {S:List (Fin Es.length)->Prop} (akZ:SeqStopsK Fence.wide (n-1) P gf lb (λx:Fin Es.length=>#[.int .i64 (x.1:Int),.agg (vs x.1)]) (KpR φ1 h1 W0) S (λ_=>True) Es.length W0)
 (hcb:dT P body=some acB.strip) (H:List (Fin Es.length)->ai) (hH0:H []=h1) (hHn:∀pre,(H pre).next=h1.next)
 (WR:∀pre (x:Fin Es.length),∃fr2 h2,aH C m acB (((fr.set p0 (.int .i64 (x.1:Int))).set p1 Es[x.1]).set d (.ip (Es[x.1]).cells)) (H pre)=some (.normal,fr2,h2)/\h1.next<=h2.wl/\
  (h2.kz h1.next).iF=(H (pre++[x])).iF/\(∀id,live (H (pre++[x])) id->live (H pre) id)/\(∀id cs,(H (pre++[x])).get id=some (.row cs)->∀v∈cs,v.fK=true)/\
  ∀id es,(H (pre++[x])).get id=some (.map es)->∀e∈es,e.1.fK=true/\e.2.fK=true)
 (ahD:∀(D:Nat) (xs:List (Fin Es.length)) (W:World) (φ':eL),W0.heap.size<=D->S xs->FR φ' (H xs) W fr a.tmps->HR φ' (H xs) W->Ext φ1 h1 W0 φ' (H xs) W->W.heap[D]? =some (.deferred (some []))->
  Q .normal {a with defers:={target:=.collected D,args:=#[]}::a.defers} W):
 (Code.rangeFunc g #[p0,p1] (.region ia #[o1,o2] false) body).wpIn Fence.wide n P Q a W0:=by
 have hts:a.tmps.size=fr.length:=hf.1
 have aaf:∀j,j<Es.length->(vs j).size=i.size/\∀k,((vs j).getD k default).oneCell'=true:=λj hj=>by obtain⟨cs,oC,jn,_⟩:=hEa _ (List.getElem_mem hj);have:=hEs j hj;rw[oC] at this;obtain⟨fu,e,g1,g2,_⟩:=this.pL;cases e;exact⟨by omega,g2⟩
 refine wpIn_rangeFunc_ownH (α:=Fin Es.length) (w0:=W0) rfl hn hg trivial eg akZ (λ{A B C} h k b hb hn=>(k b hb hn).trans (h b hb hn)) (λW l o o' hl ho hc _ b hb _=>World.putObj_heap_other (by omega)) (Below.refl _ _) (λ_=>rfl)
  (λpre W=>∃φ',RI φ1 h1 W0 fr a.tmps Es (λj=>.agg (vs j)) (H pre) φ' W) (λ_ _ _=>False)
  (λs A B row hs EY hr=>by obtain⟨φ',r⟩:=hs;exact r.own mw EY hr) (λ_ _ _ _ _ hs _ _=>hs.elim) ⟨φ1,by rw[hH0];exact RI.start mw hf hEs⟩
  (λx a' W=>∃(B:Nat) (c:Array Value),W0.heap.size<=B/\W.heap[B]? =some (.cells c T)/\c.size=i.size/\(∀j,j<i.size->c.getD j default=(vs x.1).getD j default)/\
   a'={tmps:=((a.tmps.setIfInBounds p0 (.int .i64 (x.1:Int))).setIfInBounds p1 (.agg (vs x.1))).setIfInBounds d (.pointer (some ⟨B,0,none⟩)),defers:=[]})
  (λx a' s A B row hs EY hr=>by
   obtain⟨Bx,c,b1,b2,b3,b4,b5⟩:=hs;refine⟨Bx,c,b1,?_,b3,b4,b5⟩;rw[EY.block Bx (Array.getElem?_eq_some_iff.1 b2).1 λe=>?_]
   .exact b2
   .obtain⟨_,o,ho,hc⟩:=hr Bx e.symm;rw[b2] at ho;cases ho;cases hc)
  ?assign ?body ?done ?stop
 case assign=>
  intro l pre x W K ⟨φ',r⟩ hK;have hx:=aaf x.1 x.2;refine NP a1 a2 hi hz WM (cs:=vs x.1) (by simp;omega) (by simp;omega) fy ?_ hx.1 hx.2 W λW' EY ⟨c,c1,c2,c3⟩=>?_
  .show (((#[p0,p1].zip #[.int .i64 (x.1:Int),.agg (vs x.1)]).foldl (λt (p,v)=>t.setIfInBounds p v) a.tmps)).getD p1 undef=_;have:p1<(a.tmps.setIfInBounds p0 (.int .i64 (x.1:Int))).size:=by simp;omega
   have e:=agd p0 p1 (.int .i64 (x.1:Int)) (.agg (vs x.1)) a.tmps;rw[e,Array.getD_eq_getD_getElem?,Array.getElem?_setIfInBounds_self_of_lt this];rfl
  .obtain⟨φ'',r'⟩:=r.own mw EY (λb e=>by cases e);exact hK _ W' ⟨EY.size,λk o _ hk _=>(EY.block k (Array.getElem?_eq_some_iff.1 hk).1 (by simp)).trans hk⟩ (λb hb _=>EY.block b (Nat.lt_of_lt_of_le hb r.size) (by simp)) ⟨φ'',r'⟩ ⟨W.heap.size,c,r.size,c1,c2,c3,congrArg (λt=>({tmps:=t.setIfInBounds d (.pointer (some ⟨W.heap.size,0,none⟩)),defers:=[]}:Act)) (agd p0 p1 _ _ _)⟩
 case body=>
  rintro l pre x a' W - - ⟨φ',r⟩ ⟨B,c,b1,b2,b3,b4,rfl⟩ -;obtain⟨fr2,h2,s1,s2,s3,s4,s5,s6⟩:=WR pre x;have hx:=aaf x.1 x.2;obtain⟨cs,oC,jn,BD⟩:=hEa _ (List.getElem_mem x.2);have hex:=r.es x.1 x.2
  have ak0:FR φ' (H pre) W (((fr.set p0 (.int .i64 (x.1:Int))).set p1 Es[x.1]).set d (.ip (Es[x.1]).cells)) (((a.tmps.setIfInBounds p0 (.int .i64 (x.1:Int))).setIfInBounds p1 (.agg (vs x.1))).setIfInBounds d (.pointer (some ⟨B,0,none⟩))):=by
   refine ((r.fr.put (RV.int _ _) p0).put hex p1).put ?_ d;have hce:(Es[x.1]).cells=cs:=by rw[oC];rfl
   rw[hce];rw[oC] at hex;obtain⟨fu,e,g1,g2,g3⟩:=hex.pL;cases e;refine .ip cs B 0 (λj=>(vs x.1).getD j default) ⟨(Array.getElem?_eq_some_iff.1 b2).1,λid hl e=>?_,λCm=>?_⟩ BD hx.2 (λj hj=>?_) λj hj=>g3 j hj
   .obtain⟨e1,e2⟩:=r.Nw mw hl;rw[e1] at e;omega
   .obtain⟨o,ho,hc⟩:=(r.Q8 B b1).1 Cm;rw[b2] at ho;cases ho;cases hc
   .have hjc:j<c.size:=by omega
    have:=b4 j (by omega);unfold World.cell?;simp only[b2,Nat.zero_add];rw[Array.getElem?_eq_getElem hjc];have e:c.getD j default=c[j]:=by simp[Array.getD,hjc]
    rw[<-e,this];rfl
  refine iC (l0:=some l) hC BC hm m body acB hcb s1 ak0 r.hr (r.ajf mw hG) λφ2 a2' w2 f2 r2 x2 _=>?_
  obtain⟨n1,n2,n3⟩:=r.next mw r2 x2 ((yx BC s1) r.hr.wf).1 s2 s3 (hHn _) s4 s5 s6
  exact⟨n2,n3,n1⟩
 case done=>rintro D xs W hD hS ⟨φ',r⟩ hK;obtain⟨d1,d2,d3⟩:=r.done mw;exact ahD D xs W _ hD hS d2 d1 d3 hK
 case stop=>rintro D c pre W _ _ h _;exact h.elim
end
end
section
variable {X:World->Prop}{P:Program}
theorem adN{φ:eL}{h:ai}{w:World}(hr:HR φ h w){id:Nat}{cs:List AV}(hg:h.get id=some (.row cs))(wi:AV.aw cs=0){cv:Value}(hv:fI φ h w (.ptr id 0) cv):
 fI φ (kill h [id]) w (.ip cs) cv:=by
 obtain⟨c,el,fz,g1,g2,g3,g4,g5,g6⟩:=hr.rows id cs hg;have hl:live h id:=⟨_,hg,λe=>by cases e⟩
 obtain⟨k1,k2⟩:=PT [id] hr
 cases hv with
 |ptr _ _ cG=>
   refine .ip cs (φ id).ib ((φ id).base+0) (λj=>if j<cs.length then c.getD ((φ id).base+j) default else default) ?_ wi (λj=>?_) (λj hj=>?_) λj hj=>?_
   .exact Pr.Ht (hr.gJ hl) (λi hi e=>(by rw[hr.inj i id hi hl e];simp)) λCm=>(hr.gh _ Cm).2 id hl rfl
   .split
    .exact g5 j (by omega)
    .rfl
   .have hjc:(φ id).base+0+j<c.size:=by omega
    unfold World.cell?;simp only[g1];rw[Array.getElem?_eq_getElem hjc];simp only[Nat.add_zero] at hjc|-;simp[hj,Array.getD,hjc]
   .rw[if_pos hj];exact (g6 j hj).mono (λi hi _=>by have:=AV.dk (List.getElem_mem hj);omega) λb hb=>⟨(k2.pr b hb).1,rfl⟩
theorem Lj{E:Env}(hE:cT P X E){n f g:Nat}{args:List AV}{cs:List AV}{wl md:Nat}(he:aF E n f args h0=some (.fn g [.ptr 0 0],⟨1,[.row cs],wl,md⟩))(oC:AV.aw cs=0)(ha:AV.aw args=0):
 jA P X f args (.fn g [.ip cs]):=by
 have conv:∀(φ:eL) (w:World) (φ':eL) (cv:Value) (w':World),fI φ' ⟨1,[.row cs],wl,md⟩ w' (.fn g [.ptr 0 0]) cv->HR φ' ⟨1,[.row cs],wl,md⟩ w'->Ext φ h0 w φ' ⟨1,[.row cs],wl,md⟩ w'->
  fI φ' (kill ⟨1,[.row cs],wl,md⟩ [0]) w' (.fn g [.ip cs]) cv/\HR φ' (kill ⟨1,[.row cs],wl,md⟩ [0]) w'/\Ext φ h0 w φ' (kill ⟨1,[.row cs],wl,md⟩ [0]) w':=λφ w φ' cv w' g1 g2 g3=>by
  obtain⟨k1,k2⟩:=PT [0] g2;obtain⟨fu,rfl,q2,q3⟩:=g1.Hc;refine⟨.fn _ _ _ q2 λj hj=>?_,k1,g3.trans k2⟩;have Z2:j=0:=by simp at hj;omega
  subst Z2;exact adN g2 rfl oC (q3 0 (by simp))
 refine vE (h':=kill ⟨1,[.row cs],wl,md⟩ [0]) (by simp[AV.aK,AV.aw]) ha λφ w bu hr hG nX=>?_
 rcases (yk hE n).1 f args h0 _ _ he φ w bu hr hG nX with⟨e1,e2⟩|⟨cv,w',φ',e1,e2,e3,e4⟩
 .refine .inl ⟨e1,e2.mono λe w' he=>?_⟩;obtain⟨φ',cv,rfl,g1,g2,g3⟩:=he;obtain⟨r1,r2,r3⟩:=conv φ w φ' cv w' g1 g2 g3;exact⟨φ',cv,rfl,r1,r2,r3⟩
 .obtain⟨r1,r2,r3⟩:=conv φ w φ' cv w' e2 e3 e4;exact .inr ⟨cv,w',φ',e1,r1,r2,r3⟩
theorem NU{φ:eL}{h:ai}{w:World}{args:List AV}{bu:Array Value}(ha:mo φ h w args bu)(n:Nat)(hle:args.length<=n):
 FR φ h w (FM n (ya 0 args)) (bu++Array.replicate (n-bu.size) undef):=by
 rw[<-Is args hle];refine⟨by simp[ha.1],λt=>?_⟩;by_cases ht:t<args.length
 .have:=ha.2 t ht;rw[List.getD_eq_getElem?_getD,List.getElem?_append_left ht,List.getElem?_eq_getElem ht,Option.getD_some];have Xr:t<bu.size:=by rw[ha.1];exact ht
  rw[Array.getD_eq_getD_getElem?] at this|-;rw[Array.getElem?_append_left Xr];rw[Array.getElem?_eq_getElem Xr] at this|-;exact this
 .rw[List.getD_eq_getElem?_getD,List.getElem?_append_right (by omega)]
  have:((List.replicate (n-args.length) AV.undef)[t-args.length]?).getD .undef=.undef:=by rw[List.getElem?_replicate];split<;>rfl
  rw[this];exact .undef _
theorem Yy{F:Fence}{n:Nat}{φ0 φ:eL}{g0 h:ai}{w0 W:World}{fn:Func}{rs:List KE}{fr:List AV}{tm:Array Value}{v:AV}{D:Nat}(ZF:HR φ0 g0 w0)(ES:eV (vw P) fn.results.toList=some rs)(hf:FR φ h W fr tm)(hr:HR φ h W)
 (hx:Ext φ0 g0 w0 φ h W) (hD:W.heap[D]? =some (.deferred (some []))) (hDw:w0.heap.size<=D) (hsr:∀id cs,h.get id=some (.row cs)->∀v∈cs,v.fK=true) (WZ:∀id es,h.get id=some (.map es)->∀e∈es,e.1.fK=true/\e.2.fK=true)
 (hsf:∀t,(fr.getD t .undef).fK=true) (LX:jj fr h rs=some [v]):
 LeavesInM F n P fn tm (ly φ0 g0 w0 v h) [{target:=.collected D,args:=#[]}] .returning W:=by
 have hDl:D<W.heap.size:=(Array.getElem?_eq_some_iff.1 hD).1;have W4:∀b,b≠D->(W.putObj D (.deferred none)).heap[b]? =W.heap[b]?:=λb hb=>World.putObj_heap_other hb
 have kU:(W.putObj D (.deferred none)).heap.size=W.heap.size:=by simp[World.putObj]
 have jn:∀b,mH W b->b≠D:=λb ⟨o,ho,hc⟩ e=>by subst e;rw[hD] at ho;cases ho;cases hc
 have up:∀{u:AV} {cu:Value},u.fK=true->fI φ h W u cu->fI φ h (W.putObj D (.deferred none)) u cu:=λhs hv=>(RV.fK hv hs).mono (λid _ cG=>⟨rfl,cG⟩) λb hb=>⟨⟨by rw[kU];exact hb.1.1,hb.1.2⟩,W4 b (jn b hb.2)⟩
 have dF:∀id,live h id->(φ id).ib≠D:=λid hl e=>by
  obtain⟨o,hg,hd⟩:=hl
  cases o with
  |row cs=>obtain⟨c,el,fz,g1,_⟩:=hr.rows id cs hg;rw[e,hD] at g1;cases g1
  |map es=>obtain⟨mX,AZ,g1,_⟩:=hr.maps id es hg;rw[e,hD] at g1;cases g1
  |dead=>exact hd rfl
 have Of:HR φ h (W.putObj D (.deferred none)):=by
  refine⟨hr.wf,λid cs hg=>?_,λid es hg=>?_,hr.inj,λb hb=>⟨by rw[kU];exact (hr.gh b hb).1,(hr.gh b hb).2⟩⟩
  .obtain⟨c,el,fz,g1,g2,g3,g4,g5,g6⟩:=hr.rows id cs hg;exact⟨c,el,fz,(W4 _ (dF id ⟨_,hg,λe=>by cases e⟩)).trans g1,g2,g3,g4,g5,λj hj=>up (hsr id cs hg _ (List.getElem_mem hj)) (g6 j hj)⟩
  .obtain⟨mX,AZ,g1,g2,g3⟩:=hr.maps id es hg;exact⟨mX,AZ,(W4 _ (dF id ⟨_,hg,λe=>by cases e⟩)).trans g1,g2,λj hj=>⟨up (WZ id es hg _ (List.getElem_mem hj)).1 (g3 j hj).1,up (WZ id es hg _ (List.getElem_mem hj)).2 (g3 j hj).2⟩⟩
 have hf':FR φ h (W.putObj D (.deferred none)) fr tm:=⟨hf.1,λt=>up (hsf t) (hf.2 t)⟩
 have Ob:Ext φ0 g0 w0 φ h (W.putObj D (.deferred none)):=by
  refine⟨hx.os,hx.tape,hx.output,by rw[kU];exact hx.size,hx.next,hx.BK,λb hb=>?_,hx.gh.1,λb hb=>?_⟩
  .obtain⟨p1,p2⟩:=hx.pr b hb;exact⟨⟨by rw[kU];exact p1.1,p1.2⟩,(W4 b (by have:=hb.1;omega)).trans p2⟩
  .exact (W4 b (by have:=(ZF.gh b hb).1;omega)).trans (hx.gh.2 b hb)
 obtain⟨fu,g1,g2,g3⟩:=MG (P:=P) hf' Of fn.results.toList rs [v] ES LX;refine⟨by simp,.inl ⟨D,_,rfl,run_takeDeferred hD,?_⟩⟩
 have hm:(fn.results.mapM (J6 tm)).run P (W.putObj D (.deferred none))=.ok fu.toArray (W.putObj D (.deferred none)):=by rw[Array.mapM_eq_mapM_toList];simp only[Sem.run_map,g1,Result.andThen_ok]
 match fu,g2,g3,hm with
 |[c1],_,g3,hm=>refine⟨c1,?_,φ,c1,rfl,g3 0 (by simp) (by simp),Of,Ob⟩;rw[xw];simp only[Sem.run_bind,hm,Result.andThen_ok,Sem.run_pure];rfl
end
end Sz
