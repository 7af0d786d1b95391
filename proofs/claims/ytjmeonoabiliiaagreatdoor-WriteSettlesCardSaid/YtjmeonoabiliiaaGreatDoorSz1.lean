import Derived.Calls
import GoSem.Claims
import Derived.Laws.World
import Derived.Laws.Sem
import GoSem.Dispatch
import GoSem.Core.Region
import Derived.Laws.Append
import Derived.Laws.Tables
import Derived.Laws.Strings
import Derived.Laws.StructEq
import Derived.Laws.Slices
set_option linter.all false
set_option maxHeartbeats 16000000
set_option maxRecDepth 100000
namespace Sz
open Go
section
variable {X:World->Prop}
inductive AV where
 |undef
 |bool (b:Bool)
 |int (k:IntKind) (n:Int)
 |str (s:List UInt8)
 |mO
 |ptr (id off:Nat)
 |ip (cs:List AV)
 |aD
 |sl (xs:List AV)
 |vec (id off len sz lb:Nat)
 |jV
 |map (id:Nat)
 |iU
 |fn (f:Nat) (aN:List AV)
 |mM
 |iface (t:Nat) (v:AV)
 |agg (cs:List AV)
 |tuple (vs:List AV)
 deriving Inhabited
def AV.cells:AV->List AV
 |.agg cs=>cs
 |v=>[v]
def AV.cells?:AV->Option (List AV)
 |.agg cs=>some cs
 |.undef=>none
 |.tuple _=>none
 |v=>some [v]
mutual
def AV.aK:AV->Nat
 |.ptr id _=>id+1
 |.vec id _ _ _ _=>id+1
 |.map id=>id+1
 |.fn _ aN=>AV.aj aN
 |.iface _ v=>v.aK
 |.agg cs=>AV.aj cs
 |.tuple vs=>AV.aj vs
 |_=>0
def AV.aj:List AV->Nat
 |[]=>0
 |v::r=>max v.aK (AV.aj r)
end
theorem AV.cM{v:AV}{l:List AV}(h:v∈l):v.aK<=AV.aj l:=by
 induction l with
 |nil=>cases h
 |cons x r ih=>
   simp only[AV.aj]
   cases h with
   |head=>omega
   |tail _ h=>have:=ih h;omega
theorem AV.j5{l:List AV}{n:Nat}(h:∀v∈l,v.aK<=n):AV.aj l<=n:=by
 induction l with
 |nil=>simp[AV.aj]
 |cons x r ih=>
   simp only[AV.aj];have h1:=h x (by simp);have h2:=ih λv hv=>h v (by simp[hv])
   omega
inductive aS where
 |row (cs:List AV)
 |map (es:List (AV×AV))
 |dead
 deriving Inhabited
structure af where
 next:Nat
 gS:List aS
 wl:Nat
 md:Nat
def af.get(h:af)(id:Nat):Option aS:=if id<h.next then h.gS[h.next-1-id]? else none
def af.set(h:af)(id:Nat)(o:aS):af:=if id<h.next then {h with gS:=h.gS.set (h.next-1-id) o,md:=min h.md id} else h
def af.alloc(h:af)(o:aS):af:={h with next:=h.next+1,gS:=o::h.gS}
def af.mark(h:af)(id:Nat)(v:AV):af:=if id+1<v.aK then {h with wl:=min h.wl id} else h
def af.jT(h:af)(n:Nat):af:={h with next:=min h.next n,gS:=h.gS.drop (h.next-n)}
def af.wf(h:af):Prop:=h.gS.length=h.next
section heap
variable {h:af}{id XI n:Nat}{o o':aS}
@[simp] theorem af.lM:(h.alloc o).next=h.next+1:=rfl
@[simp] theorem af.Xo:(h.set id o).next=h.next:=by unfold af.set;split<;>rfl
@[simp] theorem af.aeZ{v:AV}:(h.mark id v).next=h.next:=by unfold af.mark;split<;>rfl
@[simp] theorem af.lh{v:AV}:(h.mark id v).get XI=h.get XI:=by unfold af.mark;split<;>rfl
@[simp] theorem af.agG:(h.alloc o).wl=h.wl:=rfl
@[simp] theorem af.ajO:(h.set id o).wl=h.wl:=by unfold af.set;split<;>rfl
theorem af.eY:(h.alloc o).get h.next=some o:=by simp[af.get,af.alloc]
theorem af.dm(bZ:id<h.next):(h.alloc o).get id=h.get id:=by unfold af.get af.alloc;simp only[bZ,if_true,show id<h.next+1 by omega];rw[show h.next+1-1-id=(h.next-1-id)+1 by omega,List.getElem?_cons_succ]
theorem af.dO(hg:h.get id=some o):id<h.next:=by
 unfold af.get at hg;split at hg
 .assumption
 .cases hg
theorem af.get_set_same(hg:h.get id=some o'):(h.set id o).get id=some o:=by have hl:=af.dO hg;unfold af.get at hg|-;unfold af.set;simp only[hl,if_true] at hg|-;have:=(List.getElem?_eq_some_iff.1 hg).1;simp[this]
theorem af.get_set_other(fB:id≠XI):(h.set id o).get XI=h.get XI:=by
 unfold af.set;split
 .unfold af.get;dsimp only;split
  .rw[List.getElem?_set_ne (by omega)]
  .rfl
 .rfl
theorem af.rH(bZ:id<n):(h.jT n).get id=h.get id:=by
 unfold af.jT af.get;dsimp only;by_cases hl:id<h.next
 .rw[if_pos (by omega),if_pos hl,List.getElem?_drop];congr 1;omega
 .rw[if_neg (by omega),if_neg hl]
@[simp] theorem af.xN:(h.jT n).next=min h.next n:=rfl
end heap
structure PE where
 gm:Nat
 base:Nat
 room:Nat
 deriving Inhabited
structure eh where
 at_:Nat->PE
 gh:Nat->Prop
instance:CoeFun eh (λ_=>Nat->PE):=⟨eh.at_⟩
inductive RV (φ:eh) (nx:Nat) (pr:Nat->Prop) (w:World):AV->Value->Prop where
 |undef (v:Value):RV φ nx pr w .undef v
 |bool (b:Bool):RV φ nx pr w (.bool b) (.bool b)
 |int (k:IntKind) (n:Int):RV φ nx pr w (.int k n) (.int k n)
 |str (s:ByteArray):RV φ nx pr w (.str s.data.toList) (.string s)
 |mO:RV φ nx pr w .mO (.pointer none)
 |ptr (id off:Nat) (h:id<nx):RV φ nx pr w (.ptr id off) (.pointer (some ⟨(φ id).gm,(φ id).base+off,none⟩))
 |ip (cs:List AV) (b o:Nat) (vs:Nat->Value) (hp:pr b) (wI:AV.aj cs=0) (h1:∀j,(vs j).oneCell'=true)
  (hc:∀j,j<cs.length->w.cell? ⟨b,o+j,none⟩=some (vs j)) (hv:∀j (h:j<cs.length),RV φ nx pr w cs[j] (vs j)):
  RV φ nx pr w (.ip cs) (.pointer (some ⟨b,o,none⟩))
 |aD (a:Option Addr):RV φ nx pr w .aD (.slice a 0 0)
 |slnil (a:Option Addr) (cap:Nat):RV φ nx pr w (.sl []) (.slice a 0 cap)
 |sl (xs:List AV) (b o cap sz:Nat) (vs:Nat->Nat->Value) (hp:pr b) (kh:xs.length<=cap) (wI:AV.aj xs=0) (h1:∀i j,(vs i j).oneCell'=true)
  (iz:∀i (h:i<xs.length),(xs[i]).cells?.map List.length=some sz)
  (hc:∀i j,i<xs.length->j<sz->w.cell? ⟨b,o+i*sz+j,none⟩=some (vs i j))
  (hv:∀i (h:i<xs.length) j (h':j<(xs[i]).cells.length),RV φ nx pr w ((xs[i]).cells[j]) (vs i j)):
  RV φ nx pr w (.sl xs) (.slice (some ⟨b,o,none⟩) xs.length cap)
 |vec (id off len sz lb cap:Nat) (a:Option Addr) (h:id<nx) (hl:len<=cap) (hb:lb<=cap) (hr:off+cap*sz<=(φ id).room)
  (ha:0<cap->a=some ⟨(φ id).gm,(φ id).base+off,none⟩):RV φ nx pr w (.vec id off len sz lb) (.slice a len cap)
 |jV:RV φ nx pr w .jV (.map none)
 |map (id:Nat) (h:id<nx):RV φ nx pr w (.map id) (.map (some (φ id).gm))
 |iU:RV φ nx pr w .iU .nilFunc
 |fn (f:Nat) (aN:List AV) (eW:Array Value) (hl:eW.size=aN.length) (hv:∀j (h:j<aN.length),RV φ nx pr w aN[j] (eW.getD j default)):
  RV φ nx pr w (.fn f aN) (.func (.func f) #[] eW)
 |mM:RV φ nx pr w .mM .nilIface
 |iface (t:Nat) (v:AV) (cv:Value) (hv:RV φ nx pr w v cv):RV φ nx pr w (.iface t v) (.iface t cv)
 |agg (cs:List AV) (eW:Array Value) (hl:eW.size=cs.length) (h1:∀j,(eW.getD j default).oneCell'=true) (hv:∀j (h:j<cs.length),RV φ nx pr w cs[j] (eW.getD j default)):
  RV φ nx pr w (.agg cs) (.agg eW)
 |tuple (vs:List AV) (eW:Array Value) (hl:eW.size=vs.length) (hv:∀j (h:j<vs.length),RV φ nx pr w vs[j] (eW.getD j default)):
  RV φ nx pr w (.tuple vs) (.tuple eW)
theorem cell?_of_block{w w':World}{b:Nat}(h:w'.heap[b]? =w.heap[b]?)(o:Nat):w'.cell? ⟨b,o,none⟩=w.cell? ⟨b,o,none⟩:=by unfold World.cell?;simp only[h]
theorem RV.mono{φ φ':eh}{nx OX:Nat}{pr An:Nat->Prop}{w w':World}{v:AV}{cv:Value}(h:RV φ nx pr w v cv)
 (hφ:∀id,id<v.aK->id<nx->φ' id=φ id/\id<OX) (jI:∀b,pr b->An b/\w'.heap[b]? =w.heap[b]?):RV φ' OX An w' v cv:=by
 induction h with
 |undef v=>exact .undef v
 |bool b=>exact .bool b
 |int k n=>exact .int k n
 |str s=>exact .str s
 |mO=>exact .mO
 |ptr id off h=>obtain⟨e,hl⟩:=hφ id (by simp[AV.aK]) h;rw[<-e];exact .ptr id off hl
 |ip cs b o vs hp wI h1 hc hv ih=>
   obtain⟨hp',hb⟩:=jI b hp;refine .ip cs b o vs hp' wI h1 (λj hj=>(cell?_of_block hb _).trans (hc j hj)) λj hj=>ih j hj λid bZ=>?_
   have:=AV.cM (List.getElem_mem hj);omega
 |aD a=>exact .aD a
 |slnil a cap=>exact .slnil a cap
 |sl xs b o cap sz vs hp kh wI h1 iz hc hv ih=>
   obtain⟨hp',hb⟩:=jI b hp;refine .sl xs b o cap sz vs hp' kh wI h1 iz (λi j hi hj=>(cell?_of_block hb _).trans (hc i j hi hj)) λi hi j hj=>ih i hi j hj λid bZ=>?_
   have h0:=AV.cM (List.getElem_mem hi);have h2:=AV.cM (List.getElem_mem hj)
   have h3:AV.aj (xs[i]).cells<=(xs[i]).aK:=by cases xs[i]<;>simp[AV.cells,AV.aK,AV.aj]
   omega
 |vec id off len sz lb cap a h hl hb hr ha=>obtain⟨e,qR⟩:=hφ id (by simp[AV.aK]) h;rw[<-e] at hr ha;exact .vec id off len sz lb cap a qR hl hb hr ha
 |jV=>exact .jV
 |map id h=>obtain⟨e,hl⟩:=hφ id (by simp[AV.aK]) h;rw[<-e];exact .map id hl
 |iU=>exact .iU
 |fn f aN eW hl hv ih=>
   refine .fn f aN eW hl λj hj=>ih j hj λid bZ=>hφ id ?_
   have:=AV.cM (List.getElem_mem hj);simp only[AV.aK];omega
 |mM=>exact .mM
 |iface t v cv hv ih=>exact .iface t v cv (ih λid bZ=>hφ id (by simpa[AV.aK] using bZ))
 |agg cs eW hl h1 hv ih=>
   refine .agg cs eW hl h1 λj hj=>ih j hj λid bZ=>hφ id ?_
   have:=AV.cM (List.getElem_mem hj);simp only[AV.aK];omega
 |tuple cs eW hl hv ih=>
   refine .tuple cs eW hl λj hj=>ih j hj λid bZ=>hφ id ?_
   have:=AV.cM (List.getElem_mem hj);simp only[AV.aK];omega
theorem RV.CS{φ:eh}{nx:Nat}{pr:Nat->Prop}{w:World}{v:AV}{cv:Value}(h:RV φ nx pr w v cv):v.aK<=nx:=by
 induction h with
 |ptr id off h=>simp only[AV.aK];omega
 |vec id off len sz lb cap a h hl hb hr ha=>simp only[AV.aK];omega
 |map id h=>simp only[AV.aK];omega
 |fn f aN eW hl hv ih=>
   simp only[AV.aK];refine AV.j5 λv Mo=>?_
   obtain⟨j,hj,rfl⟩:=List.getElem_of_mem Mo;exact ih j hj
 |iface t v cv hv ih=>simpa[AV.aK] using ih
 |agg cs eW hl h1 hv ih=>
   simp only[AV.aK];refine AV.j5 λv Mo=>?_
   obtain⟨j,hj,rfl⟩:=List.getElem_of_mem Mo;exact ih j hj
 |tuple cs eW hl hv ih=>
   simp only[AV.aK];refine AV.j5 λv Mo=>?_
   obtain⟨j,hj,rfl⟩:=List.getElem_of_mem Mo;exact ih j hj
 |_=>simp[AV.aK]
def live(h:af)(id:Nat):Prop:=∃o,h.get id=some o/\(∀_:o=.dead,False)
def Pr(φ:eh)(h:af)(w:World)(b:Nat):Prop:=b<w.heap.size/\(∀id,live h id->(φ id).gm≠b)/\¬φ.gh b
abbrev eZ(φ:eh)(h:af)(w:World):AV->Value->Prop:=RV φ h.next (Pr φ h w) w
def uw(φ:eh)(h:af)(w:World)(id:Nat)(cs:List AV):Prop:=
 ∃c el fr,w.heap[(φ id).gm]? =some (.cells c el fr)/\(φ id).base+(φ id).room<=c.size/\cs.length<=(φ id).room/\
   (∀o,o<c.size->¬(fr.1<=o/\o<fr.2))/\
   (∀j,j<(φ id).room->(c.getD ((φ id).base+j) default).oneCell'=true)/\
   ∀j (hj:j<cs.length),eZ φ h w cs[j] (c.getD ((φ id).base+j) default)
def zg(φ:eh)(h:af)(w:World)(id:Nat)(es:List (AV×AV)):Prop:=
 ∃fU oW,w.heap[(φ id).gm]? =some (.map fU oW)/\fU.size=es.length/\
   ∀j (hj:j<es.length),eZ φ h w es[j].1 (fU.getD j default).key/\eZ φ h w es[j].2 (fU.getD j default).val
structure HR(φ:eh)(h:af)(w:World):Prop where
 wf:h.wf
 rows:∀id cs,h.get id=some (.row cs)->uw φ h w id cs
 maps:∀id es,h.get id=some (.map es)->zg φ h w id es
 inj:∀i j,live h i->live h j->(φ i).gm=(φ j).gm->i=j
 gh:∀b,φ.gh b->b<w.heap.size/\∀id,live h id->(φ id).gm≠b
structure Ext(φ:eh)(h:af)(w:World)(φ':eh)(h':af)(w':World):Prop where
 os:w'.os=w.os
 tape:w'.tape=w.tape
 output:w'.output=w.output
 size:w.heap.size<=w'.heap.size
 next:h.next<=h'.next
 B9:∀id,id<h.next->φ' id=φ id
 pr:∀b,Pr φ h w b->Pr φ' h' w' b/\w'.heap[b]? =w.heap[b]?
 gh:φ'.gh=φ.gh/\∀b,φ.gh b->w'.heap[b]? =w.heap[b]?
theorem Ext.refl(φ:eh)(h:af)(w:World):Ext φ h w φ h w:=⟨rfl,rfl,rfl,Nat.le_refl _,Nat.le_refl _,λ_ _=>rfl,λ_ hb=>⟨hb,rfl⟩,rfl,λ_ _=>rfl⟩
theorem Ext.trans{φ φ1 φ2:eh}{h h1 h2:af}{w w1 w2:World}(a:Ext φ h w φ1 h1 w1)(b:Ext φ1 h1 w1 φ2 h2 w2):Ext φ h w φ2 h2 w2:=
 ⟨b.os.trans a.os,b.tape.trans a.tape,b.output.trans a.output,Nat.le_trans a.size b.size,Nat.le_trans a.next b.next,
  λid bZ=>(b.B9 id (Nat.lt_of_lt_of_le bZ a.next)).trans (a.B9 id bZ),λx hx=>by obtain⟨h1,e1⟩:=a.pr x hx;obtain⟨h2,e2⟩:=b.pr x h1;exact⟨h2,e2.trans e1⟩,b.gh.1.trans a.gh.1,λx hx=>(b.gh.2 x (by rw[a.gh.1];exact hx)).trans (a.gh.2 x hx)⟩
theorem RV.ext{φ φ':eh}{h h':af}{w w':World}{v:AV}{cv:Value}(hv:eZ φ h w v cv)(e:Ext φ h w φ' h' w'):eZ φ' h' w' v cv:=hv.mono (λid _ bZ=>⟨e.B9 id bZ,Nat.lt_of_lt_of_le bZ e.next⟩) e.pr
def je(P:Program)(X:World->Prop)(φ:eh)(h:af)(w:World):Prop:=∃w1:World,(w1.ShapedOpen P/\X w1)/\∀b,b<w1.heap.size->b<w.heap.size/\(φ.gh b\/Pr φ h w b)/\w.heap[b]? =w1.heap[b]?
theorem je.ext{P:Program}{φ φ':eh}{h h':af}{w w':World}(g:je P X φ h w)(e:Ext φ h w φ' h' w'):je P X φ' h' w':=by
 obtain⟨w1,h1,h2⟩:=g;refine⟨w1,h1,λb hb=>?_⟩;obtain⟨g1,g2,g3⟩:=h2 b hb;refine⟨Nat.lt_of_lt_of_le g1 e.size,?_⟩;rcases g2 with g2|g2
 .exact⟨.inl (by rw[e.gh.1];exact g2),(e.gh.2 b g2).trans g3⟩
 .exact⟨.inr (e.pr b g2).1,(e.pr b g2).2.trans g3⟩
def FR(φ:eh)(h:af)(w:World)(fr:List AV)(tm:Array Value):Prop:=tm.size=fr.length/\∀t,eZ φ h w (fr.getD t .undef) (tm.getD t undef)
theorem FR.ext{φ φ':eh}{h h':af}{w w':World}{fr:List AV}{tm:Array Value}(hf:FR φ h w fr tm)(e:Ext φ h w φ' h' w'):FR φ' h' w' fr tm:=⟨hf.1,λt=>(hf.2 t).ext e⟩
theorem FR.put{φ:eh}{h:af}{w:World}{fr:List AV}{tm:Array Value}(hf:FR φ h w fr tm){v:AV}{cv:Value}(hv:eZ φ h w v cv)(d:Nat):
 FR φ h w (fr.set d v) (tm.setIfInBounds d cv):=by
 refine⟨by simp[hf.1],λt=>?_⟩;have ht:=hf.2 t;rw[List.getD_eq_getElem?_getD] at ht|-;rw[Array.getD_eq_getD_getElem?] at ht|-;rw[List.getElem?_set,Array.getElem?_setIfInBounds];by_cases hd:d=t
 .subst hd;simp only[if_true,hf.1];by_cases hl:d<fr.length
  .simpa[hl] using hv
  .simp only[hl,if_false];exact .undef _
 .simpa[hd] using ht
section inv
variable {φ:eh}{nx:Nat}{pr:Nat->Prop}{w:World}{cv:Value}
theorem RV.vF{id off:Nat}(h:RV φ nx pr w (.ptr id off) cv):cv=.pointer (some ⟨(φ id).gm,(φ id).base+off,none⟩)/\id<nx:=by
 cases h with
 |ptr _ _ h=>exact⟨rfl,h⟩
theorem RV.NI{cs:List AV}(h:RV φ nx pr w (.ip cs) cv):∃b o,∃vs:Nat->Value,cv=.pointer (some ⟨b,o,none⟩)/\pr b/\AV.aj cs=0/\(∀j,(vs j).oneCell'=true)/\
 (∀j,j<cs.length->w.cell? ⟨b,o+j,none⟩=some (vs j))/\∀j (h:j<cs.length),RV φ nx pr w cs[j] (vs j):=by
 cases h with
 |ip _ b o vs hp wI h1 hc hv=>exact⟨b,o,vs,rfl,hp,wI,h1,hc,hv⟩
theorem RV.sB{xs:List AV}(h:RV φ nx pr w (.sl xs) cv):(∃a cap,xs=[]/\cv=.slice a 0 cap)\/
 ∃b o cap sz,∃vs:Nat->Nat->Value,cv=.slice (some ⟨b,o,none⟩) xs.length cap/\pr b/\xs.length<=cap/\AV.aj xs=0/\(∀i j,(vs i j).oneCell'=true)/\
   (∀i (h:i<xs.length),(xs[i]).cells?.map List.length=some sz)/\(∀i j,i<xs.length->j<sz->w.cell? ⟨b,o+i*sz+j,none⟩=some (vs i j))/\
   ∀i (h:i<xs.length) j (h':j<(xs[i]).cells.length),RV φ nx pr w ((xs[i]).cells[j]) (vs i j):=by
 cases h with
 |slnil a cap=>exact .inl ⟨a,cap,rfl,rfl⟩
 |sl _ b o cap sz vs hp kh wI h1 iz hc hv=>exact .inr ⟨b,o,cap,sz,vs,rfl,hp,kh,wI,h1,iz,hc,hv⟩
theorem RV.kA{id off len sz lb:Nat}(h:RV φ nx pr w (.vec id off len sz lb) cv):∃cap a,cv=.slice a len cap/\id<nx/\len<=cap/\lb<=cap/\off+cap*sz<=(φ id).room/\
 (0<cap->a=some ⟨(φ id).gm,(φ id).base+off,none⟩):=by
 cases h with
 |vec _ _ _ _ _ cap a h hl hb hr ha=>exact⟨cap,a,rfl,h,hl,hb,hr,ha⟩
theorem RV.mE(h:RV φ nx pr w .aD cv):∃a,cv=.slice a 0 0:=by
 cases h with
 |aD a=>exact⟨a,rfl⟩
theorem RV.tz{id:Nat}(h:RV φ nx pr w (.map id) cv):cv=.map (some (φ id).gm)/\id<nx:=by
 cases h with
 |map _ h=>exact⟨rfl,h⟩
theorem RV.zD(h:RV φ nx pr w .jV cv):cv=.map none:=by cases h;rfl
theorem RV.pH{cs:List AV}(h:RV φ nx pr w (.agg cs) cv):∃eW:Array Value,cv=.agg eW/\eW.size=cs.length/\(∀j,(eW.getD j default).oneCell'=true)/\
 ∀j (h:j<cs.length),RV φ nx pr w cs[j] (eW.getD j default):=by
 cases h with
 |agg _ eW hl h1 hv=>exact⟨eW,rfl,hl,h1,hv⟩
theorem RV.vX{cs:List AV}(h:RV φ nx pr w (.tuple cs) cv):∃eW:Array Value,cv=.tuple eW/\eW.size=cs.length/\∀j (h:j<cs.length),RV φ nx pr w cs[j] (eW.getD j default):=by
 cases h with
 |tuple _ eW hl hv=>exact⟨eW,rfl,hl,hv⟩
theorem RV.HO{f:Nat}{aN:List AV}(h:RV φ nx pr w (.fn f aN) cv):∃eW:Array Value,cv=.func (.func f) #[] eW/\eW.size=aN.length/\∀j (h:j<aN.length),RV φ nx pr w aN[j] (eW.getD j default):=by
 cases h with
 |fn _ _ eW hl hv=>exact⟨eW,rfl,hl,hv⟩
theorem RV.Lx(h:RV φ nx pr w .mO cv):cv=.pointer none:=by cases h;rfl
theorem RV.LL(h:RV φ nx pr w .mM cv):cv=.nilIface:=by cases h;rfl
theorem RV.Hc(h:RV φ nx pr w .iU cv):cv=.nilFunc:=by cases h;rfl
theorem RV.SP{t:Nat}{v:AV}(h:RV φ nx pr w (.iface t v) cv):∃c,cv=.iface t c/\RV φ nx pr w v c:=by
 cases h with
 |iface _ _ c hv=>exact⟨c,rfl,hv⟩
end inv
end
section
inductive cX where
 |tmp (t:Nat)
 |const (v:AV)
 deriving Inhabited
inductive ye where
 |Gs (x:cX)
 |pick (c x y:cX)
 |box (x:cX)
 |S2 (zero:List AV) (parts:List (Nat×Nat×cX))
 |A3 (sz len:Nat) (zero:List AV) (parts:List (Nat×cX))
 |ld (n:Option Nat) (x:cX)
 |st (n:Nat) (x v:cX)
 |nck (x:cX)
 |bin (op:BinOp) (x y:cX)
 |beq (neg:Bool) (x y:cX)
 |ceq (kinds:List Nat) (neg:Bool) (x y:cX)
 |peq (kind:Nat) (neg:Bool) (x y:cX)
 |un (op:UnOp) (x:cX)
 |cvi (k:IntKind) (x:cX)
 |Uw (x:cX)
 |NS (x:cX)
 |RF (x:cX)
 |Ra (x:cX)
 |mki (t:Nat) (x:cX)
 |TL (f:Nat) (aN:List cX)
 |mkm
 |mks (bytes:Nat) (zero:List AV) (l c:cX)
 |WN (x:cX) (lo hi:Option cX)
 |slv (sz:Nat) (x:cX) (lo hi mx:Option cX)
 |fad (off:Nat) (x:cX)
 |fld (off:Nat) (n:Option Nat) (x:cX)
 |iad (sz:Nat) (x i:cX)
 |ixs (x i:cX)
 |lkp (kd:Nat) (zero:AV) (ok:Bool) (m k:cX)
 |Yd (kd:Nat) (m k v:cX)
 |ext (x:cX) (i:Nat)
 |lens (x:cX)
 |xn (x:cX)
 |acX (x:cX)
 |mx (x y:cX)
 |mn (x y:cX)
 |app (sz bytes:Nat) (x y:cX)
 |clr (zero:List AV) (x:cX)
 |bs0
 |Nk (neg:Bool) (x:cX)
 |fsl (len:Nat) (zero:List AV) (parts:List (Nat×cX))
 |VG (x:cX)
 |die
 deriving Inhabited
inductive SX where
 |op (a:ye)
 |call (f:Nat) (args:List cX)
 |lg (x:cX) (args:List cX)
 deriving Inhabited
structure aO where
 dst:Option Nat
 op:SX
 guard:Option (Nat×Bool):=none
 deriving Inhabited
inductive cw where
 |skip
 |mK (ops:List aO)
 |nG (ops:List aO) (Yi:List (Nat×Nat))
 |seq (a b:cw)
 |cond (c:cX) (a b:cw)
 |block (id:Nat) (a:cw)
 |loop (live:List Bool) (a:cw)
 |exit (id:Nat) (live:List Bool)
 |ret (live:List Bool)
 deriving Inhabited
inductive Lq where
 |tmp (t:Nat)
 |cell (t:Nat) (n:Option Nat)
 deriving Inhabited
structure cN where
 ntmps:Nat
 results:List Lq
 gp:Bool
 code:cw
 deriving Inhabited
structure Env where
 fn:Nat->Option cN
 FC:Nat->List AV->Option AV
 It:Nat->List AV->List aS->Option (AV×Option (List aS))
def ye.pD:ye->List cX
 |.Gs x|.box x|.ld _ x|.nck x|.un _ x|.cvi _ x|.Uw x|.NS x|.RF x|.Ra x|.mki _ x|.fad _ x|.fld _ _ x|.ext x _|.lens x|.xn x|.acX x|.clr _ x|.Nk _ x|.VG x=>[x]
 |.pick c x y=>[c,x,y]
 |.S2 _ parts=>parts.map (·.2.2)
 |.A3 _ _ _ parts|.fsl _ _ parts=>parts.map (·.2)
 |.st _ x v=>[x,v]
 |.bin _ x y|.beq _ x y|.ceq _ _ x y|.peq _ _ x y|.iad _ x y|.ixs x y|.mx x y|.mn x y|.app _ _ x y=>[x,y]
 |.TL _ aN=>aN
 |.mkm|.bs0|.die=>[]
 |.mks _ _ l c=>[l,c]
 |.WN x lo hi=>x::(lo.toList++hi.toList)
 |.slv _ x lo hi m3=>x::(lo.toList++(hi.toList++m3.toList))
 |.lkp _ _ _ m k=>[m,k]
 |.Yd _ m k v=>[m,k,v]
def SX.pD:SX->List cX
 |.op a=>a.pD
 |.call _ args=>args
 |.lg x args=>x::args
def cX.tmps:cX->List Nat
 |.tmp t=>[t]
 |.const _=>[]
def aO.reads(s:aO):List Nat:=(match s.guard with|some (t,_)=>[t]|none=>[])++s.op.pD.flatMap cX.tmps
def ye.still:ye->Bool
 |.Gs _|.pick .. |.S2 .. |.nck _|.bin .. |.beq .. |.ceq .. |.peq .. |.un .. |.cvi .. |.Uw _|.NS _|.mki .. |.TL .. |.WN .. |.slv .. |.fad .. |.fld .. |.iad .. |.ixs .. |.ext .. |.lens _|.xn _|.mx .. |.mn .. |.bs0|.Nk .. |.fsl .. |.VG _=>true
 |_=>false
def aO.Ld(s:aO):Bool:=match s.op with|.op (.ld ..)=>true|_=>false
def aO.uf(s:aO):Bool:=match s.op with|.op (.ld ..)=>false|.op o=>!o.still|_=>true
def cX.low:cX->Bool
 |.tmp _=>true
 |.const v=>v.aK==0
def aO.mN(s:aO):Bool:=match s.guard,s.op with
 |none,.op (.box x)=>x.low
 |none,.op (.A3 _ _ zero parts)=>AV.aj zero==0&&parts.all λp=>p.2.low
 |_,_=>false
def cX.ev(fr:List AV):cX->AV
 |.tmp t=>fr.getD t .undef
 |.const v=>v
def putAt(cells:List AV)(off:Nat):List AV->List AV
 |[]=>cells
 |c::cs=>putAt (cells.set off c) (off+1) cs
def mC(cells:List AV):List (Nat×Nat×AV)->Option (List AV)
 |[]=>some cells
 |(off,sz,v)::rest=>
   match v.cells? with
   |some cs=>if cs.length=sz/\off+sz<=cells.length then mC (putAt cells off cs) rest else none
   |none=>none
def af.row(h:af)(id:Nat):Option (List AV):=
 match h.get id with
 |some (.row cs)=>some cs
 |_=>none
def af.hP(h:af)(id:Nat):Option (List (AV×AV)):=
 match h.get id with
 |some (.map es)=>some es
 |_=>none
def GQ(op:BinOp)(k:IntKind)(x y:Int):Int:=
 let a:=BitVec.ofInt k.bits x
 let b:=BitVec.ofInt k.bits y
 match op with
 |.and=>k.wrap (a&&&b).toNat
 |.or=>k.wrap (a|||b).toNat
 |.xor=>k.wrap (a ^^^ b).toNat
 |_=>k.wrap (a&&&~~~b).toNat
def xA(op:BinOp):AV->AV->Option AV
 |.int k a,.int k' b=>
   match op with
   |.shl=>if b<0 then none else some (.int k (k.wrap (a*2^min b.toNat k.bits)))
   |.shr=>if b<0 then none else some (.int k (a.fdiv (2^min b.toNat k.bits)))
   |op=>if k=k' then
    (match op with
    |.add=>some (.int k (k.wrap (a+b)))
    |.sub=>some (.int k (k.wrap (a-b)))
    |.mul=>some (.int k (k.wrap (a*b)))
    |.quo=>if b=0 then none else some (.int k (k.wrap (a.tdiv b)))
    |.rem=>if b=0 then none else some (.int k (a.tmod b))
    |.and|.or|.xor|.andNot=>some (.int k (GQ op k a b))
    |.eql=>some (.bool (decide (a=b)))
    |.neq=>some (.bool (!decide (a=b)))
    |.lss=>some (.bool (decide (a<b)))
    |.leq=>some (.bool (decide (a<=b)))
    |.gtr=>some (.bool (decide (b<a)))
    |.geq=>some (.bool (decide (b<=a)))
    |_=>none) else none
 |.str a,.str b=>
   match op with
   |.add=>if a.length+b.length<2^63 then some (.str (a++b)) else none
   |.eql=>some (.bool (a==b))
   |.neq=>some (.bool (!(a==b)))
   |.lss=>some (.bool (Op.bytesLess a b))
   |.leq=>some (.bool (Op.bytesLess a b||a==b))
   |.gtr=>some (.bool (!(Op.bytesLess a b||a==b)))
   |.geq=>some (.bool (!(Op.bytesLess a b)))
   |_=>none
 |_,_=>none
def ij:Nat->AV->AV->Option Bool
 |0,.bool a,.bool b=>some (a==b)
 |1,.int k a,.int k' b=>if k=k' then some (decide (a=b)) else none
 |2,.str a,.str b=>some (a==b)
 |_,_,_=>none
def ny:List Nat->List AV->List AV->Option Bool
 |[],[],[]=>some true
 |k::ks,x::xs,y::ys=>
   match ij k x y,ny ks xs ys with
   |some a,some b=>some (a&&b)
   |_,_=>none
 |_,_,_=>none
def RB:AV->Option Bool
 |.mO|.mM|.iU|.jV=>some true
 |.ptr .. |.ip .. |.iface .. |.fn .. |.map ..=>some false
 |_=>none
def xi:Nat->AV->Option Bool
 |0,.mO=>some true
 |0,.ptr ..=>some false
 |0,.ip _=>some false
 |1,.mM=>some true
 |1,.iface ..=>some false
 |2,.iU=>some true
 |2,.fn ..=>some false
 |3,.jV=>some true
 |3,.map _=>some false
 |_,_=>none
def sliceB(n:Nat)(lo hi:Option AV):Option (Nat×Nat):=
 match (match hi with|none=>some n|some (.int _ i)=>(if 0<=i/\i<=(n:Int) then some i.toNat else none)|_=>none) with
 |none=>none
 |some h=>
   match (match lo with|none=>some 0|some (.int _ i)=>(if 0<=i/\i<=(h:Int) then some i.toNat else none)|_=>none) with
   |none=>none
   |some l=>some (l,h)
def gV(n lb:Nat)(lo hi mx:Option AV):Option (Nat×Nat×Option Nat):=
 match mx with
 |some (.int _ i)=>if 0<=i/\i<=(max n lb:Nat) then (match hi with
  |some _=>(sliceB i.toNat lo hi).map λp=>(p.1,p.2,some i.toNat)
  |none=>none) else none
 |some _=>none
 |none=>match hi with
   |none=>(sliceB n lo none).map λp=>(p.1,p.2,none)
   |some _=>(sliceB (max n lb) lo hi).map λp=>(p.1,p.2,none)
def aI(h:af)(sz:Nat):AV->Option (Nat×List AV)
 |.aD=>some (0,[])
 |.sl xs=>if (xs.all λx=>(x.cells?.map List.length)==some sz) then some (xs.length,xs.flatMap AV.cells) else none
 |.vec id off len s _=>
   match h.row id with
   |some cs=>if s=sz/\off+len*sz<=cs.length then some (len,(cs.drop off).take (len*sz)) else none
   |none=>none
 |.str s=>if sz=1 then some (s.length,s.map λb=>.int .u8 b.toNat) else none
 |_=>none
def bytesOf:List AV->Option (List UInt8)
 |[]=>some []
 |.int .u8 n::r=>(bytesOf r).map (UInt8.ofNat n.toNat::·)
 |_=>none
def oj(kd:Nat)(k:AV):List (AV×AV)->Option (Option AV)
 |[]=>some none
 |(k',v)::r=>
   match ij kd k k' with
   |some true=>some (some v)
   |some false=>oj kd k r
   |none=>none
def va(kd:Nat)(k v:AV):List (AV×AV)->Option (List (AV×AV))
 |[]=>some [(k,v)]
 |(k',v')::r=>
   match ij kd k k' with
   |some true=>some ((k,v)::r)
   |some false=>(va kd k v r).map ((k',v')::·)
   |none=>none
def QB(h:af)(n:Option Nat):AV->Option AV
 |.ptr id off=>
   match h.row id,n with
   |some cs,none=>cs[off]?
   |some cs,some n=>if off+n<=cs.length then some (.agg ((cs.drop off).take n)) else none
   |none,_=>none
 |.ip cs=>
   match n with
   |none=>cs[0]?
   |some n=>if n<=cs.length then some (.agg (cs.take n)) else none
 |_=>none
def bC(fr:List AV)(h:af):ye->Option (AV×af)
 |.Gs x=>some (x.ev fr,h)
 |.pick c x y=>match c.ev fr with
   |.bool b=>some (if b then x.ev fr else y.ev fr,h)
   |_=>none
 |.box x=>match (x.ev fr).cells? with
   |some cs=>some (.ptr h.next 0,h.alloc (.row cs))
   |none=>none
 |.S2 zero parts=>(mC zero (parts.map λp=>(p.1,p.2.1,p.2.2.ev fr))).map λcs=>(.agg cs,h)
 |.A3 sz len zero parts=>(mC zero (parts.map λp=>(p.1*sz,sz,p.2.ev fr))).map λcs=>(.vec h.next 0 len sz len,h.alloc (.row cs))
 |.ld n x=>(QB h n (x.ev fr)).map λv=>(v,h)
 |.st n x v=>match x.ev fr,(v.ev fr).cells? with
   |.ptr id off,some vs=>match h.row id with
     |some cs=>if vs.length=n/\off+n<=cs.length then some (.undef,(h.set id (.row (putAt cs off vs))).mark id (v.ev fr)) else none
     |none=>none
   |_,_=>none
 |.nck x=>match RB (x.ev fr) with
   |some false=>some (x.ev fr,h)
   |_=>none
 |.bin op x y=>(xA op (x.ev fr) (y.ev fr)).map λv=>(v,h)
 |.beq neg x y=>match x.ev fr,y.ev fr with
   |.bool a,.bool b=>some (.bool (if neg then !(a==b) else a==b),h)
   |_,_=>none
 |.ceq kinds neg x y=>match x.ev fr,y.ev fr with
   |.agg a,.agg b=>(ny kinds a b).map λr=>(.bool (if neg then !r else r),h)
   |_,_=>none
 |.peq kind neg x y=>match xi kind (x.ev fr),xi kind (y.ev fr) with
   |some p,some true=>some (.bool (if neg then !p else p),h)
   |_,_=>none
 |.un op x=>match op,x.ev fr with
   |.not,.bool b=>some (.bool (!b),h)
   |.neg,.int k n=>some (.int k (k.wrap (0-n)),h)
   |.xor,.int k n=>some (.int k (GQ .xor k (if k.signed then -1 else k.max) n),h)
   |_,_=>none
 |.cvi k x=>match x.ev fr with
   |.int _ n=>some (.int k (k.wrap n),h)
   |_=>none
 |.Uw x=>match x.ev fr with
   |.str s=>some (.str s,h)
   |_=>none
 |.NS x=>match x.ev fr with
   |.int _ n=>if 0<=n/\n<128 then some (.str [UInt8.ofNat n.toNat],h) else none
   |_=>none
 |.RF x=>match x.ev fr with
   |.str s=>some (.sl (s.map λb=>.int .u8 b.toNat),h)
   |_=>none
 |.Ra x=>match aI h 1 (x.ev fr),x.ev fr with
   |_,.str _=>none
   |some (_,cs),_=>(bytesOf cs).map λs=>(.str s,h)
   |none,_=>none
 |.fsl _ zero parts=>match mC zero (parts.map λp=>(p.1*1,1,p.2.ev fr)) with
   |some cs=>if (bytesOf cs).isSome then some (.sl cs,h) else none
   |none=>none
 |.VG x=>match x.ev fr with
   |.sl cs=>(bytesOf cs).map λs=>(.str s,h)
   |_=>none
 |.mki t x=>some (.iface t (x.ev fr),h)
 |.TL f aN=>some (.fn f (aN.map (·.ev fr)),h)
 |.mkm=>some (.map h.next,h.alloc (.map []))
 |.mks bytes zero l c=>match l.ev fr,c.ev fr with
   |.int .i64 l,.int .i64 c=>if 0<=l/\l<=c/\c*bytes<=140737488355328/\c<2^63 then
    some (.vec h.next 0 l.toNat zero.length c.toNat,h.alloc (.row (List.replicate c.toNat zero).flatten)) else none
   |_,_=>none
 |.WN x lo hi=>match x.ev fr with
   |.str s=>(sliceB s.length (lo.map (·.ev fr)) (hi.map (·.ev fr))).map λp=>(.str ((s.take p.2).drop p.1),h)
   |_=>none
 |.slv sz x lo hi mx=>
   match x.ev fr with
    |.aD=>(gV 0 0 (lo.map (·.ev fr)) (hi.map (·.ev fr)) (mx.map (·.ev fr))).map λ_=>(.aD,h)
    |.sl xs=>if (xs.all λx=>(x.cells?.map List.length)==some sz) then
     (gV xs.length xs.length (lo.map (·.ev fr)) (hi.map (·.ev fr)) (mx.map (·.ev fr))).map λp=>(if p.2.2=some p.1 then .aD else .sl ((xs.take p.2.1).drop p.1),h) else none
    |.vec id off len s lb=>if s=sz then
     (gV len lb (lo.map (·.ev fr)) (hi.map (·.ev fr)) (mx.map (·.ev fr))).map λp=>(if p.2.2=some p.1 then .aD else .vec id (off+p.1*sz) (p.2.1-p.1) sz (p.2.2.getD lb-p.1),h) else none
    |_=>none
 |.fad off x=>match x.ev fr with
   |.ptr id o=>some (.ptr id (o+off),h)
   |.ip cs=>some (.ip (cs.drop off),h)
   |_=>none
 |.fld off n x=>match x.ev fr with
   |.agg cs=>match n with
     |none=>(cs[off]?).map λv=>(v,h)
     |some n=>if off+n<=cs.length then some (.agg ((cs.drop off).take n),h) else none
   |_=>none
 |.iad sz x i=>match x.ev fr,i.ev fr with
   |.sl xs,.int _ i=>if 0<=i then (match xs[i.toNat]? with
    |some v=>(match v.cells? with
      |some cs=>if cs.length=sz then some (.ip cs,h) else none
      |none=>none)
    |none=>none) else none
   |.vec id off len s _,.int _ i=>if 0<=i/\i<len/\s=sz then some (.ptr id (off+i.toNat*sz),h) else none
   |_,_=>none
 |.ixs x i=>match x.ev fr,i.ev fr with
   |.str s,.int _ i=>if 0<=i then (s[i.toNat]?).map λb=>(.int .u8 b.toNat,h) else none
   |_,_=>none
 |.lkp kd zero ok m k=>match (match m.ev fr with|.jV=>some []|.map id=>h.hP id|_=>none) with
   |some es=>(oj kd (k.ev fr) es).map λr=>(match r with
     |some v=>(if ok then .tuple [v,.bool true] else v,h)
     |none=>(if ok then .tuple [zero,.bool false] else zero,h))
   |none=>none
 |.Yd kd m k v=>match m.ev fr with
   |.map id=>match h.hP id with
     |some es=>(va kd (k.ev fr) (v.ev fr) es).map λum=>(.undef,((h.set id (.map um)).mark id (v.ev fr)).mark id (k.ev fr))
     |none=>none
   |_=>none
 |.ext x i=>match x.ev fr with
   |.tuple vs=>(vs[i]?).map λv=>(v,h)
   |_=>none
 |.lens x=>match x.ev fr with
   |.str s=>some (.int .i64 s.length,h)
   |_=>none
 |.xn x=>match x.ev fr with
   |.aD=>some (.int .i64 0,h)
   |.sl xs=>some (.int .i64 xs.length,h)
   |.vec _ _ n _ _=>some (.int .i64 n,h)
   |_=>none
 |.acX x=>match x.ev fr with
   |.jV=>some (.int .i64 0,h)
   |.map id=>(h.hP id).map λes=>(.int .i64 es.length,h)
   |_=>none
 |.mx x y=>match x.ev fr,y.ev fr with
   |.int k a,.int _ b=>some (.int k (if a<b then b else a),h)
   |_,_=>none
 |.mn x y=>match x.ev fr,y.ev fr with
   |.int k a,.int _ b=>some (.int k (if b<a then b else a),h)
   |_,_=>none
 |.app sz bytes x y=>match aI h sz (y.ev fr) with
   |none=>none
   |some (n,news)=>
     match x.ev fr with
     |.aD=>if n=0 then some (.aD,h) else
       if n*bytes<=140737488355328/\n<2^63 then some (.vec h.next 0 n sz n,h.alloc (.row news)) else none
     |.vec id off len s lb=>match h.row id with
       |some cs=>if s=sz/\off+len*sz<=cs.length then
        if n=0 then some (.vec id off len s lb,h) else
        if len+n<=lb/\off+(len+n)*sz<=cs.length then some (.vec id off (len+n) sz lb,(h.set id (.row (putAt cs (off+len*sz) news))).mark id (.agg news)) else
        if (len+n)*bytes<=140737488355328/\len+n<2^63 then
         some (.vec h.next 0 (len+n) sz (len+n),(h.set id .dead).alloc (.row ((cs.drop off).take (len*sz)++news))) else none
         else none
       |none=>none
     |_=>none
 |.bs0=>some (.aD,h)
 |.Nk neg x=>match x.ev fr with
   |.sl (_::_)=>some (.bool neg,h)
   |.vec _ _ (_+1) _ _=>some (.bool neg,h)
   |_=>none
 |.die=>none
 |.clr zero x=>match x.ev fr with
   |.aD=>some (.tuple [],h)
   |.vec id off len s _=>match h.row id with
     |some cs=>if s=zero.length/\off+len*s<=cs.length then some (.tuple [],(h.set id (.row (putAt cs off (List.replicate len zero).flatten))).mark id (.agg zero)) else none
     |none=>none
   |_=>none
def dA(fr:List AV):Option (Nat×Bool)->Option Bool
 |none=>some false
 |some (t,want)=>
   match fr[t]? with
   |some (.bool b)=>some (b !=want)
   |some (.tuple [])=>some true
   |_=>none
def gx(fr:List AV):Option Nat->AV->List AV
 |some d,v=>fr.set d v
 |none,_=>fr
def cJ(C:Nat->List AV->af->Option (AV×af))(s:aO)(fr:List AV)(h:af):Option (List AV×af):=
 match dA fr s.guard with
 |none=>none
 |some true=>some (gx fr s.dst (.tuple []),h)
 |some false=>
   match s.op with
   |.call f args=>(C f (args.map (·.ev fr)) h).map λp=>(gx fr s.dst p.1,p.2)
   |.lg x args=>match x.ev fr with
     |.fn f aN=>(C f (args.map (·.ev fr)++aN) h).map λp=>(gx fr s.dst p.1,p.2)
     |_=>none
   |.op o=>(bC fr h o).map λp=>(gx fr s.dst p.1,p.2)
def c7(C:Nat->List AV->af->Option (AV×af)):List aO->List AV->af->Option (List AV×af)
 |[],fr,h=>some (fr,h)
 |s::rest,fr,h=>
   match cJ C s fr h with
   |some (dT,h')=>c7 C rest dT h'
   |none=>none
def B7(s:aO)(fr:List AV):Nat:=
 match s.op with
 |.op (.ld _ x)=>match x.ev fr with
   |.ptr id _=>id+1
   |_=>0
 |.op (.st _ x _)=>match x.ev fr with
   |.ptr id _=>id+1
   |_=>0
 |_=>0
mutual
def AV.Md:AV->AV->Bool
 |.undef,.undef=>true
 |.bool a,.bool b=>a==b
 |.int k n,.int k' n'=>decide (k=k')&&decide (n=n')
 |.str a,.str b=>decide (a=b)
 |.mO,.mO=>true
 |.ptr i o,.ptr j q=>Nat.beq i j&&Nat.beq o q
 |.ip a,.ip b=>AV.A7 a b
 |.aD,.aD=>true
 |.sl a,.sl b=>AV.A7 a b
 |.vec i o l s b,.vec i' o' l' s' b'=>Nat.beq i i'&&Nat.beq o o'&&Nat.beq l l'&&Nat.beq s s'&&Nat.beq b b'
 |.jV,.jV=>true
 |.map i,.map j=>Nat.beq i j
 |.iU,.iU=>true
 |.fn f a,.fn g b=>Nat.beq f g&&AV.A7 a b
 |.mM,.mM=>true
 |.iface t a,.iface u b=>Nat.beq t u&&a.Md b
 |.agg a,.agg b=>AV.A7 a b
 |.tuple a,.tuple b=>AV.A7 a b
 |_,_=>false
def AV.A7:List AV->List AV->Bool
 |[],[]=>true
 |a::r,b::s=>a.Md b&&AV.A7 r s
 |_,_=>false
end
def P0:Option aS->Option aS->Bool
 |some (.row a),some (.row b)=>AV.A7 a b
 |_,_=>false
def ue(C:Nat->List AV->af->Option (AV×af)):List aO->List AV->af->Option (List AV×af×List (Nat×af×af))
 |[],fr,h=>some (fr,h,[])
 |s::rest,fr,h=>
   match cJ C s fr {h with md:=h.next} with
   |some (dT,h')=>(ue C rest dT {h' with md:=min h.md h'.md}).map λp=>(p.1,p.2.1,(B7 s fr,h,h')::p.2.2)
   |none=>none
def LN(tr:List (Nat×af×af))(Yi:List (Nat×Nat)):Bool:=Yi.all λp=>
 match tr[p.1]?,tr[p.2]? with
 |some a,some b=>decide (a.1<=b.2.2.md)||(decide (0<b.1)&&!(a.1==b.1))||(decide (0<a.1)&&P0 (b.2.1.get (a.1-1)) (b.2.2.get (a.1-1)))
 |_,_=>false
inductive Ex where
 |normal
 |exit (id:Nat)
 |ret
 deriving DecidableEq,Inhabited
def clear:List Bool->List AV->List AV
 |b::bs,v::vs=>(if b then v else .undef)::clear bs vs
 |_,vs=>vs
def AV.top:AV->Option Nat
 |.ptr id _=>some id
 |.vec id _ _ _ _=>some id
 |.map id=>some id
 |_=>none
def aQ(n0:Nat):List AV->List Nat->List Nat
 |[],aJ=>aJ
 |v::r,aJ=>match v.top with
   |some id=>if n0<=id/\aJ.contains id=false then aQ n0 r (aJ++[id]) else aQ n0 r aJ
   |none=>aQ n0 r aJ
def p9(n0:Nat)(ks:List Nat)(id:Nat):Nat:=if id<n0 then id else n0+ks.idxOf id
def fA(n0:Nat)(ks:List Nat):AV->AV
 |.ptr id off=>.ptr (p9 n0 ks id) off
 |.vec id off len sz lb=>.vec (p9 n0 ks id) off len sz lb
 |.map id=>.map (p9 n0 ks id)
 |v=>v
def sc(n:Nat):aS->Bool
 |.row cs=>decide (AV.aj cs<=n)
 |.map es=>es.all λe=>decide (e.1.aK<=n)&&decide (e.2.aK<=n)
 |.dead=>false
def nW(h:af)(n0:Nat):List Nat->Option (List aS)
 |[]=>some []
 |id::r=>match h.get id,nW h n0 r with
   |some o,some os=>if sc n0 o then some (o::os) else none
   |_,_=>none
def jd:aS->List AV
 |.row cs=>cs
 |.map es=>es.flatMap λe=>[e.1,e.2]
 |.dead=>[]
def ji:List aS->List AV
 |[]=>[]
 |o::r=>jd o++ji r
def qC(n0:Nat)(ks:List Nat):aS->aS
 |.row cs=>.row (cs.map (fA n0 ks))
 |.map es=>.map (es.map λe=>(fA n0 ks e.1,fA n0 ks e.2))
 |.dead=>.dead
def th(n0:Nat)(v:AV):Bool:=v.top.isSome||decide (v.aK<=n0)
def dB(n0:Nat)(o:aS):Bool:=(jd o).all λv=>decide (v.aK<=n0)
def Js(n0:Nat)(fr:List AV)(h:af):List AV×af:=
 match nW h n0 (aQ n0 (ji (h.gS.drop (h.next-n0))) (aQ n0 fr [])) with
 |some os=>if n0<=h.next/\fr.all (th n0)=true/\(ji (h.gS.drop (h.next-n0))).all (th n0)=true/\((h.gS.drop (h.next-n0)).drop (n0-h.wl)).all (dB n0)=true then
  (fr.map (fA n0 (aQ n0 (ji (h.gS.drop (h.next-n0))) (aQ n0 fr []))),
   ⟨n0+os.length,os.reverse++(h.gS.drop (h.next-n0)).map (qC n0 (aQ n0 (ji (h.gS.drop (h.next-n0))) (aQ n0 fr []))),h.wl,min h.md h.wl⟩) else (fr,h)
 |none=>(fr,h)
def KB(n0:Nat)(fr:List AV)(h:af):List AV×af:=
 match nW h n0 (aQ n0 fr []) with
 |some os=>if n0<=h.wl/\n0<=h.next/\(fr.all λv=>v.top.isSome||decide (v.aK<=n0))=true then
  (fr.map (fA n0 (aQ n0 fr [])),{h with next:=n0+os.length,gS:=os.reverse++h.gS.drop (h.next-n0)}) else (fr,h)
 |none=>(fr,h)
def gc(n0:Nat)(fr:List AV)(h:af):List AV×af:=if n0<=h.wl then KB n0 fr h else Js n0 fr h
def wN(B:List AV->af->Option (Ex×List AV×af))(live:List Bool)(n0:Nat):Nat->List AV->af->Option (Ex×List AV×af)
 |0,_,_=>none
 |n+1,fr,h=>
   match B (gc n0 (clear live fr) h).1 (gc n0 (clear live fr) h).2 with
   |some (.normal,dT,h')=>wN B live n0 n dT h'
   |r=>r
def aF(C:Nat->List AV->af->Option (AV×af))(n:Nat):cw->List AV->af->Option (Ex×List AV×af)
 |.skip,fr,h=>some (.normal,fr,h)
 |.mK ops,fr,h=>(c7 C ops fr h).map λp=>(.normal,p.1,p.2)
 |.nG ops Yi,fr,h=>
   match ue C ops fr h with
   |some (dT,h',tr)=>if LN tr Yi then some (.normal,dT,h') else none
   |none=>none
 |.seq a b,fr,h=>
   match aF C n a fr h with
   |some (.normal,dT,h')=>aF C n b dT h'
   |r=>r
 |.cond c a b,fr,h=>
   match c.ev fr with
   |.bool t=>if t then aF C n a fr h else aF C n b fr h
   |_=>none
 |.block id a,fr,h=>
   match aF C n a fr h with
   |some (.exit i,dT,h')=>some (if i=id then .normal else .exit i,dT,h')
   |r=>r
 |.loop live a,fr,h=>(wN (aF C n a) live h.next n fr {h with wl:=h.next}).map λr=>(r.1,(gc h.next r.2.1 r.2.2).1,{(gc h.next r.2.1 r.2.2).2 with wl:=min h.wl (gc h.next r.2.1 r.2.2).2.wl})
 |.exit id live,fr,h=>some (.exit id,clear live fr,h)
 |.ret live,fr,h=>some (.ret,clear live fr,h)
def wC(fr:List AV)(h:af):Lq->Option AV
 |.tmp t=>some (fr.getD t .undef)
 |.cell t n=>QB h n (fr.getD t .undef)
def iR(fr:List AV)(h:af):List Lq->Option (List AV)
 |[]=>some []
 |r::rs=>match wC fr h r,iR fr h rs with
   |some v,some vs=>some (v::vs)
   |_,_=>none
def chunk(sz:Nat):Nat->List AV->List AV
 |0,_=>[]
 |n+1,cs=>(if sz=1 then (cs.headD .undef) else .agg (cs.take sz))::chunk sz n (cs.drop sz)
def kM(F:AV->Option (AV×List Nat)):List AV->Option (List AV×List Nat)
 |[]=>some ([],[])
 |v::r=>
   match F v,kM F r with
   |some (v',i),some (r',j)=>some (v'::r',i++j)
   |_,_=>none
def jH(h:af)(n0:Nat):Nat->AV->Option (AV×List Nat)
 |0,_=>none
 |d+1,v=>
   match v with
   |.vec id off len sz lb=>
     if id<n0 then some (.vec id off len sz lb,[]) else
     match h.row id with
     |some cs=>if off+len*sz<=cs.length/\sz≠0 then
      (match kM (jH h n0 d) ((cs.drop off).take (len*sz)) with
      |some (iA,eB)=>if AV.aj iA=0/\(iA.all λc=>c.cells?.map List.length==some 1) then some (.sl (chunk sz len iA),id::eB) else none
      |none=>none) else none
     |none=>none
   |.agg cs=>(kM (jH h n0 d) cs).map λp=>(.agg p.1,p.2)
   |.tuple cs=>(kM (jH h n0 d) cs).map λp=>(.tuple p.1,p.2)
   |v=>some (v,[])
def kill(h:af):List Nat->af
 |[]=>h
 |id::r=>kill (h.set id .dead) r
def finish(gp:Bool)(h0:af)(v:AV)(h:af):AV×af:=
 if gp then (v,{h with wl:=min h0.wl h.wl,md:=min h0.md h.md}) else
 match jH h h0.next 8 v with
 |none=>(v,{h with wl:=min h0.wl h.wl,md:=min h0.md h.md})
 |some (v',eB)=>
   if h0.next<=h.wl/\v'.aK<=h0.next then (v',{h.jT h0.next with wl:=h0.wl,md:=if h.md<h0.next then min h0.md h.md else h0.md})
   else (v',{kill h eB with wl:=min h0.wl h.wl,md:=min h0.md h.md})
def oneOf:List AV->AV
 |[v]=>v
 |vs=>.tuple vs
def rR:AV->Bool
 |.bool _|.int .. |.str _|.mO|.aD|.jV|.iU|.mM=>true
 |_=>false
def rz:AV->Bool
 |.tuple vs=>vs.all rR
 |.agg vs=>vs.all rR
 |v=>rR v
def sig(g:Nat->Nat):AV->AV
 |.ptr id off=>.ptr (g id) off
 |.vec id off len sz lb=>.vec (g id) off len sz lb
 |.map id=>.map (g id)
 |v=>v
def gu(g:Nat->Nat):aS->aS
 |.row cs=>.row (cs.map (sig g))
 |.map es=>.map (es.map λe=>(sig g e.1,sig g e.2))
 |.dead=>.dead
def aS.aK:aS->Nat
 |.row cs=>AV.aj cs
 |.map es=>AV.aj (es.flatMap λe=>[e.1,e.2])
 |.dead=>0
def AK(h:af)(k:Nat)(o:aS):af:={h.set k o with wl:=if o.aK<=k+1 then h.wl else min h.wl k}
def pz(g:Nat->Nat):List Nat->List aS->af->af
 |k::ks,o::os,h=>pz g ks os (AK h k (gu g o))
 |_,_,h=>h
def yh(g:Nat->Nat):List aS->af->af
 |o::os,h=>yh g os (h.alloc (gu g o))
 |[],h=>h
def nR(h:af)(τ:List Nat)(i:Nat):Nat:=if i<τ.length then τ.getD i 0 else h.next+(i-τ.length)
def join(h:af)(τ:List Nat)(os:List aS):af:=yh (nR h τ) (os.drop τ.length) (pz (nR h τ) τ (os.take τ.length) h)
def xh:List Nat->Nat->Bool
 |[],_=>false
 |k::r,id=>if k=id then true else xh r id
def xd:List Nat->Nat->Nat
 |[],_=>0
 |k::r,id=>if k=id then 0 else xd r id+1
def gF:List AV->List Nat->List Nat
 |[],aJ=>aJ
 |v::r,aJ=>match v.top with
   |some j=>if xh aJ j then gF r aJ else gF r (aJ++[j])
   |none=>gF r aJ
def okV(τ:List Nat)(v:AV):Bool:=match v.top with
 |some id=>xh τ id
 |none=>v.aK==0
def okO(τ:List Nat):aS->Bool
 |.row cs=>cs.all (okV τ)
 |.map es=>es.all λe=>okV τ e.1&&okV τ e.2
 |.dead=>false
def tV(h:af)(τ:List Nat):List Nat->Option (List aS)
 |[]=>some []
 |id::r=>match h.get id,tV h τ r with
   |some o,some os=>if okO τ o then some (gu (xd τ) o::os) else none
   |_,_=>none
def mV(h:af)(τ:List Nat):Option (List aS)->af
 |none=>h
 |some mW=>join h τ mW
def pd(M:List AV->List aS->Option (AV×Option (List aS)))(args:List AV)(h:af):Option (AV×af):=
 match args with
 |.ptr k 0::rest=>match h.get k with
   |some (.row cs)=>match tV h (gF cs [k]) (gF cs [k]) with
     |some os=>if AV.aj rest=0 then (M (.ptr 0 0::rest) os).map λr=>(r.1,mV h (gF cs [k]) r.2) else none
     |none=>none
   |_=>none
 |_=>none
def aH(E:Env):Nat->Nat->List AV->af->Option (AV×af)
 |0,_,_,_=>none
 |n+1,f,args,h=>
   match (kM (jH h 0 8) args).bind λp=>(E.FC f p.1).map λv=>(v,if rz v then h else kill h p.2) with
   |some r=>some r
   |none=>
   match pd (E.It f) args h with
   |some r=>some r
   |none=>
     match E.fn f with
     |none=>none
     |some F=>
       match aF (aH E n) n F.code (args++List.replicate (F.ntmps-args.length) .undef) {h with wl:=h.next,md:=h.next} with
       |some (.exit _,_,_)=>none
       |some (_,fr,h')=>(iR fr h' F.results).map λvs=>finish F.gp h (oneOf vs) h'
       |none=>none
end
section
def AG:Value->Option AV
 |.bool b=>some (.bool b)
 |.int k n=>some (.int k n)
 |.string s=>some (.str s.data.toList)
 |.pointer none=>some .mO
 |.slice none 0 0=>some .aD
 |.map none=>some .jV
 |.nilFunc=>some .iU
 |.nilIface=>some .mM
 |.func (.func f) ⟨[]⟩ ⟨[]⟩=>some (.fn f [])
 |_=>none
def eL{α β:Type}(f:α->Option β):List α->Option (List β)
 |[]=>some []
 |x::r=>match f x,eL f r with
   |some y,some s=>some (y::s)
   |_,_=>none
def K9:Value->Option AV
 |.agg cs=>(eL AG cs.toList).map .agg
 |.tuple ⟨[]⟩=>some (.tuple [])
 |v=>AG v
def fS:Operand->Option cX
 |.tmp t=>some (.tmp t)
 |.const v=>(K9 v).map .const
 |.func f=>some (.const (.fn f []))
 |.global _=>none
def pD(xs:Array Operand):Option (List cX):=eL fS xs.toList
def B6:Option Operand->Option (Option cX)
 |none=>some none
 |some x=>(fS x).map some
def IF(P:Program)(t:TypeId):Option (Option Nat):=
 match P.underlying t with
 |none=>none
 |some (.struct _)=>(P.info? t).map λi=>some i.size
 |some (.array ..)=>(P.info? t).map λi=>some i.size
 |some _=>some none
def om(P:Program)(t:TypeId):Option (List AV):=((P.info? t).bind (·.zero)).bind λz=>(K9 z).bind AV.cells?
def zeroV(P:Program)(t:TypeId):Option AV:=((P.info? t).bind (·.zero)).bind K9
def LB(P:Program)(t:TypeId):Option Nat:=
 match P.underlying t with
 |some .bool=>some 0
 |some (.int _)=>some 1
 |some .string=>some 2
 |_=>none
def fI(P:Program):List Field->Nat->Option (List Nat)
 |[],_=>some []
 |f::r,i=>if f.name≠ "_" /\f.offset=i then (match LB P f.type,fI P r (i+1) with
   |some k,some ks=>some (k::ks)
   |_,_=>none) else none
def Ag:Operand->Bool
 |.const .nilIface|.const (.pointer none)|.const .nilFunc|.const (.map none)=>true
 |_=>false
def placesOf(P:Program)(fs:Array Field):Option (List (Nat×Nat)):=fs.toList.mapM λf=>(P.info? f.type).map λi=>(f.offset,i.size)
def oO(places:List (Nat×Nat)):List (Nat×Operand)->Option (List (Nat×Nat×cX))
 |[]=>some []
 |(i,x)::r=>
   match places[i]?,fS x,oO places r with
   |some p,some x',some r'=>some ((p.1,p.2,x')::r')
   |_,_,_=>none
def vu(op:BinOp)(k:Nat)(x' y':cX)(y:Operand):Option ye:=
 if Ag y then
  (match op with
  |.eql=>some (.peq k false x' y')
  |.neq=>some (.peq k true x' y')
  |_=>none) else none
def Qj(P:Program)(op:BinOp)(t:TypeId)(x y:Operand):Option ye:=
 match fS x,fS y with
 |some x',some y'=>
   match P.underlying t with
   |some (.int _)|some .string=>some (.bin op x' y')
   |some .bool=>(match op with
    |.eql=>some (.beq false x' y')
    |.neq=>some (.beq true x' y')
    |_=>none)
   |some (.struct fs)=>(match fI P fs.toList 0 with
     |some ks=>if P.eqGuardType P.depth t=false/\P.stoodInHeld t=false then
       (match op with
       |.eql=>some (.ceq ks false x' y')
       |.neq=>some (.ceq ks true x' y')
       |_=>none) else none
     |none=>none)
   |some (.pointer _)=>vu op 0 x' y' y
   |some (.interface _)=>vu op 1 x' y' y
   |some (.func ..)=>vu op 2 x' y' y
   |some (.map ..)=>vu op 3 x' y' y
   |some (.slice _)=>(match op,y with
     |.eql,.const (.slice none 0 0)=>some (.Nk false x')
     |.neq,.const (.slice none 0 0)=>some (.Nk true x')
     |_,_=>none)
   |_=>none
 |_,_=>none
def KJ(P:Program)(s d:TypeId)(x:Operand):Option ye:=
 match fS x,P.underlying s,P.underlying d with
 |some x',some (.int _),some (.int k)=>some (.cvi k x')
 |some x',some (.int _),some .string=>some (.NS x')
 |some x',some .string,some .string=>some (.Uw x')
 |some x',some .string,some (.slice e)=>(match P.underlying e with|some (.int .u8)=>some (.RF x')|_=>none)
 |some x',some (.slice e),some .string=>(match P.underlying e with|some (.int .u8)=>some (.Ra x')|_=>none)
 |_,_,_=>none
def dn(P:Program):Op->Option ye
 |.move x|.assign x=>(fS x).map .Gs
 |.pick c x y=>match fS c,fS x,fS y with
   |some c',some x',some y'=>some (.pick c' x' y')
   |_,_,_=>none
 |.alloc t=>(om P t).map λz=>.box (.const (.agg z))
 |.box _ x=>(fS x).map .box
 |.build t parts=>match P.underlying t,om P t with
   |some (.struct fs),some z=>match placesOf P fs with
     |some places=>(oO places parts.toList).map λps=>.S2 z ps
     |none=>none
   |_,_=>none
 |.buildSlice t len parts=>if len=0/\parts.isEmpty then (match P.underlying t with
  |some (.slice e)=>(P.info? e).map λ_=>.bs0
  |_=>none) else match P.underlying t with
   |some (.slice e)=>match P.info? e,om P e,eL (λp=>(fS p.2).map λx=>(p.1,x)) parts.toList with
     |some i,some z,some ps=>if len*i.size<=2^24/\z.length=i.size then some (.A3 i.size len ((List.range (len*i.size)).map λj=>z.getD (j%i.size) .undef) ps) else none
     |_,_,_=>none
   |_=>none
 |.load t x=>match fS x,IF P t with
   |some x',some n=>some (.ld n x')
   |_,_=>none
 |.store t x v=>match fS x,fS v,P.info? t with
   |some x',some v',some i=>some (.st i.size x' v')
   |_,_,_=>none
 |.nilCheck x=>(fS x).map .nck
 |.binOp op t x y _=>Qj P op t x y
 |.unOp op _ x=>(fS x).map (.un op)
 |.convert s d x=>KJ P s d x
 |.makeInterface t x=>match fS x,P.underlying t with
   |some _,some (.interface _)=>none
   |some x',some _=>some (.mki t x')
   |_,_=>none
 |.makeFunc (.func f) first aN=>if first.isEmpty then (pD aN).map (.TL f) else none
 |.makeMap _ none=>some .mkm
 |.makeSlice t l c=>match P.underlying t,fS l,fS c with
   |some (.slice e),some l',some c'=>match P.info? e,om P e with
     |some i,some z=>if z.length=i.size then some (.mks i.bytes z l' c') else none
     |_,_=>none
   |_,_,_=>none
 |.slice t x lo hi mx=>match P.underlying t,fS x,B6 lo,B6 hi,B6 mx with
   |some .string,some x',some TA,some iB,some none=>some (.WN x' TA iB)
   |some (.slice e),some x',some TA,some iB,some mx'=>(P.info? e).map λi=>.slv i.size x' TA iB mx'
   |_,_,_,_,_=>none
 |.fieldAddr s x f=>match P.underlying s,fS x with
   |some (.struct fs),some x'=>match fs[f]? with
     |some fd=>match P.info? fd.type with
       |some i=>if i.size≠0 then some (.fad fd.offset x') else none
       |none=>none
     |none=>none
   |_,_=>none
 |.field t x f=>match P.underlying t,fS x with
   |some (.struct fs),some x'=>match fs[f]? with
     |some fd=>(IF P fd.type).map λn=>.fld fd.offset n x'
     |none=>none
   |_,_=>none
 |.indexAddr t x i=>match P.underlying t,fS x,fS i with
   |some (.slice e),some x',some i'=>(P.info? e).map λinf=>.iad inf.size x' i'
   |_,_,_=>none
 |.index t x i=>match P.underlying t,fS x,fS i with
   |some .string,some x',some i'=>some (.ixs x' i')
   |_,_,_=>none
 |.lookup t m k ok=>match P.underlying t,fS m,fS k with
   |some (.map kt e),some m',some k'=>(match P.underlying kt,zeroV P e with
     |some (.int _),some z=>some (.lkp 1 z ok m' k')
     |_,_=>none)
   |_,_,_=>none
 |.mapUpdate t m k v=>match P.underlying t,fS m,fS k,fS v with
   |some (.map kt _),some m',some k',some v'=>(match P.underlying kt with
     |some (.int _)=>some (.Yd 1 m' k' v')
     |_=>none)
   |_,_,_,_=>none
 |.extract x i=>(fS x).map λx'=>.ext x' i
 |.call {callee:=.builtin b,args,argTypes}=>match b,args.toList,argTypes.toList with
   |.len,[x],[t]=>match P.underlying t with
     |some .string=>(fS x).map .lens
     |some (.slice _)=>(fS x).map .xn
     |some (.map ..)=>(fS x).map .acX
     |_=>none
   |.clear,[x],[t]=>match P.underlying t,fS x with
     |some (.slice e),some x'=>match P.info? e,om P e with
       |some i,some z=>if z.length=i.size then some (.clr z x') else none
       |_,_=>none
     |_,_=>none
   |.max,[x,y],_=>match fS x,fS y with
     |some x',some y'=>some (.mx x' y')
     |_,_=>none
   |.min,[x,y],_=>match fS x,fS y with
     |some x',some y'=>some (.mn x' y')
     |_,_=>none
   |.append,[x,y],[t,u]=>match P.underlying t,P.underlying u,fS x,fS y with
     |some (.slice _),some (.int _),_,_=>none
     |some (.slice e),some _,some x',some y'=>match P.info? e,om P e with
       |some i,some z=>if z.length=i.size/\0<i.size then some (.app i.size i.bytes x' y') else none
       |_,_=>none
     |_,_,_,_=>none
   |_,_,_=>none
 |_=>none
def uZ(P:Program)(op:Op):Option ye:=match dn P op with|some a=>some a|none=>some .die
def P9(P:Program):Op->Option SX
 |.call {callee:=.value f,args,argTypes:=_}=>match fS f,pD args with
   |some (.const (.fn g [])),some as=>some (.call g as)
   |some f',some as=>some (.lg f' as)
   |_,_=>some (.op .die)
 |op=>(uZ P op).map .op
def ER(P:Program)(ops:Array Oper)(o:Oper):Option ye:=
 match o.op with
 |.buildSlice t len parts=>match P.underlying t with
   |some (.slice e)=>match P.info? e,om P e,eL (λp=>(fS p.2).map λx=>(p.1,x)) parts.toList with
     |some i,some z,some ps=>if i.size=1/\len<=2^24/\z.length=1/\(o.dst.isSome&&ops.toList.any λq=>match q.op with|.convert _ _ x=>(match fS x,o.dst with|some (.tmp u),some t'=>Nat.beq u t'|_,_=>false)|_=>false)=true
      then some (.fsl len ((List.range (len*1)).map λj=>z.getD (j%1) .undef) ps) else none
     |_,_,_=>none
   |_=>none
 |.convert s d x=>match fS x,P.underlying s,P.underlying d with
   |some (.tmp u),some (.slice e),some .string=>(match P.underlying e with
     |some (.int .u8)=>if (ops.toList.any λq=>match q.op,q.dst with|.buildSlice ..,some t'=>Nat.beq u t'|_,_=>false)=true then some (.VG (.tmp u)) else none
     |_=>none)
   |_,_,_=>none
 |_=>none
def E7(P:Program)(ops:Array Oper)(o:Oper):Option SX:=match ER P ops o with|some a=>some (.op a)|none=>P9 P o.op
def ln(P:Program)(ops:Array Oper)(o:Oper):Option aO:=
 match E7 P ops o with
 |none=>none
 |some a=>match o.guard with
   |none=>some {dst:=o.dst,op:=a}
   |some (j,want)=>((ops[j]?).bind (·.dst)).map λt=>{dst:=o.dst,op:=a,guard:=some (t,want)}
def force{α:Type}(n:Nat)(k:Nat->α):α:=match n with|0=>k 0|m+1=>k (m+1)
def By(b:List Nat):List Edge->Nat
 |[]=>0
 |e::r=>if Region.binds .any e then (2^e.on|||b.getD e.on 0)|||By b r else By b r
def aca:List Oper->List Nat->List Nat
 |[],aJ=>aJ
 |o::r,aJ=>force (By aJ o.after.toList) λv=>aca r (aJ++[v])
def bt(b:List Nat)(i j:Nat):Bool:=(b.getD j 0).testBit i
def rj(b:List Nat)(es:List (aO×Nat)):List (Nat×Nat):=es.flatMap λp=>if p.1.Ld then es.filterMap λq=>if q.1.uf&&!bt b p.2 q.2&&!bt b q.2 p.2 then some (p.2,q.2) else none else []
def A2(b:List Nat)(es:List (aO×Nat))(s:aO)(i:Nat)(r:aO)(j:Nat):Bool:=
 i==j||
 ((match s.dst,r.dst with|some d,some d'=>d !=d'|_,_=>true)&&
  (!(i<j&&s.uf&&r.uf)||bt b i j||r.mN)&&
  (match r.dst with
   |none=>true
   |some d=>!s.reads.contains d||(if j<i then bt b j i&&(!r.mN||es.all λq=>!(q.2<j&&q.1.uf)||bt b q.2 i) else bt b i j))&&
  (!(s.Ld&&r.mN&&decide (j<i)&&bt b j i)||es.all λq=>!(q.2<j&&q.1.uf)||bt b q.2 i))
def Co(b:List Nat)(p:Oper×Nat):Bool:=b.getD p.2 0==By b p.1.after.toList&&p.1.after.toList.all λe=>!Region.binds .any e||decide (e.on<p.2)
def Is(ops:Array Oper)(as:List aO)(b:List Nat):Bool:=(ops.toList.zipIdx.all (Co b))&&(as.zipIdx.all λp=>as.zipIdx.all λq=>A2 b as.zipIdx p.1 p.2 q.1 q.2)
def Wx(as:List aO)(b:List Nat):cw:=
 match rj b as.zipIdx with
 |[]=>.mK as
 |Yi=>.nG as Yi
def zZ:aO:=⟨none,.op .die,none⟩
def dD(P:Program):Code->Option cw
 |.skip=>some .skip
 |.region _ ops draw=>match eL (ln P ops) ops.toList with
   |some as=>if draw then (if Is ops as (aca ops.toList []) then some (Wx as (aca ops.toList [])) else some (.mK [zZ])) else some (.mK as)
   |none=>some (.mK [zZ])
 |.seq a b=>match dD P a,dD P b with
   |some a',some b'=>some (.seq a' b')
   |_,_=>none
 |.cond c a b=>match fS c,dD P a,dD P b with
   |some c',some a',some b'=>some (.cond c' a' b')
   |_,_,_=>none
 |.block id a=>(dD P a).map (.block id)
 |.loop a=>(dD P a).map (.loop [])
 |.exit id=>some (.exit id [])
 |.ret=>some (.ret [])
 |_=>some (.mK [zZ])
def vM(P:Program):ResultVar->Option Lq
 |.tmp t=>some (.tmp t)
 |.cell t ty=>(IF P ty).map λn=>.cell t n
end
section
theorem gA{h:af}{o:aS}{id:Nat}(hl:live (h.alloc o) id):id=h.next\/(live h id/\id<h.next):=by
 obtain⟨x,hg,hx⟩:=hl;have de:=af.dO hg;simp only[af.lM] at de;rcases Nat.lt_or_ge id h.next with bZ|bZ
 .exact .inr ⟨⟨x,by rw[<-af.dm (o:=o) bZ];exact hg,hx⟩,bZ⟩
 .exact .inl (by omega)
theorem zl{h:af}{o:aS}{id i:Nat}(hl:live (h.set i o) id)(hi:live h i):live h id:=by
 by_cases e:i=id
 .exact e▸hi
 .obtain⟨x,hg,hx⟩:=hl;rw[af.get_set_other e] at hg;exact⟨x,hg,hx⟩
theorem af.nN{h:af}(o:aS)(hw:h.wf):(h.alloc o).wf:=by simpa[af.wf,af.alloc] using hw
theorem af.wf_set{h:af}(id:Nat)(o:aS)(hw:h.wf):(h.set id o).wf:=by unfold af.set;split<;>simpa[af.wf] using hw
theorem af.Ct{h:af}(id:Nat)(v:AV)(hw:h.wf):(h.mark id v).wf:=by unfold af.mark;split<;>simpa[af.wf] using hw
theorem af.JK{h:af}(n:Nat)(hw:h.wf):(h.jT n).wf:=by unfold af.wf at *;simp only[af.jT,List.length_drop,hw];omega
def eF(φ:eh)(n:Nat)(e:PE):eh:={φ with at_:=λid=>if id=n then e else φ id}
theorem getElem?_push_lt{α:Type}{a:Array α}{x:α}{i:Nat}(h:i<a.size):(a.push x)[i]? =a[i]?:=by rw[Array.getElem?_push];rw[if_neg (by omega)]
section
variable {φ:eh}{h:af}{w:World}
theorem HR.ft(hr:HR φ h w){id:Nat}(hl:live h id):(φ id).gm<w.heap.size:=by
 obtain⟨o,hg,ho⟩:=hl;have key:∀x,w.heap[(φ id).gm]? =some x->(φ id).gm<w.heap.size:=λx hx=>(Array.getElem?_eq_some_iff.1 hx).1
 cases o with
 |row cs=>obtain⟨c,el,fr,hb,_⟩:=hr.rows id cs hg;exact key _ hb
 |map es=>obtain⟨e,k,hb,_⟩:=hr.maps id es hg;exact key _ hb
 |dead=>exact (ho rfl).elim
theorem QC{w':World}{o:aS}{x:Obj}{e:PE}(hr:HR φ h w)(hh:w'.heap=w.heap.push x)(ho:w'.os=w.os)(ht:w'.tape=w.tape)(tJ:w'.output=w.output)
 (he:e.gm=w.heap.size):Ext φ h w (eF φ h.next e) (h.alloc o) w':=by
 refine⟨ho,ht,tJ,by rw[hh];simp,by simp,λid bZ=>by simp[eF,Nat.ne_of_lt bZ],λb hb=>⟨⟨by rw[hh];simp;have:=hb.1;omega,λid hl=>?_,hb.2.2⟩,by rw[hh];exact getElem?_push_lt hb.1⟩,
  rfl,λb hb=>by rw[hh];exact getElem?_push_lt (hr.gh b hb).1⟩
 rcases gA hl with rfl|⟨hl,de⟩
 .simp only[eF,if_true,he];have:=hb.1;omega
 .simp only[eF,Nat.ne_of_lt de,if_false];exact hb.2.1 id hl
theorem U1{w':World}{o:aS}{x:Obj}{e:PE}(hr:HR φ h w)(hh:w'.heap=w.heap.push x)(he:e.gm=w.heap.size):
 ∀b,(eF φ h.next e).gh b->b<w'.heap.size/\∀id,live (h.alloc o) id->((eF φ h.next e) id).gm≠b:=λb hb=>by
 obtain⟨g1,g2⟩:=hr.gh b hb;refine⟨by rw[hh];simp;omega,λid hl=>?_⟩;rcases gA hl with rfl|⟨hl,de⟩
 .simp only[eF,if_true,he];omega
 .simp only[eF,Nat.ne_of_lt de,if_false];exact g2 id hl
theorem uw.ext{φ':eh}{h':af}{w':World}{id:Nat}{cs:List AV}(hk:uw φ h w id cs)(e:Ext φ h w φ' h' w')(bZ:id<h.next)
 (hb:w'.heap[(φ id).gm]? =w.heap[(φ id).gm]?):uw φ' h' w' id cs:=by
 obtain⟨c,el,fr,h1,h2,h3,h4,h5,h6⟩:=hk;have hp:=e.B9 id bZ;refine⟨c,el,fr,by rw[hp,hb];exact h1,by rw[hp];exact h2,by rw[hp];exact h3,h4,by rw[hp];exact h5,λj hj=>?_⟩;rw[hp];exact (h6 j hj).ext e
theorem zg.ext{φ':eh}{h':af}{w':World}{id:Nat}{es:List (AV×AV)}(hk:zg φ h w id es)(e:Ext φ h w φ' h' w')(bZ:id<h.next)
 (hb:w'.heap[(φ id).gm]? =w.heap[(φ id).gm]?):zg φ' h' w' id es:=by
 obtain⟨c,k,h1,h2,h3⟩:=hk;have hp:=e.B9 id bZ;exact⟨c,k,by rw[hp,hb];exact h1,h2,λj hj=>⟨(h3 j hj).1.ext e,(h3 j hj).2.ext e⟩⟩
theorem CI{w':World}{c:Array Value}{el:TypeId}{fz:Nat×Nat}{cs:List AV}(hr:HR φ h w)(hh:w'.heap=w.heap.push (.cells c el fz))
 (ho:w'.os=w.os) (ht:w'.tape=w.tape) (tJ:w'.output=w.output) (QQ:∀o,o<c.size->¬(fz.1<=o/\o<fz.2))
 (h1:∀j,j<c.size->(c.getD j default).oneCell'=true) (hl:cs.length<=c.size) (hv:∀j (hj:j<cs.length),eZ φ h w cs[j] (c.getD j default)):
 HR (eF φ h.next ⟨w.heap.size,0,c.size⟩) (h.alloc (.row cs)) w'/\Ext φ h w (eF φ h.next ⟨w.heap.size,0,c.size⟩) (h.alloc (.row cs)) w':=by
 have e:Ext φ h w (eF φ h.next ⟨w.heap.size,0,c.size⟩) (h.alloc (.row cs)) w':=QC (o:=.row cs) hr hh ho ht tJ rfl;refine⟨⟨af.nN _ hr.wf,λid iA hg=>?_,λid es hg=>?_,λi j hi hj tK=>?_,U1 hr hh rfl⟩,e⟩
 .have de:=af.dO hg;simp only[af.lM] at de;rcases Nat.lt_or_ge id h.next with bZ|bZ
  .rw[af.dm bZ] at hg;have hb:=hr.ft ⟨_,hg,λe=>by cases e⟩;exact (hr.rows id iA hg).ext e bZ (by rw[hh];exact getElem?_push_lt hb)
  .obtain rfl:id=h.next:=by omega
   rw[af.eY] at hg;cases hg;refine⟨c,el,fz,?_,?_,?_,QQ,?_,λj hj=>?_⟩
   .simp[eF,hh]
   .simp[eF]
   .simpa[eF] using hl
   .simpa[eF] using h1
   .have:=(hv j hj).ext e;simpa[eF] using this
 .have de:=af.dO hg;simp only[af.lM] at de;rcases Nat.lt_or_ge id h.next with bZ|bZ
  .rw[af.dm bZ] at hg;have hb:=hr.ft ⟨_,hg,λe=>by cases e⟩;exact (hr.maps id es hg).ext e bZ (by rw[hh];exact getElem?_push_lt hb)
  .obtain rfl:id=h.next:=by omega
   rw[af.eY] at hg;cases hg
 .rcases gA hi with rfl|⟨hi,wy⟩<;>rcases gA hj with rfl|⟨hj,HI⟩
  .rfl
  .have:=hr.ft hj;simp only[eF,if_true,Nat.ne_of_lt HI,if_false] at tK;omega
  .have:=hr.ft hi;simp only[eF,if_true,Nat.ne_of_lt wy,if_false] at tK;omega
  .simp only[eF,Nat.ne_of_lt wy,Nat.ne_of_lt HI,if_false] at tK;exact hr.inj i j hi hj tK
theorem Za{w':World}{oW:Nat}(hr:HR φ h w)(hh:w'.heap=w.heap.push (.map #[] oW))(ho:w'.os=w.os)(ht:w'.tape=w.tape)(tJ:w'.output=w.output):
 HR (eF φ h.next ⟨w.heap.size,0,0⟩) (h.alloc (.map [])) w'/\Ext φ h w (eF φ h.next ⟨w.heap.size,0,0⟩) (h.alloc (.map [])) w':=by
 have e:Ext φ h w (eF φ h.next ⟨w.heap.size,0,0⟩) (h.alloc (.map [])) w':=QC (o:=.map []) hr hh ho ht tJ rfl;refine⟨⟨af.nN _ hr.wf,λid iA hg=>?_,λid es hg=>?_,λi j hi hj tK=>?_,U1 hr hh rfl⟩,e⟩
 .have de:=af.dO hg;simp only[af.lM] at de;rcases Nat.lt_or_ge id h.next with bZ|bZ
  .rw[af.dm bZ] at hg;have hb:=hr.ft ⟨_,hg,λe=>by cases e⟩;exact (hr.rows id iA hg).ext e bZ (by rw[hh];exact getElem?_push_lt hb)
  .obtain rfl:id=h.next:=by omega
   rw[af.eY] at hg;cases hg
 .have de:=af.dO hg;simp only[af.lM] at de;rcases Nat.lt_or_ge id h.next with bZ|bZ
  .rw[af.dm bZ] at hg;have hb:=hr.ft ⟨_,hg,λe=>by cases e⟩;exact (hr.maps id es hg).ext e bZ (by rw[hh];exact getElem?_push_lt hb)
  .obtain rfl:id=h.next:=by omega
   rw[af.eY] at hg;cases hg;exact⟨#[],oW,by simp[eF,hh],rfl,λj hj=>by simp at hj⟩
 .rcases gA hi with rfl|⟨hi,wy⟩<;>rcases gA hj with rfl|⟨hj,HI⟩
  .rfl
  .have:=hr.ft hj;simp only[eF,if_true,Nat.ne_of_lt HI,if_false] at tK;omega
  .have:=hr.ft hi;simp only[eF,if_true,Nat.ne_of_lt wy,if_false] at tK;omega
  .simp only[eF,Nat.ne_of_lt wy,Nat.ne_of_lt HI,if_false] at tK;exact hr.inj i j hi hj tK
theorem KD{w':World}{id:Nat}{o o':aS}(hr:HR φ h w)(hg:h.get id=some o)(xX:∀_:o=.dead,False)
 (iz:w'.heap.size=w.heap.size) (hh:∀b,b≠(φ id).gm->w'.heap[b]? =w.heap[b]?)
 (ho:w'.os=w.os) (ht:w'.tape=w.tape) (tJ:w'.output=w.output):
 Ext φ h w φ (h.set id o') w'/\((∀cs,o'=.row cs->uw φ (h.set id o') w' id cs)->(∀es,o'=.map es->zg φ (h.set id o') w' id es)->HR φ (h.set id o') w'):=by
 have ow:live h id:=⟨o,hg,xX⟩
 have e:Ext φ h w φ (h.set id o') w':=by
  refine⟨ho,ht,tJ,by omega,by simp,λ_ _=>rfl,λb hb=>⟨⟨by rw[iz];exact hb.1,λi hi=>hb.2.1 i (zl hi ow),hb.2.2⟩,hh b λeq=>hb.2.1 id ow eq.symm⟩,
   rfl,λb hb=>hh b λeq=>(hr.gh b hb).2 id ow eq.symm⟩
 refine⟨e,λqQ akk=>⟨af.wf_set _ _ hr.wf,λi cs hi=>?_,λi es hi=>?_,λi j hi hj tK=>hr.inj i j (zl hi ow) (zl hj ow) tK,
  λb hb=>⟨by rw[iz];exact (hr.gh b hb).1,λi hi=>(hr.gh b hb).2 i (zl hi ow)⟩⟩⟩
 .by_cases eq:id=i
  .subst eq;rw[af.get_set_same hg] at hi;exact qQ cs (by simpa using hi)
  .have hi0:=hi;rw[af.get_set_other eq] at hi;refine (hr.rows i cs hi).ext e (af.dO hi) (hh _ λhb=>eq (hr.inj id i ow ⟨_,hi,λe=>by cases e⟩ hb.symm))
 .by_cases eq:id=i
  .subst eq;rw[af.get_set_same hg] at hi;exact akk es (by simpa using hi)
  .rw[af.get_set_other eq] at hi;refine (hr.maps i es hi).ext e (af.dO hi) (hh _ λhb=>eq (hr.inj id i ow ⟨_,hi,λe=>by cases e⟩ hb.symm))
theorem kb{id i:Nat}(hl:live (h.set id .dead) i):live h i/\i≠id:=by
 obtain⟨o,hg,xX⟩:=hl;by_cases eq:id=i
 .subst eq;have de:=af.dO hg;simp only[af.Xo] at de
  cases hx:h.get id with
  |none=>unfold af.set at hg;rw[if_pos de] at hg;unfold af.get at hg hx;simp only[de,if_true] at hg hx;rw[List.getElem?_eq_none_iff] at hx;rw[List.getElem?_eq_none (by simpa using hx)] at hg;cases hg
  |some x=>rw[af.get_set_same hx] at hg;cases hg;exact (xX rfl).elim
 .rw[af.get_set_other eq] at hg;exact⟨⟨o,hg,xX⟩,λe=>eq e.symm⟩
theorem abh(hr:HR φ h w)(id:Nat):HR φ (h.set id .dead) w/\Ext φ h w φ (h.set id .dead) w:=by
 have e:Ext φ h w φ (h.set id .dead) w:=⟨rfl,rfl,rfl,Nat.le_refl _,by simp,λ_ _=>rfl,λb hb=>⟨⟨hb.1,λi hi=>hb.2.1 i (kb hi).1,hb.2.2⟩,rfl⟩,rfl,λ_ _=>rfl⟩
 refine⟨⟨af.wf_set _ _ hr.wf,λi cs hi=>?_,λi es hi=>?_,λi j hi hj tK=>hr.inj i j (kb hi).1 (kb hj).1 tK,λb hb=>⟨(hr.gh b hb).1,λi hi=>(hr.gh b hb).2 i (kb hi).1⟩⟩,e⟩
 .have fB:=(kb ⟨_,hi,λe=>by cases e⟩).2;rw[af.get_set_other (Ne.symm fB)] at hi;exact (hr.rows i cs hi).ext e (af.dO hi) rfl
 .have fB:=(kb ⟨_,hi,λe=>by cases e⟩).2;rw[af.get_set_other (Ne.symm fB)] at hi;exact (hr.maps i es hi).ext e (af.dO hi) rfl
theorem Qp(eB:List Nat):∀{h:af},HR φ h w->HR φ (kill h eB) w/\Ext φ h w φ (kill h eB) w:=by
 induction eB with
 |nil=>exact λhr=>⟨hr,.refl _ _ _⟩
 |cons id r ih=>intro h hr;obtain⟨h1,e1⟩:=abh hr id;obtain⟨h2,e2⟩:=ih h1;exact⟨h2,e1.trans e2⟩
theorem Ru:∀(eB:List Nat) {h:af} {i:Nat},live (kill h eB) i->live h i/\i∉eB:=by
 intro eB
 induction eB with
 |nil=>exact λhl=>⟨hl,by simp⟩
 |cons id r ih=>intro h i hl;obtain⟨h1,h2⟩:=ih hl;obtain⟨h3,h4⟩:=kb h1;exact⟨h3,by simp[h2,h4]⟩
theorem HR.mark(hr:HR φ h w)(id:Nat)(v:AV):HR φ (h.mark id v) w/\Ext φ h w φ (h.mark id v) w:=by
 have eU:∀i,live (h.mark id v) i↔live h i:=λi=>by unfold live;simp only[af.lh]
 have e:Ext φ h w φ (h.mark id v) w:=⟨rfl,rfl,rfl,Nat.le_refl _,by simp,λ_ _=>rfl,λb hb=>⟨⟨hb.1,λi hi=>hb.2.1 i ((eU i).1 hi),hb.2.2⟩,rfl⟩,rfl,λ_ _=>rfl⟩
 refine⟨⟨af.Ct _ _ hr.wf,λi cs hi=>?_,λi es hi=>?_,λi j hi hj=>hr.inj i j ((eU i).1 hi) ((eU j).1 hj),λb hb=>⟨(hr.gh b hb).1,λi hi=>(hr.gh b hb).2 i ((eU i).1 hi)⟩⟩,e⟩
 .rw[af.lh] at hi;exact (hr.rows i cs hi).ext e (af.dO hi) rfl
 .rw[af.lh] at hi;exact (hr.maps i es hi).ext e (af.dO hi) rfl
theorem HR.w5(hr:HR φ h w)(x y:Nat):HR φ {h with wl:=x,md:=y} w/\Ext φ h w φ {h with wl:=x,md:=y} w:=by
 have e:Ext φ h w φ {h with wl:=x,md:=y} w:=⟨rfl,rfl,rfl,Nat.le_refl _,Nat.le_refl _,λ_ _=>rfl,λb hb=>⟨hb,rfl⟩,rfl,λ_ _=>rfl⟩
 refine⟨⟨hr.wf,λi cs hi=>?_,λi es hi=>?_,λi j hi hj=>hr.inj i j hi hj,hr.gh⟩,e⟩
 .exact (hr.rows i cs hi).ext e (af.dO hi) rfl
 .exact (hr.maps i es hi).ext e (af.dO hi) rfl
end
theorem HR.world{φ:eh}{h:af}{w w':World}(hr:HR φ h w)(hh:w'.heap=w.heap)(ho:w'.os=w.os)(ht:w'.tape=w.tape)(tJ:w'.output=w.output):
 HR φ h w'/\Ext φ h w φ h w':=by
 have e:Ext φ h w φ h w':=⟨ho,ht,tJ,by rw[hh];exact Nat.le_refl _,Nat.le_refl _,λ_ _=>rfl,λb hb=>⟨⟨by rw[hh];exact hb.1,hb.2⟩,by rw[hh]⟩,rfl,λ_ _=>by rw[hh]⟩
 refine⟨⟨hr.wf,λi cs hi=>?_,λi es hi=>?_,λi j hi hj=>hr.inj i j hi hj,λb hb=>by rw[hh];exact hr.gh b hb⟩,e⟩
 .exact (hr.rows i cs hi).ext e (af.dO hi) (by rw[hh])
 .exact (hr.maps i es hi).ext e (af.dO hi) (by rw[hh])
end
section
def fu(P:Program)(s:Sem Next)(φ:eh)(h:af)(w:World)(v:AV)(h':af):Prop:=∃cv w' φ',(s.run P w=.ok (.value cv) w'\/(s.run P w=.ok .skip w'/\cv=undef))/\eZ φ' h' w' v cv/\HR φ' h' w'/\Ext φ h w φ' h' w'
theorem fu.pure{P:Program}{s:Sem Next}{φ:eh}{h:af}{w:World}{v:AV}{cv:Value}(hr:HR φ h w)(hs:s.run P w=.ok (.value cv) w)(hv:eZ φ h w v cv):
 fu P s φ h w v h:=⟨cv,w,φ,.inl hs,hv,hr,.refl _ _ _⟩
section consts
variable {φ:eh}{nx:Nat}{pr:Nat->Prop}{w:World}
theorem Hv{v:Value}{av:AV}(he:AG v=some av):RV φ nx pr w av v:=by
 unfold AG at he;split at he<;>cases he
 .exact .bool _
 .exact .int _ _
 .exact .str _
 .exact .mO
 .exact .aD _
 .exact .jV
 .exact .iU
 .exact .mM
 .exact .fn _ [] #[] rfl λj hj=>by simp at hj
theorem IW{v:Value}{av:AV}(he:AG v=some av):v.oneCell'=true/\av.cells? =some [av]:=by unfold AG at he;split at he<;>cases he<;>simp[Value.oneCell',AV.cells?]
theorem nF{α β:Type}{f:α->Option β}:∀{l:List α} {m:List β},eL f l=some m->m.length=l.length
 |[],m,he=>by simp[eL] at he;subst he;rfl
 |x::r,m,he=>by
   unfold eL at he;split at he
   .rename_i y s h1 h2;cases he;simp[nF h2]
   .cases he
theorem lQ{α β:Type}{f:α->Option β}:∀{l:List α} {m:List β},eL f l=some m->∀i (hi:i<l.length) (iB:i<m.length),f l[i]=some m[i]
 |[],m,he=>by intro i hi;simp at hi
 |x::r,m,he=>by
   unfold eL at he;split at he
   .rename_i y s h1 h2;cases he;intro i hi iB
    cases i with
    |zero=>simpa using h1
    |succ i=>simpa using lQ h2 i (by simpa using hi) (by simpa using iB)
   .cases he
theorem Dl{v:Value}{av:AV}(he:K9 v=some av):RV φ nx pr w av v:=by
 unfold K9 at he;split at he
 .rename_i cs;obtain⟨l,hl,rfl⟩:=Option.map_eq_some_iff.1 he;have cT:=nF hl;refine .agg l cs (by simpa using cT.symm) (λj=>?_) λj hj=>?_
  .by_cases hj:j<cs.size
   .have jk:j<cs.toList.length:=by simpa using hj
    have:=(IW (lQ hl j jk (by omega))).1;simpa[Array.getD,hj] using this
   .simp[Array.getD,hj];rfl
  have jk:j<cs.toList.length:=by omega
  have:=Hv (φ:=φ) (nx:=nx) (pr:=pr) (w:=w) (lQ hl j jk hj);have Fw:j<cs.size:=by simpa using jk
  simpa[Array.getD,Fw] using this
 .cases he;exact .tuple [] #[] rfl λj hj=>by simp at hj
 .exact Hv he
end consts
section
variable {P:Program}{φ:eh}{h:af}{w:World}{fr:List AV}{a:Act}
theorem cd{x:Operand}{x':cX}(he:fS x=some x')(hf:FR φ h w fr a.tmps):eZ φ h w (x'.ev fr) (a.eval x):=by
 unfold fS at he;split at he
 .cases he;exact hf.2 _
 .obtain⟨v',hv,rfl⟩:=Option.map_eq_some_iff.1 he;exact Dl hv
 .cases he;exact .fn _ [] #[] rfl λj hj=>by simp at hj
 .cases he
theorem RV.cells{nx:Nat}{pr:Nat->Prop}{v:AV}{cv:Value}{cs:List AV}(hv:RV φ nx pr w v cv)(hc:v.cells? =some cs):
 cv.cells.size=cs.length/\(∀j,(cv.cells.getD j default).oneCell'=true)/\∀j (hj:j<cs.length),RV φ nx pr w cs[j] (cv.cells.getD j default):=by
 cases hv with
 |agg l eW hl h1 hv=>simp only[AV.cells?,Option.some.injEq] at hc;subst hc;exact⟨hl,h1,hv⟩
 |undef=>simp[AV.cells?] at hc
 |tuple=>simp[AV.cells?] at hc
 |_=>
   simp only[AV.cells?,Option.some.injEq] at hc;subst hc;refine⟨rfl,λj=>by cases j<;>rfl,λj hj=>?_⟩;obtain rfl:j=0:=by simpa using hj
   first
    |exact .bool _
    |exact .int _ _
    |exact .str _
    |exact .mO
    |exact .ptr _ _ ‹_›
    |exact .ip _ _ _ _ ‹_› ‹_› ‹_› ‹_› ‹_›
    |exact .ip _ _ _ _ ‹_› ‹_› ‹_› ‹_› (by assumption)
    |exact .aD _
    |exact .slnil _ _
    |exact .sl _ _ _ _ _ _ ‹_› ‹_› ‹_› ‹_› ‹_› ‹_› ‹_›
    |exact .vec _ _ _ _ _ _ _ ‹_› ‹_› ‹_› ‹_› ‹_›
    |exact .jV
    |exact .map _ ‹_›
    |exact .iU
    |exact .fn _ _ _ ‹_› ‹_›
    |exact .mM
    |exact .iface _ _ _ ‹_›
theorem VY{x:Operand}{o:Oper}(ho:o.op=.move x\/o.op=.assign x){x':cX}(hx:fS x=some x')(hf:FR φ h w fr a.tmps)(hr:HR φ h w):
 fu P (execOp a.eval o) φ h w (x'.ev fr) h:=
 .pure hr (by unfold execOp;rcases ho with ho|ho<;>simp[ho]) (cd hx hf)
theorem RV.iI{nx:Nat}{pr:Nat->Prop}{b:Bool}{cv:Value}(hv:RV φ nx pr w (.bool b) cv):cv=.bool b:=by cases hv;rfl
theorem RV.dP{nx:Nat}{pr:Nat->Prop}{k:IntKind}{n:Int}{cv:Value}(hv:RV φ nx pr w (.int k n) cv):cv=.int k n:=by cases hv;rfl
theorem RV.fM{nx:Nat}{pr:Nat->Prop}{s:List UInt8}{cv:Value}(hv:RV φ nx pr w (.str s) cv):∃b:ByteArray,cv=.string b/\b.data.toList=s:=by cases hv;exact⟨_,rfl,rfl⟩
theorem RV.xF{nx:Nat}{pr:Nat->Prop}{s:List UInt8}{b:ByteArray}(hb:b.data.toList=s):RV φ nx pr w (.str s) (.string b):=hb▸.str b
theorem YB{c x y:Operand}{o:Oper}(ho:o.op=.pick c x y){c' x' y':cX}(hc:fS c=some c')(hx:fS x=some x')(hy:fS y=some y'){b:Bool}(hb:c'.ev fr=.bool b)
 (hf:FR φ h w fr a.tmps) (hr:HR φ h w):fu P (execOp a.eval o) φ h w (if b then x'.ev fr else y'.ev fr) h:=by
 have h0:=cd hc hf;rw[hb] at h0;have h0:=h0.iI;refine .pure (cv:=if b then a.eval x else a.eval y) hr (by unfold execOp;simp[ho,h0,asBool]) ?_;cases b
 .exact cd hy hf
 .exact cd hx hf
theorem Zi(o:aS)(b r:Nat){w':World}:eZ (eF φ h.next ⟨b,0,r⟩) (h.alloc o) w' (.ptr h.next 0) (.pointer (some ⟨b,0,none⟩)):=by
 have:=RV.ptr (φ:=eF φ h.next ⟨b,0,r⟩) (nx:=(h.alloc o).next) (pr:=Pr (eF φ h.next ⟨b,0,r⟩) (h.alloc o) w') (w:=w') h.next 0 (by simp)
 have e:eF φ h.next ⟨b,0,r⟩ h.next=⟨b,0,r⟩:=by simp[eF]
 rw[e] at this;exact this
theorem Ip(o:aS)(b r n sz lb cap:Nat){w':World}(hn:n<=cap)(hb:lb<=cap)(hr:cap*sz<=r):eZ (eF φ h.next ⟨b,0,r⟩) (h.alloc o) w' (.vec h.next 0 n sz lb) (.slice (some ⟨b,0,none⟩) n cap):=.vec _ _ _ _ _ _ _ (by simp) hn hb (by simpa[eF] using hr) λ_=>by simp[eF]
theorem Dq{s:Sem Next}{c:Array Value}{el:TypeId}{cs:List AV}(hr:HR φ h w)
 (hs:s.run P w=.ok (.value (.pointer (some ⟨w.heap.size,0,none⟩))) (w.alloc (.cells c el)))
 (h1:∀j,(c.getD j default).oneCell'=true) (hl:cs.length<=c.size) (hv:∀j (hj:j<cs.length),eZ φ h w cs[j] (c.getD j default)):
 fu P s φ h w (.ptr h.next 0) (h.alloc (.row cs)):=by
 obtain⟨g1,g2⟩:=CI (w':=w.alloc (.cells c el)) hr rfl rfl rfl rfl (by simp) (λj _=>h1 j) hl hv;refine⟨_,_,_,.inl hs,?_,g1,g2⟩;exact Zi _ _ _
theorem ac7{t:TypeId}{x:Operand}{o:Oper}(ho:o.op=.box t x){x':cX}(hx:fS x=some x'){cs:List AV}(hc:(x'.ev fr).cells? =some cs)
 (hf:FR φ h w fr a.tmps) (hr:HR φ h w):fu P (execOp a.eval o) φ h w (.ptr h.next 0) (h.alloc (.row cs)):=by
 obtain⟨g1,g2,g3⟩:=(cd hx hf).cells hc;refine Dq (c:=(a.eval x).cells) (el:=t) hr ?_ g2 (by omega) g3;unfold execOp;simp[ho,Instr.box,newVar,newRow]
theorem o6{t:TypeId}{cs:List AV}(hz:om P t=some cs):∃i z,P.info? t=some i/\i.zero=some z/\z.cells.size=cs.length/\(∀j,(z.cells.getD j default).oneCell'=true)/\
 ∀nx pr (w:World),∀j (hj:j<cs.length),RV φ nx pr w cs[j] (z.cells.getD j default):=by
 unfold om at hz;obtain⟨z,hz1,hz2⟩:=Option.bind_eq_some_iff.1 hz;obtain⟨v,hv1,hv2⟩:=Option.bind_eq_some_iff.1 hz2;obtain⟨i,hi,Jg⟩:=Option.bind_eq_some_iff.1 hz1;have key:=λnx pr (w:World)=>(Dl (φ:=φ) (nx:=nx) (pr:=pr) (w:=w) hv1).cells hv2
 obtain⟨k1,k2,_⟩:=key 0 (λ_=>False) default;exact⟨i,z,hi,Jg,k1,k2,λnx pr w=>(key nx pr w).2.2⟩
theorem Ud{t:TypeId}{o:Oper}(ho:o.op=.alloc t){cs:List AV}(hz:om P t=some cs)(hr:HR φ h w):
 fu P (execOp a.eval o) φ h w (.ptr h.next 0) (h.alloc (.row cs)):=by
 obtain⟨i,z,hi,Jg,k1,k2,k3⟩:=o6 (φ:=φ) hz;refine Dq (c:=z.cells) (el:=t) hr ?_ k2 (by omega) (k3 _ _ _);unfold execOp;simp[ho,Instr.alloc,zeroValue,typeInfo,hi,Jg,newVar,newRow]
def so(φ:eh)(nx:Nat)(pr:Nat->Prop)(w:World)(l:List AV)(c:Array Value):Prop:=c.size=l.length/\(∀j,(c.getD j default).oneCell'=true)/\∀j (hj:j<l.length),RV φ nx pr w l[j] (c.getD j default)
theorem so.set{nx:Nat}{pr:Nat->Prop}{l:List AV}{c:Array Value}(hc:so φ nx pr w l c){v:AV}{cv:Value}(hv:RV φ nx pr w v cv)(h1:cv.oneCell'=true)(i:Nat):
 so φ nx pr w (l.set i v) (c.setIfInBounds i cv):=by
 obtain⟨k1,k2,k3⟩:=hc;refine⟨by simpa using k1,λj=>?_,λj hj=>?_⟩
 .have:=k2 j;rw[Array.getD_eq_getD_getElem?] at this|-;rw[Array.getElem?_setIfInBounds];by_cases e:i=j
  .subst e;by_cases hl:i<c.size
   .simpa[hl] using h1
   .simp[hl];rfl
  .simpa[e] using this
 .have jk:j<l.length:=by simpa using hj
  have:=k3 j jk;rw[Array.getD_eq_getD_getElem?] at this|-;rw[Array.getElem?_setIfInBounds,List.getElem_set];by_cases e:i=j
  .subst e;simpa[k1,jk] using hv
  .simpa[e] using this
theorem LP{nx:Nat}{pr:Nat->Prop}:∀(vs:List AV) (eW:List Value) (k off:Nat) (l:List AV) (c:Array Value),so φ nx pr w l c->
 vs.length=eW.length->(∀j (h:j<vs.length) (h':j<eW.length),RV φ nx pr w vs[j] eW[j]/\eW[j].oneCell'=true)->
 so φ nx pr w (putAt l (off+k) vs) ((eW.zipIdx k).foldl (λcs p=>cs.setIfInBounds (off+p.2) p.1) c)
 |[],[],_,_,_,_,hc,_,_=>hc
 |v::vs,cv::eW,k,off,l,c,hc,hl,hv=>by
   obtain⟨h1,h2⟩:=hv 0 (by simp) (by simp);have:=LP vs eW (k+1) off _ _ (hc.set (by simpa using h1) (by simpa using h2) (off+k)) (by simpa using hl) λj h h'=>hv (j+1) (Nat.succ_lt_succ h) (Nat.succ_lt_succ h')
   simpa[putAt,List.zipIdx_cons,Nat.add_assoc] using this
 |[],_::_,_,_,_,_,_,hl,_=>by simp at hl
 |_::_,[],_,_,_,_,_,hl,_=>by simp at hl
theorem zy(vs:List AV):∀(l:List AV) (off:Nat),(putAt l off vs).length=l.length:=by
 induction vs with
 |nil=>intro l off;rfl
 |cons v r ih=>intro l off;simp[putAt,ih]
theorem Cz{nx:Nat}{pr:Nat->Prop}(place:Nat->Option (Nat×Nat)):∀(ps:List (Nat×Nat×AV)) (cps:List (Nat×Value)) (l:List AV) (c:Array Value) (l':List AV),
 so φ nx pr w l c->ps.length=cps.length->(∀j (h:j<ps.length) (h':j<cps.length),place cps[j].1=some (ps[j].1,ps[j].2.1)/\RV φ nx pr w ps[j].2.2 cps[j].2)->
 mC l ps=some l'->∃c',Instr.fill place c cps=some c'/\so φ nx pr w l' c'
 |[],[],l,c,l',hc,_,_,hf=>by simp only[mC,Option.some.injEq] at hf;subst hf;exact⟨c,rfl,hc⟩
 |(off,sz,v)::ps,(i,cv)::cps,l,c,l',hc,hl,hp,hf=>by
   obtain⟨Mp,hv⟩:=hp 0 (by simp) (by simp);simp only[List.getElem_cons_zero] at Mp hv;unfold mC at hf;split at hf
   .rename_i cs np;split at hf
    .rename_i iz;obtain⟨g1,g2,g3⟩:=hv.cells np
     have step:=LP (φ:=φ) (nx:=nx) (pr:=pr) (w:=w) cs cv.cells.toList 0 off l c hc (by simpa using g1.symm) λj h h'=>by
      have e1:=g3 j h;have e2:=g2 j;have hj:j<cv.cells.size:=by omega
      simp only[Array.getD,hj,dif_pos] at e1 e2;exact⟨by simpa using e1,by simpa using e2⟩
     obtain⟨c',e1,e2⟩:=Cz place ps cps _ _ l' step (by simpa using hl) (λj h h'=>hp (j+1) (Nat.succ_lt_succ h) (Nat.succ_lt_succ h')) (by simpa using hf);refine⟨c',?_,e2⟩;unfold Instr.fill;simp only[Mp]
     have akn:(cv.cells.size≠sz||off+cv.cells.size > c.size)=false:=by have:=hc.1;simp;omega
     rw[if_neg (by rw[akn];simp)];rw[<-e1];congr 1;rw[<-Array.foldl_toList,Array.toList_zipIdx]
    .cases hf
   .cases hf
 |[],_::_,_,_,_,_,hl,_,_=>by simp at hl
 |_::_,[],_,_,_,_,hl,_,_=>by simp at hl
theorem P4{xs:Array Operand}{xs':List cX}(he:pD xs=some xs')(hf:FR φ h w fr a.tmps):
 (xs.map a.eval).size=xs'.length/\∀j,j<xs'.length->eZ φ h w ((xs'.map (·.ev fr)).getD j .undef) ((xs.map a.eval).getD j default):=by
 have cT:=nF he;simp only[Array.length_toList] at cT;refine⟨by simpa using cT.symm,λj hj=>?_⟩;have jk:j<xs.toList.length:=by simpa[<-cT] using hj
 have:=cd (lQ he j jk hj) hf;have Fw:j<xs.size:=by simpa using jk
 simpa[Array.getD,Fw,List.getD,hj] using this
theorem yB{places:List (Nat×Nat)}:∀{parts:List (Nat×Operand)} {ps:List (Nat×Nat×cX)},oO places parts=some ps->
 ps.length=parts.length/\∀j (h:j<ps.length) (h':j<parts.length),places[parts[j].1]? =some (ps[j].1,ps[j].2.1)/\fS parts[j].2=some ps[j].2.2
 |[],ps,he=>by simp[oO] at he;subst he;simp
 |(i,x)::r,ps,he=>by
   unfold oO at he;split at he
   .rename_i p x' r' h1 h2 h3;cases he;obtain⟨g1,g2⟩:=yB h3;refine⟨by simp[g1],λj hj jk=>?_⟩
    cases j with
    |zero=>simpa using ⟨h1,h2⟩
    |succ j=>simpa using g2 j (by simpa using hj) (by simpa using jk)
   .cases he
theorem vp(off:Nat):∀(l:List (Value×Nat)) (c:Array Value),(l.foldl (λcs (x:Value×Nat)=>match x with|(c,j)=>cs.setIfInBounds (off+j) c) c).size=c.size
 |[],_=>rfl
 |x::l,c=>by rw[List.foldl_cons,vp off l];simp
theorem ly(place:Nat->Option (Nat×Nat)):∀(ps:List (Nat×Value)) (c c':Array Value),Instr.fill place c ps=some c'->c'.size=c.size
 |[],c,c',he=>by simp[Instr.fill] at he;rw[he]
 |(i,v)::r,c,c',he=>by
   unfold Instr.fill at he;split at he
   .cases he
   .split at he
    .cases he
    .rw[ly place r _ c' he,<-Array.foldl_toList];exact vp _ _ _
theorem acq{t:TypeId}{parts:Array (Nat×Operand)}{o:Oper}(ho:o.op=.build t parts){fs:Array Field}(ht:P.underlying t=some (.struct fs)){z:List AV}(hz:om P t=some z)
 {places:List (Nat×Nat)} (hp:placesOf P fs=some places) {ps:List (Nat×Nat×cX)} (BZ:oO places parts.toList=some ps) {cs:List AV}
 (he:mC z (ps.map λp=>(p.1,p.2.1,p.2.2.ev fr))=some cs) (hf:FR φ h w fr a.tmps) (hr:HR φ h w):fu P (execOp a.eval o) φ h w (.agg cs) h:=by
 obtain⟨i,zv,hi,Jg,k1,k2,k3⟩:=o6 (φ:=φ) hz;obtain⟨g1,g2⟩:=yB BZ
 obtain⟨c',e1,e2,e3,e4⟩:=Cz (φ:=φ) (nx:=h.next) (pr:=Pr φ h w) (w:=w) (places.toArray[·]?) (ps.map λp=>(p.1,p.2.1,p.2.2.ev fr)) ((parts.map λ(i,x)=>(i,a.eval x)).toList) z zv.cells cs ⟨k1,k2,k3 _ _ _⟩
  (by simp[g1]) (λj hj jk=>by obtain⟨q1,q2⟩:=g2 j (by simpa using hj) (by simpa using jk);exact⟨by simpa using q1,by simpa using cd q2 hf⟩) he
 refine .pure (cv:=.agg c') hr ?_ (.agg cs c' e2 e3 e4)
 have hb:P.built t (parts.map λ(i,x)=>(i,a.eval x)).toList=some c':=by unfold Program.built;simp only[hi,ht,Jg];unfold placesOf at hp;rw[hp];exact e1
 unfold execOp;simp[ho,run_build w t _ c' hb]
theorem jq{t:TypeId}{i:TypeInfo}(hi:P.info? t=some i)(w:World):(Go.sizeOf t).run P w=.ok i.size w:=by simp[Go.sizeOf,typeInfo,hi]
theorem adU{t e:TypeId}{len:Nat}{parts:Array (Nat×Operand)}{o:Oper}(ho:o.op=.buildSlice t len parts)(ht:P.underlying t=some (.slice e)){i:TypeInfo}(hi:P.info? e=some i)
 {z:List AV} (hz:om P e=some z) {ps:List (Nat×cX)} (BZ:eL (λp:Nat×Operand=>(fS p.2).map λx=>(p.1,x)) parts.toList=some ps) (cT:len*i.size<=2^24) (B0:z.length=i.size) {cs:List AV}
 (he:mC ((List.range (len*i.size)).map λj=>z.getD (j%i.size) .undef) (ps.map λp=>(p.1*i.size,i.size,p.2.ev fr))=some cs) (hf:FR φ h w fr a.tmps) (hr:HR φ h w):
 fu P (execOp a.eval o) φ h w (.vec h.next 0 len i.size len) (h.alloc (.row cs)):=by
 obtain⟨i',zv,iB,Jg,k1,k2,k3⟩:=o6 (φ:=φ) hz;obtain rfl:i=i':=by rw[hi] at iB;exact Option.some.inj iB
 have g1:=nF BZ
 let zz:Array Value:=if len*i.size=0 then #[] else zv.cells
 have XJ:so φ h.next (Pr φ h w) w ((List.range (len*i.size)).map λj=>z.getD (j%i.size) .undef) ((Array.range (len*i.size)).map (zz[· % zz.size]!)):=by
  refine⟨by simp,λj=>?_,λj hj=>?_⟩
  .by_cases hj:j<len*i.size
   .have lO:0<i.size:=Nat.pos_of_ne_zero λe=>by simp[e] at hj
    have XK:zz=zv.cells:=if_neg (by omega);have hm:j%i.size<i.size:=Nat.mod_lt _ lO;have:=k2 (j%i.size);simp only[XK,k1,B0];simpa[Array.getD,hj,k1,B0,hm] using this
   .simp[Array.getD,hj];rfl
  .have jk:j<len*i.size:=by simpa using hj
   have lO:0<i.size:=Nat.pos_of_ne_zero λe=>by simp[e] at jk
   have XK:zz=zv.cells:=if_neg (by omega);have hm:j%i.size<z.length:=by rw[B0];exact Nat.mod_lt _ lO
   have:=k3 h.next (Pr φ h w) w (j%i.size) hm
   simp only[XK,k1,B0];have hm':j%i.size<i.size:=by omega
   simpa[Array.getD,jk,k1,B0,hm,hm',List.getD] using this
 obtain⟨c',e1,e2,e3,e4⟩:=Cz (φ:=φ) (nx:=h.next) (pr:=Pr φ h w) (w:=w) (λk=>some (k*i.size,i.size)) (ps.map λp=>(p.1*i.size,i.size,p.2.ev fr)) ((parts.map λ(i,x)=>(i,a.eval x)).toList) _ _ cs XJ
  (by simp[g1]) (λj hj jk=>by
   have hj1:j<ps.length:=by simpa using hj
   have Fw:j<parts.toList.length:=by simpa using jk
   have q:=lQ BZ j Fw hj1;obtain⟨x',q1,q2⟩:=Option.map_eq_some_iff.1 q;have q3:=cd q1 hf;have q4:ps[j]=((parts.toList[j]).1,x'):=q2.symm;exact⟨by simp[q4],by simpa[q4] using q3⟩) he
 obtain⟨n1,n2⟩:=CI (w':=w.alloc (.cells c' e)) hr rfl rfl rfl rfl (by simp) (λj _=>e3 j) (by omega) e4
 have eR:cs.length=len*i.size:=by
  have:c'.size=len*i.size:=by have:=ly _ _ _ _ e1;simpa using this
  omega
 refine⟨_,_,_,.inl ?_,Ip (.row cs) w.heap.size c'.size len i.size len len (Nat.le_refl _) (Nat.le_refl _) (by omega),n1,n2⟩;unfold execOp;have ako:¬(len*i.size > 2^24):=by omega
 by_cases h0:len*i.size=0
 .simp only[zz,h0,if_true] at e1;have Mq:¬(16777216<len*i.size):=by omega
  simp[Array.range_zero'] at e1;simp[ho,Instr.buildSlice,run_underlying ht,jq hi,h0,newRow,Array.range_zero',e1]
 .simp only[zz,h0,if_false] at e1;have Mq:¬(16777216<len*i.size):=by omega
  simp at e1;simp[ho,Instr.buildSlice,run_underlying ht,jq hi,zeroValue,typeInfo,hi,Jg,Mq,h0,newRow,e1]
end
end
section
section
variable {P:Program}{φ:eh}{h:af}{w:World}{fr:List AV}{a:Act}
theorem rF{id:Nat}{cs:List AV}(he:h.row id=some cs):h.get id=some (.row cs):=by
 unfold af.row at he;split at he
 .rename_i g;cases he;exact g
 .cases he
theorem N2{id:Nat}{es:List (AV×AV)}(he:h.hP id=some es):h.get id=some (.map es):=by
 unfold af.hP at he;split at he
 .rename_i g;cases he;exact g
 .cases he
theorem zm(hr:HR φ h w){id:Nat}{cs:List AV}(hg:h.get id=some (.row cs))(j:Nat)(hj:j<cs.length):
 ∃v,w.cell? ⟨(φ id).gm,(φ id).base+j,none⟩=some v/\eZ φ h w cs[j] v/\v.oneCell'=true:=by
 obtain⟨c,el,fz,h1,h2,h3,h4,h5,h6⟩:=hr.rows id cs hg;have de:(φ id).base+j<c.size:=by omega
 have e:c.getD ((φ id).base+j) default=c[(φ id).base+j]:=by simp[Array.getD,de]
 refine⟨c.getD ((φ id).base+j) default,?_,h6 j hj,h5 j (by omega)⟩;unfold World.cell?;simp[h1,e,de]
theorem rO{t:TypeId}{n:Option Nat}(he:IF P t=some n)(w:World):
 (isAgg t).run P w=.ok n.isSome w/\∀m,n=some m->∃i,P.info? t=some i/\i.size=m:=by
 unfold IF at he
 cases hu:P.underlying t with
 |none=>simp[hu] at he
 |some d=>
   rw[hu] at he
   cases d<;>first
    | (simp only[Option.map_eq_some_iff] at he
       obtain⟨i,hi,rfl⟩:=he;exact⟨by simp[isAgg,run_underlying hu],λm hm=>⟨i,hi,by simpa using hm⟩⟩)
    | (simp only[Option.some.injEq] at he
       subst he;exact⟨by simp[isAgg,run_underlying hu],λm hm=>by cases hm⟩)
theorem TY{t:TypeId}{n:Option Nat}(ht:IF P t=some n){x v:AV}{cx:Value}(hx:eZ φ h w x cx)(hr:HR φ h w)(he:QB h n x=some v):
 ∃ad cv,cx=.pointer (some ad)/\(loadVar t ad).run P w=.ok cv w/\eZ φ h w v cv:=by
 obtain⟨hag,iz⟩:=rO ht w
 cases hx with
 |ptr id off bZ=>
   unfold QB at he;dsimp only at he;split at he
   .rename_i cs n qQ;have hg:=rF qQ;obtain⟨akp,hv⟩:=List.getElem?_eq_some_iff.1 he;obtain⟨cv,c1,c2,c3⟩:=zm hr hg off akp;refine⟨_,cv,rfl,?_,hv▸c2⟩;simp[loadVar,hag,c1]
   .rename_i cs n qQ;have hg:=rF qQ;split at he
    .rename_i hle;cases he;obtain⟨i,hi,Bq⟩:=iz n rfl
     have vq:∀j,j<n->∃cv,w.cell? ⟨(φ id).gm,(φ id).base+off+j,none⟩=some cv/\eZ φ h w (cs.getD (off+j) .undef) cv/\cv.oneCell'=true:=by
      intro j hj;obtain⟨cv,c1,c2,c3⟩:=zm hr hg (off+j) (by omega);have de:off+j<cs.length:=by omega
      exact⟨cv,by rw[Nat.add_assoc];exact c1,by simpa[List.getD,de] using c2,c3⟩
     let f:Nat->Value:=λj=>(w.cell? ⟨(φ id).gm,(φ id).base+off+j,none⟩).getD default
     have hf:∀j,j<n->w.cell? ((⟨(φ id).gm,(φ id).base+off,none⟩:Addr).add j)=some (f j):=λj hj=>by obtain⟨cv,c1,_⟩:=vq j hj;rw[Addr.add_lit];simp[f,c1]
     have tM:=run_loadCells (P:=P) w ⟨(φ id).gm,(φ id).base+off,none⟩ n f hf;refine⟨_,.agg ((List.range n).map f).toArray,rfl,?_,.agg _ _ (by simp;omega) (λj=>?_) λj hj=>?_⟩
     .simp[loadVar,hag,jq hi,Bq,tM]
     .by_cases hj:j<n
      .obtain⟨cv,c1,c2,c3⟩:=vq j hj;simpa[Array.getD,hj,f,c1] using c3
      .simp[Array.getD,hj];rfl
     .have jk:j<n:=by simp at hj;omega
      obtain⟨cv,c1,c2,c3⟩:=vq j jk;have de:off+j<cs.length:=by omega
      simp[List.getD,de] at c2;simpa[Array.getD,jk,f,c1] using c2
    .cases he
   .cases he
 |ip cs b o vs hp wI h1 hc hv=>
   unfold QB at he;dsimp only at he
   cases n with
   |none=>dsimp only at he;obtain⟨h0,rfl⟩:=List.getElem?_eq_some_iff.1 he;have:=hc 0 h0;refine⟨_,vs 0,rfl,?_,hv 0 h0⟩;simp at this;simp[loadVar,hag,this]
   |some n=>
     dsimp only at he;split at he
     .rename_i hle;cases he;obtain⟨i,hi,Bq⟩:=iz n rfl
      have hf:∀j,j<n->w.cell? ((⟨b,o,none⟩:Addr).add j)=some (vs j):=λj hj=>by rw[Addr.add_lit];exact hc j (by omega)
      have tM:=run_loadCells (P:=P) w ⟨b,o,none⟩ n vs hf;refine⟨_,.agg ((List.range n).map vs).toArray,rfl,?_,.agg _ _ (by simp;omega) (λj=>?_) λj hj=>?_⟩
      .simp[loadVar,hag,jq hi,Bq,tM]
      .by_cases hj:j<n
       .simpa[Array.getD,hj] using h1 j
       .simp[Array.getD,hj];rfl
      .have jk:j<n:=by simp at hj;omega
       have:=hv j (by omega);simpa[Array.getD,jk] using this
     .cases he
 |_=>simp[QB] at he
theorem afG{t:TypeId}{x:Operand}{o:Oper}(ho:o.op=.load t x){x':cX}(hx:fS x=some x'){n:Option Nat}(ht:IF P t=some n){v:AV}
 (he:QB h n (x'.ev fr)=some v) (hf:FR φ h w fr a.tmps) (hr:HR φ h w):fu P (execOp a.eval o) φ h w v h:=by
 obtain⟨ad,cv,e1,e2,e3⟩:=TY ht (cd hx hf) hr he;refine .pure hr ?_ e3;unfold execOp;simp[ho,Instr.loadAt,Instr.sureAddr,e1,e2]
def r9(c:Array Value)(k:Nat):List Value->Array Value
 |[]=>c
 |v::r=>r9 (c.setIfInBounds k v) (k+1) r
theorem l7:∀(vs:List Value) (c:Array Value) (k:Nat),(r9 c k vs).size=c.size
 |[],_,_=>rfl
 |v::r,c,k=>by simp[r9,l7 r]
theorem nk:∀(vs:List Value) (c:Array Value) (k j:Nat),k+vs.length<=c.size->
 (r9 c k vs).getD j default=if k<=j/\j<k+vs.length then vs.getD (j-k) default else c.getD j default
 |[],c,k,j,_=>by simp only[r9,List.length_nil];rw[if_neg (by omega)]
 |v::r,c,k,j,hl=>by
   simp only[List.length_cons] at hl;rw[r9,nk r _ _ _ (by simp;omega)];simp only[List.length_cons];by_cases h1:k+1<=j/\j<k+1+r.length
   .rw[if_pos h1,if_pos (by omega)];rw[show j-k=(j-(k+1))+1 by omega,List.getD_cons_succ]
   .rw[if_neg h1];by_cases h2:j=k
    .subst h2;rw[if_pos (by omega)];have:j<c.size:=by omega
     simp[Array.getD,this]
    .rw[if_neg (by omega)];have fB:k≠j:=λe=>h2 e.symm
     rw[Array.getD_eq_getD_getElem?,Array.getD_eq_getD_getElem?,Array.getElem?_setIfInBounds];simp[fB]
theorem mh{b:Nat}{el:TypeId}{fz:Nat×Nat}:∀(vs:List Value) (c:Array Value) (o i:Nat) (w:World),w.heap[b]? =some (.cells c el fz)->o+i+vs.length<=c.size->
 (∀x,x<c.size->¬(fz.1<=x/\x<fz.2))->(∀v∈vs,v.oneCell'=true)->
 ∃w',(storeCells ⟨b,o,none⟩ vs i).run P w=.ok () w'/\w'.heap[b]? =some (.cells (r9 c (o+i) vs) el fz)/\w'.heap.size=w.heap.size/\(∀x,x≠b->w'.heap[x]? =w.heap[x]?)/\
   w'.os=w.os/\w'.tape=w.tape/\w'.output=w.output
 |[],c,o,i,w,hb,_,_,_=>⟨w,by simp[storeCells],by simpa[r9] using hb,rfl,λ_ _=>rfl,rfl,rfl,rfl⟩
 |v::r,c,o,i,w,hb,hl,QQ,h1=>by
   simp only[List.length_cons] at hl;have de:o+i<c.size:=by omega
   have mb:w.cell? ⟨b,o+i,none⟩=some c[o+i]:=by unfold World.cell?;simp[hb,de]
   have tN:w.frozen? ⟨b,o+i,none⟩=false:=by have:=QQ (o+i) de;unfold World.frozen?;simp only[hb];simpa using this
   have Fk:(w.setCell ⟨b,o+i,none⟩ v).heap[b]? =some (.cells (c.setIfInBounds (o+i) v) el fz):=by simp[World.setCell,Array.getElem?_modify,hb]
   obtain⟨w',e1,e2,e3,e4,e5,e6,e7⟩:=mh r (c.setIfInBounds (o+i) v) o (i+1) (w.setCell ⟨b,o+i,none⟩ v) Fk (by simp;omega) (by simpa using QQ) (λv hv=>h1 v (by simp[hv]));refine⟨w',?_,by rw[r9,Nat.add_assoc];exact e2,by rw[e3];simp,λx hx=>(e4 x hx).trans ?_,e5,e6,e7⟩
   .unfold storeCells;rw[Sem.run_bind,Addr.add_lit,run_store P w _ v _ (h1 v (by simp))];simp[mb,tN,e1]
   .simp[World.setCell,Array.getElem?_modify,Ne.symm hx]
end
end
section
section
variable {P:Program}{φ:eh}{h:af}{w:World}{fr:List AV}{a:Act}
theorem Gk:∀(vs:List AV) (l:List AV) (k j:Nat),k+vs.length<=l.length->
 (putAt l k vs).getD j .undef=if k<=j/\j<k+vs.length then vs.getD (j-k) .undef else l.getD j .undef
 |[],l,k,j,_=>by simp only[putAt,List.length_nil];rw[if_neg (by omega)]
 |v::r,l,k,j,hl=>by
   simp only[List.length_cons] at hl;rw[putAt,Gk r _ _ _ (by simp;omega)];simp only[List.length_cons];by_cases h1:k+1<=j/\j<k+1+r.length
   .rw[if_pos h1,if_pos (by omega)];rw[show j-k=(j-(k+1))+1 by omega,List.getD_cons_succ]
   .rw[if_neg h1];by_cases h2:j=k
    .subst h2;rw[if_pos (by omega)];have:j<l.length:=by omega
     simp[List.getD,this]
    .rw[if_neg (by omega)];have fB:k≠j:=λe=>h2 e.symm
     simp[List.getD,fB]
theorem AR(hr:HR φ h w){id off:Nat}{cs vs:List AV}{eW:List Value}(hg:h.get id=some (.row cs))(hle:off+vs.length<=cs.length)(cT:vs.length=eW.length)
 (hv:∀j (h1:j<vs.length) (h2:j<eW.length),eZ φ h w vs[j] eW[j]/\eW[j].oneCell'=true):
 ∃w',(storeCells ⟨(φ id).gm,(φ id).base+off,none⟩ eW).run P w=.ok () w'/\HR φ (h.set id (.row (putAt cs off vs))) w'/\Ext φ h w φ (h.set id (.row (putAt cs off vs))) w':=by
 obtain⟨c,el,fz,h1,h2,h3,h4,h5,h6⟩:=hr.rows id cs hg
 obtain⟨w',e1,e2,e3,e4,e5,e6,e7⟩:=mh (P:=P) eW c ((φ id).base+off) 0 w h1 (by omega) h4 (λv hvm=>by obtain⟨j,hj,rfl⟩:=List.getElem_of_mem hvm;exact (hv j (by omega) hj).2)
 obtain⟨t1,t2⟩:=KD (w':=w') (o':=.row (putAt cs off vs)) hr hg (λe=>by cases e) e3 e4 e5 e6 e7;refine⟨w',e1,t2 (λiA akq=>?_) (λes TB=>by cases TB),t1⟩;cases akq;refine⟨_,el,fz,e2,by rw[l7];exact h2,by rw[zy];exact h3,by rw[l7];exact h4,λj hj=>?_,λj hj=>?_⟩
 .rw[nk _ _ _ _ (by omega)];split
  .rename_i Bq;have de:(φ id).base+j-((φ id).base+off+0)<eW.length:=by omega
   have:=(hv _ (by omega) de).2;rw[List.getD_eq_getElem?_getD,List.getElem?_eq_getElem de];exact this
  .exact h5 j hj
 .have jk:j<cs.length:=by rw[zy] at hj;exact hj
  have hp:=Gk vs cs off j hle;rw[List.getD_eq_getElem?_getD,List.getElem?_eq_getElem hj,Option.getD_some] at hp;rw[hp,nk _ _ _ _ (by omega)];by_cases Bq:off<=j/\j<off+vs.length
  .rw[if_pos Bq,if_pos (by omega)];have q1:j-off<vs.length:=by omega
   have q2:(φ id).base+j-((φ id).base+off+0)=j-off:=by omega
   have q3:j-off<eW.length:=by omega
   have:=((hv _ q1 q3).1).ext t1;rw[q2];simpa[List.getD,q1,q3] using this
  .rw[if_neg Bq,if_neg (by omega)];have:=(h6 j jk).ext t1;simpa[List.getD,jk] using this
theorem agC{t:TypeId}{x v:Operand}{o:Oper}(ho:o.op=.store t x v){x' v':cX}(hx:fS x=some x')(hv:fS v=some v'){i:TypeInfo}(hi:P.info? t=some i)
 {id off:Nat} (hp:x'.ev fr=.ptr id off) {vs cs:List AV} (Fx:(v'.ev fr).cells? =some vs) (qQ:h.row id=some cs) (cT:vs.length=i.size) (hle:off+i.size<=cs.length)
 (hf:FR φ h w fr a.tmps) (hr:HR φ h w):fu P (execOp a.eval o) φ h w .undef ((h.set id (.row (putAt cs off vs))).mark id (v'.ev fr)):=by
 have hg:=rF qQ;have g1:=cd hx hf;rw[hp] at g1;obtain⟨k1,k2,k3⟩:=(cd hv hf).cells Fx
 obtain⟨w',e1,e2,e3⟩:=AR (P:=P) (eW:=(a.eval v).cells.toList) hr hg (by omega:off+vs.length<=cs.length) (by simpa using k1.symm) λj q1 q2=>by
  have r1:=k3 j q1;have r2:=k2 j;have hj:j<(a.eval v).cells.size:=by omega
  simp only[Array.getD,hj,dif_pos] at r1 r2;exact⟨by simpa using r1,by simpa using r2⟩
 obtain⟨m1,m2⟩:=e2.mark id (v'.ev fr);refine⟨undef,w',φ,.inr ⟨?_,rfl⟩,.undef _,m1,e3.trans m2⟩
 have hc:a.eval x=.pointer (some ⟨(φ id).gm,(φ id).base+off,none⟩):=by cases hq:a.eval x<;>rw[hq] at g1<;>cases g1;rfl
 unfold execOp;have iz:(a.eval v).cells.size=i.size:=by omega
 simp[ho,Instr.storeAt,Instr.sureAddr,hc,storeVar,jq hi,iz,e1]
theorem OF{x:AV}{cx:Value}(hn:RB x=some false)(hx:eZ φ h w x cx):
 (∃ad,cx=.pointer (some ad))\/(∃t v,cx=.iface t v)\/(∃f c,cx=.func (.func f) #[] c)\/(∃r,cx=.map (some r)):=by
 cases hx<;>simp[RB] at hn
 .exact .inl ⟨_,rfl⟩
 .exact .inl ⟨_,rfl⟩
 .exact .inr (.inr (.inr ⟨_,rfl⟩))
 .exact .inr (.inr (.inl ⟨_,_,rfl⟩))
 .exact .inr (.inl ⟨_,_,rfl⟩)
theorem abS{x:Operand}{o:Oper}(ho:o.op=.nilCheck x){x':cX}(hx:fS x=some x')(hn:RB (x'.ev fr)=some false)
 (hf:FR φ h w fr a.tmps) (hr:HR φ h w):fu P (execOp a.eval o) φ h w (x'.ev fr) h:=by
 have g:=cd hx hf;refine .pure hr ?_ g;unfold execOp;rcases OF hn g with⟨ad,e⟩|⟨t,v,e⟩|⟨f,c,e⟩|⟨r,e⟩<;>simp[ho,e]
theorem qB(op:BinOp)(t:TypeId)(x y:Operand){u v:Value}(hu:(∃k n,u=.int k n)\/(∃s,u=.string s)\/(∃b,u=.bool b)):eqGuard op t x y u v=Pure.pure ():=by rcases hu with⟨k,n,rfl⟩|⟨s,rfl⟩|⟨b,rfl⟩<;>cases op<;>rfl
theorem FF(w:World)(op:BinOp)(t:TypeId)(k:IntKind)(x y:Int)(v:AV)(hv:xA op (.int k x) (.int k y)=some v)(hs:op≠.shl/\op≠.shr):
 ∃cv,(binOp op t (.int k x) (.int k y)).run P w=.ok cv w/\∀nx pr,RV φ nx pr w v cv:=by
 cases op<;>simp at hs<;>simp only[xA,if_true] at hv<;>simp only[binOp,ne_eq,not_true,if_false]
 case quo|rem=>
  split at hv
  .cases hv
  .rename_i h0;cases hv;exact⟨_,by simp[Op.intDiv,h0],λ_ _=>.int _ _⟩
 case add|sub|mul=>cases hv;exact⟨_,by simp[Op.intArith],λ_ _=>.int _ _⟩
 case and|or|xor|andNot=>cases hv;exact⟨_,rfl,λ_ _=>.int _ _⟩
 case eql=>cases hv;exact⟨_,rfl,λ_ _=>RV.bool (x==y)⟩
 case neq=>cases hv;exact⟨_,rfl,λ_ _=>RV.bool (!(x==y))⟩
 case lss|leq|gtr|geq=>cases hv;exact⟨_,by simp only[Op.intCmp];rfl,λ_ _=>.bool _⟩
 all_goals (cases hv)
theorem LR(w:World)(op:BinOp)(t:TypeId)(k k':IntKind)(x y:Int)(v:AV)(hs:op=.shl\/op=.shr)(hv:xA op (.int k x) (.int k' y)=some v):
 ∃cv,(binOp op t (.int k x) (.int k' y)).run P w=.ok cv w/\∀nx pr,RV φ nx pr w v cv:=by
 rcases hs with rfl|rfl<;>simp only[xA] at hv<;>split at hv<;>cases hv
 .rename_i h0;refine⟨.int k (k.wrap (x*2^min y.toNat k.bits)),?_,λ_ _=>.int _ _⟩;show (Op.shift .shl k x k' y).run P w=_;unfold Op.shift;rw[if_neg h0];rfl
 .rename_i h0;refine⟨.int k (x.fdiv (2^min y.toNat k.bits)),?_,λ_ _=>.int _ _⟩;show (Op.shift .shr k x k' y).run P w=_;unfold Op.shift;rw[if_neg h0];rfl
theorem S6(w:World)(op:BinOp)(t:TypeId)(x y:ByteArray)(v:AV)(hv:xA op (.str x.data.toList) (.str y.data.toList)=some v):
 ∃cv,(binOp op t (.string x) (.string y)).run P w=.ok cv w/\∀nx pr,RV φ nx pr w v cv:=by
 have e:(x.toList==y.toList)=(x.data.toList==y.data.toList):=by rw[ByteArray.toList_eq,ByteArray.toList_eq]
 cases op<;>simp only[xA] at hv
 case add=>
  split at hv
  .rename_i hl;cases hv;refine⟨.string (x++y),?_,λ_ _=>.xF (by simp[ByteArray.data_append])⟩
   have iz:((x.size+y.size:Nat):Int)<=9223372036854775807:=by have h1:x.data.toList.length=x.size:=Array.length_toList;have h2:y.data.toList.length=y.size:=Array.length_toList;rw[h1,h2] at hl;omega
   have:¬(((x.size+y.size:Nat):Int) > IntKind.i64.max):=by rw[IntKind.max_i64];omega
   show (Op.stringOp .add x y).run P w=_;unfold Op.stringOp;dsimp only;rw[if_neg this];rfl
  .cases hv
 case eql=>cases hv;exact⟨.bool (x.toList==y.toList),rfl,λ_ _=>e▸.bool _⟩
 case neq=>cases hv;exact⟨.bool (!(x.toList==y.toList)),rfl,λ_ _=>e▸.bool _⟩
 case lss=>cases hv;exact⟨.bool (Op.bytesLess x.toList y.toList),rfl,λ_ _=>by rw[ByteArray.toList_eq,ByteArray.toList_eq];exact .bool _⟩
 case leq=>cases hv;exact⟨.bool (Op.bytesLess x.toList y.toList||x.toList==y.toList),rfl,λ_ _=>by rw[ByteArray.toList_eq,ByteArray.toList_eq];exact .bool _⟩
 case gtr=>cases hv;exact⟨.bool (!(Op.bytesLess x.toList y.toList||x.toList==y.toList)),rfl,λ_ _=>by rw[ByteArray.toList_eq,ByteArray.toList_eq];exact .bool _⟩
 case geq=>cases hv;exact⟨.bool (!(Op.bytesLess x.toList y.toList)),rfl,λ_ _=>by rw[ByteArray.toList_eq,ByteArray.toList_eq];exact .bool _⟩
 all_goals (cases hv)
theorem ady{neg:Bool}{t ty:TypeId}{x y:Operand}{o:Oper}(ho:o.op=.binOp (if neg then .neq else .eql) t x y ty){x' y':cX}(hx:fS x=some x')(hy:fS y=some y')
 (ht:P.underlying t=some .bool) {u v:Bool} (hu:x'.ev fr=.bool u) (hv:y'.ev fr=.bool v) (hf:FR φ h w fr a.tmps) (hr:HR φ h w):
 fu P (execOp a.eval o) φ h w (.bool (if neg then !(u==v) else u==v)) h:=by
 have g1:=cd hx hf;have g2:=cd hy hf;rw[hu] at g1;rw[hv] at g2;have hq0:∀d,(Op.equalIn (d+1) t (.bool u) (.bool v)).run P w=.ok (u==v) w:=λd=>by simp[Op.equalIn,run_underlying ht]
 have hq:(Op.equal t (.bool u) (.bool v)).run P w=.ok (u==v) w:=hq0 9999;refine .pure (cv:=.bool (if neg then !(u==v) else u==v)) hr ?_ (.bool _);unfold execOp;cases neg
 .simp only[Bool.false_eq_true,if_false] at ho|-;simp[ho,g1.iI,g2.iI,qB .eql t x y (u:=.bool u) (v:=.bool v) (.inr (.inr ⟨_,rfl⟩)),binOp,hq]
 .simp only[if_true] at ho|-;simp[ho,g1.iI,g2.iI,qB .neq t x y (u:=.bool u) (v:=.bool v) (.inr (.inr ⟨_,rfl⟩)),binOp,hq]
theorem Up{op:BinOp}{t ty:TypeId}{x y:Operand}{o:Oper}(ho:o.op=.binOp op t x y ty){x' y':cX}(hx:fS x=some x')(hy:fS y=some y'){v:AV}(hv:xA op (x'.ev fr) (y'.ev fr)=some v)
 (hf:FR φ h w fr a.tmps) (hr:HR φ h w):fu P (execOp a.eval o) φ h w v h:=by
 have g1:=cd hx hf;have g2:=cd hy hf
 have key:∃cv,(binOp op t (a.eval x) (a.eval y)).run P w=.ok cv w/\(∀nx pr,RV φ nx pr w v cv)/\((∃k n,a.eval x=.int k n)\/(∃s,a.eval x=.string s)\/(∃b,a.eval x=.bool b)):=by
  cases OY:x'.ev fr with
  |int k n=>
    cases hy':y'.ev fr with
    |int k' n'=>
      rw[OY] at g1;rw[hy'] at g2;rw[g1.dP,g2.dP];rw[OY,hy'] at hv;by_cases hs:op=.shl\/op=.shr
      .obtain⟨cv,e1,e2⟩:=LR (P:=P) (φ:=φ) w op t k k' n n' v hs hv;exact⟨cv,e1,e2,.inl ⟨_,_,rfl⟩⟩
      .have CY:k=k':=by
        cases op<;>simp at hs<;>simp only[xA] at hv<;>split at hv<;>first|assumption|cases hv
       subst CY;obtain⟨cv,e1,e2⟩:=FF (P:=P) (φ:=φ) w op t k n n' v hv ⟨λe=>hs (.inl e),λe=>hs (.inr e)⟩;exact⟨cv,e1,e2,.inl ⟨_,_,rfl⟩⟩
    |_=>rw[OY,hy'] at hv;simp[xA] at hv
  |str s=>
    cases hy':y'.ev fr with
    |str s'=>rw[OY] at g1;rw[hy'] at g2;obtain⟨b1,q1,q2⟩:=g1.fM;obtain⟨b2,q3,q4⟩:=g2.fM;rw[q1,q3];rw[OY,hy',<-q2,<-q4] at hv;obtain⟨cv,e1,e2⟩:=S6 (P:=P) (φ:=φ) w op t b1 b2 v hv;exact⟨cv,e1,e2,.inr (.inl ⟨_,rfl⟩)⟩
    |_=>rw[OY,hy'] at hv;simp[xA] at hv
  |_=>rw[OY] at hv;simp[xA] at hv
 obtain⟨cv,e1,e2,e3⟩:=key;refine .pure hr ?_ (e2 _ _);unfold execOp;simp[ho,qB op t x y e3,e1]
theorem agX{op:UnOp}{t:TypeId}{x:Operand}{o:Oper}(ho:o.op=.unOp op t x){x':cX}(hx:fS x=some x'){v:AV}
 (hv:(match (generalizing:=false) op,x'.ev fr with
 |.not,.bool b=>some (AV.bool (!b))
 |.neg,.int k n=>some (.int k (k.wrap (0-n)))
 |.xor,.int k n=>some (.int k (GQ .xor k (if k.signed then -1 else k.max) n))
 |_,_=>none)=some v) (hf:FR φ h w fr a.tmps) (hr:HR φ h w):fu P (execOp a.eval o) φ h w v h:=by
 have g:=cd hx hf;split at hv
 .rename_i b hb;cases hv;rw[hb] at g;exact .pure (cv:=.bool (!b)) hr (by unfold execOp;simp[ho,g.iI,Op.unary]) (.bool _)
 .rename_i k n hb;cases hv;rw[hb] at g;exact .pure (cv:=.int k (k.wrap (0-n))) hr (by unfold execOp;simp[ho,g.dP,Op.unary,Op.intArith]) (.int _ _)
 .rename_i k n hb;cases hv;rw[hb] at g;refine .pure (cv:=.int k (GQ .xor k (if k.signed then -1 else k.max) n)) hr ?_ (.int _ _);unfold execOp;simp only[ho,g.dP,Op.unary];rfl
 .cases hv
theorem abM{s d:TypeId}{x:Operand}{o:Oper}(ho:o.op=.convert s d x){x':cX}(hx:fS x=some x'){k0 k:IntKind}(hs:P.underlying s=some (.int k0))(hd:P.underlying d=some (.int k))
 {k':IntKind} {n:Int} (hv:x'.ev fr=.int k' n) (hf:FR φ h w fr a.tmps) (hr:HR φ h w):fu P (execOp a.eval o) φ h w (.int k (k.wrap n)) h:=by
 have g:=cd hx hf;rw[hv] at g;exact .pure (cv:=.int k (k.wrap n)) hr (by unfold execOp;simp[ho,g.dP,convert,run_underlying hs,run_underlying hd,Conv.intToInt]) (.int _ _)
theorem Z0{s d:TypeId}{x:Operand}{o:Oper}(ho:o.op=.convert s d x){x':cX}(hx:fS x=some x')(hs:P.underlying s=some .string)(hd:P.underlying d=some .string)
 {b:List UInt8} (hv:x'.ev fr=.str b) (hf:FR φ h w fr a.tmps) (hr:HR φ h w):fu P (execOp a.eval o) φ h w (.str b) h:=by
 have g:=cd hx hf;rw[hv] at g;obtain⟨c,q1,q2⟩:=g.fM;exact .pure (cv:=.string c) hr (by unfold execOp;simp[ho,q1,convert,run_underlying hs,run_underlying hd]) (.xF q2)
theorem abK{t:TypeId}{x:Operand}{o:Oper}(ho:o.op=.makeInterface t x){x':cX}(hx:fS x=some x'){d:TypeDesc}(ht:P.underlying t=some d)(hd:∀ms,d≠.interface ms)
 (hf:FR φ h w fr a.tmps) (hr:HR φ h w):fu P (execOp a.eval o) φ h w (.iface t (x'.ev fr)) h:=by
 refine .pure (cv:=.iface t (a.eval x)) hr ?_ (.iface _ _ _ (cd hx hf));unfold execOp
 cases d<;>first
  |(rename_i ms;exact absurd rfl (hd ms))
  |simp[ho,Instr.makeInterface,run_underlying ht]
theorem ab2{f:Nat}{aN:Array Operand}{first:Array Operand}{o:Oper}(ho:o.op=.makeFunc (.func f) first aN)(h0:first.isEmpty=true){XL:List cX}(hc:pD aN=some XL)
 (hf:FR φ h w fr a.tmps) (hr:HR φ h w):fu P (execOp a.eval o) φ h w (.fn f (XL.map (·.ev fr))) h:=by
 obtain⟨g1,g2⟩:=P4 hc hf;have h0':first=#[]:=by simpa using h0
 refine .pure (cv:=.func (.func f) #[] (aN.map a.eval)) hr (by unfold execOp;simp[ho,Instr.makeFunc,h0']) (.fn _ _ _ (by simpa using g1) λj hj=>?_);have:=g2 j (by simpa using hj);have jk:j<XL.length:=by simpa using hj
 simpa[List.getD,jk] using this
theorem adt{t:TypeId}{o:Oper}(ho:o.op=.makeMap t none)(hr:HR φ h w):fu P (execOp a.eval o) φ h w (.map h.next) (h.alloc (.map [])):=by
 obtain⟨g1,g2⟩:=Za (w':=w.alloc (.map #[] 0)) hr rfl rfl rfl rfl;refine⟨.map (some w.heap.size),_,_,.inl ?_,?_,g1,g2⟩
 .unfold execOp;simp[ho,Instr.makeMap]
 .have:=RV.map (φ:=eF φ h.next ⟨w.heap.size,0,0⟩) (nx:=(h.alloc (.map [])).next) (pr:=Pr (eF φ h.next ⟨w.heap.size,0,0⟩) (h.alloc (.map [])) (w.alloc (.map #[] 0))) (w:=w.alloc (.map #[] 0)) h.next (by simp)
  have e:eF φ h.next ⟨w.heap.size,0,0⟩ h.next=⟨w.heap.size,0,0⟩:=by simp[eF]
  rw[e] at this;exact this
theorem ads{s:TypeId}{x:Operand}{k:Nat}{o:Oper}(ho:o.op=.fieldAddr s x k){x':cX}(hx:fS x=some x'){fs:Array Field}(hs:P.underlying s=some (.struct fs)){fd:Field}(hfd:fs[k]? =some fd)
 {i:TypeInfo} (hi:P.info? fd.type=some i) (h0:i.size≠0) {v:AV} (hv:(match x'.ev fr with|.ptr id o=>some (AV.ptr id (o+fd.offset))|.ip cs=>some (.ip (cs.drop fd.offset))|_=>none)=some v)
 (hf:FR φ h w fr a.tmps) (hr:HR φ h w):fu P (execOp a.eval o) φ h w v h:=by
 have g:=cd hx hf
 have key:∀ad:Addr,a.eval x=.pointer (some ad)->(execOp a.eval o).run P w=.ok (.value (.pointer (some (ad.add fd.offset)))) w:=λad he=>by unfold execOp;simp[ho,Instr.fieldAt,run_underlying hs,hfd,Instr.sureAddr,he,fieldPlace,jq hi,h0]
 split at hv
 .rename_i id off he;cases hv;rw[he] at g;obtain⟨hq,bZ⟩:=g.vF;refine .pure hr (key _ hq) ?_;rw[Addr.add_lit,Nat.add_assoc];exact .ptr _ _ bZ
 .rename_i cs he;cases hv;rw[he] at g;obtain⟨b,o,vs,hq,hp,wI,h1,hc,hv⟩:=g.NI;refine .pure hr (key _ hq) ?_;rw[Addr.add_lit];refine .ip _ _ _ (λj=>vs (fd.offset+j)) hp ?_ (λj=>h1 _) (λj hj=>?_) λj hj=>?_
  .have:AV.aj (cs.drop fd.offset)<=0:=AV.j5 λv hv=>by
    have:=AV.cM (List.mem_of_mem_drop hv);omega
   omega
  .have:=hc (fd.offset+j) (by simp at hj;omega);rw[Nat.add_assoc];exact this
  .have:=hv (fd.offset+j) (by simp at hj;omega);simpa using this
 .cases hv
theorem ace{x:Operand}{k:Nat}{o:Oper}(ho:o.op=.extract x k){x':cX}(hx:fS x=some x'){vs:List AV}(hv:x'.ev fr=.tuple vs){v:AV}(hk:vs[k]? =some v)
 (hf:FR φ h w fr a.tmps) (hr:HR φ h w):fu P (execOp a.eval o) φ h w v h:=by
 have g:=cd hx hf;rw[hv] at g;obtain⟨de,rfl⟩:=List.getElem?_eq_some_iff.1 hk;obtain⟨eW,hq,hl,Mo⟩:=g.vX;have TC:k<eW.size:=by omega
 have:=Mo k de;simp only[Array.getD,TC,dif_pos] at this;refine .pure (cv:=eW[k]) hr ?_ (by simpa using this);unfold execOp;simp[ho,hq,Instr.extract,TC]
end
end
section
section
variable {P:Program}{φ:eh}{h:af}{w:World}{fr:List AV}{a:Act}
theorem VA{t:TypeId}{n:Option Nat}(ht:IF P t=some n)(cs:Array Value)(off:Nat)(w:World):
 (n=none->∀v,cs[off]? =some v->(part t cs off).run P w=.ok v w)/\(∀m,n=some m->(part t cs off).run P w=.ok (.agg (cs.extract off (off+m))) w):=by
 obtain⟨hag,iz⟩:=rO ht w;refine⟨λe v hv=>?_,λm e=>?_⟩
 .subst e;simp[part,hag,hv]
 .subst e;obtain⟨i,hi,him⟩:=iz m rfl;simp[part,hag,jq hi,him]
theorem Vm{t:TypeId}{x:Operand}{k:Nat}{o:Oper}(ho:o.op=.field t x k){x':cX}(hx:fS x=some x'){fs:Array Field}(hs:P.underlying t=some (.struct fs)){fd:Field}(hfd:fs[k]? =some fd)
 {n:Option Nat} (hn:IF P fd.type=some n) {cs:List AV} (hv:x'.ev fr=.agg cs) {v:AV}
 (he:(match (generalizing:=false) n with|none=>cs[fd.offset]? |some n=>if fd.offset+n<=cs.length then some (.agg ((cs.drop fd.offset).take n)) else none)=some v)
 (hf:FR φ h w fr a.tmps) (hr:HR φ h w):fu P (execOp a.eval o) φ h w v h:=by
 have g:=cd hx hf;rw[hv] at g;obtain⟨eW,hq,hl,h1,Mo⟩:=g.pH;obtain⟨p1,p2⟩:=VA hn eW fd.offset w;split at he
 .obtain⟨de,rfl⟩:=List.getElem?_eq_some_iff.1 he;have TC:fd.offset<eW.size:=by omega
  have:=Mo fd.offset de;simp only[Array.getD,TC,dif_pos] at this;refine .pure (cv:=eW[fd.offset]) hr ?_ (by simpa using this);unfold execOp;simp[ho,hq,Instr.field,run_underlying hs,hfd,asAgg,p1 rfl _ (Array.getElem?_eq_getElem TC)]
 .rename_i n;split at he
  .rename_i hle;cases he;refine .pure (cv:=.agg (eW.extract fd.offset (fd.offset+n))) hr ?_ (.agg _ _ (by simp;omega) (λj=>?_) λj hj=>?_)
   .unfold execOp;simp[ho,hq,Instr.field,run_underlying hs,hfd,asAgg,p2 n rfl]
   .have:=h1 (fd.offset+j);by_cases hj:j<n
    .have q:fd.offset+j<eW.size:=by omega
     have q2:j<min (fd.offset+n) eW.size-fd.offset:=by omega
     simpa[Array.getD,q,q2] using this
    .have q2:¬j<min (fd.offset+n) eW.size-fd.offset:=by omega
     simp[Array.getD,q2];rfl
   .have jk:j<n:=by simp at hj;omega
    have:=Mo (fd.offset+j) (by omega);have q:fd.offset+j<eW.size:=by omega
    have q2:j<min (fd.offset+n) eW.size-fd.offset:=by omega
    simpa[Array.getD,q,q2] using this
  .cases he
theorem acj{t:TypeId}{x i:Operand}{o:Oper}(ho:o.op=.index t x i){x' i':cX}(hx:fS x=some x')(hi:fS i=some i')(ht:P.underlying t=some .string)
 {s:List UInt8} {k:IntKind} {n:Int} (hs:x'.ev fr=.str s) (hn:i'.ev fr=.int k n) (h0:0<=n) {b:UInt8} (hb:s[n.toNat]? =some b)
 (hf:FR φ h w fr a.tmps) (hr:HR φ h w):fu P (execOp a.eval o) φ h w (.int .u8 b.toNat) h:=by
 have g1:=cd hx hf;have g2:=cd hi hf;rw[hs] at g1;rw[hn] at g2;obtain⟨c,q1,q2⟩:=g1.fM;refine .pure (cv:=.int .u8 b.toNat) hr ?_ (.int _ _)
 have hcb:c[n.toNat]? =some b:=by
  rw[<-q2] at hb;obtain⟨hl,e⟩:=List.getElem?_eq_some_iff.1 hb;have qR:n.toNat<c.size:=by rw[Array.length_toList] at hl;exact hl
  rw[getElem?_pos c n.toNat qR];rw[<-e];rfl
 unfold execOp;simp[ho,q1,g2.dP,Instr.index,asIntOf,run_underlying ht,h0,hcb]
theorem acy{t e:TypeId}{x i:Operand}{o:Oper}(ho:o.op=.indexAddr t x i){x' i':cX}(hx:fS x=some x')(hi:fS i=some i')(ht:P.underlying t=some (.slice e)){inf:TypeInfo}(aed:P.info? e=some inf)
 {v:AV} {h':af} (he:(match x'.ev fr,i'.ev fr with
 |.sl xs,.int _ i=>if 0<=i then (match xs[i.toNat]? with
  |some v=>(match v.cells? with
    |some cs=>if cs.length=inf.size then some (.ip cs,h) else none
    |none=>none)
  |none=>none) else none
 |.vec id off len s _,.int _ i=>if 0<=i/\i<len/\s=inf.size then some (.ptr id (off+i.toNat*inf.size),h) else none
 |_,_=>none)=some (v,h'))
 (hf:FR φ h w fr a.tmps) (hr:HR φ h w):fu P (execOp a.eval o) φ h w v h':=by
 have g1:=cd hx hf;have g2:=cd hi hf
 have ahh:∀k n,a.eval i=.int k n->∀ad len cap,a.eval x=.slice (some ad) len cap->0<=n->n<(len:Int)->
  (execOp a.eval o).run P w=.ok (.value (.pointer (some (ad.add (n.toNat*inf.size))))) w:=λk n e1 ad len cap e2 h0 de=>by
  unfold execOp;simp[ho,e1,e2,Instr.indexAt,asIntOf,run_underlying ht,h0,de,jq aed]
 split at he
 .rename_i xs k n e1 e2;rw[e1] at g1;rw[e2] at g2;split at he
  .rename_i h0;split at he
   .rename_i y hy;split at he
    .rename_i cs np;split at he
     .rename_i iz;cases he;obtain⟨de,hyx⟩:=List.getElem?_eq_some_iff.1 hy;rcases g1.sB with⟨_,_,rfl,_⟩|⟨b,o,cap,sz,vs,hq,hp,kh,wI,h1,akr,hc,hv⟩
      .simp at de
      .refine .pure hr (ahh k n g2.dP _ _ _ hq h0 (by omega)) ?_;have hs1:=akr n.toNat de;rw[hyx,np] at hs1;simp only[Option.map_some,Option.some.injEq] at hs1
       have Mr:y.cells=cs:=by cases y<;>simp[AV.cells?] at np<;>simp[AV.cells,np]
       rw[Addr.add_lit];refine .ip _ _ _ (λj=>vs n.toNat j) hp ?_ (λj=>h1 _ _) (λj hj=>?_) λj hj=>?_
       .have h2:AV.aj cs=y.aK:=by cases y<;>simp[AV.cells?] at np<;>subst np<;>simp[AV.aK,AV.aj]
        have h3:=AV.cM (List.getElem_mem de);rw[hyx] at h3;omega
       .have:=hc n.toNat j de (by omega);rw[<-iz,hs1];exact this
       .have:=hv n.toNat de j (by rw[hyx,Mr];exact hj);simpa[hyx,Mr] using this
     .cases he
    .cases he
   .cases he
  .cases he
 .rename_i id off len s lb k n e1 e2;rw[e1] at g1;rw[e2] at g2;split at he
  .rename_i hh;obtain⟨h0,de,hs⟩:=hh;cases he;obtain⟨cap,ad,hq,bZ,hl,_,w9,ha⟩:=g1.kA;have kh:0<cap:=by omega
   have had:=ha kh;subst had;refine .pure hr (ahh k n g2.dP _ _ _ hq h0 de) ?_;rw[Addr.add_lit,Nat.add_assoc];exact .ptr _ _ bZ
  .cases he
 .cases he
theorem Bh{n cap:Nat}{lo hi:Option AV}{l u:Nat}(he:sliceB n lo hi=some (l,u))(hnc:n<=cap)(ahi:Bool){By QR:Option Value}
 (FX:(lo=none/\By=none)\/∃x cx,lo=some x/\By=some cx/\eZ φ h w x cx) (QS:(hi=none/\QR=none)\/∃x cx,hi=some x/\QR=some cx/\eZ φ h w x cx) (w':World):
 (Instr.sliceBounds ahi n cap By QR none).run P w'=.ok (l,u,cap) w'/\l<=u/\u<=n:=by
 unfold sliceB at he;split at he
 .cases he
 .rename_i u' Ms;split at he
  .cases he
  .rename_i l' qR;cases he
   have hu:u<=n/\((QR=none/\u=n)\/∃v,QR=some v/\(Instr.sliceBound v cap (if ahi then .sliceAcap else .sliceAlen)).run P w'=.ok u w'):=by
    rcases QS with⟨rfl,rfl⟩|⟨x,cx,rfl,rfl,hx⟩
    .simp at Ms;exact⟨by omega,.inl ⟨rfl,Ms.symm⟩⟩
    .split at Ms
     .rename_i e;cases e
     .rename_i k i e;cases e;split at Ms
      .rename_i hc;cases Ms;refine⟨by omega,.inr ⟨cx,rfl,?_⟩⟩;rw[hx.dP];have h2:i<=(cap:Int):=by omega
       simp[Instr.sliceBound,asIntOf,hc.1,h2]
      .cases Ms
     .cases Ms
   have hl:l<=u/\((By=none/\l=0)\/∃v,By=some v/\(Instr.sliceBound v u .sliceB).run P w'=.ok l w'):=by
    rcases FX with⟨rfl,rfl⟩|⟨x,cx,rfl,rfl,hx⟩
    .simp at qR;exact⟨by omega,.inl ⟨rfl,qR.symm⟩⟩
    .split at qR
     .rename_i e;cases e
     .rename_i k i e;cases e;split at qR
      .rename_i hc;cases qR;refine⟨by omega,.inr ⟨cx,rfl,?_⟩⟩;rw[hx.dP];simp[Instr.sliceBound,asIntOf,hc.1,hc.2]
      .cases qR
     .cases qR
   refine⟨?_,hl.1,hu.1⟩;rcases hu.2 with⟨rfl,rfl⟩|⟨v,rfl,h1⟩<;>rcases hl.2 with⟨rfl,rfl⟩|⟨v2,rfl,h2⟩
   .simp[Instr.sliceBounds]
   .simp[Instr.sliceBounds,h2]
   .simp[Instr.sliceBounds,h1]
   .simp[Instr.sliceBounds,h1,h2]
theorem jG{x:Option Operand}{x':Option cX}(he:B6 x=some x')(hf:FR φ h w fr a.tmps):
 (x'.map (·.ev fr)=none/\x.map a.eval=none)\/∃y cy,x'.map (·.ev fr)=some y/\x.map a.eval=some cy/\eZ φ h w y cy:=by
 cases x with
 |none=>simp[B6] at he;subst he;exact .inl ⟨rfl,rfl⟩
 |some x=>simp only[B6,Option.map_eq_some_iff] at he;obtain⟨y,hy,rfl⟩:=he;exact .inr ⟨_,_,rfl,rfl,cd hy hf⟩
theorem abR{t:TypeId}{x:Operand}{lo hi:Option Operand}{o:Oper}(ho:o.op=.slice t x lo hi none){x':cX}{TA iB:Option cX}(hx:fS x=some x')(FX:B6 lo=some TA)(QS:B6 hi=some iB)
 (ht:P.underlying t=some .string) {s:List UInt8} (hs:x'.ev fr=.str s) {l u:Nat} (he:sliceB s.length (TA.map (·.ev fr)) (iB.map (·.ev fr))=some (l,u))
 (hf:FR φ h w fr a.tmps) (hr:HR φ h w):fu P (execOp a.eval o) φ h w (.str ((s.take u).drop l)) h:=by
 have g:=cd hx hf;rw[hs] at g;obtain⟨c,q1,q2⟩:=g.fM;have cT:s.length=c.size:=by rw[<-q2,Array.length_toList];rfl
 obtain⟨e1,e2,e3⟩:=Bh (P:=P) (cap:=s.length) he (Nat.le_refl _) false (jG FX hf) (jG QS hf) w;rw[cT] at e1;refine .pure (cv:=.string (c.extract l u)) hr ?_ (.xF ?_)
 .unfold execOp;simp[ho,q1,Instr.sliceAt,run_underlying ht,Instr.slice,e1]
 .rw[ByteArray.data_extract,<-q2,Array.toList_extract,List.extract_eq_take_drop,List.drop_take]
theorem ZX{t:TypeId}{x:Operand}{o:Oper}(ho:o.op=.call {callee:=.builtin .len,args:=#[x],argTypes:=#[t]}){x':cX}(hx:fS x=some x')(ht:P.underlying t=some .string)
 {s:List UInt8} (hs:x'.ev fr=.str s) (hf:FR φ h w fr a.tmps) (hr:HR φ h w):fu P (execOp a.eval o) φ h w (.int .i64 s.length) h:=by
 have g:=cd hx hf;rw[hs] at g;obtain⟨c,q1,q2⟩:=g.fM;have cT:s.length=c.size:=by rw[<-q2,Array.length_toList];rfl
 refine .pure (cv:=.int .i64 c.size) hr ?_ (by rw[cT];exact .int _ _);unfold execOp;simp[ho,resolve,invoke,builtin,q1,Builtin.len_,run_underlying ht,goInt]
theorem ZT{t e:TypeId}{x:Operand}{o:Oper}(ho:o.op=.call {callee:=.builtin .len,args:=#[x],argTypes:=#[t]}){x':cX}(hx:fS x=some x')(ht:P.underlying t=some (.slice e))
 {v:AV} {h':af} (he:(match x'.ev fr with
 |.aD=>some (AV.int .i64 0,h)
 |.sl xs=>some (.int .i64 xs.length,h)
 |.vec _ _ n _ _=>some (.int .i64 n,h)
 |_=>none)=some (v,h')) (hf:FR φ h w fr a.tmps) (hr:HR φ h w):fu P (execOp a.eval o) φ h w v h':=by
 have g:=cd hx hf
 have key:∀ad n c,a.eval x=.slice ad n c->(execOp a.eval o).run P w=.ok (.value (.int .i64 n)) w:=λad n c hq=>by unfold execOp;simp[ho,resolve,invoke,builtin,hq,Builtin.len_,run_underlying ht,goInt]
 split at he
 .rename_i e1;cases he;rw[e1] at g;obtain⟨ad,hq⟩:=g.mE;exact .pure hr (key _ _ _ hq) (.int _ _)
 .rename_i xs e1;cases he;rw[e1] at g;rcases g.sB with⟨ad,cap,rfl,hq⟩|⟨b,o,cap,sz,vs,hq,_⟩
  .exact .pure hr (key _ _ _ hq) (.int _ _)
  .exact .pure hr (key _ _ _ hq) (.int _ _)
 .rename_i e1;cases he;rw[e1] at g;obtain⟨cap,ad,hq,_⟩:=g.kA;exact .pure hr (key _ _ _ hq) (.int _ _)
 .cases he
theorem ZF{t k e:TypeId}{x:Operand}{o:Oper}(ho:o.op=.call {callee:=.builtin .len,args:=#[x],argTypes:=#[t]}){x':cX}(hx:fS x=some x')(ht:P.underlying t=some (.map k e))
 {v:AV} {h':af} (he:(match x'.ev fr with
 |.jV=>some (AV.int .i64 0,h)
 |.map id=>(h.hP id).map λes=>(.int .i64 es.length,h)
 |_=>none)=some (v,h')) (hf:FR φ h w fr a.tmps) (hr:HR φ h w):fu P (execOp a.eval o) φ h w v h':=by
 have g:=cd hx hf;split at he
 .rename_i e1;cases he;rw[e1] at g;refine .pure (cv:=.int .i64 0) hr ?_ (.int _ _);unfold execOp;simp[ho,resolve,invoke,builtin,g.zD,Builtin.len_,run_underlying ht,goInt]
 .rename_i id e1;rw[e1] at g;obtain⟨es,TB,e2⟩:=Option.map_eq_some_iff.1 he;cases e2;obtain⟨hq,bZ⟩:=g.tz;obtain⟨fU,oW,m1,m2,m3⟩:=hr.maps id es (N2 TB);refine .pure (cv:=.int .i64 fU.size) hr ?_ (by rw[m2];exact .int _ _);unfold execOp;have hg:(getObj (φ id).gm).run P w=.ok (.map fU oW) w:=by simp[getObj,Sem.run,m1]
  simp[ho,resolve,invoke,builtin,hq,Builtin.len_,run_underlying ht,goInt,hg]
 .cases he
theorem agc{ts:Array TypeId}{x y:Operand}{o:Oper}(ho:o.op=.call {callee:=.builtin .max,args:=#[x,y],argTypes:=ts}){x' y':cX}(hx:fS x=some x')(hy:fS y=some y')
 {k k':IntKind} {m n:Int} (h1:x'.ev fr=.int k m) (h2:y'.ev fr=.int k' n) (hf:FR φ h w fr a.tmps) (hr:HR φ h w):fu P (execOp a.eval o) φ h w (.int k (if m<n then n else m)) h:=by
 have g1:=cd hx hf;have g2:=cd hy hf;rw[h1] at g1;rw[h2] at g2;refine .pure (cv:=.int k (if m<n then n else m)) hr ?_ (.int _ _);unfold execOp;simp[ho,resolve,invoke,builtin,g1.dP,g2.dP,Builtin.max_,Builtin.max2]
theorem afm{ts:Array TypeId}{x y:Operand}{o:Oper}(ho:o.op=.call {callee:=.builtin .min,args:=#[x,y],argTypes:=ts}){x' y':cX}(hx:fS x=some x')(hy:fS y=some y')
 {k k':IntKind} {m n:Int} (h1:x'.ev fr=.int k m) (h2:y'.ev fr=.int k' n) (hf:FR φ h w fr a.tmps) (hr:HR φ h w):fu P (execOp a.eval o) φ h w (.int k (if n<m then n else m)) h:=by
 have g1:=cd hx hf;have g2:=cd hy hf;rw[h1] at g1;rw[h2] at g2;refine .pure (cv:=.int k (if n<m then n else m)) hr ?_ (.int _ _);unfold execOp;simp[ho,resolve,invoke,builtin,g1.dP,g2.dP,Builtin.min_,Builtin.min2]
end
end
section
section
variable {P:Program}{φ:eh}{h:af}{w:World}{fr:List AV}{a:Act}
abbrev Zx(φ:eh)(h:af)(w:World)(x:Option AV)(cx:Option Value):Prop:=(x=none/\cx=none)\/∃y cy,x=some y/\cx=some cy/\eZ φ h w y cy
theorem OH{n cap:Nat}{lo:Option AV}{hi:AV}{l u:Nat}(he:sliceB n lo (some hi)=some (l,u)){By:Option Value}{QR:Value}{mk:IntKind}(hnc:n<=cap)
 (FX:Zx φ h w lo By) (QS:eZ φ h w hi QR) (w':World):
 (Instr.sliceBounds true cap cap By (some QR) (some (.int mk n))).run P w'=.ok (l,u,n) w'/\l<=u/\u<=n:=by
 unfold sliceB at he;split at he
 .cases he
 .rename_i u' Ms;split at he
  .cases he
  .rename_i l' qR;cases he
   have hm:(Instr.sliceBound (.int mk n) cap .slice3Acap).run P w'=.ok n w':=by
    have:(n:Int)<=cap:=by omega
    simp[Instr.sliceBound,asIntOf,this]
   have hu:u<=n/\(Instr.sliceBound QR n .slice3B).run P w'=.ok u w':=by
    split at Ms
    .rename_i e;cases e
    .rename_i k i e;cases e;split at Ms
     .rename_i hc;cases Ms;refine⟨by omega,?_⟩;rw[QS.dP];simp[Instr.sliceBound,asIntOf,hc.1,hc.2]
     .cases Ms
    .cases Ms
   have hl:l<=u/\((By=none/\l=0)\/∃v,By=some v/\(Instr.sliceBound v u .slice3C).run P w'=.ok l w'):=by
    rcases FX with⟨rfl,rfl⟩|⟨x,cx,rfl,rfl,hx⟩
    .simp at qR;exact⟨by omega,.inl ⟨rfl,qR.symm⟩⟩
    .split at qR
     .rename_i e;cases e
     .rename_i k i e;cases e;split at qR
      .rename_i hc;cases qR;refine⟨by omega,.inr ⟨cx,rfl,?_⟩⟩;rw[hx.dP];simp[Instr.sliceBound,asIntOf,hc.1,hc.2]
      .cases qR
     .cases qR
   refine⟨?_,hl.1,hu.1⟩;have h1:=hu.2;rcases hl.2 with⟨rfl,rfl⟩|⟨v2,rfl,h2⟩
   .simp[Instr.sliceBounds,hm,h1]
   .simp[Instr.sliceBounds,hm,h1,h2]
theorem vL{n lb cap:Nat}{lo hi mx:Option AV}{l u:Nat}{m:Option Nat}(he:gV n lb lo hi mx=some (l,u,m))(hn:n<=cap)(oI:lb<=cap){By QR cmx:Option Value}
 (FX:Zx φ h w lo By) (QS:Zx φ h w hi QR) (Jh:Zx φ h w mx cmx) (w':World):
 (Instr.sliceBounds true n cap By QR cmx).run P w'=.ok (l,u,m.getD cap) w'/\l<=u/\u<=m.getD cap/\m.getD cap<=cap/\u<=max n lb/\∀k,m=some k->u<=k/\k<=max n lb:=by
 unfold gV at he;split at he
 .rename_i k i;split at he
  .rename_i hc;split at he
   .rename_i hv;obtain⟨p,hp,e⟩:=Option.map_eq_some_iff.1 he;obtain⟨p1,p2⟩:=p;cases e;rcases Jh with⟨e,_⟩|⟨y,cy,e,rfl,hy⟩
    .cases e
    .cases e;rcases QS with⟨e,_⟩|⟨z,cz,e,rfl,hz⟩
     .cases e
     .cases e;obtain⟨e1,e2,e3⟩:=OH (P:=P) (mk:=k) (cap:=cap) hp (by omega) FX hz w';have MM:=hy.dP;have iB:((i.toNat:Nat):Int)=i:=Int.toNat_of_nonneg hc.1;rw[iB] at e1;refine⟨?_,e2,e3,by simp;omega,by omega,λk hk=>by cases hk;omega⟩;rw[MM];simp only[Instr.sliceBounds] at e1|-;exact e1
   .cases he
  .cases he
 .cases he
 .rename_i hmn;rcases Jh with⟨_,rfl⟩|⟨y,cy,e,_⟩
  .split at he
   .obtain⟨p,hp,e⟩:=Option.map_eq_some_iff.1 he;obtain⟨p1,p2⟩:=p;cases e;rcases QS with⟨_,rfl⟩|⟨z,cz,e,_⟩
    .obtain⟨e1,e2,e3⟩:=Bh (P:=P) (φ:=φ) (h:=h) (w:=w) (cap:=cap) (By:=By) (QR:=none) hp hn true FX (.inl ⟨rfl,rfl⟩) w';exact⟨e1,e2,by simp;omega,by simp,by omega,λk hk=>by cases hk⟩
    .cases e
   .rename_i hv;obtain⟨p,hp,e⟩:=Option.map_eq_some_iff.1 he;obtain⟨p1,p2⟩:=p;cases e;rcases QS with⟨e,_⟩|⟨z,cz,e,rfl,hz⟩
    .cases e
    .cases e;obtain⟨e1,e2,e3⟩:=Bh (P:=P) (φ:=φ) (h:=h) (w:=w) (cap:=cap) (By:=By) (QR:=some cz) hp (by omega) true FX (.inr ⟨_,_,rfl,rfl,hz⟩) w';refine⟨?_,e2,by simp;omega,by simp,by omega,λk hk=>by cases hk⟩;simp only[Instr.sliceBounds] at e1|-;exact e1
  .cases e
theorem acm{t e:TypeId}{x:Operand}{lo hi mx:Option Operand}{o:Oper}(ho:o.op=.slice t x lo hi mx){x':cX}{TA iB mx':Option cX}(hx:fS x=some x')(FX:B6 lo=some TA)(QS:B6 hi=some iB)(Jh:B6 mx=some mx')
 (ht:P.underlying t=some (.slice e)) {i:TypeInfo} (aed:P.info? e=some i) {v:AV} {h':af}
 (he:(match x'.ev fr with
  |.aD=>(gV 0 0 (TA.map (·.ev fr)) (iB.map (·.ev fr)) (mx'.map (·.ev fr))).map λ_=>(AV.aD,h)
  |.sl xs=>if (xs.all λx=>(x.cells?.map List.length)==some i.size) then
   (gV xs.length xs.length (TA.map (·.ev fr)) (iB.map (·.ev fr)) (mx'.map (·.ev fr))).map λp=>(if p.2.2=some p.1 then .aD else .sl ((xs.take p.2.1).drop p.1),h) else none
  |.vec id off len s lb=>if s=i.size then
   (gV len lb (TA.map (·.ev fr)) (iB.map (·.ev fr)) (mx'.map (·.ev fr))).map λp=>(if p.2.2=some p.1 then .aD else .vec id (off+p.1*i.size) (p.2.1-p.1) i.size (p.2.2.getD lb-p.1),h) else none
  |_=>none)=some (v,h')) (hf:FR φ h w fr a.tmps) (hr:HR φ h w):fu P (execOp a.eval o) φ h w v h':=by
 have g:=cd hx hf
 have key:∀ad n c l u m,a.eval x=.slice ad n c->(Instr.sliceBounds true n c (lo.map a.eval) (hi.map a.eval) (mx.map a.eval)).run P w=.ok (l,u,m) w->
  (execOp a.eval o).run P w=.ok (.value (.slice (if m=l then ad else ad.map (·.add (l*i.size))) (u-l) (m-l))) w:=λad n c l u m hq hb=>by
  unfold execOp;simp[ho,Instr.sliceAt,run_underlying ht,Instr.slice,hq,hb,jq aed]
 split at he
 .rename_i e1;rw[e1] at g;obtain⟨ad,hq⟩:=g.mE;obtain⟨⟨l,u,m⟩,hp,e2⟩:=Option.map_eq_some_iff.1 he;cases e2;obtain⟨b1,b2,b3,b4,_⟩:=vL (P:=P) (cap:=0) hp (Nat.le_refl _) (Nat.le_refl _) (jG FX hf) (jG QS hf) (jG Jh hf) w;have hk:=key _ _ _ _ _ _ hq b1;have:m.getD 0-l=0/\u-l=0:=by omega
  rw[this.1,this.2] at hk;exact .pure hr hk (.aD _)
 .rename_i xs e1;rw[e1] at g;split at he
  .rename_i im;obtain⟨⟨l,u,m⟩,hp,e2⟩:=Option.map_eq_some_iff.1 he;simp only[Prod.mk.injEq] at e2;obtain⟨e3,rfl⟩:=e2;rcases g.sB with⟨ad,cap,rfl,hq⟩|⟨b,o',cap,sz,vs,hq,jI,kh,wI,h1,iz,hc,hv⟩
   .obtain⟨b1,b2,b3,b4,b5,b6⟩:=vL (P:=P) (cap:=cap) hp (Nat.zero_le _) (Nat.zero_le _) (jG FX hf) (jG QS hf) (jG Jh hf) w;have hk:=key _ _ _ _ _ _ hq b1;simp only[List.length_nil,Nat.max_self,Nat.le_zero] at b5;subst b5;obtain rfl:l=0:=by omega
    split at e3
    .rename_i hm;subst e3;rw[hm] at hk;simp at hk;exact .pure hr hk (.aD _)
    .subst e3;simp only[List.take_nil,List.drop_nil];rw[Nat.sub_self] at hk;exact .pure hr hk (.slnil _ _)
   .obtain⟨b1,b2,b3,b4,b5,b6⟩:=vL (P:=P) (cap:=cap) hp kh kh (jG FX hf) (jG QS hf) (jG Jh hf) w;have hk:=key _ _ _ _ _ _ hq b1;rw[Nat.max_self] at b5;split at e3
    .rename_i hm;subst e3;have b7:=b6 l hm;rw[hm] at hk;have:u-l=0:=by omega
     simp[this] at hk;exact .pure hr hk (.aD _)
    .rename_i hm;subst e3;by_cases h0:u=l
     .have aas:(xs.take u).drop l=[]:=by rw[List.drop_eq_nil_iff];simp;omega
      rw[aas];rw[h0,Nat.sub_self] at hk;exact .pure hr hk (.slnil _ _)
     .have cT:((xs.take u).drop l).length=u-l:=by simp;omega
      have ug:∀j (hj:j<((xs.take u).drop l).length),((xs.take u).drop l)[j]=xs[l+j]'(by omega):=λj hj=>by simp
      have fB:m.getD cap≠l:=λe=>h0 (by omega)
      rw[if_neg fB] at hk;simp only[Option.map_some,Addr.add_lit] at hk;rw[<-cT] at hk;have XM:0<xs.length:=by omega
      have aks:sz=i.size:=by have q1:=iz 0 XM;have q2:=List.all_eq_true.1 im xs[0] (List.getElem_mem XM);rw[q1] at q2;simpa using q2
      subst aks;refine .pure hr hk (.sl _ b _ _ i.size (λk j=>vs (l+k) j) jI (by omega) ?_ (λk j=>h1 _ _) (λk xY=>?_) (λk j xY hj=>?_) λk xY j hj=>?_)
      .have:AV.aj ((xs.take u).drop l)<=0:=AV.j5 λy hy=>by
        have:=AV.cM (List.mem_of_mem_take (List.mem_of_mem_drop hy));omega
       omega
      .rw[ug k xY];exact iz _ _
      .have:=hc (l+k) j (by omega) hj;rw[<-this];congr 2;rw[Nat.add_mul];omega
      .have e4:=ug k xY;have jk:j<(xs[l+k]'(by omega)).cells.length:=by rw[<-e4];exact hj
       have:=hv (l+k) (by omega) j jk;simpa[e4] using this
  .cases he
 .rename_i id off len s lb e1;rw[e1] at g;split at he
  .rename_i hs;subst hs;obtain⟨⟨l,u,m⟩,hp,e2⟩:=Option.map_eq_some_iff.1 he;simp only[Prod.mk.injEq] at e2;obtain⟨e3,rfl⟩:=e2;obtain⟨cap,ad,hq,bZ,hl,oI,w9,ha⟩:=g.kA;obtain⟨b1,b2,b3,b4,b5,b6⟩:=vL (P:=P) (cap:=cap) hp hl oI (jG FX hf) (jG QS hf) (jG Jh hf) w;have hk:=key _ _ _ _ _ _ hq b1;split at e3
   .rename_i hm;subst e3;have b7:=b6 l hm;rw[hm] at hk;have:u-l=0:=by omega
    simp[this] at hk;exact .pure hr hk (.aD _)
   .rename_i hm;subst e3;refine .pure hr hk (.vec _ _ _ _ _ _ _ bZ (by omega) ?_ ?_ λlO=>?_)
    .cases m with
     |none=>simp;omega
     |some k=>simp
    .have hle:l<=m.getD cap:=by omega
     have:l*i.size+(m.getD cap-l)*i.size=m.getD cap*i.size:=by rw[<-Nat.add_mul];congr 1;omega
     have h2:m.getD cap*i.size<=cap*i.size:=Nat.mul_le_mul_right _ b4;omega
    .rw[if_neg (by omega),ha (by omega)];simp[Addr.add_lit,Nat.add_assoc]
  .cases he
 .cases he
end
end
section
section
variable {P:Program}{φ:eh}{h:af}{w:World}{fr:List AV}{a:Act}
theorem JW{y:Operand}(hy:Ag y=true):y=.const .nilIface\/y=.const (.pointer none)\/y=.const .nilFunc\/y=.const (.map none):=by unfold Ag at hy;split at hy<;>first|simp_all|cases hy
theorem adO{kind:Nat}{neg:Bool}{t ty:TypeId}{x y:Operand}{o:Oper}(ho:o.op=.binOp (if neg then .neq else .eql) t x y ty){x' y':cX}(hx:fS x=some x')(hy:fS y=some y')(hc:Ag y=true)
 (ht:(kind=0/\∃e,P.underlying t=some (.pointer e))\/(kind=1/\∃ms,P.underlying t=some (.interface ms))\/(kind=2/\∃ps rs v,P.underlying t=some (.func ps rs v))\/(kind=3/\∃k e,P.underlying t=some (.map k e)))
 {p:Bool} (hp:xi kind (x'.ev fr)=some p) (hq:xi kind (y'.ev fr)=some true) (hf:FR φ h w fr a.tmps) (hr:HR φ h w):
 fu P (execOp a.eval o) φ h w (.bool (if neg then !p else p)) h:=by
 have g1:=cd hx hf;have g2:=cd hy hf;generalize x'.ev fr=u at g1 hp;generalize y'.ev fr=v at g2 hq;have MM:=JW hc
 have key:(Op.equal t (a.eval x) (a.eval y)).run P w=.ok p w/\eqGuard (if neg then .neq else .eql) t x y (a.eval x) (a.eval y)=Pure.pure ()/\
  (∀op,op=.eql\/op=.neq->(binOp op t (a.eval x) (a.eval y))=if op=.eql then (do pure (.bool (<-Op.equal t (a.eval x) (a.eval y)))) else (do pure (.bool (!(<-Op.equal t (a.eval x) (a.eval y)))))):=by
  have eqd:∀A B r,(∀d,(Op.equalIn (d+1) t A B).run P w=.ok r w)->(Op.equal t A B).run P w=.ok r w:=λA B r hh=>hh 9999
  rcases ht with⟨rfl,e,ht⟩|⟨rfl,ms,ht⟩|⟨rfl,ps,rs,vv,ht⟩|⟨rfl,k,e,ht⟩
  .have hv:v=.mO:=by cases v<;>simp[xi] at hq;rfl
   subst hv;rw[g2.Lx];cases u<;>simp[xi] at hp<;>subst hp
   .rw[g1.Lx];exact⟨eqd _ _ _ λd=>by simp[Op.equalIn,run_underlying ht],by cases neg<;>rfl,λop ee=>by rcases ee with rfl|rfl<;>rfl⟩
   .rw[g1.vF.1];exact⟨eqd _ _ _ λd=>by simp[Op.equalIn,run_underlying ht],by cases neg<;>rfl,λop ee=>by rcases ee with rfl|rfl<;>rfl⟩
   .obtain⟨b,o',vs,e1,_⟩:=g1.NI;rw[e1];exact⟨eqd _ _ _ λd=>by simp[Op.equalIn,run_underlying ht],by cases neg<;>rfl,λop ee=>by rcases ee with rfl|rfl<;>rfl⟩
  .have hv:v=.mM:=by cases v<;>simp[xi] at hq;rfl
   subst hv;have e2:=g2.LL
   have xZ:y=.const .nilIface:=by
    rcases MM with rfl|rfl|rfl|rfl
    .rfl
    .simp[Act.eval] at e2
    .simp[Act.eval] at e2
    .simp[Act.eval] at e2
   subst xZ;rw[e2];cases u<;>simp[xi] at hp<;>subst hp
   .rw[g1.LL];refine⟨eqd _ _ _ λd=>by simp[Op.equalIn,run_underlying ht],?_,λop ee=>by rcases ee with rfl|rfl<;>rfl⟩;cases neg
    .exact eqGuard_nil_constR .eql t x _
    .exact eqGuard_nil_constR .neq t x _
   .obtain⟨c,e1,_⟩:=g1.SP;rw[e1];exact⟨eqd _ _ _ λd=>by simp[Op.equalIn,run_underlying ht],by cases neg<;>rfl,λop ee=>by rcases ee with rfl|rfl<;>rfl⟩
  .have hv:v=.iU:=by cases v<;>simp[xi] at hq;rfl
   subst hv;rw[g2.Hc];cases u<;>simp[xi] at hp<;>subst hp
   .rw[g1.Hc];exact⟨eqd _ _ _ λd=>by simp[Op.equalIn,run_underlying ht],by cases neg<;>rfl,λop ee=>by rcases ee with rfl|rfl<;>rfl⟩
   .obtain⟨c,e1,_⟩:=g1.HO;rw[e1];exact⟨eqd _ _ _ λd=>by simp[Op.equalIn,run_underlying ht],by cases neg<;>rfl,λop ee=>by rcases ee with rfl|rfl<;>rfl⟩
  .have hv:v=.jV:=by cases v<;>simp[xi] at hq;rfl
   subst hv;rw[g2.zD];cases u<;>simp[xi] at hp<;>subst hp
   .rw[g1.zD];exact⟨eqd _ _ _ λd=>by simp[Op.equalIn,run_underlying ht],by cases neg<;>rfl,λop ee=>by rcases ee with rfl|rfl<;>rfl⟩
   .rw[g1.tz.1];exact⟨eqd _ _ _ λd=>by simp[Op.equalIn,run_underlying ht],by cases neg<;>rfl,λop ee=>by rcases ee with rfl|rfl<;>rfl⟩
 obtain⟨k1,k2,k3⟩:=key;refine .pure (cv:=.bool (if neg then !p else p)) hr ?_ (.bool _);unfold execOp;cases neg
 .simp only[Bool.false_eq_true,if_false] at ho k2|-;simp[ho,k2,k3 .eql (.inl rfl),k1]
 .simp only[if_true] at ho k2|-;have h3:=k3 .neq (.inr rfl);simp[ho,k2,h3,k1]
theorem Hl{t:TypeId}{k:Nat}(hk:LB P t=some k)(w:World):(isAgg t).run P w=.ok false w:=by
 unfold LB at hk
 split at hk<;>first
  |(rename_i hd;simp[isAgg,run_underlying hd];done)
  |cases hk
theorem NX{t:TypeId}{k:Nat}(hk:LB P t=some k){x y:AV}{cx cy:Value}{r:Bool}(he:ij k x y=some r){nx:Nat}{pr:Nat->Prop}(hx:RV φ nx pr w x cx)(hy:RV φ nx pr w y cy)(d:Nat):
 (Op.equalIn (d+1) t cx cy).run P w=.ok r w:=by
 unfold LB at hk;unfold ij at he;split at he
 .cases he;split at hk<;>cases hk;rename_i ht;rw[hx.iI,hy.iI];exact run_equalIn_bool' w d t _ _ ht
 .split at he
  .rename_i e;subst e;cases he;split at hk<;>cases hk;rename_i ht;rw[hx.dP,hy.dP];exact run_equalIn_int w d t _ _ _ _ ht
  .cases he
 .cases he;split at hk<;>cases hk;rename_i ht;obtain⟨s,q1,q2⟩:=hx.fM;obtain⟨s',q3,q4⟩:=hy.fM;rw[q1,q3,run_equalIn_string w d t s s' ht,ByteArray.toList_eq,ByteArray.toList_eq,q2,q4]
 .cases he
theorem BL{d:Nat}{xs ys:Array Value}{l m:List AV}(hl:xs.size=l.length)(hm:ys.size=m.length){nx:Nat}{pr:Nat->Prop}
 (hx:∀j (hj:j<l.length),RV φ nx pr w l[j] (xs.getD j default)) (hy:∀j (hj:j<m.length),RV φ nx pr w m[j] (ys.getD j default)):
 ∀(fs:List Field) (ks:List Nat) (k:Nat) (r:Bool),fI P fs k=some ks->ny ks (l.drop k) (m.drop k)=some r->(Op.eqFields (d+1) xs ys fs).run P w=.ok r w
 |[],ks,k,r,hf,he=>by simp only[fI,Option.some.injEq] at hf;subst hf;cases h1:l.drop k<;>cases h2:m.drop k<;>rw[h1,h2] at he<;>simp[ny] at he;subst he;simp[Op.eqFields]
 |f::fs,ks,k,r,hf,he=>by
   unfold fI at hf;split at hf
   .rename_i hc;split at hf
    .rename_i kd ks' hkd aku;cases hf
     cases h1:l.drop k with
     |nil=>rw[h1] at he;simp[ny] at he
     |cons x xr=>
       cases h2:m.drop k with
       |nil=>rw[h1,h2] at he;simp[ny] at he
       |cons y yr=>
         rw[h1,h2] at he;simp only[ny] at he;split at he
         .rename_i ra rb e1 e2;cases he
          have hkl:k<l.length:=by
           rcases Nat.lt_or_ge k l.length with q|q
           .exact q
           .rw[List.drop_eq_nil_iff.2 q] at h1;cases h1
          have hkm:k<m.length:=by
           rcases Nat.lt_or_ge k m.length with q|q
           .exact q
           .rw[List.drop_eq_nil_iff.2 q] at h2;cases h2
          have q1:=List.drop_eq_getElem_cons hkl;have q2:=List.drop_eq_getElem_cons hkm;rw[q1] at h1;rw[q2] at h2;cases h1;cases h2;have XM:k<xs.size:=by omega
          have hys:k<ys.size:=by omega
          have g1:=hx k hkl;have g2:=hy k hkm;simp only[Array.getD,XM,hys,dif_pos] at g1 g2;have tM:=NX (P:=P) hkd e1 g1 g2 d;have ih:=BL (d:=d) hl hm hx hy fs ks' (k+1) rb aku e2
          have hp1:(part f.type xs f.offset).run P w=.ok xs[k] w:=by rw[hc.2];simp[part,Hl hkd,XM]
          have OZ:(part f.type ys f.offset).run P w=.ok ys[k] w:=by rw[hc.2];simp[part,Hl hkd,hys]
          simp only[Op.eqFields,ne_eq,hc.1,not_false_iff,if_true,Sem.run_bind,hp1,OZ,Result.andThen_ok];have ahj:Sem.run P (Op.equalIn (d+1) f.type xs[k] ys[k]) w=.ok ra w:=by simpa using tM
          rw[ahj];cases ra
          .simp
          .simpa using ih
         .cases he
    .cases hf
   .cases hf
theorem adB{ks:List Nat}{neg:Bool}{t ty:TypeId}{x y:Operand}{o:Oper}(ho:o.op=.binOp (if neg then .neq else .eql) t x y ty){x' y':cX}(hx:fS x=some x')(hy:fS y=some y')
 {fs:Array Field} (ht:P.underlying t=some (.struct fs)) (hk:fI P fs.toList 0=some ks) (hg:P.eqGuardType P.depth t=false) (hs:P.stoodInHeld t=false) {l m:List AV} (hl:x'.ev fr=.agg l) (hm:y'.ev fr=.agg m)
 {r:Bool} (he:ny ks l m=some r) (hf:FR φ h w fr a.tmps) (hr:HR φ h w):fu P (execOp a.eval o) φ h w (.bool (if neg then !r else r)) h:=by
 have g1:=cd hx hf;have g2:=cd hy hf;rw[hl] at g1;rw[hm] at g2;obtain⟨xs,q1,q2,_,q3⟩:=g1.pH;obtain⟨ys,q4,q5,_,q6⟩:=g2.pH;have hfo:P.fieldsOf t=fs:=by simp[Program.fieldsOf,ht]
 have tM:(Op.equalIn 10000 t (.agg xs) (.agg ys)).run P w=.ok r w:=by rw[run_equalIn_struct w 9999 t xs ys (by rw[hfo];exact ht) hs,hfo];exact BL (d:=9998) q2 q5 q3 q6 fs.toList ks 0 r hk (by simpa using he)
 refine .pure (cv:=.bool (if neg then !r else r)) hr ?_ (.bool _);unfold execOp;cases neg
 .simp only[Bool.false_eq_true,if_false] at ho|-;simp[ho,q1,q4,run_eqGuard_agg w .eql t x y xs ys hg,run_eql_struct,tM]
 .simp only[if_true] at ho|-;simp[ho,q1,q4,run_eqGuard_agg w .neq t x y xs ys hg,run_neq_struct,tM]
end
end
section
section
variable {P:Program}{φ:eh}{h:af}{w:World}{fr:List AV}{a:Act}
theorem LH{α β:Type}(f:α->List β)(sz:Nat):∀(xs:List α),(∀x∈xs,(f x).length=sz)->(xs.flatMap f).length=xs.length*sz/\
 ∀i j (hi:i<xs.length),j<sz->(xs.flatMap f)[i*sz+j]? =(f xs[i])[j]?
 |[],_=>⟨by simp,λi j hi=>by simp at hi⟩
 |x::xs,hx=>by
   have h1:=hx x (by simp);obtain⟨g1,g2⟩:=LH f sz xs λy hy=>hx y (by simp[hy])
   refine⟨by simp[g1,h1,Nat.add_mul];omega,λi j hi hj=>?_⟩;rw[List.flatMap_cons]
   cases i with
   |zero=>rw[List.getElem?_append_left (by omega)];simp
   |succ i=>rw[List.getElem?_append_right (by rw[Nat.add_mul];omega)];have:=g2 i j (by simpa using hi) hj;rw[show (i+1)*sz+j-(f x).length=i*sz+j by rw[Nat.add_mul];omega,this];simp
theorem HC{sz n:Nat}{y:AV}{cy:Value}{news:List AV}(he:aI h sz y=some (n,news))(hy:eZ φ h w y cy)(hr:HR φ h w)(lO:0<sz):
 news.length=n*sz/\∃f:Nat->Value,(∀j,j<n*sz->eZ φ h w (news.getD j .undef) (f j)/\(f j).oneCell'=true)/\(∀w',(Builtin.lenOf cy).run P w'=.ok n w')/\
  ∀w':World,w'.heap=w.heap->(Builtin.firstCells sz n cy).run P w'=.ok ((List.range (n*sz)).map f).toArray w':=by
 have aiJ:∀ad cap,(Builtin.firstCells sz 0 (.slice ad 0 cap)).run P w=.ok #[] w:=λad cap=>by cases ad<;>simp[Builtin.firstCells,loadCells,loadCellsFrom]
 have Aj:∀ad cap (w':World),(Builtin.firstCells sz 0 (.slice ad 0 cap)).run P w'=.ok #[] w':=λad cap w'=>by cases ad<;>simp[Builtin.firstCells,loadCells,loadCellsFrom]
 unfold aI at he;split at he
 .cases he;obtain⟨ad,rfl⟩:=hy.mE;exact⟨by simp,λ_=>default,λj hj=>by simp at hj,λw'=>by simp[Builtin.lenOf],λw' _=>by simpa using Aj ad 0 w'⟩
 .rename_i xs;split at he
  .rename_i im;cases he
   have cT:∀x∈xs,x.cells.length=sz:=λx hx=>by have:=List.all_eq_true.1 im x hx;cases x<;>simp[AV.cells?] at this<;>simp[AV.cells,this]
   obtain⟨g1,g2⟩:=LH AV.cells sz xs cT;refine⟨g1,?_⟩;rcases hy.sB with⟨ad,cap,rfl,rfl⟩|⟨b,o,cap,O0,vs,rfl,jI,kh,wI,h1,iz,hc,hv⟩
   .exact⟨λ_=>default,λj hj=>by simp at hj,λw'=>by simp[Builtin.lenOf],λw' _=>by simpa using Aj ad cap w'⟩
   .rcases Nat.eq_zero_or_pos xs.length with h0|h0
    .have hn:xs=[]:=List.eq_nil_of_length_eq_zero h0;subst hn;exact⟨λ_=>default,λj hj=>by simp at hj,λw'=>by simp[Builtin.lenOf],λw' _=>by simpa using Aj _ cap w'⟩
    .have hss:O0=sz:=by
      have q1:=iz 0 h0;have q2:=List.all_eq_true.1 im xs[0] (List.getElem_mem h0);rw[q1] at q2;simpa using q2
     subst hss
     have hdm:∀j,j<xs.length*O0->j / O0<xs.length/\j%O0<O0/\j / O0*O0+j%O0=j:=λj hj=>by refine⟨Nat.div_lt_of_lt_mul (by rw[Nat.mul_comm];exact hj),Nat.mod_lt _ lO,?_⟩;rw[Nat.mul_comm];exact Nat.div_add_mod j O0
     refine⟨λj=>vs (j / O0) (j%O0),λj hj=>⟨?_,h1 _ _⟩,λw'=>by simp[Builtin.lenOf],λw' hw'=>?_⟩
     .obtain⟨d1,d2,d3⟩:=hdm j hj;have e1:=g2 (j / O0) (j%O0) d1 d2;rw[d3] at e1;have d4:j%O0<(xs[j / O0]).cells.length:=by rw[cT _ (List.getElem_mem d1)];exact d2
      rw[List.getElem?_eq_getElem d4] at e1;rw[List.getD_eq_getElem?_getD,e1];exact hv _ d1 _ d4
     .simp only[Builtin.firstCells];refine run_loadCells w' _ _ _ λj hj=>?_
      obtain⟨d1,d2,d3⟩:=hdm j hj;have:=hc _ _ d1 d2;rw[Nat.add_assoc,d3] at this;rw[Addr.add_lit,<-this];unfold World.cell?;rw[hw']
  .cases he
 .rename_i id off len s lb;split at he
  .rename_i cs qQ;have hg:=rF qQ;split at he
   .rename_i hc;obtain⟨rfl,hle⟩:=hc;cases he;obtain⟨cap,ad,rfl,bZ,hl,oI,w9,ha⟩:=hy.kA;refine⟨by simp;omega,?_⟩;rcases Nat.eq_zero_or_pos n with h0|h0
    .subst h0;exact⟨λ_=>default,λj hj=>by simp at hj,λw'=>by simp[Builtin.lenOf],λw' _=>by simpa using Aj ad cap w'⟩
    .rw[ha (by omega)]
     have mb:∀j,j<n*s->∃v,w.cell? ⟨(φ id).gm,(φ id).base+(off+j),none⟩=some v/\eZ φ h w (cs.getD (off+j) .undef) v/\v.oneCell'=true:=λj hj=>by
      obtain⟨v,c1,c2,c3⟩:=zm hr hg (off+j) (by omega);have de:off+j<cs.length:=by omega
      exact⟨v,c1,by simpa[List.getD,de] using c2,c3⟩
     refine⟨λj=>(w.cell? ⟨(φ id).gm,(φ id).base+(off+j),none⟩).getD default,λj hj=>?_,λw'=>by simp[Builtin.lenOf],λw' hw'=>?_⟩
     .obtain⟨v,c1,c2,c3⟩:=mb j hj;dsimp only;rw[c1];have de:off+j<cs.length:=by omega
      have TC:j<((cs.drop off).take (n*s)).length:=by simp;omega
      refine⟨?_,c3⟩;rw[List.getD_eq_getElem?_getD,List.getElem?_take,if_pos hj,List.getElem?_drop];rw[List.getD_eq_getElem?_getD] at c2;exact c2
     .simp only[Builtin.firstCells];refine run_loadCells w' _ _ _ λj hj=>?_
      obtain⟨v,c1,c2,c3⟩:=mb j hj;have e:w'.cell? ⟨(φ id).gm,(φ id).base+(off+j),none⟩=w.cell? ⟨(φ id).gm,(φ id).base+(off+j),none⟩:=by unfold World.cell?;rw[hw']
      rw[Addr.add_lit,Nat.add_assoc,e,c1];rfl
   .cases he
  .cases he
 .rename_i s;split at he
  .rename_i hs;subst hs;cases he;obtain⟨b,rfl,rfl⟩:=hy.fM;have hbl:b.data.toList.length=b.size:=Array.length_toList;refine⟨by simp,λj=>.int .u8 ((b.data.toList.getD j 0).toNat),λj hj=>⟨?_,rfl⟩,λw'=>by rw[hbl];rfl,λw' _=>?_⟩
   .have jk:j<b.data.toList.length:=by omega
    simp only[List.getD_eq_getElem?_getD,List.getElem?_map,List.getElem?_eq_getElem jk,Option.map_some,Option.getD_some];exact .int _ _
   .simp only[Builtin.firstCells,Sem.run_pure,Nat.mul_one];congr 1;apply Array.ext';rw[hbl];have:(b.extract 0 b.size)=b:=by simp
    rw[this];apply List.ext_getElem?;intro j;by_cases hj:j<b.data.toList.length
    .have Fw:j<b.data.size:=by simpa using hj
     have hj3:j<b.size:=Fw;simp[hj3]
    .have Fw:¬j<b.data.size:=by simpa using hj
     have hj3:¬j<b.size:=Fw;simp[hj3]
  .cases he
 .cases he
theorem K6{z:Array Value}{n:Nat}:(Builtin.zeroCells z n).size=n*z.size:=by simp[Builtin.zeroCells]
theorem wR{z:Array Value}(hz:∀j,(z.getD j default).oneCell'=true)(n j:Nat):((Builtin.zeroCells z n).getD j default).oneCell'=true:=by
 unfold Builtin.zeroCells;by_cases hj:j<n*z.size
 .have lO:0<z.size:=Nat.pos_of_ne_zero λe=>by simp[e] at hj
  have hm:j%z.size<z.size:=Nat.mod_lt _ lO;have:=hz (j%z.size);simpa[Array.getD,hj,hm] using this
 .simp[Array.getD,hj];rfl
theorem Ei{s:Sem Next}{h1:af}{φ1:eh}(mc:HR φ1 h1 w)(hx1:Ext φ h w φ1 h1 w){el:TypeId}{m n cap sz:Nat}{cs:List AV}(f:Nat->Value){rest:Array Value}{w':World}
 (np:cs.length=m) (hf:∀j,j<m->eZ φ1 h1 w (cs.getD j .undef) (f j)/\(f j).oneCell'=true) (XN:∀j,(rest.getD j default).oneCell'=true)
 (hh:w'.heap=w.heap.push (.cells (((List.range m).map f).toArray++rest) el)) (ho:w'.os=w.os) (ht:w'.tape=w.tape) (tJ:w'.output=w.output)
 (hs:s.run P w=.ok (.value (.slice (some ⟨w.heap.size,0,none⟩) n cap)) w') (hn:n<=cap) (w9:cap*sz<=m+rest.size):
 fu P s φ h w (.vec h1.next 0 n sz n) (h1.alloc (.row cs)):=by
 have iz:(((List.range m).map f).toArray++rest).size=m+rest.size:=by simp
 have ug:∀j,j<m->(((List.range m).map f).toArray++rest).getD j default=f j:=λj hj=>by
  have:j<m+rest.size:=by omega
  simp[Array.getD,this,hj]
 have k1:∀j,j<(((List.range m).map f).toArray++rest).size->((((List.range m).map f).toArray++rest).getD j default).oneCell'=true:=λj hj=>by
  by_cases hjm:j<m
  .rw[ug j hjm];exact (hf j hjm).2
  .have:=XN (j-m);rw[iz] at hj;have h3:j-m<rest.size:=by omega
   simp only[Array.getD,h3,dif_pos] at this;have h4:j<m+rest.size:=hj;simpa[Array.getD,h4,Array.getElem_append,hjm] using this
 have k2:∀j (hj:j<cs.length),eZ φ1 h1 w cs[j] ((((List.range m).map f).toArray++rest).getD j default):=λj hj=>by
  have hjm:j<m:=by omega
  rw[ug j hjm];have:=(hf j hjm).1;simpa[List.getD,hj] using this
 obtain⟨g1,g2⟩:=CI (w':=w') (c:=((List.range m).map f).toArray++rest) (el:=el) (fz:=(0,0)) (cs:=cs) mc hh ho ht tJ (by simp) k1 (by rw[iz];omega) k2;exact⟨_,w',_,.inl hs,Ip (.row cs) w.heap.size _ n sz n cap hn hn (by rw[iz];exact w9),g1,hx1.trans g2⟩
theorem run_append_room{t u e:TypeId}{ty:TypeId}{i:TypeInfo}(ht:P.underlying t=some (.slice e)){du:TypeDesc}(hu:P.underlying u=some du)(hdu:∀k,du≠.int k)(hi:P.info? e=some i)
 {ad:Option Addr} {pA wJ n:Nat} {y:Value} {news:Array Value} {w1:World} (hl:(Builtin.lenOf y).run P w=.ok n w) (fL:pA+n<=wJ) (hn:(Builtin.firstCells i.size n y).run P w=.ok news w)
 (qS:(match ad with|some a=>storeCells (a.add (pA*i.size)) news.toList|none=>Pure.pure ()).run P w=.ok () w1):
 (Builtin.append_ #[t,u] ty #[.slice ad pA wJ,y]).run P w=.ok (.slice ad (pA+n) wJ) w1:=by
 cases ad with
 |none=>simp only[Sem.run_pure,Result.ok.injEq,true_and] at qS;subst qS;simp[Builtin.append_,run_underlying ht,run_underlying hu,jq hi,hl,fL,hn]
 |some ad=>simp at qS;simp[Builtin.append_,run_underlying ht,run_underlying hu,jq hi,hl,fL,hn,qS]
theorem tW{t u e:TypeId}{ty:TypeId}{i:TypeInfo}{z:Value}(ht:P.underlying t=some (.slice e)){du:TypeDesc}(hu:P.underlying u=some du)(hdu:∀k,du≠.int k)(hi:P.info? e=some i)(hz0:i.zero=some z)
 {ad:Option Addr} {pA wJ n:Nat} {y:Value} {ahm news:Array Value} (hl:(Builtin.lenOf y).run P w=.ok n w) (XO:wJ<pA+n) (h63:pA+n<2^63) (aee:(pA+n)*i.bytes<=140737488355328)
 (ho:(Builtin.firstCells i.size pA (.slice ad pA wJ)).run P w.drew=.ok ahm w.drew) (hn:(Builtin.firstCells i.size n y).run P w.drew=.ok news w.drew):
 (Builtin.append_ #[t,u] ty #[.slice ad pA wJ,y]).run P w=.ok (.slice (some ⟨w.heap.size,0,none⟩) (pA+n) (grownCap w (pA+n) wJ e))
  (w.drew.alloc (.cells (ahm++news++Builtin.zeroCells z.cells (grownCap w (pA+n) wJ e-(pA+n))) e)):=by
 have h1:¬(pA+n<=wJ):=by omega
 have h2:¬(9223372036854775807<(pA:Int)+(n:Int)):=by omega
 have h3:¬(281474976710656<Builtin.nextslicecap (pA+n) wJ*i.bytes):=by have:=growslice_fits XO aee;omega
 simp[Builtin.append_,run_underlying ht,run_underlying hu,jq hi,hl,h1,h2,h3,typeInfo,hi,zeroValue,hz0,Question.forced,ho,hn,newRow,grownCap]
theorem Jd{f g:Nat->Value}(m n:Nat):((List.range m).map f).toArray++((List.range n).map g).toArray=((List.range (m+n)).map λj=>if j<m then f j else g (j-m)).toArray:=by
 apply Array.ext';simp only[Array.toList_append];rw[List.range_add,List.map_append];congr 1
 .apply List.map_congr_left;intro j hj;rw[if_pos (by simpa using hj)]
 .rw[List.map_map];apply List.map_congr_left;intro j _;simp only[Function.comp];rw[if_neg (by omega),Nat.add_sub_cancel_left]
theorem uJ(w:World)(ahn Fy:Nat)(e:TypeId):ahn<=grownCap w ahn Fy e:=Nat.le_add_right _ _
theorem FJ(hr:HR φ h w){id off k:Nat}{cs news:List AV}{eW:List Value}(hg:h.get id=some (.row cs))(hle:off+k<=cs.length)(room:Nat)(w9:off+room<=(φ id).room)(fL:k+news.length<=room)
 (cT:news.length=eW.length) (hv:∀j (h1:j<news.length) (h2:j<eW.length),eZ φ h w news[j] eW[j]/\eW[j].oneCell'=true):
 ∃w',(storeCells ⟨(φ id).gm,(φ id).base+off+k,none⟩ eW).run P w=.ok () w'/\
   HR (eF φ h.next ⟨(φ id).gm,(φ id).base+off,room⟩) ((h.set id .dead).alloc (.row ((cs.drop off).take k++news))) w'/\
   Ext φ h w (eF φ h.next ⟨(φ id).gm,(φ id).base+off,room⟩) ((h.set id .dead).alloc (.row ((cs.drop off).take k++news))) w':=by
 obtain⟨c,el,fz,h1,h2,h3,h4,h5,h6⟩:=hr.rows id cs hg;have ow:live h id:=⟨_,hg,λe=>by cases e⟩
 obtain⟨w',e1,e2,e3,e4,e5,e6,e7⟩:=mh (P:=P) eW c ((φ id).base+off+k) 0 w h1 (by omega) h4 (λv hvm=>by obtain⟨j,hj,rfl⟩:=List.getElem_of_mem hvm;exact (hv j (by omega) hj).2)
 have CZ:(h.set id .dead).next=h.next:=by simp
 have lv:∀i,live ((h.set id .dead).alloc (.row ((cs.drop off).take k++news))) i->i=h.next\/(live h i/\i≠id/\i<h.next):=λi hi=>by
  rcases gA hi with e|⟨hl,de⟩
  .exact .inl (by rw[e,CZ])
  .obtain⟨q1,q2⟩:=kb hl;exact .inr ⟨q1,q2,by rw[<-CZ];exact de⟩
 have hφn:∀i,i<h.next->eF φ h.next ⟨(φ id).gm,(φ id).base+off,room⟩ i=φ i:=λi hi=>by simp[eF,Nat.ne_of_lt hi]
 have hφe:eF φ h.next ⟨(φ id).gm,(φ id).base+off,room⟩ h.next=⟨(φ id).gm,(φ id).base+off,room⟩:=by simp[eF]
 have ext:Ext φ h w (eF φ h.next ⟨(φ id).gm,(φ id).base+off,room⟩) ((h.set id .dead).alloc (.row ((cs.drop off).take k++news))) w':=by
  refine⟨e5,e6,e7,by omega,by simp,hφn,λb hb=>?_,rfl,λb hb=>e4 b λe=>(hr.gh b hb).2 id ow e.symm⟩;have fB:b≠(φ id).gm:=λe=>hb.2.1 id ow e.symm
  refine⟨⟨by rw[e3];exact hb.1,λi hi=>?_,hb.2.2⟩,e4 b fB⟩;rcases lv i hi with rfl|⟨q1,q2,q3⟩
  .rw[hφe];exact Ne.symm fB
  .rw[hφn i q3];exact hb.2.1 i q1
 refine⟨w',e1,⟨af.nN _ (af.wf_set _ _ hr.wf),λi iA hi=>?_,λi es hi=>?_,λi j hi hj tK=>?_,λb hb=>⟨by rw[e3];exact (hr.gh b hb).1,λi hi=>?_⟩⟩,ext⟩
 .rcases lv i ⟨_,hi,λe=>by cases e⟩ with rfl|⟨q1,q2,q3⟩
  .rw[<-CZ,af.eY] at hi;cases hi;have aho:((cs.drop off).take k++news).length=k+news.length:=by simp;omega
   refine⟨_,el,fz,by rw[hφe];exact e2,by rw[hφe,l7];dsimp only;omega,by rw[hφe,aho];exact fL,by rw[l7];exact h4,λj hj=>?_,λj hj=>?_⟩
   .rw[hφe] at hj|-;dsimp only at hj|-;rw[nk _ _ _ _ (by omega)];split
    .rename_i Bq;have de:(φ id).base+off+j-((φ id).base+off+k+0)<eW.length:=by omega
     have:=(hv _ (by omega) de).2;rw[List.getD_eq_getElem?_getD,List.getElem?_eq_getElem de];exact this
    .have:=h5 (off+j) (by omega);rw[Nat.add_assoc];exact this
   .rw[hφe];dsimp only;rw[nk _ _ _ _ (by omega)];by_cases hjk:j<k
    .rw[if_neg (by omega)];have q:off+j<cs.length:=by omega
     have:=(h6 (off+j) q).ext ext;rw[Nat.add_assoc];have hjt:j<((cs.drop off).take k).length:=by simp;omega
     rw[List.getElem_append_left hjt];simpa using this
    .rw[if_pos (by omega)];have q1:j-k<news.length:=by omega
     have q2:(φ id).base+off+j-((φ id).base+off+k+0)=j-k:=by omega
     have q3:j-k<eW.length:=by omega
     have:=((hv _ q1 q3).1).ext ext;rw[q2,List.getD_eq_getElem?_getD,List.getElem?_eq_getElem q3];have hjt:((cs.drop off).take k).length=k:=by simp;omega
     rw[List.getElem_append_right (by omega)];simpa[hjt] using this
  .rw[af.dm (by rw[CZ];exact q3),af.get_set_other (Ne.symm q2)] at hi;exact (hr.rows i iA hi).ext ext q3 (e4 _ λe=>q2 (hr.inj i id q1 ow e))
 .rcases lv i ⟨_,hi,λe=>by cases e⟩ with rfl|⟨q1,q2,q3⟩
  .rw[<-CZ,af.eY] at hi;cases hi
  .rw[af.dm (by rw[CZ];exact q3),af.get_set_other (Ne.symm q2)] at hi;exact (hr.maps i es hi).ext ext q3 (e4 _ λe=>q2 (hr.inj i id q1 ow e))
 .rcases lv i hi with rfl|⟨q1,q2,q3⟩<;>rcases lv j hj with rfl|⟨r1,r2,r3⟩
  .rfl
  .rw[hφe,hφn j r3] at tK;exact absurd (hr.inj id j ow r1 tK).symm r2
  .rw[hφe,hφn i q3] at tK;exact absurd (hr.inj i id q1 ow tK) q2
  .rw[hφn i q3,hφn j r3] at tK;exact hr.inj i j q1 r1 tK
 .rcases lv i hi with rfl|⟨q1,q2,q3⟩
  .rw[hφe];exact (hr.gh b hb).2 id ow
  .rw[hφn i q3];exact (hr.gh b hb).2 i q1
theorem abV{t u e:TypeId}{x y:Operand}{o:Oper}(ho:o.op=.call {callee:=.builtin .append,args:=#[x,y],argTypes:=#[t,u]}){x' y':cX}(hx:fS x=some x')(hy:fS y=some y')
 (ht:P.underlying t=some (.slice e)) {du:TypeDesc} (hu:P.underlying u=some du) (hdu:∀k,du≠.int k) {i:TypeInfo} (hi:P.info? e=some i) {z:List AV} (hz:om P e=some z) (B0:z.length=i.size) (lO:0<i.size)
 {n:Nat} {news:List AV} (hn:aI h i.size (y'.ev fr)=some (n,news)) {v:AV} {h':af}
 (he:(match x'.ev fr with
  |.aD=>if n=0 then some (AV.aD,h) else
    if n*i.bytes<=140737488355328/\n<2^63 then some (.vec h.next 0 n i.size n,h.alloc (.row news)) else none
  |.vec id off len s lb=>match h.row id with
    |some cs=>if s=i.size/\off+len*i.size<=cs.length then
     if n=0 then some (.vec id off len s lb,h) else
     if len+n<=lb/\off+(len+n)*i.size<=cs.length then some (.vec id off (len+n) i.size lb,(h.set id (.row (putAt cs (off+len*i.size) news))).mark id (.agg news)) else
     if (len+n)*i.bytes<=140737488355328/\len+n<2^63 then
      some (.vec h.next 0 (len+n) i.size (len+n),(h.set id .dead).alloc (.row ((cs.drop off).take (len*i.size)++news))) else none
      else none
    |none=>none
  |_=>none)=some (v,h')) (hf:FR φ h w fr a.tmps) (hr:HR φ h w):fu P (execOp a.eval o) φ h w v h':=by
 have g1:=cd hx hf;have g2:=cd hy hf;obtain⟨n1,f,n2,n3,n4⟩:=HC (P:=P) hn g2 hr lO;obtain⟨i',zv,iB,Jg,k1,k2,k3⟩:=o6 (φ:=φ) hz;obtain rfl:i=i':=by rw[hi] at iB;exact Option.some.inj iB
 have hex:∀r w1,(Builtin.append_ #[t,u] o.type #[a.eval x,a.eval y]).run P w=.ok r w1->(execOp a.eval o).run P w=.ok (.value r) w1:=λr w1 tM=>by unfold execOp;simp[ho,resolve,invoke,builtin,tM]
 have HJ:∀m,(Builtin.zeroCells zv.cells m).size=m*i.size:=λm=>by rw[K6];rw[k1,B0]
 split at he
 .rename_i e1;rw[e1] at g1;obtain⟨ad,hq⟩:=g1.mE;split at he
  .rename_i h0;cases he;subst h0;have:=run_append_room (P:=P) (ty:=o.type) (ad:=ad) (pA:=0) (wJ:=0) (w1:=w) ht hu hdu hi (n3 w) (Nat.le_refl _) (n4 w rfl) (by cases ad<;>simp[storeCells]);rw[<-hq] at this;exact .pure hr (hex _ _ this) g1
  .rename_i h0;split at he
   .rename_i hc;cases he;have hold:(Builtin.firstCells i.size 0 (.slice ad 0 0)).run P w.drew=.ok #[] w.drew:=by cases ad<;>simp[Builtin.firstCells,loadCells,loadCellsFrom]
    have:=tW (P:=P) (ty:=o.type) ht hu hdu hi Jg (ad:=ad) (pA:=0) (wJ:=0) (n3 w) (by omega) (by omega) (by simpa using hc.1) hold (n4 w.drew rfl);rw[<-hq,Nat.zero_add,Array.empty_append] at this;have kh:=uJ w n 0 e;refine Ei (P:=P) hr (.refl _ _ _) (el:=e) (m:=n*i.size) (cap:=grownCap w n 0 e) (rest:=Builtin.zeroCells zv.cells (grownCap w n 0 e-n)) f n1 n2 (wR k2 _) (w':=w.drew.alloc _) rfl rfl rfl rfl (hex _ _ this) kh ?_
    .rw[HJ,<-Nat.add_mul];exact Nat.mul_le_mul_right _ (by omega)
   .cases he
 .rename_i id off len s lb e1;rw[e1] at g1;obtain⟨cap,ad,hq,bZ,hl,oI,w9,ha⟩:=g1.kA;split at he
  .rename_i cs qQ;have hg:=rF qQ;split at he
   .rename_i hc;obtain⟨rfl,hle⟩:=hc;split at he
    .rename_i h0;cases he;subst h0;have:=run_append_room (P:=P) (ty:=o.type) (ad:=ad) (pA:=len) (wJ:=cap) (w1:=w) ht hu hdu hi (n3 w) (by omega) (n4 w rfl) (by cases ad<;>simp[storeCells]);rw[<-hq] at this;rw[Nat.add_zero,<-hq] at this;exact .pure hr (hex _ _ this) g1
    .rename_i h0
     have XP:len+n<=cap->off+(len+n)*i.size<=cs.length->∃w',(Builtin.append_ #[t,u] o.type #[a.eval x,a.eval y]).run P w=.ok (.slice ad (len+n) cap) w'/\
      HR φ (h.set id (.row (putAt cs (off+len*i.size) news))) w'/\Ext φ h w φ (h.set id (.row (putAt cs (off+len*i.size) news))) w':=λfL eR=>by
      have had:=ha (by omega);have vq:(off+len*i.size)+news.length<=cs.length:=by rw[n1];rw[Nat.add_mul] at eR;omega
      obtain⟨w',q1,q2,q3⟩:=AR (P:=P) (eW:=(List.range (n*i.size)).map f) hr hg vq (by simp[n1]) λj q1 q2=>by
       have hj:j<n*i.size:=by omega
       have:=n2 j hj;rw[List.getD_eq_getElem?_getD,List.getElem?_eq_getElem q1] at this;simpa using this
      refine⟨w',?_,q2,q3⟩
      have:=run_append_room (P:=P) (ty:=o.type) (ad:=ad) (pA:=len) (wJ:=cap) (w1:=w') ht hu hdu hi (n3 w) fL (n4 w rfl) (by rw[had];simp only[Addr.add_lit];rw[Nat.add_assoc];simpa using q1)
      rw[hq];exact this
     split at he
     .rename_i Ji;cases he;obtain⟨w',q1,q2,q3⟩:=XP (by omega) Ji.2;obtain⟨m1,m2⟩:=q2.mark id (.agg news);refine⟨_,w',φ,.inl (hex _ _ q1),?_,m1,q3.trans m2⟩;exact .vec _ _ _ _ _ _ _ (by simpa using bZ) (by omega) oI w9 ha
     .rename_i Ji;split at he
      .rename_i hc3;cases he;by_cases fL:len+n<=cap
       .have had:=ha (by omega)
        obtain⟨w',q1,q2,q3⟩:=FJ (P:=P) (eW:=(List.range (n*i.size)).map f) hr hg hle (cap*i.size) w9 (by rw[n1,<-Nat.add_mul];exact Nat.mul_le_mul_right _ fL) (by simp[n1]) λj q1 q2=>by
         have hj:j<n*i.size:=by omega
         have:=n2 j hj;rw[List.getD_eq_getElem?_getD,List.getElem?_eq_getElem q1] at this;simpa using this
        have:=run_append_room (P:=P) (ty:=o.type) (ad:=ad) (pA:=len) (wJ:=cap) (w1:=w') ht hu hdu hi (n3 w) fL (n4 w rfl) (by rw[had];simp only[Addr.add_lit];simpa using q1)
        rw[<-hq] at this;refine⟨_,w',_,.inl (hex _ _ this),.vec _ _ _ _ _ _ _ (by simp) fL fL ?_ ?_,q2,q3⟩
        .simp[eF]
        .intro _;rw[had];simp[eF]
       .have XO:cap<len+n:=by omega
        obtain⟨kr,kx⟩:=abh hr id
        have mb:∀j,j<len*i.size->∃v,w.cell? ⟨(φ id).gm,(φ id).base+(off+j),none⟩=some v/\eZ φ h w (cs.getD (off+j) .undef) v/\v.oneCell'=true:=λj hj=>by
         obtain⟨v,c1,c2,c3⟩:=zm hr hg (off+j) (by omega);have de:off+j<cs.length:=by omega
         exact⟨v,c1,by simpa[List.getD,de] using c2,c3⟩
        let g:Nat->Value:=λj=>(w.cell? ⟨(φ id).gm,(φ id).base+(off+j),none⟩).getD default
        have hold:(Builtin.firstCells i.size len (.slice ad len cap)).run P w.drew=.ok ((List.range (len*i.size)).map g).toArray w.drew:=by
         rcases Nat.eq_zero_or_pos len with h00|h00
         .subst h00;cases ad<;>simp[Builtin.firstCells,loadCells,loadCellsFrom]
         .rw[ha (by omega)];simp only[Builtin.firstCells];refine run_loadCells w.drew _ _ _ λj hj=>?_
          obtain⟨v,c1,c2,c3⟩:=mb j hj;rw[Addr.add_lit,Nat.add_assoc,World.cell?_drew,c1];simp[g,c1]
        have:=tW (P:=P) (ty:=o.type) ht hu hdu hi Jg (n3 w) XO hc3.2 hc3.1 hold (n4 w.drew rfl);rw[<-hq,Jd] at this;have kh:=uJ w (len+n) cap e;rw[show h.next=(h.set id .dead).next by simp];refine Ei (P:=P) (h1:=h.set id .dead) kr kx (el:=e) (m:=len*i.size+n*i.size) (cap:=grownCap w (len+n) cap e) (rest:=Builtin.zeroCells zv.cells (grownCap w (len+n) cap e-(len+n))) _ ?_ (λj hj=>?_) (wR k2 _) (w':=w.drew.alloc _) rfl rfl rfl rfl (hex _ _ this) kh ?_
        .simp[n1];omega
        .by_cases hjk:j<len*i.size
         .obtain⟨v,c1,c2,c3⟩:=mb j hjk;rw[if_pos hjk];have hg1:g j=v:=by simp[g,c1]
          rw[hg1];refine⟨?_,c3⟩;have hjt:j<((cs.drop off).take (len*i.size)).length:=by simp;omega
          have:=c2.ext kx;rw[List.getD_eq_getElem?_getD,List.getElem?_append_left hjt,List.getElem?_take,if_pos hjk,List.getElem?_drop];rw[List.getD_eq_getElem?_getD] at this;exact this
         .rw[if_neg hjk];have hjn:j-len*i.size<n*i.size:=by omega
          obtain⟨r1,r2⟩:=n2 _ hjn;refine⟨?_,r2⟩;have hjt:((cs.drop off).take (len*i.size)).length=len*i.size:=by simp;omega
          have:=r1.ext kx;rw[List.getD_eq_getElem?_getD,List.getElem?_append_right (by omega),hjt];rw[List.getD_eq_getElem?_getD] at this;exact this
        .rw[HJ,<-Nat.add_mul,<-Nat.add_mul];exact Nat.mul_le_mul_right _ (by omega)
      .cases he
   .cases he
  .cases he
 .cases he
theorem ux(z:List AV)(n:Nat):(List.replicate n z).flatten.length=n*z.length/\∀j,j<n*z.length->(List.replicate n z).flatten.getD j .undef=z.getD (j%z.length) .undef:=by
 induction n with
 |zero=>simp
 |succ n ih=>
   refine⟨by simp,λj hj=>?_⟩;rw[List.replicate_succ,List.flatten_cons];by_cases hjz:j<z.length
   .rw[List.getD_eq_getElem?_getD,List.getElem?_append_left hjz,Nat.mod_eq_of_lt hjz,List.getD_eq_getElem?_getD]
   .rw[List.getD_eq_getElem?_getD,List.getElem?_append_right (by omega)];have h2:=ih.2 (j-z.length) (by rw[Nat.add_mul,Nat.one_mul] at hj;omega);rw[List.getD_eq_getElem?_getD] at h2;have e:=Nat.mod_eq_sub_mod (a:=j) (b:=z.length) (by omega);rw[h2,e]
theorem acT{t e:TypeId}{l c:Operand}{o:Oper}(ho:o.op=.makeSlice t l c){l' c':cX}(hl:fS l=some l')(hc:fS c=some c')(ht:P.underlying t=some (.slice e)){i:TypeInfo}(hi:P.info? e=some i)
 {z:List AV} (hz:om P e=some z) (B0:z.length=i.size) {m n:Int} (h1:l'.ev fr=.int .i64 m) (h2:c'.ev fr=.int .i64 n) (hb:0<=m/\m<=n/\n*i.bytes<=140737488355328/\n<2^63)
 (hf:FR φ h w fr a.tmps) (hr:HR φ h w):fu P (execOp a.eval o) φ h w (.vec h.next 0 m.toNat z.length n.toNat) (h.alloc (.row (List.replicate n.toNat z).flatten)):=by
 obtain⟨i',zv,iB,Jg,k1,k2,k3⟩:=o6 (φ:=φ) hz;obtain rfl:i=i':=by rw[hi] at iB;exact Option.some.inj iB
 have g1:=cd hl hf;have g2:=cd hc hf;rw[h1] at g1;rw[h2] at g2;obtain⟨b0,b1,b2,b3⟩:=hb;obtain⟨n',rfl⟩:=Int.eq_ofNat_of_zero_le (by omega:0<=n);obtain⟨m',rfl⟩:=Int.eq_ofNat_of_zero_le b0
 have hbn:n'*i.bytes<=140737488355328:=by
  have:((n'*i.bytes:Nat):Int)<=140737488355328:=by rw[Int.natCast_mul];exact b2
  omega
 simp only[Int.toNat_natCast];obtain⟨r1,r2⟩:=ux z n'
 let zz:Array Value:=if n'*i.size=0 then #[] else zv.cells
 let cells:Array Value:=(Array.range (n'*i.size)).map (zz[· % zz.size]!)
 have XK:n'*i.size≠0->zz=zv.cells:=λh0=>if_neg h0
 have np:cells.size=n'*i.size:=by simp[cells]
 have q1:∀j,j<cells.size->(cells.getD j default).oneCell'=true:=λj hj=>by
  rw[np] at hj;have lO:0<i.size:=Nat.pos_of_ne_zero λe=>by simp[e] at hj
  have hm:j%i.size<i.size:=Nat.mod_lt _ lO;have:=k2 (j%i.size);have hz':=XK (by omega);simp only[cells,hz',k1,B0];simpa[Array.getD,hj,k1,B0,hm] using this
 have q2:∀j (hj:j<(List.replicate n' z).flatten.length),eZ φ h w (List.replicate n' z).flatten[j] (cells.getD j default):=λj hj=>by
  have jk:j<n'*i.size:=by rw[r1,B0] at hj;exact hj
  have lO:0<i.size:=Nat.pos_of_ne_zero λe=>by simp[e] at jk
  have hm:j%i.size<i.size:=Nat.mod_lt _ lO;have hm':j%i.size<z.length:=by omega
  have:=k3 h.next (Pr φ h w) w (j%i.size) hm'
  have hz':=XK (by omega);have e:=r2 j (by rw[B0];exact jk);rw[List.getD_eq_getElem?_getD,List.getElem?_eq_getElem hj,Option.getD_some] at e;rw[e,B0];simp only[cells,hz',k1,B0];simpa[Array.getD,jk,k1,B0,hm,hm',List.getD] using this
 obtain⟨n1,n2⟩:=CI (w':=w.alloc (.cells cells e)) hr rfl rfl rfl rfl (by simp) q1 (by rw[np,r1,B0];exact Nat.le_refl _) q2;refine⟨_,_,_,.inl ?_,Ip _ w.heap.size cells.size m' z.length n' n' (by omega) (Nat.le_refl _) (by rw[np,B0];exact Nat.le_refl _),n1,n2⟩;unfold execOp;have w1:IntKind.i64.wrap (m':Int)=m':=by rw[IntKind.wrap_i64];omega
 have w2:IntKind.i64.wrap (n':Int)=n':=by rw[IntKind.wrap_i64];omega
 have t1:¬((n':Int)<0):=by omega
 have t2:¬(281474976710656<(i.bytes:Int)*(n':Int)):=by rw[Int.mul_comm];omega
 have t3:¬((m':Int)<0):=by omega
 have t4:¬(n'<m'):=by omega
 by_cases h0:n'*i.size=0
 .have QT:cells=#[]:=by apply Array.eq_empty_of_size_eq_zero;rw[np];exact h0
  rw[QT];simp[ho,g1.dP,g2.dP,Instr.makeSlice,run_underlying ht,asInt,asIntOf,typeInfo,hi,w1,w2,t1,t2,t3,t4,jq hi,h0,newRow,Array.range_zero']
 .have QT:cells=(Array.range (n'*i.size)).map (zv.cells[· % zv.cells.size]!):=by simp only[cells,XK h0]
  rw[QT];simp[ho,g1.dP,g2.dP,Instr.makeSlice,run_underlying ht,asInt,asIntOf,typeInfo,hi,w1,w2,t1,t2,t3,t4,jq hi,h0,newRow,zeroValue,Jg]
theorem adI{t e:TypeId}{x:Operand}{o:Oper}(ho:o.op=.call {callee:=.builtin .clear,args:=#[x],argTypes:=#[t]}){x':cX}(hx:fS x=some x')(ht:P.underlying t=some (.slice e)){i:TypeInfo}(hi:P.info? e=some i)
 {z:List AV} (hz:om P e=some z) (B0:z.length=i.size) {v:AV} {h':af}
 (he:(match x'.ev fr with
 |.aD=>some (AV.tuple [],h)
 |.vec id off len s _=>match h.row id with
   |some cs=>if s=z.length/\off+len*s<=cs.length then some (.tuple [],(h.set id (.row (putAt cs off (List.replicate len z).flatten))).mark id (.agg z)) else none
   |none=>none
 |_=>none)=some (v,h')) (hf:FR φ h w fr a.tmps) (hr:HR φ h w):fu P (execOp a.eval o) φ h w v h':=by
 obtain⟨i',zv,iB,Jg,k1,k2,k3⟩:=o6 (φ:=φ) hz;obtain rfl:i=i':=by rw[hi] at iB;exact Option.some.inj iB
 have g:=cd hx hf;have aeh:∀φ h w,eZ φ h w (.tuple []) (.tuple #[]):=λφ h w=>.tuple [] #[] rfl λj hj=>by simp at hj
 split at he
 .rename_i e1;cases he;rw[e1] at g;obtain⟨ad,hq⟩:=g.mE;refine .pure (cv:=.tuple #[]) hr ?_ (aeh _ _ _);unfold execOp;cases ad<;>simp[ho,resolve,invoke,builtin,hq,Builtin.clear_,run_underlying ht]
 .rename_i id off len s lb e1;rw[e1] at g;obtain⟨cap,ad,hq,bZ,hl,oI,w9,ha⟩:=g.kA;split at he
  .rename_i cs qQ;have hg:=rF qQ;split at he
   .rename_i hc;obtain⟨rfl,hle⟩:=hc;cases he;obtain⟨r1,r2⟩:=ux z len;rcases Nat.eq_zero_or_pos len with h0|h0
    .subst h0
     have e2:(h.set id (.row (putAt cs off (List.replicate 0 z).flatten)))={h with wl:=h.wl,md:=min h.md id}:=by simp only[List.replicate_zero,List.flatten_nil,putAt];unfold af.set;have de:=af.dO hg;rw[if_pos de];have hgg:=hg;unfold af.get at hgg;rw[if_pos de] at hgg;obtain⟨q1,q2⟩:=List.getElem?_eq_some_iff.1 hgg;rw[<-q2,List.set_getElem_self]
     rw[e2];obtain⟨s1,s2⟩:=hr.w5 h.wl (min h.md id);obtain⟨m1,m2⟩:=s1.mark id (.agg z);refine⟨.tuple #[],w,φ,.inl ?_,aeh _ _ _,m1,s2.trans m2⟩;unfold execOp;cases ad<;>simp[ho,resolve,invoke,builtin,hq,Builtin.clear_,run_underlying ht]
    .have had:=ha (by omega)
     let eW:=(Builtin.zeroCells zv.cells len).toList
     have eR:eW.length=len*z.length:=by simp only[eW,Array.length_toList];rw[K6,k1]
     obtain⟨w',e1,e2,e3⟩:=AR (P:=P) (eW:=eW) (vs:=(List.replicate len z).flatten) hr hg (by rw[r1];exact hle) (by rw[r1,eR]) λj q1 q2=>by
      have hj:j<len*z.length:=by omega
      have lO:0<z.length:=Nat.pos_of_ne_zero λe=>by simp[e] at hj
      have hm:j%z.length<z.length:=Nat.mod_lt _ lO;have t1:=k3 h.next (Pr φ h w) w _ hm
      have t2:=k2 (j%z.length);have e:=r2 j hj;rw[List.getD_eq_getElem?_getD,List.getElem?_eq_getElem q1,Option.getD_some] at e;have jJ:j%z.length<zv.cells.size:=by omega
      have e4:eW[j]=zv.cells.getD (j%z.length) default:=by simp only[eW,Builtin.zeroCells,Array.getElem_toList,Array.getElem_map,Array.getElem_range,k1];simp[Array.getD,jJ]
      rw[e,e4];exact⟨by simpa[List.getD,hm] using t1,t2⟩
     obtain⟨m1,m2⟩:=e2.mark id (.agg z);refine⟨.tuple #[],w',φ,.inl ?_,aeh _ _ _,m1,e3.trans m2⟩;unfold execOp;obtain⟨akz,rfl⟩:∃l',len=l'+1:=⟨len-1,by omega⟩
     simp[ho,resolve,invoke,builtin,hq,had,Builtin.clear_,run_underlying ht,zeroValue,typeInfo,hi,Jg];rw[show (Builtin.zeroCells zv.cells (akz+1)).toList=eW from rfl,e1];rfl
   .cases he
  .cases he
 .cases he
end
end
end Sz
