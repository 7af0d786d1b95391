import Derived.Calls
import GoSem.Claims
import Derived.Laws.World
import Derived.Laws.Sem
import GoSem.Dispatch
import GoSem.Core.Region
import Derived.Laws.Append
import Derived.Laws.Tables
import Derived.Laws.Strings
import Derived.Laws.StructEq
import Derived.Laws.Slices
import Derived.Laws.IdiomStrings
set_option linter.all false
set_option maxHeartbeats 16000000
set_option maxRecDepth 100000
namespace Sz
open Go
section
variable {X:World->Prop}
inductive AV where
 |undef
 |bool (b:Bool)
 |int (k:IntKind) (n:Int)
 |str (s:List UInt8)
 |mV
 |ptr (id off:Nat)
 |ip (cs:List AV)
 |aJ
 |sl (xs:List AV)
 |vec (id off len sz lb:Nat)
 |om
 |map (id:Nat)
 |jv
 |fn (f:Nat) (bC:List AV)
 |mR
 |iface (t:Nat) (v:AV)
 |agg (cs:List AV)
 |tuple (vs:List AV)
 deriving Inhabited
def AV.cells:AV->List AV
 |.agg cs=>cs
 |v=>[v]
def AV.cells?:AV->Option (List AV)
 |.agg cs=>some cs
 |.undef=>none
 |.tuple _=>none
 |v=>some [v]
mutual
def AV.aK:AV->Nat
 |.ptr id _=>id+1
 |.vec id _ _ _ _=>id+1
 |.map id=>id+1
 |.fn _ bC=>AV.aw bC
 |.iface _ v=>v.aK
 |.agg cs=>AV.aw cs
 |.tuple vs=>AV.aw vs
 |_=>0
def AV.aw:List AV->Nat
 |[]=>0
 |v::r=>max v.aK (AV.aw r)
end
theorem AV.dk{v:AV}{l:List AV}(h:v∈l):v.aK<=AV.aw l:=by
 induction l with
 |nil=>cases h
 |cons x r ih=>
   simp only[AV.aw]
   cases h with
   |head=>omega
   |tail _ h=>have:=ih h;omega
theorem AV.kI{l:List AV}{n:Nat}(h:∀v∈l,v.aK<=n):AV.aw l<=n:=by
 induction l with
 |nil=>simp[AV.aw]
 |cons x r ih=>
   simp only[AV.aw];have h1:=h x (by simp);have h2:=ih λv hv=>h v (by simp[hv])
   omega
inductive bp where
 |row (cs:List AV)
 |map (es:List (AV×AV))
 |dead
 deriving Inhabited
structure ai where
 next:Nat
 iF:List bp
 wl:Nat
 md:Nat
def ai.get(h:ai)(id:Nat):Option bp:=if id<h.next then h.iF[h.next-1-id]? else none
def ai.set(h:ai)(id:Nat)(o:bp):ai:=if id<h.next then {h with iF:=h.iF.set (h.next-1-id) o,md:=min h.md id} else h
def ai.alloc(h:ai)(o:bp):ai:={h with next:=h.next+1,iF:=o::h.iF}
def ai.mark(h:ai)(id:Nat)(v:AV):ai:=if id+1<v.aK then {h with wl:=min h.wl id} else h
def ai.kz(h:ai)(n:Nat):ai:={h with next:=min h.next n,iF:=h.iF.drop (h.next-n)}
def ai.wf(h:ai):Prop:=h.iF.length=h.next
section heap
variable {h:ai}{id WE n:Nat}{o o':bp}
@[simp] theorem ai.px:(h.alloc o).next=h.next+1:=rfl
@[simp] theorem ai.Wg:(h.set id o).next=h.next:=by unfold ai.set;split<;>rfl
@[simp] theorem ai.aeD{v:AV}:(h.mark id v).next=h.next:=by unfold ai.mark;split<;>rfl
@[simp] theorem ai.qX{v:AV}:(h.mark id v).get WE=h.get WE:=by unfold ai.mark;split<;>rfl
@[simp] theorem ai.agl:(h.alloc o).wl=h.wl:=rfl
@[simp] theorem ai.ajw:(h.set id o).wl=h.wl:=by unfold ai.set;split<;>rfl
theorem ai.gw:(h.alloc o).get h.next=some o:=by simp[ai.get,ai.alloc]
theorem ai.eF(cG:id<h.next):(h.alloc o).get id=h.get id:=by unfold ai.get ai.alloc;simp only[cG,if_true,show id<h.next+1 by omega];rw[show h.next+1-1-id=(h.next-1-id)+1 by omega,List.getElem?_cons_succ]
theorem ai.eK(hg:h.get id=some o):id<h.next:=by
 unfold ai.get at hg;split at hg
 .assumption
 .cases hg
theorem ai.get_set_same(hg:h.get id=some o'):(h.set id o).get id=some o:=by have hl:=ai.eK hg;unfold ai.get at hg|-;unfold ai.set;simp only[hl,if_true] at hg|-;have:=(List.getElem?_eq_some_iff.1 hg).1;simp[this]
theorem ai.get_set_other(fy:id≠WE):(h.set id o).get WE=h.get WE:=by
 unfold ai.set;split
 .unfold ai.get;dsimp only;split
  .rw[List.getElem?_set_ne (by omega)]
  .rfl
 .rfl
theorem ai.rj(cG:id<n):(h.kz n).get id=h.get id:=by
 unfold ai.kz ai.get;dsimp only;by_cases hl:id<h.next
 .rw[if_pos (by omega),if_pos hl,List.getElem?_drop];congr 1;omega
 .rw[if_neg (by omega),if_neg hl]
@[simp] theorem ai.xd:(h.kz n).next=min h.next n:=rfl
end heap
structure PE where
 ib:Nat
 base:Nat
 room:Nat
 deriving Inhabited
structure eL where
 at_:Nat->PE
 gh:Nat->Prop
instance:CoeFun eL (λ_=>Nat->PE):=⟨eL.at_⟩
inductive RV (φ:eL) (nx:Nat) (pr:Nat->Prop) (w:World):AV->Value->Prop where
 |undef (v:Value):RV φ nx pr w .undef v
 |bool (b:Bool):RV φ nx pr w (.bool b) (.bool b)
 |int (k:IntKind) (n:Int):RV φ nx pr w (.int k n) (.int k n)
 |str (s:ByteArray):RV φ nx pr w (.str s.data.toList) (.string s)
 |mV:RV φ nx pr w .mV (.pointer none)
 |ptr (id off:Nat) (h:id<nx):RV φ nx pr w (.ptr id off) (.pointer (some ⟨(φ id).ib,(φ id).base+off,none⟩))
 |ip (cs:List AV) (b o:Nat) (vs:Nat->Value) (hp:pr b) (wi:AV.aw cs=0) (h1:∀j,(vs j).oneCell'=true)
  (hc:∀j,j<cs.length->w.cell? ⟨b,o+j,none⟩=some (vs j)) (hv:∀j (h:j<cs.length),RV φ nx pr w cs[j] (vs j)):
  RV φ nx pr w (.ip cs) (.pointer (some ⟨b,o,none⟩))
 |aJ (a:Option Addr):RV φ nx pr w .aJ (.slice a 0 0)
 |slnil (a:Option Addr) (cap:Nat):RV φ nx pr w (.sl []) (.slice a 0 cap)
 |sl (xs:List AV) (b o cap sz:Nat) (vs:Nat->Nat->Value) (hp:pr b) (mW:xs.length<=cap) (wi:AV.aw xs=0) (h1:∀i j,(vs i j).oneCell'=true)
  (kU:∀i (h:i<xs.length),(xs[i]).cells?.map List.length=some sz)
  (hc:∀i j,i<xs.length->j<sz->w.cell? ⟨b,o+i*sz+j,none⟩=some (vs i j))
  (hv:∀i (h:i<xs.length) j (h':j<(xs[i]).cells.length),RV φ nx pr w ((xs[i]).cells[j]) (vs i j)):
  RV φ nx pr w (.sl xs) (.slice (some ⟨b,o,none⟩) xs.length cap)
 |vec (id off len sz lb cap:Nat) (a:Option Addr) (h:id<nx) (hl:len<=cap) (hb:lb<=cap) (hr:off+cap*sz<=(φ id).room)
  (ha:0<cap->a=some ⟨(φ id).ib,(φ id).base+off,none⟩):RV φ nx pr w (.vec id off len sz lb) (.slice a len cap)
 |om:RV φ nx pr w .om (.map none)
 |map (id:Nat) (h:id<nx):RV φ nx pr w (.map id) (.map (some (φ id).ib))
 |jv:RV φ nx pr w .jv .nilFunc
 |fn (f:Nat) (bC:List AV) (fu:Array Value) (hl:fu.size=bC.length) (hv:∀j (h:j<bC.length),RV φ nx pr w bC[j] (fu.getD j default)):
  RV φ nx pr w (.fn f bC) (.func (.func f) #[] fu)
 |mR:RV φ nx pr w .mR .nilIface
 |iface (t:Nat) (v:AV) (cv:Value) (hv:RV φ nx pr w v cv):RV φ nx pr w (.iface t v) (.iface t cv)
 |agg (cs:List AV) (fu:Array Value) (hl:fu.size=cs.length) (h1:∀j,(fu.getD j default).oneCell'=true) (hv:∀j (h:j<cs.length),RV φ nx pr w cs[j] (fu.getD j default)):
  RV φ nx pr w (.agg cs) (.agg fu)
 |tuple (vs:List AV) (fu:Array Value) (hl:fu.size=vs.length) (hv:∀j (h:j<vs.length),RV φ nx pr w vs[j] (fu.getD j default)):
  RV φ nx pr w (.tuple vs) (.tuple fu)
theorem cell?_of_block{w w':World}{b:Nat}(h:w'.heap[b]? =w.heap[b]?)(o:Nat):w'.cell? ⟨b,o,none⟩=w.cell? ⟨b,o,none⟩:=by unfold World.cell?;simp only[h]
theorem RV.mono{φ φ':eL}{nx N9:Nat}{pr zn:Nat->Prop}{w w':World}{v:AV}{cv:Value}(h:RV φ nx pr w v cv)
 (hφ:∀id,id<v.aK->id<nx->φ' id=φ id/\id<N9) (SF:∀b,pr b->zn b/\w'.heap[b]? =w.heap[b]?):RV φ' N9 zn w' v cv:=by
 induction h with
 |undef v=>exact .undef v
 |bool b=>exact .bool b
 |int k n=>exact .int k n
 |str s=>exact .str s
 |mV=>exact .mV
 |ptr id off h=>obtain⟨e,hl⟩:=hφ id (by simp[AV.aK]) h;rw[<-e];exact .ptr id off hl
 |ip cs b o vs hp wi h1 hc hv ih=>
   obtain⟨hp',hb⟩:=SF b hp;refine .ip cs b o vs hp' wi h1 (λj hj=>(cell?_of_block hb _).trans (hc j hj)) λj hj=>ih j hj λid cG=>?_
   have:=AV.dk (List.getElem_mem hj);omega
 |aJ a=>exact .aJ a
 |slnil a cap=>exact .slnil a cap
 |sl xs b o cap sz vs hp mW wi h1 kU hc hv ih=>
   obtain⟨hp',hb⟩:=SF b hp;refine .sl xs b o cap sz vs hp' mW wi h1 kU (λi j hi hj=>(cell?_of_block hb _).trans (hc i j hi hj)) λi hi j hj=>ih i hi j hj λid cG=>?_
   have h0:=AV.dk (List.getElem_mem hi);have h2:=AV.dk (List.getElem_mem hj)
   have h3:AV.aw (xs[i]).cells<=(xs[i]).aK:=by cases xs[i]<;>simp[AV.cells,AV.aK,AV.aw]
   omega
 |vec id off len sz lb cap a h hl hb hr ha=>obtain⟨e,BP⟩:=hφ id (by simp[AV.aK]) h;rw[<-e] at hr ha;exact .vec id off len sz lb cap a BP hl hb hr ha
 |om=>exact .om
 |map id h=>obtain⟨e,hl⟩:=hφ id (by simp[AV.aK]) h;rw[<-e];exact .map id hl
 |jv=>exact .jv
 |fn f bC fu hl hv ih=>
   refine .fn f bC fu hl λj hj=>ih j hj λid cG=>hφ id ?_
   have:=AV.dk (List.getElem_mem hj);simp only[AV.aK];omega
 |mR=>exact .mR
 |iface t v cv hv ih=>exact .iface t v cv (ih λid cG=>hφ id (by simpa[AV.aK] using cG))
 |agg cs fu hl h1 hv ih=>
   refine .agg cs fu hl h1 λj hj=>ih j hj λid cG=>hφ id ?_
   have:=AV.dk (List.getElem_mem hj);simp only[AV.aK];omega
 |tuple cs fu hl hv ih=>
   refine .tuple cs fu hl λj hj=>ih j hj λid cG=>hφ id ?_
   have:=AV.dk (List.getElem_mem hj);simp only[AV.aK];omega
theorem RV.Cf{φ:eL}{nx:Nat}{pr:Nat->Prop}{w:World}{v:AV}{cv:Value}(h:RV φ nx pr w v cv):v.aK<=nx:=by
 induction h with
 |ptr id off h=>simp only[AV.aK];omega
 |vec id off len sz lb cap a h hl hb hr ha=>simp only[AV.aK];omega
 |map id h=>simp only[AV.aK];omega
 |fn f bC fu hl hv ih=>
   simp only[AV.aK];refine AV.kI λv LB=>?_
   obtain⟨j,hj,rfl⟩:=List.getElem_of_mem LB;exact ih j hj
 |iface t v cv hv ih=>simpa[AV.aK] using ih
 |agg cs fu hl h1 hv ih=>
   simp only[AV.aK];refine AV.kI λv LB=>?_
   obtain⟨j,hj,rfl⟩:=List.getElem_of_mem LB;exact ih j hj
 |tuple cs fu hl hv ih=>
   simp only[AV.aK];refine AV.kI λv LB=>?_
   obtain⟨j,hj,rfl⟩:=List.getElem_of_mem LB;exact ih j hj
 |_=>simp[AV.aK]
def live(h:ai)(id:Nat):Prop:=∃o,h.get id=some o/\(∀_:o=.dead,False)
def Pr(φ:eL)(h:ai)(w:World)(b:Nat):Prop:=b<w.heap.size/\(∀id,live h id->(φ id).ib≠b)/\¬φ.gh b
abbrev fI(φ:eL)(h:ai)(w:World):AV->Value->Prop:=RV φ h.next (Pr φ h w) w
def tS(φ:eL)(h:ai)(w:World)(id:Nat)(cs:List AV):Prop:=
 ∃c el fr,w.heap[(φ id).ib]? =some (.cells c el fr)/\(φ id).base+(φ id).room<=c.size/\cs.length<=(φ id).room/\
   (∀o,o<c.size->¬(fr.1<=o/\o<fr.2))/\
   (∀j,j<(φ id).room->(c.getD ((φ id).base+j) default).oneCell'=true)/\
   ∀j (hj:j<cs.length),fI φ h w cs[j] (c.getD ((φ id).base+j) default)
def yt(φ:eL)(h:ai)(w:World)(id:Nat)(es:List (AV×AV)):Prop:=
 ∃mX AZ,w.heap[(φ id).ib]? =some (.map mX AZ)/\mX.size=es.length/\
   ∀j (hj:j<es.length),fI φ h w es[j].1 (mX.getD j default).key/\fI φ h w es[j].2 (mX.getD j default).val
structure HR(φ:eL)(h:ai)(w:World):Prop where
 wf:h.wf
 rows:∀id cs,h.get id=some (.row cs)->tS φ h w id cs
 maps:∀id es,h.get id=some (.map es)->yt φ h w id es
 inj:∀i j,live h i->live h j->(φ i).ib=(φ j).ib->i=j
 gh:∀b,φ.gh b->b<w.heap.size/\∀id,live h id->(φ id).ib≠b
structure Ext(φ:eL)(h:ai)(w:World)(φ':eL)(h':ai)(w':World):Prop where
 os:w'.os=w.os
 tape:w'.tape=w.tape
 output:w'.output=w.output
 size:w.heap.size<=w'.heap.size
 next:h.next<=h'.next
 BK:∀id,id<h.next->φ' id=φ id
 pr:∀b,Pr φ h w b->Pr φ' h' w' b/\w'.heap[b]? =w.heap[b]?
 gh:φ'.gh=φ.gh/\∀b,φ.gh b->w'.heap[b]? =w.heap[b]?
theorem Ext.refl(φ:eL)(h:ai)(w:World):Ext φ h w φ h w:=⟨rfl,rfl,rfl,Nat.le_refl _,Nat.le_refl _,λ_ _=>rfl,λ_ hb=>⟨hb,rfl⟩,rfl,λ_ _=>rfl⟩
theorem Ext.trans{φ φ1 φ2:eL}{h h1 h2:ai}{w w1 w2:World}(a:Ext φ h w φ1 h1 w1)(b:Ext φ1 h1 w1 φ2 h2 w2):Ext φ h w φ2 h2 w2:=
 ⟨b.os.trans a.os,b.tape.trans a.tape,b.output.trans a.output,Nat.le_trans a.size b.size,Nat.le_trans a.next b.next,
  λid cG=>(b.BK id (Nat.lt_of_lt_of_le cG a.next)).trans (a.BK id cG),λx hx=>by obtain⟨h1,e1⟩:=a.pr x hx;obtain⟨h2,e2⟩:=b.pr x h1;exact⟨h2,e2.trans e1⟩,b.gh.1.trans a.gh.1,λx hx=>(b.gh.2 x (by rw[a.gh.1];exact hx)).trans (a.gh.2 x hx)⟩
theorem RV.ext{φ φ':eL}{h h':ai}{w w':World}{v:AV}{cv:Value}(hv:fI φ h w v cv)(e:Ext φ h w φ' h' w'):fI φ' h' w' v cv:=hv.mono (λid _ cG=>⟨e.BK id cG,Nat.lt_of_lt_of_le cG e.next⟩) e.pr
def jM(P:Program)(X:World->Prop)(φ:eL)(h:ai)(w:World):Prop:=∃w1:World,(w1.ShapedOpen P/\X w1)/\∀b,b<w1.heap.size->b<w.heap.size/\(φ.gh b\/Pr φ h w b)/\w.heap[b]? =w1.heap[b]?
theorem jM.ext{P:Program}{φ φ':eL}{h h':ai}{w w':World}(g:jM P X φ h w)(e:Ext φ h w φ' h' w'):jM P X φ' h' w':=by
 obtain⟨w1,h1,h2⟩:=g;refine⟨w1,h1,λb hb=>?_⟩;obtain⟨g1,g2,g3⟩:=h2 b hb;refine⟨Nat.lt_of_lt_of_le g1 e.size,?_⟩;rcases g2 with g2|g2
 .exact⟨.inl (by rw[e.gh.1];exact g2),(e.gh.2 b g2).trans g3⟩
 .exact⟨.inr (e.pr b g2).1,(e.pr b g2).2.trans g3⟩
def FR(φ:eL)(h:ai)(w:World)(fr:List AV)(tm:Array Value):Prop:=tm.size=fr.length/\∀t,fI φ h w (fr.getD t .undef) (tm.getD t undef)
theorem FR.ext{φ φ':eL}{h h':ai}{w w':World}{fr:List AV}{tm:Array Value}(hf:FR φ h w fr tm)(e:Ext φ h w φ' h' w'):FR φ' h' w' fr tm:=⟨hf.1,λt=>(hf.2 t).ext e⟩
theorem FR.put{φ:eL}{h:ai}{w:World}{fr:List AV}{tm:Array Value}(hf:FR φ h w fr tm){v:AV}{cv:Value}(hv:fI φ h w v cv)(d:Nat):
 FR φ h w (fr.set d v) (tm.setIfInBounds d cv):=by
 refine⟨by simp[hf.1],λt=>?_⟩;have ht:=hf.2 t;rw[List.getD_eq_getElem?_getD] at ht|-;rw[Array.getD_eq_getD_getElem?] at ht|-;rw[List.getElem?_set,Array.getElem?_setIfInBounds];by_cases hd:d=t
 .subst hd;simp only[if_true,hf.1];by_cases hl:d<fr.length
  .simpa[hl] using hv
  .simp only[hl,if_false];exact .undef _
 .simpa[hd] using ht
section inv
variable {φ:eL}{nx:Nat}{pr:Nat->Prop}{w:World}{cv:Value}
theorem RV.vi{id off:Nat}(h:RV φ nx pr w (.ptr id off) cv):cv=.pointer (some ⟨(φ id).ib,(φ id).base+off,none⟩)/\id<nx:=by
 cases h with
 |ptr _ _ h=>exact⟨rfl,h⟩
theorem RV.M0{cs:List AV}(h:RV φ nx pr w (.ip cs) cv):∃b o,∃vs:Nat->Value,cv=.pointer (some ⟨b,o,none⟩)/\pr b/\AV.aw cs=0/\(∀j,(vs j).oneCell'=true)/\
 (∀j,j<cs.length->w.cell? ⟨b,o+j,none⟩=some (vs j))/\∀j (h:j<cs.length),RV φ nx pr w cs[j] (vs j):=by
 cases h with
 |ip _ b o vs hp wi h1 hc hv=>exact⟨b,o,vs,rfl,hp,wi,h1,hc,hv⟩
theorem RV.uA{xs:List AV}(h:RV φ nx pr w (.sl xs) cv):(∃a cap,xs=[]/\cv=.slice a 0 cap)\/
 ∃b o cap sz,∃vs:Nat->Nat->Value,cv=.slice (some ⟨b,o,none⟩) xs.length cap/\pr b/\xs.length<=cap/\AV.aw xs=0/\(∀i j,(vs i j).oneCell'=true)/\
   (∀i (h:i<xs.length),(xs[i]).cells?.map List.length=some sz)/\(∀i j,i<xs.length->j<sz->w.cell? ⟨b,o+i*sz+j,none⟩=some (vs i j))/\
   ∀i (h:i<xs.length) j (h':j<(xs[i]).cells.length),RV φ nx pr w ((xs[i]).cells[j]) (vs i j):=by
 cases h with
 |slnil a cap=>exact .inl ⟨a,cap,rfl,rfl⟩
 |sl _ b o cap sz vs hp mW wi h1 kU hc hv=>exact .inr ⟨b,o,cap,sz,vs,rfl,hp,mW,wi,h1,kU,hc,hv⟩
theorem RV.lR{id off len sz lb:Nat}(h:RV φ nx pr w (.vec id off len sz lb) cv):∃cap a,cv=.slice a len cap/\id<nx/\len<=cap/\lb<=cap/\off+cap*sz<=(φ id).room/\
 (0<cap->a=some ⟨(φ id).ib,(φ id).base+off,none⟩):=by
 cases h with
 |vec _ _ _ _ _ cap a h hl hb hr ha=>exact⟨cap,a,rfl,h,hl,hb,hr,ha⟩
theorem RV.py(h:RV φ nx pr w .aJ cv):∃a,cv=.slice a 0 0:=by
 cases h with
 |aJ a=>exact⟨a,rfl⟩
theorem RV.Ci{id:Nat}(h:RV φ nx pr w (.map id) cv):cv=.map (some (φ id).ib)/\id<nx:=by
 cases h with
 |map _ h=>exact⟨rfl,h⟩
theorem RV.KA(h:RV φ nx pr w .om cv):cv=.map none:=by cases h;rfl
theorem RV.pL{cs:List AV}(h:RV φ nx pr w (.agg cs) cv):∃fu:Array Value,cv=.agg fu/\fu.size=cs.length/\(∀j,(fu.getD j default).oneCell'=true)/\
 ∀j (h:j<cs.length),RV φ nx pr w cs[j] (fu.getD j default):=by
 cases h with
 |agg _ fu hl h1 hv=>exact⟨fu,rfl,hl,h1,hv⟩
theorem RV.vI{cs:List AV}(h:RV φ nx pr w (.tuple cs) cv):∃fu:Array Value,cv=.tuple fu/\fu.size=cs.length/\∀j (h:j<cs.length),RV φ nx pr w cs[j] (fu.getD j default):=by
 cases h with
 |tuple _ fu hl hv=>exact⟨fu,rfl,hl,hv⟩
theorem RV.Hc{f:Nat}{bC:List AV}(h:RV φ nx pr w (.fn f bC) cv):∃fu:Array Value,cv=.func (.func f) #[] fu/\fu.size=bC.length/\∀j (h:j<bC.length),RV φ nx pr w bC[j] (fu.getD j default):=by
 cases h with
 |fn _ _ fu hl hv=>exact⟨fu,rfl,hl,hv⟩
theorem RV.KL(h:RV φ nx pr w .mV cv):cv=.pointer none:=by cases h;rfl
theorem RV.K5(h:RV φ nx pr w .mR cv):cv=.nilIface:=by cases h;rfl
theorem RV.GD(h:RV φ nx pr w .jv cv):cv=.nilFunc:=by cases h;rfl
theorem RV.R0{t:Nat}{v:AV}(h:RV φ nx pr w (.iface t v) cv):∃c,cv=.iface t c/\RV φ nx pr w v c:=by
 cases h with
 |iface _ _ c hv=>exact⟨c,rfl,hv⟩
end inv
end
section
inductive dU where
 |tmp (t:Nat)
 |const (v:AV)
 deriving Inhabited
inductive xJ where
 |Hm (x:dU)
 |pick (c x y:dU)
 |box (x:dU)
 |Iw (zero:List AV) (parts:List (Nat×Nat×dU))
 |EU (sz len:Nat) (zero:List AV) (parts:List (Nat×dU))
 |ld (n:Option Nat) (x:dU)
 |st (n:Nat) (x v:dU)
 |nck (x:dU)
 |bin (op:BinOp) (x y:dU)
 |beq (neg:Bool) (x y:dU)
 |YK (kinds:List Nat) (neg:Bool) (x y:dU)
 |peq (kind:Nat) (neg:Bool) (x y:dU)
 |un (op:UnOp) (x:dU)
 |Xl (k:IntKind) (x:dU)
 |M8 (x:dU)
 |TO (x:dU)
 |Tg (x:dU)
 |Ui (f:Nat) (bC:List dU)
 |EV (x:dU) (lo hi:Option dU)
 |slv (sz:Nat) (x:dU) (lo hi mx:Option dU)
 |fad (off:Nat) (x:dU)
 |Xj (off:Nat) (n:Option Nat) (x:dU)
 |iad (sz:Nat) (x i:dU)
 |ZW (x i:dU)
 |ext (x:dU) (i:Nat)
 |lens (x:dU)
 |xX (x:dU)
 |mx (x y:dU)
 |mn (x y:dU)
 |app (sz bytes:Nat) (x y:dU)
 |bs0
 |MD (neg:Bool) (x:dU)
 |Xn (len:Nat) (zero:List AV) (parts:List (Nat×dU))
 |HU (x:dU)
 |die
 deriving Inhabited
inductive R5 where
 |op (a:xJ)
 |call (f:Nat) (args:List dU)
 |ml (x:dU) (args:List dU)
 deriving Inhabited
structure aW where
 dst:Option Nat
 op:R5
 guard:Option (Nat×Bool):=none
 deriving Inhabited
inductive bW where
 |skip
 |gA (ops:List aW)
 |oE (ops:List aW) (Xq:List (Nat×Nat))
 |seq (a b:bW)
 |cond (c:dU) (a b:bW)
 |block (id:Nat) (a:bW)
 |loop (live:List Bool) (a:bW)
 |exit (id:Nat) (live:List Bool)
 |ret (live:List Bool)
 deriving Inhabited
inductive KE where
 |tmp (t:Nat)
 |cell (t:Nat) (n:Option Nat)
 deriving Inhabited
structure cn where
 ntmps:Nat
 results:List KE
 gK:Bool
 code:bW
 deriving Inhabited
structure Env where
 fn:Nat->Option cn
 E3:Nat->List AV->Option AV
 HJ:Nat->List AV->List bp->Option (AV×Option (List bp))
def xJ.pF:xJ->List dU
 |.Hm x|.box x|.ld _ x|.nck x|.un _ x|.Xl _ x|.M8 x|.TO x|.Tg x|.fad _ x|.Xj _ _ x|.ext x _|.lens x|.xX x|.MD _ x|.HU x=>[x]
 |.pick c x y=>[c,x,y]
 |.Iw _ parts=>parts.map (·.2.2)
 |.EU _ _ _ parts|.Xn _ _ parts=>parts.map (·.2)
 |.st _ x v=>[x,v]
 |.bin _ x y|.beq _ x y|.YK _ _ x y|.peq _ _ x y|.iad _ x y|.ZW x y|.mx x y|.mn x y|.app _ _ x y=>[x,y]
 |.Ui _ bC=>bC
 |.bs0|.die=>[]
 |.EV x lo hi=>x::(lo.toList++hi.toList)
 |.slv _ x lo hi m3=>x::(lo.toList++(hi.toList++m3.toList))
def R5.pF:R5->List dU
 |.op a=>a.pF
 |.call _ args=>args
 |.ml x args=>x::args
def dU.tmps:dU->List Nat
 |.tmp t=>[t]
 |.const _=>[]
def aW.reads(s:aW):List Nat:=(match s.guard with|some (t,_)=>[t]|none=>[])++s.op.pF.flatMap dU.tmps
def xJ.still:xJ->Bool
 |.Hm _|.pick .. |.Iw .. |.nck _|.bin .. |.beq .. |.YK .. |.peq .. |.un .. |.Xl .. |.M8 _|.Ui .. |.EV .. |.slv .. |.fad .. |.Xj .. |.iad .. |.ZW .. |.ext .. |.lens _|.xX _|.mx .. |.mn .. |.bs0|.MD .. |.Xn .. |.HU _=>true
 |_=>false
def aW.Kq(s:aW):Bool:=match s.op with|.op (.ld ..)=>true|_=>false
def aW.tN(s:aW):Bool:=match s.op with|.op (.ld ..)=>false|.op o=>!o.still|_=>true
def dU.low:dU->Bool
 |.tmp _=>true
 |.const v=>v.aK==0
def aW.mU(s:aW):Bool:=match s.guard,s.op with
 |none,.op (.box x)=>x.low
 |none,.op (.EU _ _ zero parts)=>AV.aw zero==0&&parts.all λp=>p.2.low
 |_,_=>false
def dU.ev(fr:List AV):dU->AV
 |.tmp t=>fr.getD t .undef
 |.const v=>v
def putAt(cells:List AV)(off:Nat):List AV->List AV
 |[]=>cells
 |c::cs=>putAt (cells.set off c) (off+1) cs
def mM(cells:List AV):List (Nat×Nat×AV)->Option (List AV)
 |[]=>some cells
 |(off,sz,v)::rest=>
   match v.cells? with
   |some cs=>if cs.length=sz/\off+sz<=cells.length then mM (putAt cells off cs) rest else none
   |none=>none
def ai.row(h:ai)(id:Nat):Option (List AV):=
 match h.get id with
 |some (.row cs)=>some cs
 |_=>none
def Gr(op:BinOp)(k:IntKind)(x y:Int):Int:=
 let a:=BitVec.ofInt k.bits x
 let b:=BitVec.ofInt k.bits y
 match op with
 |.and=>k.wrap (a&&&b).toNat
 |.or=>k.wrap (a|||b).toNat
 |.xor=>k.wrap (a ^^^ b).toNat
 |_=>k.wrap (a&&&~~~b).toNat
def wV(op:BinOp):AV->AV->Option AV
 |.int k a,.int k' b=>
   match op with
   |.shl=>if b<0 then none else some (.int k (k.wrap (a*2^min b.toNat k.bits)))
   |.shr=>if b<0 then none else some (.int k (a.fdiv (2^min b.toNat k.bits)))
   |op=>if k=k' then
    (match op with
    |.add=>some (.int k (k.wrap (a+b)))
    |.sub=>some (.int k (k.wrap (a-b)))
    |.mul=>some (.int k (k.wrap (a*b)))
    |.quo=>if b=0 then none else some (.int k (k.wrap (a.tdiv b)))
    |.rem=>if b=0 then none else some (.int k (a.tmod b))
    |.and|.or|.xor|.andNot=>some (.int k (Gr op k a b))
    |.eql=>some (.bool (decide (a=b)))
    |.neq=>some (.bool (!decide (a=b)))
    |.lss=>some (.bool (decide (a<b)))
    |.leq=>some (.bool (decide (a<=b)))
    |.gtr=>some (.bool (decide (b<a)))
    |.geq=>some (.bool (decide (b<=a)))
    |_=>none) else none
 |.str a,.str b=>
   match op with
   |.add=>if a.length+b.length<2^63 then some (.str (a++b)) else none
   |.eql=>some (.bool (a==b))
   |.neq=>some (.bool (!(a==b)))
   |.lss=>some (.bool (Op.bytesLess a b))
   |.leq=>some (.bool (Op.bytesLess a b||a==b))
   |.gtr=>some (.bool (!(Op.bytesLess a b||a==b)))
   |.geq=>some (.bool (!(Op.bytesLess a b)))
   |_=>none
 |_,_=>none
def Il:Nat->AV->AV->Option Bool
 |0,.bool a,.bool b=>some (a==b)
 |1,.int k a,.int k' b=>if k=k' then some (decide (a=b)) else none
 |2,.str a,.str b=>some (a==b)
 |_,_,_=>none
def lN:List Nat->List AV->List AV->Option Bool
 |[],[],[]=>some true
 |k::ks,x::xs,y::ys=>
   match Il k x y,lN ks xs ys with
   |some a,some b=>some (a&&b)
   |_,_=>none
 |_,_,_=>none
def QZ:AV->Option Bool
 |.mV|.mR|.jv|.om=>some true
 |.ptr .. |.ip .. |.iface .. |.fn .. |.map ..=>some false
 |_=>none
def wL:Nat->AV->Option Bool
 |0,.mV=>some true
 |0,.ptr ..=>some false
 |0,.ip _=>some false
 |1,.mR=>some true
 |1,.iface ..=>some false
 |2,.jv=>some true
 |2,.fn ..=>some false
 |3,.om=>some true
 |3,.map _=>some false
 |_,_=>none
def sliceB(n:Nat)(lo hi:Option AV):Option (Nat×Nat):=
 match (match hi with|none=>some n|some (.int _ i)=>(if 0<=i/\i<=(n:Int) then some i.toNat else none)|_=>none) with
 |none=>none
 |some h=>
   match (match lo with|none=>some 0|some (.int _ i)=>(if 0<=i/\i<=(h:Int) then some i.toNat else none)|_=>none) with
   |none=>none
   |some l=>some (l,h)
def jc(n lb:Nat)(lo hi mx:Option AV):Option (Nat×Nat×Option Nat):=
 match mx with
 |some (.int _ i)=>if 0<=i/\i<=(max n lb:Nat) then (match hi with
  |some _=>(sliceB i.toNat lo hi).map λp=>(p.1,p.2,some i.toNat)
  |none=>none) else none
 |some _=>none
 |none=>match hi with
   |none=>(sliceB n lo none).map λp=>(p.1,p.2,none)
   |some _=>(sliceB (max n lb) lo hi).map λp=>(p.1,p.2,none)
def aT(h:ai)(sz:Nat):AV->Option (Nat×List AV)
 |.aJ=>some (0,[])
 |.sl xs=>if (xs.all λx=>(x.cells?.map List.length)==some sz) then some (xs.length,xs.flatMap AV.cells) else none
 |.vec id off len s _=>
   match h.row id with
   |some cs=>if s=sz/\off+len*sz<=cs.length then some (len,(cs.drop off).take (len*sz)) else none
   |none=>none
 |.str s=>if sz=1 then some (s.length,s.map λb=>.int .u8 b.toNat) else none
 |_=>none
def bytesOf:List AV->Option (List UInt8)
 |[]=>some []
 |.int .u8 n::r=>(bytesOf r).map (UInt8.ofNat n.toNat::·)
 |_=>none
def aav(kd:Nat)(k:AV):List (AV×AV)->Option (Option AV)
 |[]=>some none
 |(k',v)::r=>
   match Il kd k k' with
   |some true=>some (some v)
   |some false=>aav kd k r
   |none=>none
def P6(h:ai)(n:Option Nat):AV->Option AV
 |.ptr id off=>
   match h.row id,n with
   |some cs,none=>cs[off]?
   |some cs,some n=>if off+n<=cs.length then some (.agg ((cs.drop off).take n)) else none
   |none,_=>none
 |.ip cs=>
   match n with
   |none=>cs[0]?
   |some n=>if n<=cs.length then some (.agg (cs.take n)) else none
 |_=>none
def cf(fr:List AV)(h:ai):xJ->Option (AV×ai)
 |.Hm x=>some (x.ev fr,h)
 |.pick c x y=>match c.ev fr with
   |.bool b=>some (if b then x.ev fr else y.ev fr,h)
   |_=>none
 |.box x=>match (x.ev fr).cells? with
   |some cs=>some (.ptr h.next 0,h.alloc (.row cs))
   |none=>none
 |.Iw zero parts=>(mM zero (parts.map λp=>(p.1,p.2.1,p.2.2.ev fr))).map λcs=>(.agg cs,h)
 |.EU sz len zero parts=>(mM zero (parts.map λp=>(p.1*sz,sz,p.2.ev fr))).map λcs=>(.vec h.next 0 len sz len,h.alloc (.row cs))
 |.ld n x=>(P6 h n (x.ev fr)).map λv=>(v,h)
 |.st n x v=>match x.ev fr,(v.ev fr).cells? with
   |.ptr id off,some vs=>match h.row id with
     |some cs=>if vs.length=n/\off+n<=cs.length then some (.undef,(h.set id (.row (putAt cs off vs))).mark id (v.ev fr)) else none
     |none=>none
   |_,_=>none
 |.nck x=>match QZ (x.ev fr) with
   |some false=>some (x.ev fr,h)
   |_=>none
 |.bin op x y=>(wV op (x.ev fr) (y.ev fr)).map λv=>(v,h)
 |.beq neg x y=>match x.ev fr,y.ev fr with
   |.bool a,.bool b=>some (.bool (if neg then !(a==b) else a==b),h)
   |_,_=>none
 |.YK kinds neg x y=>match x.ev fr,y.ev fr with
   |.agg a,.agg b=>(lN kinds a b).map λr=>(.bool (if neg then !r else r),h)
   |_,_=>none
 |.peq kind neg x y=>match wL kind (x.ev fr),wL kind (y.ev fr) with
   |some p,some true=>some (.bool (if neg then !p else p),h)
   |_,_=>none
 |.un op x=>match op,x.ev fr with
   |.not,.bool b=>some (.bool (!b),h)
   |.neg,.int k n=>some (.int k (k.wrap (0-n)),h)
   |.xor,.int k n=>some (.int k (Gr .xor k (if k.signed then -1 else k.max) n),h)
   |_,_=>none
 |.Xl k x=>match x.ev fr with
   |.int _ n=>some (.int k (k.wrap n),h)
   |_=>none
 |.M8 x=>match x.ev fr with
   |.int _ n=>if 0<=n/\n<128 then some (.str [UInt8.ofNat n.toNat],h) else none
   |_=>none
 |.TO x=>match x.ev fr with
   |.str s=>some (.sl (s.map λb=>.int .u8 b.toNat),h)
   |_=>none
 |.Tg x=>match aT h 1 (x.ev fr),x.ev fr with
   |_,.str _=>none
   |some (_,cs),_=>(bytesOf cs).map λs=>(.str s,h)
   |none,_=>none
 |.Xn _ zero parts=>match mM zero (parts.map λp=>(p.1*1,1,p.2.ev fr)) with
   |some cs=>if (bytesOf cs).isSome then some (.sl cs,h) else none
   |none=>none
 |.HU x=>match x.ev fr with
   |.sl cs=>(bytesOf cs).map λs=>(.str s,h)
   |_=>none
 |.Ui f bC=>some (.fn f (bC.map (·.ev fr)),h)
 |.EV x lo hi=>match x.ev fr with
   |.str s=>(sliceB s.length (lo.map (·.ev fr)) (hi.map (·.ev fr))).map λp=>(.str ((s.take p.2).drop p.1),h)
   |_=>none
 |.slv sz x lo hi mx=>
   match x.ev fr with
    |.aJ=>(jc 0 0 (lo.map (·.ev fr)) (hi.map (·.ev fr)) (mx.map (·.ev fr))).map λ_=>(.aJ,h)
    |.sl xs=>if (xs.all λx=>(x.cells?.map List.length)==some sz) then
     (jc xs.length xs.length (lo.map (·.ev fr)) (hi.map (·.ev fr)) (mx.map (·.ev fr))).map λp=>(if p.2.2=some p.1 then .aJ else .sl ((xs.take p.2.1).drop p.1),h) else none
    |.vec id off len s lb=>if s=sz then
     (jc len lb (lo.map (·.ev fr)) (hi.map (·.ev fr)) (mx.map (·.ev fr))).map λp=>(if p.2.2=some p.1 then .aJ else .vec id (off+p.1*sz) (p.2.1-p.1) sz (p.2.2.getD lb-p.1),h) else none
    |_=>none
 |.fad off x=>match x.ev fr with
   |.ptr id o=>some (.ptr id (o+off),h)
   |.ip cs=>some (.ip (cs.drop off),h)
   |_=>none
 |.Xj off n x=>match x.ev fr with
   |.agg cs=>match n with
     |none=>(cs[off]?).map λv=>(v,h)
     |some n=>if off+n<=cs.length then some (.agg ((cs.drop off).take n),h) else none
   |_=>none
 |.iad sz x i=>match x.ev fr,i.ev fr with
   |.sl xs,.int _ i=>if 0<=i then (match xs[i.toNat]? with
    |some v=>(match v.cells? with
      |some cs=>if cs.length=sz then some (.ip cs,h) else none
      |none=>none)
    |none=>none) else none
   |.vec id off len s _,.int _ i=>if 0<=i/\i<len/\s=sz then some (.ptr id (off+i.toNat*sz),h) else none
   |_,_=>none
 |.ZW x i=>match x.ev fr,i.ev fr with
   |.str s,.int _ i=>if 0<=i then (s[i.toNat]?).map λb=>(.int .u8 b.toNat,h) else none
   |_,_=>none
 |.ext x i=>match x.ev fr with
   |.tuple vs=>(vs[i]?).map λv=>(v,h)
   |_=>none
 |.lens x=>match x.ev fr with
   |.str s=>some (.int .i64 s.length,h)
   |_=>none
 |.xX x=>match x.ev fr with
   |.aJ=>some (.int .i64 0,h)
   |.sl xs=>some (.int .i64 xs.length,h)
   |.vec _ _ n _ _=>some (.int .i64 n,h)
   |_=>none
 |.mx x y=>match x.ev fr,y.ev fr with
   |.int k a,.int _ b=>some (.int k (if a<b then b else a),h)
   |_,_=>none
 |.mn x y=>match x.ev fr,y.ev fr with
   |.int k a,.int _ b=>some (.int k (if b<a then b else a),h)
   |_,_=>none
 |.app sz bytes x y=>match aT h sz (y.ev fr) with
   |none=>none
   |some (n,news)=>
     match x.ev fr with
     |.aJ=>if n=0 then some (.aJ,h) else
       if n*bytes<=140737488355328/\n<2^63 then some (.vec h.next 0 n sz n,h.alloc (.row news)) else none
     |.vec id off len s lb=>match h.row id with
       |some cs=>if s=sz/\off+len*sz<=cs.length then
        if n=0 then some (.vec id off len s lb,h) else
        if len+n<=lb/\off+(len+n)*sz<=cs.length then some (.vec id off (len+n) sz lb,(h.set id (.row (putAt cs (off+len*sz) news))).mark id (.agg news)) else
        if (len+n)*bytes<=140737488355328/\len+n<2^63 then
         some (.vec h.next 0 (len+n) sz (len+n),(h.set id .dead).alloc (.row ((cs.drop off).take (len*sz)++news))) else none
         else none
       |none=>none
     |_=>none
 |.bs0=>some (.aJ,h)
 |.MD neg x=>match x.ev fr with
   |.sl (_::_)=>some (.bool neg,h)
   |.vec _ _ (_+1) _ _=>some (.bool neg,h)
   |_=>none
 |.die=>none
def dR(fr:List AV):Option (Nat×Bool)->Option Bool
 |none=>some false
 |some (t,want)=>
   match fr[t]? with
   |some (.bool b)=>some (b !=want)
   |some (.tuple [])=>some true
   |_=>none
def gP(fr:List AV):Option Nat->AV->List AV
 |some d,v=>fr.set d v
 |none,_=>fr
def dd(C:Nat->List AV->ai->Option (AV×ai))(s:aW)(fr:List AV)(h:ai):Option (List AV×ai):=
 match dR fr s.guard with
 |none=>none
 |some true=>some (gP fr s.dst (.tuple []),h)
 |some false=>
   match s.op with
   |.call f args=>(C f (args.map (·.ev fr)) h).map λp=>(gP fr s.dst p.1,p.2)
   |.ml x args=>match x.ev fr with
     |.fn f bC=>(C f (args.map (·.ev fr)++bC) h).map λp=>(gP fr s.dst p.1,p.2)
     |_=>none
   |.op o=>(cf fr h o).map λp=>(gP fr s.dst p.1,p.2)
def dz(C:Nat->List AV->ai->Option (AV×ai)):List aW->List AV->ai->Option (List AV×ai)
 |[],fr,h=>some (fr,h)
 |s::rest,fr,h=>
   match dd C s fr h with
   |some (eD,h')=>dz C rest eD h'
   |none=>none
def BJ(s:aW)(fr:List AV):Nat:=
 match s.op with
 |.op (.ld _ x)=>match x.ev fr with
   |.ptr id _=>id+1
   |_=>0
 |.op (.st _ x _)=>match x.ev fr with
   |.ptr id _=>id+1
   |_=>0
 |_=>0
mutual
def AV.I5:AV->AV->Bool
 |.undef,.undef=>true
 |.bool a,.bool b=>a==b
 |.int k n,.int k' n'=>decide (k=k')&&decide (n=n')
 |.str a,.str b=>decide (a=b)
 |.mV,.mV=>true
 |.ptr i o,.ptr j q=>Nat.beq i j&&Nat.beq o q
 |.ip a,.ip b=>AV.Ap a b
 |.aJ,.aJ=>true
 |.sl a,.sl b=>AV.Ap a b
 |.vec i o l s b,.vec i' o' l' s' b'=>Nat.beq i i'&&Nat.beq o o'&&Nat.beq l l'&&Nat.beq s s'&&Nat.beq b b'
 |.om,.om=>true
 |.map i,.map j=>Nat.beq i j
 |.jv,.jv=>true
 |.fn f a,.fn g b=>Nat.beq f g&&AV.Ap a b
 |.mR,.mR=>true
 |.iface t a,.iface u b=>Nat.beq t u&&a.I5 b
 |.agg a,.agg b=>AV.Ap a b
 |.tuple a,.tuple b=>AV.Ap a b
 |_,_=>false
def AV.Ap:List AV->List AV->Bool
 |[],[]=>true
 |a::r,b::s=>a.I5 b&&AV.Ap r s
 |_,_=>false
end
def Ps:Option bp->Option bp->Bool
 |some (.row a),some (.row b)=>AV.Ap a b
 |_,_=>false
def tL(C:Nat->List AV->ai->Option (AV×ai)):List aW->List AV->ai->Option (List AV×ai×List (Nat×ai×ai))
 |[],fr,h=>some (fr,h,[])
 |s::rest,fr,h=>
   match dd C s fr {h with md:=h.next} with
   |some (eD,h')=>(tL C rest eD {h' with md:=min h.md h'.md}).map λp=>(p.1,p.2.1,(BJ s fr,h,h')::p.2.2)
   |none=>none
def K9(tr:List (Nat×ai×ai))(Xq:List (Nat×Nat)):Bool:=Xq.all λp=>
 match tr[p.1]?,tr[p.2]? with
 |some a,some b=>decide (a.1<=b.2.2.md)||(decide (0<b.1)&&!(a.1==b.1))||(decide (0<a.1)&&Ps (b.2.1.get (a.1-1)) (b.2.2.get (a.1-1)))
 |_,_=>false
inductive Ex where
 |normal
 |exit (id:Nat)
 |ret
 deriving DecidableEq,Inhabited
def clear:List Bool->List AV->List AV
 |b::bs,v::vs=>(if b then v else .undef)::clear bs vs
 |_,vs=>vs
def AV.top:AV->Option Nat
 |.ptr id _=>some id
 |.vec id _ _ _ _=>some id
 |.map id=>some id
 |_=>none
def az(n0:Nat):List AV->List Nat->List Nat
 |[],aB=>aB
 |v::r,aB=>match v.top with
   |some id=>if n0<=id/\aB.contains id=false then az n0 r (aB++[id]) else az n0 r aB
   |none=>az n0 r aB
def p8(n0:Nat)(ks:List Nat)(id:Nat):Nat:=if id<n0 then id else n0+ks.idxOf id
def ck(n0:Nat)(ks:List Nat):AV->AV
 |.ptr id off=>.ptr (p8 n0 ks id) off
 |.vec id off len sz lb=>.vec (p8 n0 ks id) off len sz lb
 |.map id=>.map (p8 n0 ks id)
 |v=>v
def rP(n:Nat):bp->Bool
 |.row cs=>decide (AV.aw cs<=n)
 |.map es=>es.all λe=>decide (e.1.aK<=n)&&decide (e.2.aK<=n)
 |.dead=>false
def ob(h:ai)(n0:Nat):List Nat->Option (List bp)
 |[]=>some []
 |id::r=>match h.get id,ob h n0 r with
   |some o,some os=>if rP n0 o then some (o::os) else none
   |_,_=>none
def jK:bp->List AV
 |.row cs=>cs
 |.map es=>es.flatMap λe=>[e.1,e.2]
 |.dead=>[]
def jN:List bp->List AV
 |[]=>[]
 |o::r=>jK o++jN r
def qy(n0:Nat)(ks:List Nat):bp->bp
 |.row cs=>.row (cs.map (ck n0 ks))
 |.map es=>.map (es.map λe=>(ck n0 ks e.1,ck n0 ks e.2))
 |.dead=>.dead
def sD(n0:Nat)(v:AV):Bool:=v.top.isSome||decide (v.aK<=n0)
def gV(n0:Nat)(o:bp):Bool:=(jK o).all λv=>decide (v.aK<=n0)
def I2(n0:Nat)(fr:List AV)(h:ai):List AV×ai:=
 match ob h n0 (az n0 (jN (h.iF.drop (h.next-n0))) (az n0 fr [])) with
 |some os=>if n0<=h.next/\fr.all (sD n0)=true/\(jN (h.iF.drop (h.next-n0))).all (sD n0)=true/\((h.iF.drop (h.next-n0)).drop (n0-h.wl)).all (gV n0)=true then
  (fr.map (ck n0 (az n0 (jN (h.iF.drop (h.next-n0))) (az n0 fr []))),
   ⟨n0+os.length,os.reverse++(h.iF.drop (h.next-n0)).map (qy n0 (az n0 (jN (h.iF.drop (h.next-n0))) (az n0 fr []))),h.wl,min h.md h.wl⟩) else (fr,h)
 |none=>(fr,h)
def JZ(n0:Nat)(fr:List AV)(h:ai):List AV×ai:=
 match ob h n0 (az n0 fr []) with
 |some os=>if n0<=h.wl/\n0<=h.next/\(fr.all λv=>v.top.isSome||decide (v.aK<=n0))=true then
  (fr.map (ck n0 (az n0 fr [])),{h with next:=n0+os.length,iF:=os.reverse++h.iF.drop (h.next-n0)}) else (fr,h)
 |none=>(fr,h)
def gc(n0:Nat)(fr:List AV)(h:ai):List AV×ai:=if n0<=h.wl then JZ n0 fr h else I2 n0 fr h
def wu(B:List AV->ai->Option (Ex×List AV×ai))(live:List Bool)(n0:Nat):Nat->List AV->ai->Option (Ex×List AV×ai)
 |0,_,_=>none
 |n+1,fr,h=>
   match B (gc n0 (clear live fr) h).1 (gc n0 (clear live fr) h).2 with
   |some (.normal,eD,h')=>wu B live n0 n eD h'
   |r=>r
def aH(C:Nat->List AV->ai->Option (AV×ai))(n:Nat):bW->List AV->ai->Option (Ex×List AV×ai)
 |.skip,fr,h=>some (.normal,fr,h)
 |.gA ops,fr,h=>(dz C ops fr h).map λp=>(.normal,p.1,p.2)
 |.oE ops Xq,fr,h=>
   match tL C ops fr h with
   |some (eD,h',tr)=>if K9 tr Xq then some (.normal,eD,h') else none
   |none=>none
 |.seq a b,fr,h=>
   match aH C n a fr h with
   |some (.normal,eD,h')=>aH C n b eD h'
   |r=>r
 |.cond c a b,fr,h=>
   match c.ev fr with
   |.bool t=>if t then aH C n a fr h else aH C n b fr h
   |_=>none
 |.block id a,fr,h=>
   match aH C n a fr h with
   |some (.exit i,eD,h')=>some (if i=id then .normal else .exit i,eD,h')
   |r=>r
 |.loop live a,fr,h=>(wu (aH C n a) live h.next n fr {h with wl:=h.next}).map λr=>(r.1,(gc h.next r.2.1 r.2.2).1,{(gc h.next r.2.1 r.2.2).2 with wl:=min h.wl (gc h.next r.2.1 r.2.2).2.wl})
 |.exit id live,fr,h=>some (.exit id,clear live fr,h)
 |.ret live,fr,h=>some (.ret,clear live fr,h)
def wa(fr:List AV)(h:ai):KE->Option AV
 |.tmp t=>some (fr.getD t .undef)
 |.cell t n=>P6 h n (fr.getD t .undef)
def jj(fr:List AV)(h:ai):List KE->Option (List AV)
 |[]=>some []
 |r::rs=>match wa fr h r,jj fr h rs with
   |some v,some vs=>some (v::vs)
   |_,_=>none
def chunk(sz:Nat):Nat->List AV->List AV
 |0,_=>[]
 |n+1,cs=>(if sz=1 then (cs.headD .undef) else .agg (cs.take sz))::chunk sz n (cs.drop sz)
def kY(F:AV->Option (AV×List Nat)):List AV->Option (List AV×List Nat)
 |[]=>some ([],[])
 |v::r=>
   match F v,kY F r with
   |some (v',i),some (r',j)=>some (v'::r',i++j)
   |_,_=>none
def jF(h:ai)(n0:Nat):Nat->AV->Option (AV×List Nat)
 |0,_=>none
 |d+1,v=>
   match v with
   |.vec id off len sz lb=>
     if id<n0 then some (.vec id off len sz lb,[]) else
     match h.row id with
     |some cs=>if off+len*sz<=cs.length/\sz≠0 then
      (match kY (jF h n0 d) ((cs.drop off).take (len*sz)) with
      |some (jt,eS)=>if AV.aw jt=0/\(jt.all λc=>c.cells?.map List.length==some 1) then some (.sl (chunk sz len jt),id::eS) else none
      |none=>none) else none
     |none=>none
   |.agg cs=>(kY (jF h n0 d) cs).map λp=>(.agg p.1,p.2)
   |.tuple cs=>(kY (jF h n0 d) cs).map λp=>(.tuple p.1,p.2)
   |v=>some (v,[])
def kill(h:ai):List Nat->ai
 |[]=>h
 |id::r=>kill (h.set id .dead) r
def finish(gK:Bool)(h0:ai)(v:AV)(h:ai):AV×ai:=
 if gK then (v,{h with wl:=min h0.wl h.wl,md:=min h0.md h.md}) else
 match jF h h0.next 8 v with
 |none=>(v,{h with wl:=min h0.wl h.wl,md:=min h0.md h.md})
 |some (v',eS)=>
   if h0.next<=h.wl/\v'.aK<=h0.next then (v',{h.kz h0.next with wl:=h0.wl,md:=if h.md<h0.next then min h0.md h.md else h0.md})
   else (v',{kill h eS with wl:=min h0.wl h.wl,md:=min h0.md h.md})
def oneOf:List AV->AV
 |[v]=>v
 |vs=>.tuple vs
def tF:AV->Bool
 |.bool _|.int .. |.str _|.mV|.aJ|.om|.jv|.mR=>true
 |_=>false
def re:AV->Bool
 |.tuple vs=>vs.all tF
 |.agg vs=>vs.all tF
 |v=>tF v
def sig(g:Nat->Nat):AV->AV
 |.ptr id off=>.ptr (g id) off
 |.vec id off len sz lb=>.vec (g id) off len sz lb
 |.map id=>.map (g id)
 |v=>v
def gB(g:Nat->Nat):bp->bp
 |.row cs=>.row (cs.map (sig g))
 |.map es=>.map (es.map λe=>(sig g e.1,sig g e.2))
 |.dead=>.dead
def bp.aK:bp->Nat
 |.row cs=>AV.aw cs
 |.map es=>AV.aw (es.flatMap λe=>[e.1,e.2])
 |.dead=>0
def zQ(h:ai)(k:Nat)(o:bp):ai:={h.set k o with wl:=if o.aK<=k+1 then h.wl else min h.wl k}
def pB(g:Nat->Nat):List Nat->List bp->ai->ai
 |k::ks,o::os,h=>pB g ks os (zQ h k (gB g o))
 |_,_,h=>h
def xK(g:Nat->Nat):List bp->ai->ai
 |o::os,h=>xK g os (h.alloc (gB g o))
 |[],h=>h
def nW(h:ai)(τ:List Nat)(i:Nat):Nat:=if i<τ.length then τ.getD i 0 else h.next+(i-τ.length)
def join(h:ai)(τ:List Nat)(os:List bp):ai:=xK (nW h τ) (os.drop τ.length) (pB (nW h τ) τ (os.take τ.length) h)
def o5:List Nat->Nat->Bool
 |[],_=>false
 |k::r,id=>if k=id then true else o5 r id
def wJ:List Nat->Nat->Nat
 |[],_=>0
 |k::r,id=>if k=id then 0 else wJ r id+1
def fJ:List AV->List Nat->List Nat
 |[],aB=>aB
 |v::r,aB=>match v.top with
   |some j=>if o5 aB j then fJ r aB else fJ r (aB++[j])
   |none=>fJ r aB
def okV(τ:List Nat)(v:AV):Bool:=match v.top with
 |some id=>o5 τ id
 |none=>v.aK==0
def okO(τ:List Nat):bp->Bool
 |.row cs=>cs.all (okV τ)
 |.map es=>es.all λe=>okV τ e.1&&okV τ e.2
 |.dead=>false
def tD(h:ai)(τ:List Nat):List Nat->Option (List bp)
 |[]=>some []
 |id::r=>match h.get id,tD h τ r with
   |some o,some os=>if okO τ o then some (gB (wJ τ) o::os) else none
   |_,_=>none
def nf(h:ai)(τ:List Nat):Option (List bp)->ai
 |none=>h
 |some ng=>join h τ ng
def pf(M:List AV->List bp->Option (AV×Option (List bp)))(args:List AV)(h:ai):Option (AV×ai):=
 match args with
 |.ptr k 0::rest=>match h.get k with
   |some (.row cs)=>match tD h (fJ cs [k]) (fJ cs [k]) with
     |some os=>if AV.aw rest=0 then (M (.ptr 0 0::rest) os).map λr=>(r.1,nf h (fJ cs [k]) r.2) else none
     |none=>none
   |_=>none
 |_=>none
def aF(E:Env):Nat->Nat->List AV->ai->Option (AV×ai)
 |0,_,_,_=>none
 |n+1,f,args,h=>
   match (kY (jF h 0 8) args).bind λp=>(E.E3 f p.1).map λv=>(v,if re v then h else kill h p.2) with
   |some r=>some r
   |none=>
   match pf (E.HJ f) args h with
   |some r=>some r
   |none=>
     match E.fn f with
     |none=>none
     |some F=>
       match aH (aF E n) n F.code (args++List.replicate (F.ntmps-args.length) .undef) {h with wl:=h.next,md:=h.next} with
       |some (.exit _,_,_)=>none
       |some (_,fr,h')=>(jj fr h' F.results).map λvs=>finish F.gK h (oneOf vs) h'
       |none=>none
end
section
def zN:Value->Option AV
 |.bool b=>some (.bool b)
 |.int k n=>some (.int k n)
 |.string s=>some (.str s.data.toList)
 |.pointer none=>some .mV
 |.slice none 0 0=>some .aJ
 |.map none=>some .om
 |.nilFunc=>some .jv
 |.nilIface=>some .mR
 |.func (.func f) ⟨[]⟩ ⟨[]⟩=>some (.fn f [])
 |_=>none
def eV{α β:Type}(f:α->Option β):List α->Option (List β)
 |[]=>some []
 |x::r=>match f x,eV f r with
   |some y,some s=>some (y::s)
   |_,_=>none
def Pz:Value->Option AV
 |.agg cs=>(eV zN cs.toList).map .agg
 |.tuple ⟨[]⟩=>some (.tuple [])
 |v=>zN v
def iQ:Operand->Option dU
 |.tmp t=>some (.tmp t)
 |.const v=>(Pz v).map .const
 |.func f=>some (.const (.fn f []))
 |.global _=>none
def pF(xs:Array Operand):Option (List dU):=eV iQ xs.toList
def BI:Option Operand->Option (Option dU)
 |none=>some none
 |some x=>(iQ x).map some
def H5(P:Program)(t:TypeId):Option (Option Nat):=
 match P.underlying t with
 |none=>none
 |some (.struct _)=>(P.info? t).map λi=>some i.size
 |some (.array ..)=>(P.info? t).map λi=>some i.size
 |some _=>some none
def tC(P:Program)(t:TypeId):Option (List AV):=((P.info? t).bind (·.zero)).bind λz=>(Pz z).bind AV.cells?
def KS(P:Program)(t:TypeId):Option Nat:=
 match P.underlying t with
 |some .bool=>some 0
 |some (.int _)=>some 1
 |some .string=>some 2
 |_=>none
def dO(P:Program):List Field->Nat->Option (List Nat)
 |[],_=>some []
 |f::r,i=>if f.name≠ "_" /\f.offset=i then (match KS P f.type,dO P r (i+1) with
   |some k,some ks=>some (k::ks)
   |_,_=>none) else none
def y9:Operand->Bool
 |.const .nilIface|.const (.pointer none)|.const .nilFunc|.const (.map none)=>true
 |_=>false
def placesOf(P:Program)(fs:Array Field):Option (List (Nat×Nat)):=fs.toList.mapM λf=>(P.info? f.type).map λi=>(f.offset,i.size)
def oO(places:List (Nat×Nat)):List (Nat×Operand)->Option (List (Nat×Nat×dU))
 |[]=>some []
 |(i,x)::r=>
   match places[i]?,iQ x,oO places r with
   |some p,some x',some r'=>some ((p.1,p.2,x')::r')
   |_,_,_=>none
def u4(op:BinOp)(k:Nat)(x' y':dU)(y:Operand):Option xJ:=
 if y9 y then
  (match op with
  |.eql=>some (.peq k false x' y')
  |.neq=>some (.peq k true x' y')
  |_=>none) else none
def PM(P:Program)(op:BinOp)(t:TypeId)(x y:Operand):Option xJ:=
 match iQ x,iQ y with
 |some x',some y'=>
   match P.underlying t with
   |some (.int _)|some .string=>some (.bin op x' y')
   |some .bool=>(match op with
    |.eql=>some (.beq false x' y')
    |.neq=>some (.beq true x' y')
    |_=>none)
   |some (.struct fs)=>(match dO P fs.toList 0 with
     |some ks=>if P.eqGuardType P.depth t=false/\P.stoodInHeld t=false then
       (match op with
       |.eql=>some (.YK ks false x' y')
       |.neq=>some (.YK ks true x' y')
       |_=>none) else none
     |none=>none)
   |some (.pointer _)=>u4 op 0 x' y' y
   |some (.interface _)=>u4 op 1 x' y' y
   |some (.func ..)=>u4 op 2 x' y' y
   |some (.map ..)=>u4 op 3 x' y' y
   |some (.slice _)=>(match op,y with
     |.eql,.const (.slice none 0 0)=>some (.MD false x')
     |.neq,.const (.slice none 0 0)=>some (.MD true x')
     |_,_=>none)
   |_=>none
 |_,_=>none
def J4(P:Program)(s d:TypeId)(x:Operand):Option xJ:=
 match iQ x,P.underlying s,P.underlying d with
 |some x',some (.int _),some (.int k)=>some (.Xl k x')
 |some x',some (.int _),some .string=>some (.M8 x')
 |some x',some .string,some (.slice e)=>(match P.underlying e with|some (.int .u8)=>some (.TO x')|_=>none)
 |some x',some (.slice e),some .string=>(match P.underlying e with|some (.int .u8)=>some (.Tg x')|_=>none)
 |_,_,_=>none
def eP(P:Program):Op->Option xJ
 |.move x|.assign x=>(iQ x).map .Hm
 |.pick c x y=>match iQ c,iQ x,iQ y with
   |some c',some x',some y'=>some (.pick c' x' y')
   |_,_,_=>none
 |.alloc t=>(tC P t).map λz=>.box (.const (.agg z))
 |.box _ x=>(iQ x).map .box
 |.build t parts=>match P.underlying t,tC P t with
   |some (.struct fs),some z=>match placesOf P fs with
     |some places=>(oO places parts.toList).map λps=>.Iw z ps
     |none=>none
   |_,_=>none
 |.buildSlice t len parts=>if len=0/\parts.isEmpty then (match P.underlying t with
  |some (.slice e)=>(P.info? e).map λ_=>.bs0
  |_=>none) else match P.underlying t with
   |some (.slice e)=>match P.info? e,tC P e,eV (λp=>(iQ p.2).map λx=>(p.1,x)) parts.toList with
     |some i,some z,some ps=>if len*i.size<=2^24/\z.length=i.size then some (.EU i.size len ((List.range (len*i.size)).map λj=>z.getD (j%i.size) .undef) ps) else none
     |_,_,_=>none
   |_=>none
 |.load t x=>match iQ x,H5 P t with
   |some x',some n=>some (.ld n x')
   |_,_=>none
 |.store t x v=>match iQ x,iQ v,P.info? t with
   |some x',some v',some i=>some (.st i.size x' v')
   |_,_,_=>none
 |.nilCheck x=>(iQ x).map .nck
 |.binOp op t x y _=>PM P op t x y
 |.unOp op _ x=>(iQ x).map (.un op)
 |.convert s d x=>J4 P s d x
 |.makeFunc (.func f) first bC=>if first.isEmpty then (pF bC).map (.Ui f) else none
 |.slice t x lo hi mx=>match P.underlying t,iQ x,BI lo,BI hi,BI mx with
   |some .string,some x',some SG,some jE,some none=>some (.EV x' SG jE)
   |some (.slice e),some x',some SG,some jE,some mx'=>(P.info? e).map λi=>.slv i.size x' SG jE mx'
   |_,_,_,_,_=>none
 |.fieldAddr s x f=>match P.underlying s,iQ x with
   |some (.struct fs),some x'=>match fs[f]? with
     |some fd=>match P.info? fd.type with
       |some i=>if i.size≠0 then some (.fad fd.offset x') else none
       |none=>none
     |none=>none
   |_,_=>none
 |.field t x f=>match P.underlying t,iQ x with
   |some (.struct fs),some x'=>match fs[f]? with
     |some fd=>(H5 P fd.type).map λn=>.Xj fd.offset n x'
     |none=>none
   |_,_=>none
 |.indexAddr t x i=>match P.underlying t,iQ x,iQ i with
   |some (.slice e),some x',some i'=>(P.info? e).map λinf=>.iad inf.size x' i'
   |_,_,_=>none
 |.index t x i=>match P.underlying t,iQ x,iQ i with
   |some .string,some x',some i'=>some (.ZW x' i')
   |_,_,_=>none
 |.extract x i=>(iQ x).map λx'=>.ext x' i
 |.call {callee:=.builtin b,args,argTypes}=>match b,args.toList,argTypes.toList with
   |.len,[x],[t]=>match P.underlying t with
     |some .string=>(iQ x).map .lens
     |some (.slice _)=>(iQ x).map .xX
     |_=>none
   |.max,[x,y],_=>match iQ x,iQ y with
     |some x',some y'=>some (.mx x' y')
     |_,_=>none
   |.min,[x,y],_=>match iQ x,iQ y with
     |some x',some y'=>some (.mn x' y')
     |_,_=>none
   |.append,[x,y],[t,u]=>match P.underlying t,P.underlying u,iQ x,iQ y with
     |some (.slice _),some (.int _),_,_=>none
     |some (.slice e),some _,some x',some y'=>match P.info? e,tC P e with
       |some i,some z=>if z.length=i.size/\0<i.size then some (.app i.size i.bytes x' y') else none
       |_,_=>none
     |_,_,_,_=>none
   |_,_,_=>none
 |_=>none
def uC(P:Program)(op:Op):Option xJ:=match eP P op with|some a=>some a|none=>some .die
def PC(P:Program):Op->Option R5
 |.call {callee:=.value f,args,argTypes:=_}=>match iQ f,pF args with
   |some (.const (.fn g [])),some as=>some (.call g as)
   |some f',some as=>some (.ml f' as)
   |_,_=>some (.op .die)
 |op=>(uC P op).map .op
def En(P:Program)(ops:Array Oper)(o:Oper):Option xJ:=
 match o.op with
 |.buildSlice t len parts=>match P.underlying t with
   |some (.slice e)=>match P.info? e,tC P e,eV (λp=>(iQ p.2).map λx=>(p.1,x)) parts.toList with
     |some i,some z,some ps=>if i.size=1/\len<=2^24/\z.length=1/\(o.dst.isSome&&ops.toList.any λq=>match q.op with|.convert _ _ x=>(match iQ x,o.dst with|some (.tmp u),some t'=>Nat.beq u t'|_,_=>false)|_=>false)=true
      then some (.Xn len ((List.range (len*1)).map λj=>z.getD (j%1) .undef) ps) else none
     |_,_,_=>none
   |_=>none
 |.convert s d x=>match iQ x,P.underlying s,P.underlying d with
   |some (.tmp u),some (.slice e),some .string=>(match P.underlying e with
     |some (.int .u8)=>if (ops.toList.any λq=>match q.op,q.dst with|.buildSlice ..,some t'=>Nat.beq u t'|_,_=>false)=true then some (.HU (.tmp u)) else none
     |_=>none)
   |_,_,_=>none
 |_=>none
def EE(P:Program)(ops:Array Oper)(o:Oper):Option R5:=match En P ops o with|some a=>some (.op a)|none=>PC P o.op
def lH(P:Program)(ops:Array Oper)(o:Oper):Option aW:=
 match EE P ops o with
 |none=>none
 |some a=>match o.guard with
   |none=>some {dst:=o.dst,op:=a}
   |some (j,want)=>((ops[j]?).bind (·.dst)).map λt=>{dst:=o.dst,op:=a,guard:=some (t,want)}
def force{α:Type}(n:Nat)(k:Nat->α):α:=match n with|0=>k 0|m+1=>k (m+1)
def Ba(b:List Nat):List Edge->Nat
 |[]=>0
 |e::r=>if Region.binds .any e then (2^e.on|||b.getD e.on 0)|||Ba b r else Ba b r
def abO:List Oper->List Nat->List Nat
 |[],aB=>aB
 |o::r,aB=>force (Ba aB o.after.toList) λv=>abO r (aB++[v])
def bt(b:List Nat)(i j:Nat):Bool:=(b.getD j 0).testBit i
def qU(b:List Nat)(es:List (aW×Nat)):List (Nat×Nat):=es.flatMap λp=>if p.1.Kq then es.filterMap λq=>if q.1.tN&&!bt b p.2 q.2&&!bt b q.2 p.2 then some (p.2,q.2) else none else []
def Al(b:List Nat)(es:List (aW×Nat))(s:aW)(i:Nat)(r:aW)(j:Nat):Bool:=
 i==j||
 ((match s.dst,r.dst with|some d,some d'=>d !=d'|_,_=>true)&&
  (!(i<j&&s.tN&&r.tN)||bt b i j||r.mU)&&
  (match r.dst with
   |none=>true
   |some d=>!s.reads.contains d||(if j<i then bt b j i&&(!r.mU||es.all λq=>!(q.2<j&&q.1.tN)||bt b q.2 i) else bt b i j))&&
  (!(s.Kq&&r.mU&&decide (j<i)&&bt b j i)||es.all λq=>!(q.2<j&&q.1.tN)||bt b q.2 i))
def BU(b:List Nat)(p:Oper×Nat):Bool:=b.getD p.2 0==Ba b p.1.after.toList&&p.1.after.toList.all λe=>!Region.binds .any e||decide (e.on<p.2)
def HF(ops:Array Oper)(as:List aW)(b:List Nat):Bool:=(ops.toList.zipIdx.all (BU b))&&(as.zipIdx.all λp=>as.zipIdx.all λq=>Al b as.zipIdx p.1 p.2 q.1 q.2)
def Vs(as:List aW)(b:List Nat):bW:=
 match qU b as.zipIdx with
 |[]=>.gA as
 |Xq=>.oE as Xq
def yW:aW:=⟨none,.op .die,none⟩
def dT(P:Program):Code->Option bW
 |.skip=>some .skip
 |.region _ ops draw=>match eV (lH P ops) ops.toList with
   |some as=>if draw then (if HF ops as (abO ops.toList []) then some (Vs as (abO ops.toList [])) else some (.gA [yW])) else some (.gA as)
   |none=>some (.gA [yW])
 |.seq a b=>match dT P a,dT P b with
   |some a',some b'=>some (.seq a' b')
   |_,_=>none
 |.cond c a b=>match iQ c,dT P a,dT P b with
   |some c',some a',some b'=>some (.cond c' a' b')
   |_,_,_=>none
 |.block id a=>(dT P a).map (.block id)
 |.loop a=>(dT P a).map (.loop [])
 |.exit id=>some (.exit id [])
 |.ret=>some (.ret [])
 |_=>some (.gA [yW])
def vw(P:Program):ResultVar->Option KE
 |.tmp t=>some (.tmp t)
 |.cell t ty=>(H5 P ty).map λn=>.cell t n
end
section
theorem jw{h:ai}{o:bp}{id:Nat}(hl:live (h.alloc o) id):id=h.next\/(live h id/\id<h.next):=by
 obtain⟨x,hg,hx⟩:=hl;have cR:=ai.eK hg;simp only[ai.px] at cR;rcases Nat.lt_or_ge id h.next with cG|cG
 .exact .inr ⟨⟨x,by rw[<-ai.eF (o:=o) cG];exact hg,hx⟩,cG⟩
 .exact .inl (by omega)
theorem yA{h:ai}{o:bp}{id i:Nat}(hl:live (h.set i o) id)(hi:live h i):live h id:=by
 by_cases e:i=id
 .exact e▸hi
 .obtain⟨x,hg,hx⟩:=hl;rw[ai.get_set_other e] at hg;exact⟨x,hg,hx⟩
theorem ai.po{h:ai}(o:bp)(hw:h.wf):(h.alloc o).wf:=by simpa[ai.wf,ai.alloc] using hw
theorem ai.wf_set{h:ai}(id:Nat)(o:bp)(hw:h.wf):(h.set id o).wf:=by unfold ai.set;split<;>simpa[ai.wf] using hw
theorem ai.BY{h:ai}(id:Nat)(v:AV)(hw:h.wf):(h.mark id v).wf:=by unfold ai.mark;split<;>simpa[ai.wf] using hw
theorem ai.Jd{h:ai}(n:Nat)(hw:h.wf):(h.kz n).wf:=by unfold ai.wf at *;simp only[ai.kz,List.length_drop,hw];omega
def gq(φ:eL)(n:Nat)(e:PE):eL:={φ with at_:=λid=>if id=n then e else φ id}
theorem getElem?_push_lt{α:Type}{a:Array α}{x:α}{i:Nat}(h:i<a.size):(a.push x)[i]? =a[i]?:=by rw[Array.getElem?_push];rw[if_neg (by omega)]
section
variable {φ:eL}{h:ai}{w:World}
theorem HR.gJ(hr:HR φ h w){id:Nat}(hl:live h id):(φ id).ib<w.heap.size:=by
 obtain⟨o,hg,ho⟩:=hl;have key:∀x,w.heap[(φ id).ib]? =some x->(φ id).ib<w.heap.size:=λx hx=>(Array.getElem?_eq_some_iff.1 hx).1
 cases o with
 |row cs=>obtain⟨c,el,fr,hb,_⟩:=hr.rows id cs hg;exact key _ hb
 |map es=>obtain⟨e,k,hb,_⟩:=hr.maps id es hg;exact key _ hb
 |dead=>exact (ho rfl).elim
theorem ZI{w':World}{o:bp}{x:Obj}{e:PE}(hr:HR φ h w)(hh:w'.heap=w.heap.push x)(ho:w'.os=w.os)(ht:w'.tape=w.tape)(uX:w'.output=w.output)
 (he:e.ib=w.heap.size):Ext φ h w (gq φ h.next e) (h.alloc o) w':=by
 refine⟨ho,ht,uX,by rw[hh];simp,by simp,λid cG=>by simp[gq,Nat.ne_of_lt cG],λb hb=>⟨⟨by rw[hh];simp;have:=hb.1;omega,λid hl=>?_,hb.2.2⟩,by rw[hh];exact getElem?_push_lt hb.1⟩,
  rfl,λb hb=>by rw[hh];exact getElem?_push_lt (hr.gh b hb).1⟩
 rcases jw hl with rfl|⟨hl,cR⟩
 .simp only[gq,if_true,he];have:=hb.1;omega
 .simp only[gq,Nat.ne_of_lt cR,if_false];exact hb.2.1 id hl
theorem ab2{w':World}{o:bp}{x:Obj}{e:PE}(hr:HR φ h w)(hh:w'.heap=w.heap.push x)(he:e.ib=w.heap.size):
 ∀b,(gq φ h.next e).gh b->b<w'.heap.size/\∀id,live (h.alloc o) id->((gq φ h.next e) id).ib≠b:=λb hb=>by
 obtain⟨g1,g2⟩:=hr.gh b hb;refine⟨by rw[hh];simp;omega,λid hl=>?_⟩;rcases jw hl with rfl|⟨hl,cR⟩
 .simp only[gq,if_true,he];omega
 .simp only[gq,Nat.ne_of_lt cR,if_false];exact g2 id hl
theorem tS.ext{φ':eL}{h':ai}{w':World}{id:Nat}{cs:List AV}(hk:tS φ h w id cs)(e:Ext φ h w φ' h' w')(cG:id<h.next)
 (hb:w'.heap[(φ id).ib]? =w.heap[(φ id).ib]?):tS φ' h' w' id cs:=by
 obtain⟨c,el,fr,h1,h2,h3,h4,h5,h6⟩:=hk;have hp:=e.BK id cG;refine⟨c,el,fr,by rw[hp,hb];exact h1,by rw[hp];exact h2,by rw[hp];exact h3,h4,by rw[hp];exact h5,λj hj=>?_⟩;rw[hp];exact (h6 j hj).ext e
theorem yt.ext{φ':eL}{h':ai}{w':World}{id:Nat}{es:List (AV×AV)}(hk:yt φ h w id es)(e:Ext φ h w φ' h' w')(cG:id<h.next)
 (hb:w'.heap[(φ id).ib]? =w.heap[(φ id).ib]?):yt φ' h' w' id es:=by
 obtain⟨c,k,h1,h2,h3⟩:=hk;have hp:=e.BK id cG;exact⟨c,k,by rw[hp,hb];exact h1,h2,λj hj=>⟨(h3 j hj).1.ext e,(h3 j hj).2.ext e⟩⟩
theorem HX{w':World}{c:Array Value}{el:TypeId}{fz:Nat×Nat}{cs:List AV}(hr:HR φ h w)(hh:w'.heap=w.heap.push (.cells c el fz))
 (ho:w'.os=w.os) (ht:w'.tape=w.tape) (uX:w'.output=w.output) (WG:∀o,o<c.size->¬(fz.1<=o/\o<fz.2))
 (h1:∀j,j<c.size->(c.getD j default).oneCell'=true) (hl:cs.length<=c.size) (hv:∀j (hj:j<cs.length),fI φ h w cs[j] (c.getD j default)):
 HR (gq φ h.next ⟨w.heap.size,0,c.size⟩) (h.alloc (.row cs)) w'/\Ext φ h w (gq φ h.next ⟨w.heap.size,0,c.size⟩) (h.alloc (.row cs)) w':=by
 have e:Ext φ h w (gq φ h.next ⟨w.heap.size,0,c.size⟩) (h.alloc (.row cs)) w':=ZI (o:=.row cs) hr hh ho ht uX rfl;refine⟨⟨ai.po _ hr.wf,λid jt hg=>?_,λid es hg=>?_,λi j hi hj wj=>?_,ab2 hr hh rfl⟩,e⟩
 .have cR:=ai.eK hg;simp only[ai.px] at cR;rcases Nat.lt_or_ge id h.next with cG|cG
  .rw[ai.eF cG] at hg;have hb:=hr.gJ ⟨_,hg,λe=>by cases e⟩;exact (hr.rows id jt hg).ext e cG (by rw[hh];exact getElem?_push_lt hb)
  .obtain rfl:id=h.next:=by omega
   rw[ai.gw] at hg;cases hg;refine⟨c,el,fz,?_,?_,?_,WG,?_,λj hj=>?_⟩
   .simp[gq,hh]
   .simp[gq]
   .simpa[gq] using hl
   .simpa[gq] using h1
   .have:=(hv j hj).ext e;simpa[gq] using this
 .have cR:=ai.eK hg;simp only[ai.px] at cR;rcases Nat.lt_or_ge id h.next with cG|cG
  .rw[ai.eF cG] at hg;have hb:=hr.gJ ⟨_,hg,λe=>by cases e⟩;exact (hr.maps id es hg).ext e cG (by rw[hh];exact getElem?_push_lt hb)
  .obtain rfl:id=h.next:=by omega
   rw[ai.gw] at hg;cases hg
 .rcases jw hi with rfl|⟨hi,EW⟩<;>rcases jw hj with rfl|⟨hj,G3⟩
  .rfl
  .have:=hr.gJ hj;simp only[gq,if_true,Nat.ne_of_lt G3,if_false] at wj;omega
  .have:=hr.gJ hi;simp only[gq,if_true,Nat.ne_of_lt EW,if_false] at wj;omega
  .simp only[gq,Nat.ne_of_lt EW,Nat.ne_of_lt G3,if_false] at wj;exact hr.inj i j hi hj wj
theorem T4{w':World}{id:Nat}{o o':bp}(hr:HR φ h w)(hg:h.get id=some o)(jm:∀_:o=.dead,False)
 (kU:w'.heap.size=w.heap.size) (hh:∀b,b≠(φ id).ib->w'.heap[b]? =w.heap[b]?)
 (ho:w'.os=w.os) (ht:w'.tape=w.tape) (uX:w'.output=w.output):
 Ext φ h w φ (h.set id o') w'/\((∀cs,o'=.row cs->tS φ (h.set id o') w' id cs)->(∀es,o'=.map es->yt φ (h.set id o') w' id es)->HR φ (h.set id o') w'):=by
 have oB:live h id:=⟨o,hg,jm⟩
 have e:Ext φ h w φ (h.set id o') w':=by
  refine⟨ho,ht,uX,by omega,by simp,λ_ _=>rfl,λb hb=>⟨⟨by rw[kU];exact hb.1,λi hi=>hb.2.1 i (yA hi oB),hb.2.2⟩,hh b λeq=>hb.2.1 id oB eq.symm⟩,
   rfl,λb hb=>hh b λeq=>(hr.gh b hb).2 id oB eq.symm⟩
 refine⟨e,λtj ZY=>⟨ai.wf_set _ _ hr.wf,λi cs hi=>?_,λi es hi=>?_,λi j hi hj wj=>hr.inj i j (yA hi oB) (yA hj oB) wj,
  λb hb=>⟨by rw[kU];exact (hr.gh b hb).1,λi hi=>(hr.gh b hb).2 i (yA hi oB)⟩⟩⟩
 .by_cases eq:id=i
  .subst eq;rw[ai.get_set_same hg] at hi;exact tj cs (by simpa using hi)
  .have hi0:=hi;rw[ai.get_set_other eq] at hi;refine (hr.rows i cs hi).ext e (ai.eK hi) (hh _ λhb=>eq (hr.inj id i oB ⟨_,hi,λe=>by cases e⟩ hb.symm))
 .by_cases eq:id=i
  .subst eq;rw[ai.get_set_same hg] at hi;exact ZY es (by simpa using hi)
  .rw[ai.get_set_other eq] at hi;refine (hr.maps i es hi).ext e (ai.eK hi) (hh _ λhb=>eq (hr.inj id i oB ⟨_,hi,λe=>by cases e⟩ hb.symm))
theorem kL{id i:Nat}(hl:live (h.set id .dead) i):live h i/\i≠id:=by
 obtain⟨o,hg,jm⟩:=hl;by_cases eq:id=i
 .subst eq;have cR:=ai.eK hg;simp only[ai.Wg] at cR
  cases hx:h.get id with
  |none=>unfold ai.set at hg;rw[if_pos cR] at hg;unfold ai.get at hg hx;simp only[cR,if_true] at hg hx;rw[List.getElem?_eq_none_iff] at hx;rw[List.getElem?_eq_none (by simpa using hx)] at hg;cases hg
  |some x=>rw[ai.get_set_same hx] at hg;cases hg;exact (jm rfl).elim
 .rw[ai.get_set_other eq] at hg;exact⟨⟨o,hg,jm⟩,λe=>eq e.symm⟩
theorem aaW(hr:HR φ h w)(id:Nat):HR φ (h.set id .dead) w/\Ext φ h w φ (h.set id .dead) w:=by
 have e:Ext φ h w φ (h.set id .dead) w:=⟨rfl,rfl,rfl,Nat.le_refl _,by simp,λ_ _=>rfl,λb hb=>⟨⟨hb.1,λi hi=>hb.2.1 i (kL hi).1,hb.2.2⟩,rfl⟩,rfl,λ_ _=>rfl⟩
 refine⟨⟨ai.wf_set _ _ hr.wf,λi cs hi=>?_,λi es hi=>?_,λi j hi hj wj=>hr.inj i j (kL hi).1 (kL hj).1 wj,λb hb=>⟨(hr.gh b hb).1,λi hi=>(hr.gh b hb).2 i (kL hi).1⟩⟩,e⟩
 .have fy:=(kL ⟨_,hi,λe=>by cases e⟩).2;rw[ai.get_set_other (Ne.symm fy)] at hi;exact (hr.rows i cs hi).ext e (ai.eK hi) rfl
 .have fy:=(kL ⟨_,hi,λe=>by cases e⟩).2;rw[ai.get_set_other (Ne.symm fy)] at hi;exact (hr.maps i es hi).ext e (ai.eK hi) rfl
theorem PT(eS:List Nat):∀{h:ai},HR φ h w->HR φ (kill h eS) w/\Ext φ h w φ (kill h eS) w:=by
 induction eS with
 |nil=>exact λhr=>⟨hr,.refl _ _ _⟩
 |cons id r ih=>intro h hr;obtain⟨h1,e1⟩:=aaW hr id;obtain⟨h2,e2⟩:=ih h1;exact⟨h2,e1.trans e2⟩
theorem QU:∀(eS:List Nat) {h:ai} {i:Nat},live (kill h eS) i->live h i/\i∉eS:=by
 intro eS
 induction eS with
 |nil=>exact λhl=>⟨hl,by simp⟩
 |cons id r ih=>intro h i hl;obtain⟨h1,h2⟩:=ih hl;obtain⟨h3,h4⟩:=kL h1;exact⟨h3,by simp[h2,h4]⟩
theorem HR.mark(hr:HR φ h w)(id:Nat)(v:AV):HR φ (h.mark id v) w/\Ext φ h w φ (h.mark id v) w:=by
 have dF:∀i,live (h.mark id v) i↔live h i:=λi=>by unfold live;simp only[ai.qX]
 have e:Ext φ h w φ (h.mark id v) w:=⟨rfl,rfl,rfl,Nat.le_refl _,by simp,λ_ _=>rfl,λb hb=>⟨⟨hb.1,λi hi=>hb.2.1 i ((dF i).1 hi),hb.2.2⟩,rfl⟩,rfl,λ_ _=>rfl⟩
 refine⟨⟨ai.BY _ _ hr.wf,λi cs hi=>?_,λi es hi=>?_,λi j hi hj=>hr.inj i j ((dF i).1 hi) ((dF j).1 hj),λb hb=>⟨(hr.gh b hb).1,λi hi=>(hr.gh b hb).2 i ((dF i).1 hi)⟩⟩,e⟩
 .rw[ai.qX] at hi;exact (hr.rows i cs hi).ext e (ai.eK hi) rfl
 .rw[ai.qX] at hi;exact (hr.maps i es hi).ext e (ai.eK hi) rfl
theorem HR.yN(hr:HR φ h w)(x y:Nat):HR φ {h with wl:=x,md:=y} w/\Ext φ h w φ {h with wl:=x,md:=y} w:=by
 have e:Ext φ h w φ {h with wl:=x,md:=y} w:=⟨rfl,rfl,rfl,Nat.le_refl _,Nat.le_refl _,λ_ _=>rfl,λb hb=>⟨hb,rfl⟩,rfl,λ_ _=>rfl⟩
 refine⟨⟨hr.wf,λi cs hi=>?_,λi es hi=>?_,λi j hi hj=>hr.inj i j hi hj,hr.gh⟩,e⟩
 .exact (hr.rows i cs hi).ext e (ai.eK hi) rfl
 .exact (hr.maps i es hi).ext e (ai.eK hi) rfl
end
theorem HR.world{φ:eL}{h:ai}{w w':World}(hr:HR φ h w)(hh:w'.heap=w.heap)(ho:w'.os=w.os)(ht:w'.tape=w.tape)(uX:w'.output=w.output):
 HR φ h w'/\Ext φ h w φ h w':=by
 have e:Ext φ h w φ h w':=⟨ho,ht,uX,by rw[hh];exact Nat.le_refl _,Nat.le_refl _,λ_ _=>rfl,λb hb=>⟨⟨by rw[hh];exact hb.1,hb.2⟩,by rw[hh]⟩,rfl,λ_ _=>by rw[hh]⟩
 refine⟨⟨hr.wf,λi cs hi=>?_,λi es hi=>?_,λi j hi hj=>hr.inj i j hi hj,λb hb=>by rw[hh];exact hr.gh b hb⟩,e⟩
 .exact (hr.rows i cs hi).ext e (ai.eK hi) (by rw[hh])
 .exact (hr.maps i es hi).ext e (ai.eK hi) (by rw[hh])
end
section
def gL(P:Program)(s:Sem Next)(φ:eL)(h:ai)(w:World)(v:AV)(h':ai):Prop:=∃cv w' φ',(s.run P w=.ok (.value cv) w'\/(s.run P w=.ok .skip w'/\cv=undef))/\fI φ' h' w' v cv/\HR φ' h' w'/\Ext φ h w φ' h' w'
theorem gL.pure{P:Program}{s:Sem Next}{φ:eL}{h:ai}{w:World}{v:AV}{cv:Value}(hr:HR φ h w)(hs:s.run P w=.ok (.value cv) w)(hv:fI φ h w v cv):
 gL P s φ h w v h:=⟨cv,w,φ,.inl hs,hv,hr,.refl _ _ _⟩
section consts
variable {φ:eL}{nx:Nat}{pr:Nat->Prop}{w:World}
theorem GR{v:Value}{av:AV}(he:zN v=some av):RV φ nx pr w av v:=by
 unfold zN at he;split at he<;>cases he
 .exact .bool _
 .exact .int _ _
 .exact .str _
 .exact .mV
 .exact .aJ _
 .exact .om
 .exact .jv
 .exact .mR
 .exact .fn _ [] #[] rfl λj hj=>by simp at hj
theorem It{v:Value}{av:AV}(he:zN v=some av):v.oneCell'=true/\av.cells? =some [av]:=by unfold zN at he;split at he<;>cases he<;>simp[Value.oneCell',AV.cells?]
theorem nN{α β:Type}{f:α->Option β}:∀{l:List α} {m:List β},eV f l=some m->m.length=l.length
 |[],m,he=>by simp[eV] at he;subst he;rfl
 |x::r,m,he=>by
   unfold eV at he;split at he
   .rename_i y s h1 h2;cases he;simp[nN h2]
   .cases he
theorem l9{α β:Type}{f:α->Option β}:∀{l:List α} {m:List β},eV f l=some m->∀i (hi:i<l.length) (jE:i<m.length),f l[i]=some m[i]
 |[],m,he=>by intro i hi;simp at hi
 |x::r,m,he=>by
   unfold eV at he;split at he
   .rename_i y s h1 h2;cases he;intro i hi jE
    cases i with
    |zero=>simpa using h1
    |succ i=>simpa using l9 h2 i (by simpa using hi) (by simpa using jE)
   .cases he
theorem Jk{v:Value}{av:AV}(he:Pz v=some av):RV φ nx pr w av v:=by
 unfold Pz at he;split at he
 .rename_i cs;obtain⟨l,hl,rfl⟩:=Option.map_eq_some_iff.1 he;have fZ:=nN hl;refine .agg l cs (by simpa using fZ.symm) (λj=>?_) λj hj=>?_
  .by_cases hj:j<cs.size
   .have kP:j<cs.toList.length:=by simpa using hj
    have:=(It (l9 hl j kP (by omega))).1;simpa[Array.getD,hj] using this
   .simp[Array.getD,hj];rfl
  have kP:j<cs.toList.length:=by omega
  have:=GR (φ:=φ) (nx:=nx) (pr:=pr) (w:=w) (l9 hl j kP hj);have I6:j<cs.size:=by simpa using kP
  simpa[Array.getD,I6] using this
 .cases he;exact .tuple [] #[] rfl λj hj=>by simp at hj
 .exact GR he
end consts
section
variable {P:Program}{φ:eL}{h:ai}{w:World}{fr:List AV}{a:Act}
theorem di{x:Operand}{x':dU}(he:iQ x=some x')(hf:FR φ h w fr a.tmps):fI φ h w (x'.ev fr) (a.eval x):=by
 unfold iQ at he;split at he
 .cases he;exact hf.2 _
 .obtain⟨v',hv,rfl⟩:=Option.map_eq_some_iff.1 he;exact Jk hv
 .cases he;exact .fn _ [] #[] rfl λj hj=>by simp at hj
 .cases he
theorem RV.cells{nx:Nat}{pr:Nat->Prop}{v:AV}{cv:Value}{cs:List AV}(hv:RV φ nx pr w v cv)(hc:v.cells? =some cs):
 cv.cells.size=cs.length/\(∀j,(cv.cells.getD j default).oneCell'=true)/\∀j (hj:j<cs.length),RV φ nx pr w cs[j] (cv.cells.getD j default):=by
 cases hv with
 |agg l fu hl h1 hv=>simp only[AV.cells?,Option.some.injEq] at hc;subst hc;exact⟨hl,h1,hv⟩
 |undef=>simp[AV.cells?] at hc
 |tuple=>simp[AV.cells?] at hc
 |_=>
   simp only[AV.cells?,Option.some.injEq] at hc;subst hc;refine⟨rfl,λj=>by cases j<;>rfl,λj hj=>?_⟩;obtain rfl:j=0:=by simpa using hj
   first
    |exact .bool _
    |exact .int _ _
    |exact .str _
    |exact .mV
    |exact .ptr _ _ ‹_›
    |exact .ip _ _ _ _ ‹_› ‹_› ‹_› ‹_› ‹_›
    |exact .ip _ _ _ _ ‹_› ‹_› ‹_› ‹_› (by assumption)
    |exact .aJ _
    |exact .slnil _ _
    |exact .sl _ _ _ _ _ _ ‹_› ‹_› ‹_› ‹_› ‹_› ‹_› ‹_›
    |exact .vec _ _ _ _ _ _ _ ‹_› ‹_› ‹_› ‹_› ‹_›
    |exact .om
    |exact .map _ ‹_›
    |exact .jv
    |exact .fn _ _ _ ‹_› ‹_›
    |exact .mR
    |exact .iface _ _ _ ‹_›
theorem UW{x:Operand}{o:Oper}(ho:o.op=.move x\/o.op=.assign x){x':dU}(hx:iQ x=some x')(hf:FR φ h w fr a.tmps)(hr:HR φ h w):
 gL P (execOp a.eval o) φ h w (x'.ev fr) h:=
 .pure hr (by unfold execOp;rcases ho with ho|ho<;>simp[ho]) (di hx hf)
theorem RV.jd{nx:Nat}{pr:Nat->Prop}{b:Bool}{cv:Value}(hv:RV φ nx pr w (.bool b) cv):cv=.bool b:=by cases hv;rfl
theorem RV.fG{nx:Nat}{pr:Nat->Prop}{k:IntKind}{n:Int}{cv:Value}(hv:RV φ nx pr w (.int k n) cv):cv=.int k n:=by cases hv;rfl
theorem RV.hP{nx:Nat}{pr:Nat->Prop}{s:List UInt8}{cv:Value}(hv:RV φ nx pr w (.str s) cv):∃b:ByteArray,cv=.string b/\b.data.toList=s:=by cases hv;exact⟨_,rfl,rfl⟩
theorem RV.Ag{nx:Nat}{pr:Nat->Prop}{s:List UInt8}{b:ByteArray}(hb:b.data.toList=s):RV φ nx pr w (.str s) (.string b):=hb▸.str b
theorem XJ{c x y:Operand}{o:Oper}(ho:o.op=.pick c x y){c' x' y':dU}(hc:iQ c=some c')(hx:iQ x=some x')(hy:iQ y=some y'){b:Bool}(hb:c'.ev fr=.bool b)
 (hf:FR φ h w fr a.tmps) (hr:HR φ h w):gL P (execOp a.eval o) φ h w (if b then x'.ev fr else y'.ev fr) h:=by
 have h0:=di hc hf;rw[hb] at h0;have h0:=h0.jd;refine .pure (cv:=if b then a.eval x else a.eval y) hr (by unfold execOp;simp[ho,h0,asBool]) ?_;cases b
 .exact di hy hf
 .exact di hx hf
theorem YD(o:bp)(b r:Nat){w':World}:fI (gq φ h.next ⟨b,0,r⟩) (h.alloc o) w' (.ptr h.next 0) (.pointer (some ⟨b,0,none⟩)):=by
 have:=RV.ptr (φ:=gq φ h.next ⟨b,0,r⟩) (nx:=(h.alloc o).next) (pr:=Pr (gq φ h.next ⟨b,0,r⟩) (h.alloc o) w') (w:=w') h.next 0 (by simp)
 have e:gq φ h.next ⟨b,0,r⟩ h.next=⟨b,0,r⟩:=by simp[gq]
 rw[e] at this;exact this
theorem O7(o:bp)(b r n sz lb cap:Nat){w':World}(hn:n<=cap)(hb:lb<=cap)(hr:cap*sz<=r):fI (gq φ h.next ⟨b,0,r⟩) (h.alloc o) w' (.vec h.next 0 n sz lb) (.slice (some ⟨b,0,none⟩) n cap):=.vec _ _ _ _ _ _ _ (by simp) hn hb (by simpa[gq] using hr) λ_=>by simp[gq]
theorem CJ{s:Sem Next}{c:Array Value}{el:TypeId}{cs:List AV}(hr:HR φ h w)
 (hs:s.run P w=.ok (.value (.pointer (some ⟨w.heap.size,0,none⟩))) (w.alloc (.cells c el)))
 (h1:∀j,(c.getD j default).oneCell'=true) (hl:cs.length<=c.size) (hv:∀j (hj:j<cs.length),fI φ h w cs[j] (c.getD j default)):
 gL P s φ h w (.ptr h.next 0) (h.alloc (.row cs)):=by
 obtain⟨g1,g2⟩:=HX (w':=w.alloc (.cells c el)) hr rfl rfl rfl rfl (by simp) (λj _=>h1 j) hl hv;refine⟨_,_,_,.inl hs,?_,g1,g2⟩;exact YD _ _ _
theorem acM{t:TypeId}{x:Operand}{o:Oper}(ho:o.op=.box t x){x':dU}(hx:iQ x=some x'){cs:List AV}(hc:(x'.ev fr).cells? =some cs)
 (hf:FR φ h w fr a.tmps) (hr:HR φ h w):gL P (execOp a.eval o) φ h w (.ptr h.next 0) (h.alloc (.row cs)):=by
 obtain⟨g1,g2,g3⟩:=(di hx hf).cells hc;refine CJ (c:=(a.eval x).cells) (el:=t) hr ?_ g2 (by omega) g3;unfold execOp;simp[ho,Instr.box,newVar,newRow]
theorem ue{t:TypeId}{cs:List AV}(hz:tC P t=some cs):∃i z,P.info? t=some i/\i.zero=some z/\z.cells.size=cs.length/\(∀j,(z.cells.getD j default).oneCell'=true)/\
 ∀nx pr (w:World),∀j (hj:j<cs.length),RV φ nx pr w cs[j] (z.cells.getD j default):=by
 unfold tC at hz;obtain⟨z,hz1,hz2⟩:=Option.bind_eq_some_iff.1 hz;obtain⟨v,hv1,hv2⟩:=Option.bind_eq_some_iff.1 hz2;obtain⟨i,hi,SN⟩:=Option.bind_eq_some_iff.1 hz1;have key:=λnx pr (w:World)=>(Jk (φ:=φ) (nx:=nx) (pr:=pr) (w:=w) hv1).cells hv2
 obtain⟨k1,k2,_⟩:=key 0 (λ_=>False) default;exact⟨i,z,hi,SN,k1,k2,λnx pr w=>(key nx pr w).2.2⟩
theorem Th{t:TypeId}{o:Oper}(ho:o.op=.alloc t){cs:List AV}(hz:tC P t=some cs)(hr:HR φ h w):
 gL P (execOp a.eval o) φ h w (.ptr h.next 0) (h.alloc (.row cs)):=by
 obtain⟨i,z,hi,SN,k1,k2,k3⟩:=ue (φ:=φ) hz;refine CJ (c:=z.cells) (el:=t) hr ?_ k2 (by omega) (k3 _ _ _);unfold execOp;simp[ho,Instr.alloc,zeroValue,typeInfo,hi,SN,newVar,newRow]
def rU(φ:eL)(nx:Nat)(pr:Nat->Prop)(w:World)(l:List AV)(c:Array Value):Prop:=c.size=l.length/\(∀j,(c.getD j default).oneCell'=true)/\∀j (hj:j<l.length),RV φ nx pr w l[j] (c.getD j default)
theorem rU.set{nx:Nat}{pr:Nat->Prop}{l:List AV}{c:Array Value}(hc:rU φ nx pr w l c){v:AV}{cv:Value}(hv:RV φ nx pr w v cv)(h1:cv.oneCell'=true)(i:Nat):
 rU φ nx pr w (l.set i v) (c.setIfInBounds i cv):=by
 obtain⟨k1,k2,k3⟩:=hc;refine⟨by simpa using k1,λj=>?_,λj hj=>?_⟩
 .have:=k2 j;rw[Array.getD_eq_getD_getElem?] at this|-;rw[Array.getElem?_setIfInBounds];by_cases e:i=j
  .subst e;by_cases hl:i<c.size
   .simpa[hl] using h1
   .simp[hl];rfl
  .simpa[e] using this
 .have kP:j<l.length:=by simpa using hj
  have:=k3 j kP;rw[Array.getD_eq_getD_getElem?] at this|-;rw[Array.getElem?_setIfInBounds,List.getElem_set];by_cases e:i=j
  .subst e;simpa[k1,kP] using hv
  .simpa[e] using this
theorem Lc{nx:Nat}{pr:Nat->Prop}:∀(vs:List AV) (fu:List Value) (k off:Nat) (l:List AV) (c:Array Value),rU φ nx pr w l c->
 vs.length=fu.length->(∀j (h:j<vs.length) (h':j<fu.length),RV φ nx pr w vs[j] fu[j]/\fu[j].oneCell'=true)->
 rU φ nx pr w (putAt l (off+k) vs) ((fu.zipIdx k).foldl (λcs p=>cs.setIfInBounds (off+p.2) p.1) c)
 |[],[],_,_,_,_,hc,_,_=>hc
 |v::vs,cv::fu,k,off,l,c,hc,hl,hv=>by
   obtain⟨h1,h2⟩:=hv 0 (by simp) (by simp);have:=Lc vs fu (k+1) off _ _ (hc.set (by simpa using h1) (by simpa using h2) (off+k)) (by simpa using hl) λj h h'=>hv (j+1) (Nat.succ_lt_succ h) (Nat.succ_lt_succ h')
   simpa[putAt,List.zipIdx_cons,Nat.add_assoc] using this
 |[],_::_,_,_,_,_,_,hl,_=>by simp at hl
 |_::_,[],_,_,_,_,_,hl,_=>by simp at hl
theorem yD(vs:List AV):∀(l:List AV) (off:Nat),(putAt l off vs).length=l.length:=by
 induction vs with
 |nil=>intro l off;rfl
 |cons v r ih=>intro l off;simp[putAt,ih]
theorem B4{nx:Nat}{pr:Nat->Prop}(place:Nat->Option (Nat×Nat)):∀(ps:List (Nat×Nat×AV)) (cps:List (Nat×Value)) (l:List AV) (c:Array Value) (l':List AV),
 rU φ nx pr w l c->ps.length=cps.length->(∀j (h:j<ps.length) (h':j<cps.length),place cps[j].1=some (ps[j].1,ps[j].2.1)/\RV φ nx pr w ps[j].2.2 cps[j].2)->
 mM l ps=some l'->∃c',Instr.fill place c cps=some c'/\rU φ nx pr w l' c'
 |[],[],l,c,l',hc,_,_,hf=>by simp only[mM,Option.some.injEq] at hf;subst hf;exact⟨c,rfl,hc⟩
 |(off,sz,v)::ps,(i,cv)::cps,l,c,l',hc,hl,hp,hf=>by
   obtain⟨EN,hv⟩:=hp 0 (by simp) (by simp);simp only[List.getElem_cons_zero] at EN hv;unfold mM at hf;split at hf
   .rename_i cs oC;split at hf
    .rename_i kU;obtain⟨g1,g2,g3⟩:=hv.cells oC
     have step:=Lc (φ:=φ) (nx:=nx) (pr:=pr) (w:=w) cs cv.cells.toList 0 off l c hc (by simpa using g1.symm) λj h h'=>by
      have e1:=g3 j h;have e2:=g2 j;have hj:j<cv.cells.size:=by omega
      simp only[Array.getD,hj,dif_pos] at e1 e2;exact⟨by simpa using e1,by simpa using e2⟩
     obtain⟨c',e1,e2⟩:=B4 place ps cps _ _ l' step (by simpa using hl) (λj h h'=>hp (j+1) (Nat.succ_lt_succ h) (Nat.succ_lt_succ h')) (by simpa using hf);refine⟨c',?_,e2⟩;unfold Instr.fill;simp only[EN]
     have akb:(cv.cells.size≠sz||off+cv.cells.size > c.size)=false:=by have:=hc.1;simp;omega
     rw[if_neg (by rw[akb];simp)];rw[<-e1];congr 1;rw[<-Array.foldl_toList,Array.toList_zipIdx]
    .cases hf
   .cases hf
 |[],_::_,_,_,_,_,hl,_,_=>by simp at hl
 |_::_,[],_,_,_,_,hl,_,_=>by simp at hl
theorem Py{xs:Array Operand}{xs':List dU}(he:pF xs=some xs')(hf:FR φ h w fr a.tmps):
 (xs.map a.eval).size=xs'.length/\∀j,j<xs'.length->fI φ h w ((xs'.map (·.ev fr)).getD j .undef) ((xs.map a.eval).getD j default):=by
 have fZ:=nN he;simp only[Array.length_toList] at fZ;refine⟨by simpa using fZ.symm,λj hj=>?_⟩;have kP:j<xs.toList.length:=by simpa[<-fZ] using hj
 have:=di (l9 he j kP hj) hf;have I6:j<xs.size:=by simpa using kP
 simpa[Array.getD,I6,List.getD,hj] using this
theorem xS{places:List (Nat×Nat)}:∀{parts:List (Nat×Operand)} {ps:List (Nat×Nat×dU)},oO places parts=some ps->
 ps.length=parts.length/\∀j (h:j<ps.length) (h':j<parts.length),places[parts[j].1]? =some (ps[j].1,ps[j].2.1)/\iQ parts[j].2=some ps[j].2.2
 |[],ps,he=>by simp[oO] at he;subst he;simp
 |(i,x)::r,ps,he=>by
   unfold oO at he;split at he
   .rename_i p x' r' h1 h2 h3;cases he;obtain⟨g1,g2⟩:=xS h3;refine⟨by simp[g1],λj hj kP=>?_⟩
    cases j with
    |zero=>simpa using ⟨h1,h2⟩
    |succ j=>simpa using g2 j (by simpa using hj) (by simpa using kP)
   .cases he
theorem uW(off:Nat):∀(l:List (Value×Nat)) (c:Array Value),(l.foldl (λcs (x:Value×Nat)=>match x with|(c,j)=>cs.setIfInBounds (off+j) c) c).size=c.size
 |[],_=>rfl
 |x::l,c=>by rw[List.foldl_cons,uW off l];simp
theorem lL(place:Nat->Option (Nat×Nat)):∀(ps:List (Nat×Value)) (c c':Array Value),Instr.fill place c ps=some c'->c'.size=c.size
 |[],c,c',he=>by simp[Instr.fill] at he;rw[he]
 |(i,v)::r,c,c',he=>by
   unfold Instr.fill at he;split at he
   .cases he
   .split at he
    .cases he
    .rw[lL place r _ c' he,<-Array.foldl_toList];exact uW _ _ _
theorem ab3{t:TypeId}{parts:Array (Nat×Operand)}{o:Oper}(ho:o.op=.build t parts){fs:Array Field}(ht:P.underlying t=some (.struct fs)){z:List AV}(hz:tC P t=some z)
 {places:List (Nat×Nat)} (hp:placesOf P fs=some places) {ps:List (Nat×Nat×dU)} (zd:oO places parts.toList=some ps) {cs:List AV}
 (he:mM z (ps.map λp=>(p.1,p.2.1,p.2.2.ev fr))=some cs) (hf:FR φ h w fr a.tmps) (hr:HR φ h w):gL P (execOp a.eval o) φ h w (.agg cs) h:=by
 obtain⟨i,zv,hi,SN,k1,k2,k3⟩:=ue (φ:=φ) hz;obtain⟨g1,g2⟩:=xS zd
 obtain⟨c',e1,e2,e3,e4⟩:=B4 (φ:=φ) (nx:=h.next) (pr:=Pr φ h w) (w:=w) (places.toArray[·]?) (ps.map λp=>(p.1,p.2.1,p.2.2.ev fr)) ((parts.map λ(i,x)=>(i,a.eval x)).toList) z zv.cells cs ⟨k1,k2,k3 _ _ _⟩
  (by simp[g1]) (λj hj kP=>by obtain⟨q1,q2⟩:=g2 j (by simpa using hj) (by simpa using kP);exact⟨by simpa using q1,by simpa using di q2 hf⟩) he
 refine .pure (cv:=.agg c') hr ?_ (.agg cs c' e2 e3 e4)
 have hb:P.built t (parts.map λ(i,x)=>(i,a.eval x)).toList=some c':=by unfold Program.built;simp only[hi,ht,SN];unfold placesOf at hp;rw[hp];exact e1
 unfold execOp;simp[ho,run_build w t _ c' hb]
theorem kV{t:TypeId}{i:TypeInfo}(hi:P.info? t=some i)(w:World):(Go.sizeOf t).run P w=.ok i.size w:=by simp[Go.sizeOf,typeInfo,hi]
theorem adJ{t e:TypeId}{len:Nat}{parts:Array (Nat×Operand)}{o:Oper}(ho:o.op=.buildSlice t len parts)(ht:P.underlying t=some (.slice e)){i:TypeInfo}(hi:P.info? e=some i)
 {z:List AV} (hz:tC P e=some z) {ps:List (Nat×dU)} (zd:eV (λp:Nat×Operand=>(iQ p.2).map λx=>(p.1,x)) parts.toList=some ps) (fZ:len*i.size<=2^24) (Oa:z.length=i.size) {cs:List AV}
 (he:mM ((List.range (len*i.size)).map λj=>z.getD (j%i.size) .undef) (ps.map λp=>(p.1*i.size,i.size,p.2.ev fr))=some cs) (hf:FR φ h w fr a.tmps) (hr:HR φ h w):
 gL P (execOp a.eval o) φ h w (.vec h.next 0 len i.size len) (h.alloc (.row cs)):=by
 obtain⟨i',zv,jE,SN,k1,k2,k3⟩:=ue (φ:=φ) hz;obtain rfl:i=i':=by rw[hi] at jE;exact Option.some.inj jE
 have g1:=nN zd
 let zz:Array Value:=if len*i.size=0 then #[] else zv.cells
 have WH:rU φ h.next (Pr φ h w) w ((List.range (len*i.size)).map λj=>z.getD (j%i.size) .undef) ((Array.range (len*i.size)).map (zz[· % zz.size]!)):=by
  refine⟨by simp,λj=>?_,λj hj=>?_⟩
  .by_cases hj:j<len*i.size
   .have nH:0<i.size:=Nat.pos_of_ne_zero λe=>by simp[e] at hj
    have hzz:zz=zv.cells:=if_neg (by omega);have hm:j%i.size<i.size:=Nat.mod_lt _ nH;have:=k2 (j%i.size);simp only[hzz,k1,Oa];simpa[Array.getD,hj,k1,Oa,hm] using this
   .simp[Array.getD,hj];rfl
  .have kP:j<len*i.size:=by simpa using hj
   have nH:0<i.size:=Nat.pos_of_ne_zero λe=>by simp[e] at kP
   have hzz:zz=zv.cells:=if_neg (by omega);have hm:j%i.size<z.length:=by rw[Oa];exact Nat.mod_lt _ nH
   have:=k3 h.next (Pr φ h w) w (j%i.size) hm
   simp only[hzz,k1,Oa];have hm':j%i.size<i.size:=by omega
   simpa[Array.getD,kP,k1,Oa,hm,hm',List.getD] using this
 obtain⟨c',e1,e2,e3,e4⟩:=B4 (φ:=φ) (nx:=h.next) (pr:=Pr φ h w) (w:=w) (λk=>some (k*i.size,i.size)) (ps.map λp=>(p.1*i.size,i.size,p.2.ev fr)) ((parts.map λ(i,x)=>(i,a.eval x)).toList) _ _ cs WH
  (by simp[g1]) (λj hj kP=>by
   have hj1:j<ps.length:=by simpa using hj
   have I6:j<parts.toList.length:=by simpa using kP
   have q:=l9 zd j I6 hj1;obtain⟨x',q1,q2⟩:=Option.map_eq_some_iff.1 q;have q3:=di q1 hf;have q4:ps[j]=((parts.toList[j]).1,x'):=q2.symm;exact⟨by simp[q4],by simpa[q4] using q3⟩) he
 obtain⟨n1,n2⟩:=HX (w':=w.alloc (.cells c' e)) hr rfl rfl rfl rfl (by simp) (λj _=>e3 j) (by omega) e4
 have jn:cs.length=len*i.size:=by
  have:c'.size=len*i.size:=by have:=lL _ _ _ _ e1;simpa using this
  omega
 refine⟨_,_,_,.inl ?_,O7 (.row cs) w.heap.size c'.size len i.size len len (Nat.le_refl _) (Nat.le_refl _) (by omega),n1,n2⟩;unfold execOp;have akd:¬(len*i.size > 2^24):=by omega
 by_cases h0:len*i.size=0
 .simp only[zz,h0,if_true] at e1;have LC:¬(16777216<len*i.size):=by omega
  simp[Array.range_zero'] at e1;simp[ho,Instr.buildSlice,run_underlying ht,kV hi,h0,newRow,Array.range_zero',e1]
 .simp only[zz,h0,if_false] at e1;have LC:¬(16777216<len*i.size):=by omega
  simp at e1;simp[ho,Instr.buildSlice,run_underlying ht,kV hi,zeroValue,typeInfo,hi,SN,LC,h0,newRow,e1]
end
end
section
section
variable {P:Program}{φ:eL}{h:ai}{w:World}{fr:List AV}{a:Act}
theorem uI{id:Nat}{cs:List AV}(he:h.row id=some cs):h.get id=some (.row cs):=by
 unfold ai.row at he;split at he
 .rename_i g;cases he;exact g
 .cases he
theorem yB(hr:HR φ h w){id:Nat}{cs:List AV}(hg:h.get id=some (.row cs))(j:Nat)(hj:j<cs.length):
 ∃v,w.cell? ⟨(φ id).ib,(φ id).base+j,none⟩=some v/\fI φ h w cs[j] v/\v.oneCell'=true:=by
 obtain⟨c,el,fz,h1,h2,h3,h4,h5,h6⟩:=hr.rows id cs hg;have cR:(φ id).base+j<c.size:=by omega
 have e:c.getD ((φ id).base+j) default=c[(φ id).base+j]:=by simp[Array.getD,cR]
 refine⟨c.getD ((φ id).base+j) default,?_,h6 j hj,h5 j (by omega)⟩;unfold World.cell?;simp[h1,e,cR]
theorem ru{t:TypeId}{n:Option Nat}(he:H5 P t=some n)(w:World):
 (isAgg t).run P w=.ok n.isSome w/\∀m,n=some m->∃i,P.info? t=some i/\i.size=m:=by
 unfold H5 at he
 cases hu:P.underlying t with
 |none=>simp[hu] at he
 |some d=>
   rw[hu] at he
   cases d<;>first
    | (simp only[Option.map_eq_some_iff] at he
       obtain⟨i,hi,rfl⟩:=he;exact⟨by simp[isAgg,run_underlying hu],λm hm=>⟨i,hi,by simpa using hm⟩⟩)
    | (simp only[Option.some.injEq] at he
       subst he;exact⟨by simp[isAgg,run_underlying hu],λm hm=>by cases hm⟩)
theorem S5{t:TypeId}{n:Option Nat}(ht:H5 P t=some n){x v:AV}{cx:Value}(hx:fI φ h w x cx)(hr:HR φ h w)(he:P6 h n x=some v):
 ∃ad cv,cx=.pointer (some ad)/\(loadVar t ad).run P w=.ok cv w/\fI φ h w v cv:=by
 obtain⟨hag,kU⟩:=ru ht w
 cases hx with
 |ptr id off cG=>
   unfold P6 at he;dsimp only at he;split at he
   .rename_i cs n tj;have hg:=uI tj;obtain⟨ake,hv⟩:=List.getElem?_eq_some_iff.1 he;obtain⟨cv,c1,c2,c3⟩:=yB hr hg off ake;refine⟨_,cv,rfl,?_,hv▸c2⟩;simp[loadVar,hag,c1]
   .rename_i cs n tj;have hg:=uI tj;split at he
    .rename_i hle;cases he;obtain⟨i,hi,A0⟩:=kU n rfl
     have A1:∀j,j<n->∃cv,w.cell? ⟨(φ id).ib,(φ id).base+off+j,none⟩=some cv/\fI φ h w (cs.getD (off+j) .undef) cv/\cv.oneCell'=true:=by
      intro j hj;obtain⟨cv,c1,c2,c3⟩:=yB hr hg (off+j) (by omega);have cR:off+j<cs.length:=by omega
      exact⟨cv,by rw[Nat.add_assoc];exact c1,by simpa[List.getD,cR] using c2,c3⟩
     let f:Nat->Value:=λj=>(w.cell? ⟨(φ id).ib,(φ id).base+off+j,none⟩).getD default
     have hf:∀j,j<n->w.cell? ((⟨(φ id).ib,(φ id).base+off,none⟩:Addr).add j)=some (f j):=λj hj=>by obtain⟨cv,c1,_⟩:=A1 j hj;rw[Addr.add_lit];simp[f,c1]
     have uY:=run_loadCells (P:=P) w ⟨(φ id).ib,(φ id).base+off,none⟩ n f hf;refine⟨_,.agg ((List.range n).map f).toArray,rfl,?_,.agg _ _ (by simp;omega) (λj=>?_) λj hj=>?_⟩
     .simp[loadVar,hag,kV hi,A0,uY]
     .by_cases hj:j<n
      .obtain⟨cv,c1,c2,c3⟩:=A1 j hj;simpa[Array.getD,hj,f,c1] using c3
      .simp[Array.getD,hj];rfl
     .have kP:j<n:=by simp at hj;omega
      obtain⟨cv,c1,c2,c3⟩:=A1 j kP;have cR:off+j<cs.length:=by omega
      simp[List.getD,cR] at c2;simpa[Array.getD,kP,f,c1] using c2
    .cases he
   .cases he
 |ip cs b o vs hp wi h1 hc hv=>
   unfold P6 at he;dsimp only at he
   cases n with
   |none=>dsimp only at he;obtain⟨h0,rfl⟩:=List.getElem?_eq_some_iff.1 he;have:=hc 0 h0;refine⟨_,vs 0,rfl,?_,hv 0 h0⟩;simp at this;simp[loadVar,hag,this]
   |some n=>
     dsimp only at he;split at he
     .rename_i hle;cases he;obtain⟨i,hi,A0⟩:=kU n rfl
      have hf:∀j,j<n->w.cell? ((⟨b,o,none⟩:Addr).add j)=some (vs j):=λj hj=>by rw[Addr.add_lit];exact hc j (by omega)
      have uY:=run_loadCells (P:=P) w ⟨b,o,none⟩ n vs hf;refine⟨_,.agg ((List.range n).map vs).toArray,rfl,?_,.agg _ _ (by simp;omega) (λj=>?_) λj hj=>?_⟩
      .simp[loadVar,hag,kV hi,A0,uY]
      .by_cases hj:j<n
       .simpa[Array.getD,hj] using h1 j
       .simp[Array.getD,hj];rfl
      .have kP:j<n:=by simp at hj;omega
       have:=hv j (by omega);simpa[Array.getD,kP] using this
     .cases he
 |_=>simp[P6] at he
theorem afc{t:TypeId}{x:Operand}{o:Oper}(ho:o.op=.load t x){x':dU}(hx:iQ x=some x'){n:Option Nat}(ht:H5 P t=some n){v:AV}
 (he:P6 h n (x'.ev fr)=some v) (hf:FR φ h w fr a.tmps) (hr:HR φ h w):gL P (execOp a.eval o) φ h w v h:=by
 obtain⟨ad,cv,e1,e2,e3⟩:=S5 ht (di hx hf) hr he;refine .pure hr ?_ e3;unfold execOp;simp[ho,Instr.loadAt,Instr.sureAddr,e1,e2]
def rN(c:Array Value)(k:Nat):List Value->Array Value
 |[]=>c
 |v::r=>rN (c.setIfInBounds k v) (k+1) r
theorem mq:∀(vs:List Value) (c:Array Value) (k:Nat),(rN c k vs).size=c.size
 |[],_,_=>rfl
 |v::r,c,k=>by simp[rN,mq r]
theorem nG:∀(vs:List Value) (c:Array Value) (k j:Nat),k+vs.length<=c.size->
 (rN c k vs).getD j default=if k<=j/\j<k+vs.length then vs.getD (j-k) default else c.getD j default
 |[],c,k,j,_=>by simp only[rN,List.length_nil];rw[if_neg (by omega)]
 |v::r,c,k,j,hl=>by
   simp only[List.length_cons] at hl;rw[rN,nG r _ _ _ (by simp;omega)];simp only[List.length_cons];by_cases h1:k+1<=j/\j<k+1+r.length
   .rw[if_pos h1,if_pos (by omega)];rw[show j-k=(j-(k+1))+1 by omega,List.getD_cons_succ]
   .rw[if_neg h1];by_cases h2:j=k
    .subst h2;rw[if_pos (by omega)];have:j<c.size:=by omega
     simp[Array.getD,this]
    .rw[if_neg (by omega)];have fy:k≠j:=λe=>h2 e.symm
     rw[Array.getD_eq_getD_getElem?,Array.getD_eq_getD_getElem?,Array.getElem?_setIfInBounds];simp[fy]
theorem mz{b:Nat}{el:TypeId}{fz:Nat×Nat}:∀(vs:List Value) (c:Array Value) (o i:Nat) (w:World),w.heap[b]? =some (.cells c el fz)->o+i+vs.length<=c.size->
 (∀x,x<c.size->¬(fz.1<=x/\x<fz.2))->(∀v∈vs,v.oneCell'=true)->
 ∃w',(storeCells ⟨b,o,none⟩ vs i).run P w=.ok () w'/\w'.heap[b]? =some (.cells (rN c (o+i) vs) el fz)/\w'.heap.size=w.heap.size/\(∀x,x≠b->w'.heap[x]? =w.heap[x]?)/\
   w'.os=w.os/\w'.tape=w.tape/\w'.output=w.output
 |[],c,o,i,w,hb,_,_,_=>⟨w,by simp[storeCells],by simpa[rN] using hb,rfl,λ_ _=>rfl,rfl,rfl,rfl⟩
 |v::r,c,o,i,w,hb,hl,WG,h1=>by
   simp only[List.length_cons] at hl;have cR:o+i<c.size:=by omega
   have nh:w.cell? ⟨b,o+i,none⟩=some c[o+i]:=by unfold World.cell?;simp[hb,cR]
   have EO:w.frozen? ⟨b,o+i,none⟩=false:=by have:=WG (o+i) cR;unfold World.frozen?;simp only[hb];simpa using this
   have BQ:(w.setCell ⟨b,o+i,none⟩ v).heap[b]? =some (.cells (c.setIfInBounds (o+i) v) el fz):=by simp[World.setCell,Array.getElem?_modify,hb]
   obtain⟨w',e1,e2,e3,e4,e5,e6,e7⟩:=mz r (c.setIfInBounds (o+i) v) o (i+1) (w.setCell ⟨b,o+i,none⟩ v) BQ (by simp;omega) (by simpa using WG) (λv hv=>h1 v (by simp[hv]));refine⟨w',?_,by rw[rN,Nat.add_assoc];exact e2,by rw[e3];simp,λx hx=>(e4 x hx).trans ?_,e5,e6,e7⟩
   .unfold storeCells;rw[Sem.run_bind,Addr.add_lit,run_store P w _ v _ (h1 v (by simp))];simp[nh,EO,e1]
   .simp[World.setCell,Array.getElem?_modify,Ne.symm hx]
end
end
section
section
variable {P:Program}{φ:eL}{h:ai}{w:World}{fr:List AV}{a:Act}
theorem FX:∀(vs:List AV) (l:List AV) (k j:Nat),k+vs.length<=l.length->
 (putAt l k vs).getD j .undef=if k<=j/\j<k+vs.length then vs.getD (j-k) .undef else l.getD j .undef
 |[],l,k,j,_=>by simp only[putAt,List.length_nil];rw[if_neg (by omega)]
 |v::r,l,k,j,hl=>by
   simp only[List.length_cons] at hl;rw[putAt,FX r _ _ _ (by simp;omega)];simp only[List.length_cons];by_cases h1:k+1<=j/\j<k+1+r.length
   .rw[if_pos h1,if_pos (by omega)];rw[show j-k=(j-(k+1))+1 by omega,List.getD_cons_succ]
   .rw[if_neg h1];by_cases h2:j=k
    .subst h2;rw[if_pos (by omega)];have:j<l.length:=by omega
     simp[List.getD,this]
    .rw[if_neg (by omega)];have fy:k≠j:=λe=>h2 e.symm
     simp[List.getD,fy]
theorem Gd(hr:HR φ h w){id off:Nat}{cs vs:List AV}{fu:List Value}(hg:h.get id=some (.row cs))(hle:off+vs.length<=cs.length)(fZ:vs.length=fu.length)
 (hv:∀j (h1:j<vs.length) (h2:j<fu.length),fI φ h w vs[j] fu[j]/\fu[j].oneCell'=true):
 ∃w',(storeCells ⟨(φ id).ib,(φ id).base+off,none⟩ fu).run P w=.ok () w'/\HR φ (h.set id (.row (putAt cs off vs))) w'/\Ext φ h w φ (h.set id (.row (putAt cs off vs))) w':=by
 obtain⟨c,el,fz,h1,h2,h3,h4,h5,h6⟩:=hr.rows id cs hg
 obtain⟨w',e1,e2,e3,e4,e5,e6,e7⟩:=mz (P:=P) fu c ((φ id).base+off) 0 w h1 (by omega) h4 (λv hvm=>by obtain⟨j,hj,rfl⟩:=List.getElem_of_mem hvm;exact (hv j (by omega) hj).2)
 obtain⟨t1,t2⟩:=T4 (w':=w') (o':=.row (putAt cs off vs)) hr hg (λe=>by cases e) e3 e4 e5 e6 e7;refine⟨w',e1,t2 (λjt akf=>?_) (λes hes=>by cases hes),t1⟩;cases akf;refine⟨_,el,fz,e2,by rw[mq];exact h2,by rw[yD];exact h3,by rw[mq];exact h4,λj hj=>?_,λj hj=>?_⟩
 .rw[nG _ _ _ _ (by omega)];split
  .rename_i A0;have cR:(φ id).base+j-((φ id).base+off+0)<fu.length:=by omega
   have:=(hv _ (by omega) cR).2;rw[List.getD_eq_getElem?_getD,List.getElem?_eq_getElem cR];exact this
  .exact h5 j hj
 .have kP:j<cs.length:=by rw[yD] at hj;exact hj
  have hp:=FX vs cs off j hle;rw[List.getD_eq_getElem?_getD,List.getElem?_eq_getElem hj,Option.getD_some] at hp;rw[hp,nG _ _ _ _ (by omega)];by_cases A0:off<=j/\j<off+vs.length
  .rw[if_pos A0,if_pos (by omega)];have q1:j-off<vs.length:=by omega
   have q2:(φ id).base+j-((φ id).base+off+0)=j-off:=by omega
   have q3:j-off<fu.length:=by omega
   have:=((hv _ q1 q3).1).ext t1;rw[q2];simpa[List.getD,q1,q3] using this
  .rw[if_neg A0,if_neg (by omega)];have:=(h6 j kP).ext t1;simpa[List.getD,kP] using this
theorem agh{t:TypeId}{x v:Operand}{o:Oper}(ho:o.op=.store t x v){x' v':dU}(hx:iQ x=some x')(hv:iQ v=some v'){i:TypeInfo}(hi:P.info? t=some i)
 {id off:Nat} (hp:x'.ev fr=.ptr id off) {vs cs:List AV} (LX:(v'.ev fr).cells? =some vs) (tj:h.row id=some cs) (fZ:vs.length=i.size) (hle:off+i.size<=cs.length)
 (hf:FR φ h w fr a.tmps) (hr:HR φ h w):gL P (execOp a.eval o) φ h w .undef ((h.set id (.row (putAt cs off vs))).mark id (v'.ev fr)):=by
 have hg:=uI tj;have g1:=di hx hf;rw[hp] at g1;obtain⟨k1,k2,k3⟩:=(di hv hf).cells LX
 obtain⟨w',e1,e2,e3⟩:=Gd (P:=P) (fu:=(a.eval v).cells.toList) hr hg (by omega:off+vs.length<=cs.length) (by simpa using k1.symm) λj q1 q2=>by
  have r1:=k3 j q1;have r2:=k2 j;have hj:j<(a.eval v).cells.size:=by omega
  simp only[Array.getD,hj,dif_pos] at r1 r2;exact⟨by simpa using r1,by simpa using r2⟩
 obtain⟨m1,m2⟩:=e2.mark id (v'.ev fr);refine⟨undef,w',φ,.inr ⟨?_,rfl⟩,.undef _,m1,e3.trans m2⟩
 have hc:a.eval x=.pointer (some ⟨(φ id).ib,(φ id).base+off,none⟩):=by cases hq:a.eval x<;>rw[hq] at g1<;>cases g1;rfl
 unfold execOp;have kU:(a.eval v).cells.size=i.size:=by omega
 simp[ho,Instr.storeAt,Instr.sureAddr,hc,storeVar,kV hi,kU,e1]
theorem NR{x:AV}{cx:Value}(hn:QZ x=some false)(hx:fI φ h w x cx):
 (∃ad,cx=.pointer (some ad))\/(∃t v,cx=.iface t v)\/(∃f c,cx=.func (.func f) #[] c)\/(∃r,cx=.map (some r)):=by
 cases hx<;>simp[QZ] at hn
 .exact .inl ⟨_,rfl⟩
 .exact .inl ⟨_,rfl⟩
 .exact .inr (.inr (.inr ⟨_,rfl⟩))
 .exact .inr (.inr (.inl ⟨_,_,rfl⟩))
 .exact .inr (.inl ⟨_,_,rfl⟩)
theorem abw{x:Operand}{o:Oper}(ho:o.op=.nilCheck x){x':dU}(hx:iQ x=some x')(hn:QZ (x'.ev fr)=some false)
 (hf:FR φ h w fr a.tmps) (hr:HR φ h w):gL P (execOp a.eval o) φ h w (x'.ev fr) h:=by
 have g:=di hx hf;refine .pure hr ?_ g;unfold execOp;rcases NR hn g with⟨ad,e⟩|⟨t,v,e⟩|⟨f,c,e⟩|⟨r,e⟩<;>simp[ho,e]
theorem qx(op:BinOp)(t:TypeId)(x y:Operand){u v:Value}(hu:(∃k n,u=.int k n)\/(∃s,u=.string s)\/(∃b,u=.bool b)):eqGuard op t x y u v=Pure.pure ():=by rcases hu with⟨k,n,rfl⟩|⟨s,rfl⟩|⟨b,rfl⟩<;>cases op<;>rfl
theorem E5(w:World)(op:BinOp)(t:TypeId)(k:IntKind)(x y:Int)(v:AV)(hv:wV op (.int k x) (.int k y)=some v)(hs:op≠.shl/\op≠.shr):
 ∃cv,(binOp op t (.int k x) (.int k y)).run P w=.ok cv w/\∀nx pr,RV φ nx pr w v cv:=by
 cases op<;>simp at hs<;>simp only[wV,if_true] at hv<;>simp only[binOp,ne_eq,not_true,if_false]
 case quo|rem=>
  split at hv
  .cases hv
  .rename_i h0;cases hv;exact⟨_,by simp[Op.intDiv,h0],λ_ _=>.int _ _⟩
 case add|sub|mul=>cases hv;exact⟨_,by simp[Op.intArith],λ_ _=>.int _ _⟩
 case and|or|xor|andNot=>cases hv;exact⟨_,rfl,λ_ _=>.int _ _⟩
 case eql=>cases hv;exact⟨_,rfl,λ_ _=>RV.bool (x==y)⟩
 case neq=>cases hv;exact⟨_,rfl,λ_ _=>RV.bool (!(x==y))⟩
 case lss|leq|gtr|geq=>cases hv;exact⟨_,by simp only[Op.intCmp];rfl,λ_ _=>.bool _⟩
 all_goals (cases hv)
theorem Lf(w:World)(op:BinOp)(t:TypeId)(k k':IntKind)(x y:Int)(v:AV)(hs:op=.shl\/op=.shr)(hv:wV op (.int k x) (.int k' y)=some v):
 ∃cv,(binOp op t (.int k x) (.int k' y)).run P w=.ok cv w/\∀nx pr,RV φ nx pr w v cv:=by
 rcases hs with rfl|rfl<;>simp only[wV] at hv<;>split at hv<;>cases hv
 .rename_i h0;refine⟨.int k (k.wrap (x*2^min y.toNat k.bits)),?_,λ_ _=>.int _ _⟩;show (Op.shift .shl k x k' y).run P w=_;unfold Op.shift;rw[if_neg h0];rfl
 .rename_i h0;refine⟨.int k (x.fdiv (2^min y.toNat k.bits)),?_,λ_ _=>.int _ _⟩;show (Op.shift .shr k x k' y).run P w=_;unfold Op.shift;rw[if_neg h0];rfl
theorem Sc(w:World)(op:BinOp)(t:TypeId)(x y:ByteArray)(v:AV)(hv:wV op (.str x.data.toList) (.str y.data.toList)=some v):
 ∃cv,(binOp op t (.string x) (.string y)).run P w=.ok cv w/\∀nx pr,RV φ nx pr w v cv:=by
 have e:(x.toList==y.toList)=(x.data.toList==y.data.toList):=by rw[ByteArray.toList_eq,ByteArray.toList_eq]
 cases op<;>simp only[wV] at hv
 case add=>
  split at hv
  .rename_i hl;cases hv;refine⟨.string (x++y),?_,λ_ _=>.Ag (by simp[ByteArray.data_append])⟩
   have kU:((x.size+y.size:Nat):Int)<=9223372036854775807:=by have h1:x.data.toList.length=x.size:=Array.length_toList;have h2:y.data.toList.length=y.size:=Array.length_toList;rw[h1,h2] at hl;omega
   have:¬(((x.size+y.size:Nat):Int) > IntKind.i64.max):=by rw[IntKind.max_i64];omega
   show (Op.stringOp .add x y).run P w=_;unfold Op.stringOp;dsimp only;rw[if_neg this];rfl
  .cases hv
 case eql=>cases hv;exact⟨.bool (x.toList==y.toList),rfl,λ_ _=>e▸.bool _⟩
 case neq=>cases hv;exact⟨.bool (!(x.toList==y.toList)),rfl,λ_ _=>e▸.bool _⟩
 case lss=>cases hv;exact⟨.bool (Op.bytesLess x.toList y.toList),rfl,λ_ _=>by rw[ByteArray.toList_eq,ByteArray.toList_eq];exact .bool _⟩
 case leq=>cases hv;exact⟨.bool (Op.bytesLess x.toList y.toList||x.toList==y.toList),rfl,λ_ _=>by rw[ByteArray.toList_eq,ByteArray.toList_eq];exact .bool _⟩
 case gtr=>cases hv;exact⟨.bool (!(Op.bytesLess x.toList y.toList||x.toList==y.toList)),rfl,λ_ _=>by rw[ByteArray.toList_eq,ByteArray.toList_eq];exact .bool _⟩
 case geq=>cases hv;exact⟨.bool (!(Op.bytesLess x.toList y.toList)),rfl,λ_ _=>by rw[ByteArray.toList_eq,ByteArray.toList_eq];exact .bool _⟩
 all_goals (cases hv)
theorem adh{neg:Bool}{t ty:TypeId}{x y:Operand}{o:Oper}(ho:o.op=.binOp (if neg then .neq else .eql) t x y ty){x' y':dU}(hx:iQ x=some x')(hy:iQ y=some y')
 (ht:P.underlying t=some .bool) {u v:Bool} (hu:x'.ev fr=.bool u) (hv:y'.ev fr=.bool v) (hf:FR φ h w fr a.tmps) (hr:HR φ h w):
 gL P (execOp a.eval o) φ h w (.bool (if neg then !(u==v) else u==v)) h:=by
 have g1:=di hx hf;have g2:=di hy hf;rw[hu] at g1;rw[hv] at g2;have hq0:∀d,(Op.equalIn (d+1) t (.bool u) (.bool v)).run P w=.ok (u==v) w:=λd=>by simp[Op.equalIn,run_underlying ht]
 have hq:(Op.equal t (.bool u) (.bool v)).run P w=.ok (u==v) w:=hq0 9999;refine .pure (cv:=.bool (if neg then !(u==v) else u==v)) hr ?_ (.bool _);unfold execOp;cases neg
 .simp only[Bool.false_eq_true,if_false] at ho|-;simp[ho,g1.jd,g2.jd,qx .eql t x y (u:=.bool u) (v:=.bool v) (.inr (.inr ⟨_,rfl⟩)),binOp,hq]
 .simp only[if_true] at ho|-;simp[ho,g1.jd,g2.jd,qx .neq t x y (u:=.bool u) (v:=.bool v) (.inr (.inr ⟨_,rfl⟩)),binOp,hq]
theorem Ts{op:BinOp}{t ty:TypeId}{x y:Operand}{o:Oper}(ho:o.op=.binOp op t x y ty){x' y':dU}(hx:iQ x=some x')(hy:iQ y=some y'){v:AV}(hv:wV op (x'.ev fr) (y'.ev fr)=some v)
 (hf:FR φ h w fr a.tmps) (hr:HR φ h w):gL P (execOp a.eval o) φ h w v h:=by
 have g1:=di hx hf;have g2:=di hy hf
 have key:∃cv,(binOp op t (a.eval x) (a.eval y)).run P w=.ok cv w/\(∀nx pr,RV φ nx pr w v cv)/\((∃k n,a.eval x=.int k n)\/(∃s,a.eval x=.string s)\/(∃b,a.eval x=.bool b)):=by
  cases Ob:x'.ev fr with
  |int k n=>
    cases hy':y'.ev fr with
    |int k' n'=>
      rw[Ob] at g1;rw[hy'] at g2;rw[g1.fG,g2.fG];rw[Ob,hy'] at hv;by_cases hs:op=.shl\/op=.shr
      .obtain⟨cv,e1,e2⟩:=Lf (P:=P) (φ:=φ) w op t k k' n n' v hs hv;exact⟨cv,e1,e2,.inl ⟨_,_,rfl⟩⟩
      .have pC:k=k':=by
        cases op<;>simp at hs<;>simp only[wV] at hv<;>split at hv<;>first|assumption|cases hv
       subst pC;obtain⟨cv,e1,e2⟩:=E5 (P:=P) (φ:=φ) w op t k n n' v hv ⟨λe=>hs (.inl e),λe=>hs (.inr e)⟩;exact⟨cv,e1,e2,.inl ⟨_,_,rfl⟩⟩
    |_=>rw[Ob,hy'] at hv;simp[wV] at hv
  |str s=>
    cases hy':y'.ev fr with
    |str s'=>rw[Ob] at g1;rw[hy'] at g2;obtain⟨b1,q1,q2⟩:=g1.hP;obtain⟨b2,q3,q4⟩:=g2.hP;rw[q1,q3];rw[Ob,hy',<-q2,<-q4] at hv;obtain⟨cv,e1,e2⟩:=Sc (P:=P) (φ:=φ) w op t b1 b2 v hv;exact⟨cv,e1,e2,.inr (.inl ⟨_,rfl⟩)⟩
    |_=>rw[Ob,hy'] at hv;simp[wV] at hv
  |_=>rw[Ob] at hv;simp[wV] at hv
 obtain⟨cv,e1,e2,e3⟩:=key;refine .pure hr ?_ (e2 _ _);unfold execOp;simp[ho,qx op t x y e3,e1]
theorem agB{op:UnOp}{t:TypeId}{x:Operand}{o:Oper}(ho:o.op=.unOp op t x){x':dU}(hx:iQ x=some x'){v:AV}
 (hv:(match (generalizing:=false) op,x'.ev fr with
 |.not,.bool b=>some (AV.bool (!b))
 |.neg,.int k n=>some (.int k (k.wrap (0-n)))
 |.xor,.int k n=>some (.int k (Gr .xor k (if k.signed then -1 else k.max) n))
 |_,_=>none)=some v) (hf:FR φ h w fr a.tmps) (hr:HR φ h w):gL P (execOp a.eval o) φ h w v h:=by
 have g:=di hx hf;split at hv
 .rename_i b hb;cases hv;rw[hb] at g;exact .pure (cv:=.bool (!b)) hr (by unfold execOp;simp[ho,g.jd,Op.unary]) (.bool _)
 .rename_i k n hb;cases hv;rw[hb] at g;exact .pure (cv:=.int k (k.wrap (0-n))) hr (by unfold execOp;simp[ho,g.fG,Op.unary,Op.intArith]) (.int _ _)
 .rename_i k n hb;cases hv;rw[hb] at g;refine .pure (cv:=.int k (Gr .xor k (if k.signed then -1 else k.max) n)) hr ?_ (.int _ _);unfold execOp;simp only[ho,g.fG,Op.unary];rfl
 .cases hv
theorem abm{s d:TypeId}{x:Operand}{o:Oper}(ho:o.op=.convert s d x){x':dU}(hx:iQ x=some x'){k0 k:IntKind}(hs:P.underlying s=some (.int k0))(hd:P.underlying d=some (.int k))
 {k':IntKind} {n:Int} (hv:x'.ev fr=.int k' n) (hf:FR φ h w fr a.tmps) (hr:HR φ h w):gL P (execOp a.eval o) φ h w (.int k (k.wrap n)) h:=by
 have g:=di hx hf;rw[hv] at g;exact .pure (cv:=.int k (k.wrap n)) hr (by unfold execOp;simp[ho,g.fG,convert,run_underlying hs,run_underlying hd,Conv.intToInt]) (.int _ _)
theorem abH{f:Nat}{bC:Array Operand}{first:Array Operand}{o:Oper}(ho:o.op=.makeFunc (.func f) first bC)(h0:first.isEmpty=true){WI:List dU}(hc:pF bC=some WI)
 (hf:FR φ h w fr a.tmps) (hr:HR φ h w):gL P (execOp a.eval o) φ h w (.fn f (WI.map (·.ev fr))) h:=by
 obtain⟨g1,g2⟩:=Py hc hf;have h0':first=#[]:=by simpa using h0
 refine .pure (cv:=.func (.func f) #[] (bC.map a.eval)) hr (by unfold execOp;simp[ho,Instr.makeFunc,h0']) (.fn _ _ _ (by simpa using g1) λj hj=>?_);have:=g2 j (by simpa using hj);have kP:j<WI.length:=by simpa using hj
 simpa[List.getD,kP] using this
theorem ac8{s:TypeId}{x:Operand}{k:Nat}{o:Oper}(ho:o.op=.fieldAddr s x k){x':dU}(hx:iQ x=some x'){fs:Array Field}(hs:P.underlying s=some (.struct fs)){fd:Field}(hfd:fs[k]? =some fd)
 {i:TypeInfo} (hi:P.info? fd.type=some i) (h0:i.size≠0) {v:AV} (hv:(match x'.ev fr with|.ptr id o=>some (AV.ptr id (o+fd.offset))|.ip cs=>some (.ip (cs.drop fd.offset))|_=>none)=some v)
 (hf:FR φ h w fr a.tmps) (hr:HR φ h w):gL P (execOp a.eval o) φ h w v h:=by
 have g:=di hx hf
 have key:∀ad:Addr,a.eval x=.pointer (some ad)->(execOp a.eval o).run P w=.ok (.value (.pointer (some (ad.add fd.offset)))) w:=λad he=>by unfold execOp;simp[ho,Instr.fieldAt,run_underlying hs,hfd,Instr.sureAddr,he,fieldPlace,kV hi,h0]
 split at hv
 .rename_i id off he;cases hv;rw[he] at g;obtain⟨hq,cG⟩:=g.vi;refine .pure hr (key _ hq) ?_;rw[Addr.add_lit,Nat.add_assoc];exact .ptr _ _ cG
 .rename_i cs he;cases hv;rw[he] at g;obtain⟨b,o,vs,hq,hp,wi,h1,hc,hv⟩:=g.M0;refine .pure hr (key _ hq) ?_;rw[Addr.add_lit];refine .ip _ _ _ (λj=>vs (fd.offset+j)) hp ?_ (λj=>h1 _) (λj hj=>?_) λj hj=>?_
  .have:AV.aw (cs.drop fd.offset)<=0:=AV.kI λv hv=>by
    have:=AV.dk (List.mem_of_mem_drop hv);omega
   omega
  .have:=hc (fd.offset+j) (by simp at hj;omega);rw[Nat.add_assoc];exact this
  .have:=hv (fd.offset+j) (by simp at hj;omega);simpa using this
 .cases hv
theorem abS{x:Operand}{k:Nat}{o:Oper}(ho:o.op=.extract x k){x':dU}(hx:iQ x=some x'){vs:List AV}(hv:x'.ev fr=.tuple vs){v:AV}(hk:vs[k]? =some v)
 (hf:FR φ h w fr a.tmps) (hr:HR φ h w):gL P (execOp a.eval o) φ h w v h:=by
 have g:=di hx hf;rw[hv] at g;obtain⟨cR,rfl⟩:=List.getElem?_eq_some_iff.1 hk;obtain⟨fu,hq,hl,LB⟩:=g.vI;have SH:k<fu.size:=by omega
 have:=LB k cR;simp only[Array.getD,SH,dif_pos] at this;refine .pure (cv:=fu[k]) hr ?_ (by simpa using this);unfold execOp;simp[ho,hq,Instr.extract,SH]
end
end
section
section
variable {P:Program}{φ:eL}{h:ai}{w:World}{fr:List AV}{a:Act}
theorem Uu{t:TypeId}{n:Option Nat}(ht:H5 P t=some n)(cs:Array Value)(off:Nat)(w:World):
 (n=none->∀v,cs[off]? =some v->(part t cs off).run P w=.ok v w)/\(∀m,n=some m->(part t cs off).run P w=.ok (.agg (cs.extract off (off+m))) w):=by
 obtain⟨hag,kU⟩:=ru ht w;refine⟨λe v hv=>?_,λm e=>?_⟩
 .subst e;simp[part,hag,hv]
 .subst e;obtain⟨i,hi,him⟩:=kU m rfl;simp[part,hag,kV hi,him]
theorem Ue{t:TypeId}{x:Operand}{k:Nat}{o:Oper}(ho:o.op=.field t x k){x':dU}(hx:iQ x=some x'){fs:Array Field}(hs:P.underlying t=some (.struct fs)){fd:Field}(hfd:fs[k]? =some fd)
 {n:Option Nat} (hn:H5 P fd.type=some n) {cs:List AV} (hv:x'.ev fr=.agg cs) {v:AV}
 (he:(match (generalizing:=false) n with|none=>cs[fd.offset]? |some n=>if fd.offset+n<=cs.length then some (.agg ((cs.drop fd.offset).take n)) else none)=some v)
 (hf:FR φ h w fr a.tmps) (hr:HR φ h w):gL P (execOp a.eval o) φ h w v h:=by
 have g:=di hx hf;rw[hv] at g;obtain⟨fu,hq,hl,h1,LB⟩:=g.pL;obtain⟨p1,p2⟩:=Uu hn fu fd.offset w;split at he
 .obtain⟨cR,rfl⟩:=List.getElem?_eq_some_iff.1 he;have SH:fd.offset<fu.size:=by omega
  have:=LB fd.offset cR;simp only[Array.getD,SH,dif_pos] at this;refine .pure (cv:=fu[fd.offset]) hr ?_ (by simpa using this);unfold execOp;simp[ho,hq,Instr.field,run_underlying hs,hfd,asAgg,p1 rfl _ (Array.getElem?_eq_getElem SH)]
 .rename_i n;split at he
  .rename_i hle;cases he;refine .pure (cv:=.agg (fu.extract fd.offset (fd.offset+n))) hr ?_ (.agg _ _ (by simp;omega) (λj=>?_) λj hj=>?_)
   .unfold execOp;simp[ho,hq,Instr.field,run_underlying hs,hfd,asAgg,p2 n rfl]
   .have:=h1 (fd.offset+j);by_cases hj:j<n
    .have q:fd.offset+j<fu.size:=by omega
     have q2:j<min (fd.offset+n) fu.size-fd.offset:=by omega
     simpa[Array.getD,q,q2] using this
    .have q2:¬j<min (fd.offset+n) fu.size-fd.offset:=by omega
     simp[Array.getD,q2];rfl
   .have kP:j<n:=by simp at hj;omega
    have:=LB (fd.offset+j) (by omega);have q:fd.offset+j<fu.size:=by omega
    have q2:j<min (fd.offset+n) fu.size-fd.offset:=by omega
    simpa[Array.getD,q,q2] using this
  .cases he
theorem abW{t:TypeId}{x i:Operand}{o:Oper}(ho:o.op=.index t x i){x' i':dU}(hx:iQ x=some x')(hi:iQ i=some i')(ht:P.underlying t=some .string)
 {s:List UInt8} {k:IntKind} {n:Int} (hs:x'.ev fr=.str s) (hn:i'.ev fr=.int k n) (h0:0<=n) {b:UInt8} (hb:s[n.toNat]? =some b)
 (hf:FR φ h w fr a.tmps) (hr:HR φ h w):gL P (execOp a.eval o) φ h w (.int .u8 b.toNat) h:=by
 have g1:=di hx hf;have g2:=di hi hf;rw[hs] at g1;rw[hn] at g2;obtain⟨c,q1,q2⟩:=g1.hP;refine .pure (cv:=.int .u8 b.toNat) hr ?_ (.int _ _)
 have hcb:c[n.toNat]? =some b:=by
  rw[<-q2] at hb;obtain⟨hl,e⟩:=List.getElem?_eq_some_iff.1 hb;have BP:n.toNat<c.size:=by rw[Array.length_toList] at hl;exact hl
  rw[getElem?_pos c n.toNat BP];rw[<-e];rfl
 unfold execOp;simp[ho,q1,g2.fG,Instr.index,asIntOf,run_underlying ht,h0,hcb]
theorem aca{t e:TypeId}{x i:Operand}{o:Oper}(ho:o.op=.indexAddr t x i){x' i':dU}(hx:iQ x=some x')(hi:iQ i=some i')(ht:P.underlying t=some (.slice e)){inf:TypeInfo}(ad3:P.info? e=some inf)
 {v:AV} {h':ai} (he:(match x'.ev fr,i'.ev fr with
 |.sl xs,.int _ i=>if 0<=i then (match xs[i.toNat]? with
  |some v=>(match v.cells? with
    |some cs=>if cs.length=inf.size then some (.ip cs,h) else none
    |none=>none)
  |none=>none) else none
 |.vec id off len s _,.int _ i=>if 0<=i/\i<len/\s=inf.size then some (.ptr id (off+i.toNat*inf.size),h) else none
 |_,_=>none)=some (v,h'))
 (hf:FR φ h w fr a.tmps) (hr:HR φ h w):gL P (execOp a.eval o) φ h w v h':=by
 have g1:=di hx hf;have g2:=di hi hf
 have ag2:∀k n,a.eval i=.int k n->∀ad len cap,a.eval x=.slice (some ad) len cap->0<=n->n<(len:Int)->
  (execOp a.eval o).run P w=.ok (.value (.pointer (some (ad.add (n.toNat*inf.size))))) w:=λk n e1 ad len cap e2 h0 cR=>by
  unfold execOp;simp[ho,e1,e2,Instr.indexAt,asIntOf,run_underlying ht,h0,cR,kV ad3]
 split at he
 .rename_i xs k n e1 e2;rw[e1] at g1;rw[e2] at g2;split at he
  .rename_i h0;split at he
   .rename_i y hy;split at he
    .rename_i cs oC;split at he
     .rename_i kU;cases he;obtain⟨cR,hyx⟩:=List.getElem?_eq_some_iff.1 hy;rcases g1.uA with⟨_,_,rfl,_⟩|⟨b,o,cap,sz,vs,hq,hp,mW,wi,h1,akg,hc,hv⟩
      .simp at cR
      .refine .pure hr (ag2 k n g2.fG _ _ _ hq h0 (by omega)) ?_;have hs1:=akg n.toNat cR;rw[hyx,oC] at hs1;simp only[Option.map_some,Option.some.injEq] at hs1
       have pE:y.cells=cs:=by cases y<;>simp[AV.cells?] at oC<;>simp[AV.cells,oC]
       rw[Addr.add_lit];refine .ip _ _ _ (λj=>vs n.toNat j) hp ?_ (λj=>h1 _ _) (λj hj=>?_) λj hj=>?_
       .have h2:AV.aw cs=y.aK:=by cases y<;>simp[AV.cells?] at oC<;>subst oC<;>simp[AV.aK,AV.aw]
        have h3:=AV.dk (List.getElem_mem cR);rw[hyx] at h3;omega
       .have:=hc n.toNat j cR (by omega);rw[<-kU,hs1];exact this
       .have:=hv n.toNat cR j (by rw[hyx,pE];exact hj);simpa[hyx,pE] using this
     .cases he
    .cases he
   .cases he
  .cases he
 .rename_i id off len s lb k n e1 e2;rw[e1] at g1;rw[e2] at g2;split at he
  .rename_i hh;obtain⟨h0,cR,hs⟩:=hh;cases he;obtain⟨cap,ad,hq,cG,hl,_,ze,ha⟩:=g1.lR;have mW:0<cap:=by omega
   have had:=ha mW;subst had;refine .pure hr (ag2 k n g2.fG _ _ _ hq h0 cR) ?_;rw[Addr.add_lit,Nat.add_assoc];exact .ptr _ _ cG
  .cases he
 .cases he
theorem AH{n cap:Nat}{lo hi:Option AV}{l u:Nat}(he:sliceB n lo hi=some (l,u))(hnc:n<=cap)(ag3:Bool){Ba Qc:Option Value}
 (IN:(lo=none/\Ba=none)\/∃x cx,lo=some x/\Ba=some cx/\fI φ h w x cx) (Qd:(hi=none/\Qc=none)\/∃x cx,hi=some x/\Qc=some cx/\fI φ h w x cx) (w':World):
 (Instr.sliceBounds ag3 n cap Ba Qc none).run P w'=.ok (l,u,cap) w'/\l<=u/\u<=n:=by
 unfold sliceB at he;split at he
 .cases he
 .rename_i u' LD;split at he
  .cases he
  .rename_i l' BP;cases he
   have hu:u<=n/\((Qc=none/\u=n)\/∃v,Qc=some v/\(Instr.sliceBound v cap (if ag3 then .sliceAcap else .sliceAlen)).run P w'=.ok u w'):=by
    rcases Qd with⟨rfl,rfl⟩|⟨x,cx,rfl,rfl,hx⟩
    .simp at LD;exact⟨by omega,.inl ⟨rfl,LD.symm⟩⟩
    .split at LD
     .rename_i e;cases e
     .rename_i k i e;cases e;split at LD
      .rename_i hc;cases LD;refine⟨by omega,.inr ⟨cx,rfl,?_⟩⟩;rw[hx.fG];have h2:i<=(cap:Int):=by omega
       simp[Instr.sliceBound,asIntOf,hc.1,h2]
      .cases LD
     .cases LD
   have hl:l<=u/\((Ba=none/\l=0)\/∃v,Ba=some v/\(Instr.sliceBound v u .sliceB).run P w'=.ok l w'):=by
    rcases IN with⟨rfl,rfl⟩|⟨x,cx,rfl,rfl,hx⟩
    .simp at BP;exact⟨by omega,.inl ⟨rfl,BP.symm⟩⟩
    .split at BP
     .rename_i e;cases e
     .rename_i k i e;cases e;split at BP
      .rename_i hc;cases BP;refine⟨by omega,.inr ⟨cx,rfl,?_⟩⟩;rw[hx.fG];simp[Instr.sliceBound,asIntOf,hc.1,hc.2]
      .cases BP
     .cases BP
   refine⟨?_,hl.1,hu.1⟩;rcases hu.2 with⟨rfl,rfl⟩|⟨v,rfl,h1⟩<;>rcases hl.2 with⟨rfl,rfl⟩|⟨v2,rfl,h2⟩
   .simp[Instr.sliceBounds]
   .simp[Instr.sliceBounds,h2]
   .simp[Instr.sliceBounds,h1]
   .simp[Instr.sliceBounds,h1,h2]
theorem ki{x:Option Operand}{x':Option dU}(he:BI x=some x')(hf:FR φ h w fr a.tmps):
 (x'.map (·.ev fr)=none/\x.map a.eval=none)\/∃y cy,x'.map (·.ev fr)=some y/\x.map a.eval=some cy/\fI φ h w y cy:=by
 cases x with
 |none=>simp[BI] at he;subst he;exact .inl ⟨rfl,rfl⟩
 |some x=>simp only[BI,Option.map_eq_some_iff] at he;obtain⟨y,hy,rfl⟩:=he;exact .inr ⟨_,_,rfl,rfl,di hy hf⟩
theorem abt{t:TypeId}{x:Operand}{lo hi:Option Operand}{o:Oper}(ho:o.op=.slice t x lo hi none){x':dU}{SG jE:Option dU}(hx:iQ x=some x')(IN:BI lo=some SG)(Qd:BI hi=some jE)
 (ht:P.underlying t=some .string) {s:List UInt8} (hs:x'.ev fr=.str s) {l u:Nat} (he:sliceB s.length (SG.map (·.ev fr)) (jE.map (·.ev fr))=some (l,u))
 (hf:FR φ h w fr a.tmps) (hr:HR φ h w):gL P (execOp a.eval o) φ h w (.str ((s.take u).drop l)) h:=by
 have g:=di hx hf;rw[hs] at g;obtain⟨c,q1,q2⟩:=g.hP;have fZ:s.length=c.size:=by rw[<-q2,Array.length_toList];rfl
 obtain⟨e1,e2,e3⟩:=AH (P:=P) (cap:=s.length) he (Nat.le_refl _) false (ki IN hf) (ki Qd hf) w;rw[fZ] at e1;refine .pure (cv:=.string (c.extract l u)) hr ?_ (.Ag ?_)
 .unfold execOp;simp[ho,q1,Instr.sliceAt,run_underlying ht,Instr.slice,e1]
 .rw[ByteArray.data_extract,<-q2,Array.toList_extract,List.extract_eq_take_drop,List.drop_take]
theorem Zq{t:TypeId}{x:Operand}{o:Oper}(ho:o.op=.call {callee:=.builtin .len,args:=#[x],argTypes:=#[t]}){x':dU}(hx:iQ x=some x')(ht:P.underlying t=some .string)
 {s:List UInt8} (hs:x'.ev fr=.str s) (hf:FR φ h w fr a.tmps) (hr:HR φ h w):gL P (execOp a.eval o) φ h w (.int .i64 s.length) h:=by
 have g:=di hx hf;rw[hs] at g;obtain⟨c,q1,q2⟩:=g.hP;have fZ:s.length=c.size:=by rw[<-q2,Array.length_toList];rfl
 refine .pure (cv:=.int .i64 c.size) hr ?_ (by rw[fZ];exact .int _ _);unfold execOp;simp[ho,resolve,invoke,builtin,q1,Builtin.len_,run_underlying ht,goInt]
theorem Zl{t e:TypeId}{x:Operand}{o:Oper}(ho:o.op=.call {callee:=.builtin .len,args:=#[x],argTypes:=#[t]}){x':dU}(hx:iQ x=some x')(ht:P.underlying t=some (.slice e))
 {v:AV} {h':ai} (he:(match x'.ev fr with
 |.aJ=>some (AV.int .i64 0,h)
 |.sl xs=>some (.int .i64 xs.length,h)
 |.vec _ _ n _ _=>some (.int .i64 n,h)
 |_=>none)=some (v,h')) (hf:FR φ h w fr a.tmps) (hr:HR φ h w):gL P (execOp a.eval o) φ h w v h':=by
 have g:=di hx hf
 have key:∀ad n c,a.eval x=.slice ad n c->(execOp a.eval o).run P w=.ok (.value (.int .i64 n)) w:=λad n c hq=>by unfold execOp;simp[ho,resolve,invoke,builtin,hq,Builtin.len_,run_underlying ht,goInt]
 split at he
 .rename_i e1;cases he;rw[e1] at g;obtain⟨ad,hq⟩:=g.py;exact .pure hr (key _ _ _ hq) (.int _ _)
 .rename_i xs e1;cases he;rw[e1] at g;rcases g.uA with⟨ad,cap,rfl,hq⟩|⟨b,o,cap,sz,vs,hq,_⟩
  .exact .pure hr (key _ _ _ hq) (.int _ _)
  .exact .pure hr (key _ _ _ hq) (.int _ _)
 .rename_i e1;cases he;rw[e1] at g;obtain⟨cap,ad,hq,_⟩:=g.lR;exact .pure hr (key _ _ _ hq) (.int _ _)
 .cases he
theorem afJ{ts:Array TypeId}{x y:Operand}{o:Oper}(ho:o.op=.call {callee:=.builtin .max,args:=#[x,y],argTypes:=ts}){x' y':dU}(hx:iQ x=some x')(hy:iQ y=some y')
 {k k':IntKind} {m n:Int} (h1:x'.ev fr=.int k m) (h2:y'.ev fr=.int k' n) (hf:FR φ h w fr a.tmps) (hr:HR φ h w):gL P (execOp a.eval o) φ h w (.int k (if m<n then n else m)) h:=by
 have g1:=di hx hf;have g2:=di hy hf;rw[h1] at g1;rw[h2] at g2;refine .pure (cv:=.int k (if m<n then n else m)) hr ?_ (.int _ _);unfold execOp;simp[ho,resolve,invoke,builtin,g1.fG,g2.fG,Builtin.max_,Builtin.max2]
theorem aeR{ts:Array TypeId}{x y:Operand}{o:Oper}(ho:o.op=.call {callee:=.builtin .min,args:=#[x,y],argTypes:=ts}){x' y':dU}(hx:iQ x=some x')(hy:iQ y=some y')
 {k k':IntKind} {m n:Int} (h1:x'.ev fr=.int k m) (h2:y'.ev fr=.int k' n) (hf:FR φ h w fr a.tmps) (hr:HR φ h w):gL P (execOp a.eval o) φ h w (.int k (if n<m then n else m)) h:=by
 have g1:=di hx hf;have g2:=di hy hf;rw[h1] at g1;rw[h2] at g2;refine .pure (cv:=.int k (if n<m then n else m)) hr ?_ (.int _ _);unfold execOp;simp[ho,resolve,invoke,builtin,g1.fG,g2.fG,Builtin.min_,Builtin.min2]
end
end
section
section
variable {P:Program}{φ:eL}{h:ai}{w:World}{fr:List AV}{a:Act}
abbrev YX(φ:eL)(h:ai)(w:World)(x:Option AV)(cx:Option Value):Prop:=(x=none/\cx=none)\/∃y cy,x=some y/\cx=some cy/\fI φ h w y cy
theorem NT{n cap:Nat}{lo:Option AV}{hi:AV}{l u:Nat}(he:sliceB n lo (some hi)=some (l,u)){Ba:Option Value}{Qc:Value}{mk:IntKind}(hnc:n<=cap)
 (IN:YX φ h w lo Ba) (Qd:fI φ h w hi Qc) (w':World):
 (Instr.sliceBounds true cap cap Ba (some Qc) (some (.int mk n))).run P w'=.ok (l,u,n) w'/\l<=u/\u<=n:=by
 unfold sliceB at he;split at he
 .cases he
 .rename_i u' LD;split at he
  .cases he
  .rename_i l' BP;cases he
   have hm:(Instr.sliceBound (.int mk n) cap .slice3Acap).run P w'=.ok n w':=by
    have:(n:Int)<=cap:=by omega
    simp[Instr.sliceBound,asIntOf,this]
   have hu:u<=n/\(Instr.sliceBound Qc n .slice3B).run P w'=.ok u w':=by
    split at LD
    .rename_i e;cases e
    .rename_i k i e;cases e;split at LD
     .rename_i hc;cases LD;refine⟨by omega,?_⟩;rw[Qd.fG];simp[Instr.sliceBound,asIntOf,hc.1,hc.2]
     .cases LD
    .cases LD
   have hl:l<=u/\((Ba=none/\l=0)\/∃v,Ba=some v/\(Instr.sliceBound v u .slice3C).run P w'=.ok l w'):=by
    rcases IN with⟨rfl,rfl⟩|⟨x,cx,rfl,rfl,hx⟩
    .simp at BP;exact⟨by omega,.inl ⟨rfl,BP.symm⟩⟩
    .split at BP
     .rename_i e;cases e
     .rename_i k i e;cases e;split at BP
      .rename_i hc;cases BP;refine⟨by omega,.inr ⟨cx,rfl,?_⟩⟩;rw[hx.fG];simp[Instr.sliceBound,asIntOf,hc.1,hc.2]
      .cases BP
     .cases BP
   refine⟨?_,hl.1,hu.1⟩;have h1:=hu.2;rcases hl.2 with⟨rfl,rfl⟩|⟨v2,rfl,h2⟩
   .simp[Instr.sliceBounds,hm,h1]
   .simp[Instr.sliceBounds,hm,h1,h2]
theorem vq{n lb cap:Nat}{lo hi mx:Option AV}{l u:Nat}{m:Option Nat}(he:jc n lb lo hi mx=some (l,u,m))(hn:n<=cap)(xH:lb<=cap){Ba Qc cmx:Option Value}
 (IN:YX φ h w lo Ba) (Qd:YX φ h w hi Qc) (LF:YX φ h w mx cmx) (w':World):
 (Instr.sliceBounds true n cap Ba Qc cmx).run P w'=.ok (l,u,m.getD cap) w'/\l<=u/\u<=m.getD cap/\m.getD cap<=cap/\u<=max n lb/\∀k,m=some k->u<=k/\k<=max n lb:=by
 unfold jc at he;split at he
 .rename_i k i;split at he
  .rename_i hc;split at he
   .rename_i hv;obtain⟨p,hp,e⟩:=Option.map_eq_some_iff.1 he;obtain⟨p1,p2⟩:=p;cases e;rcases LF with⟨e,_⟩|⟨y,cy,e,rfl,hy⟩
    .cases e
    .cases e;rcases Qd with⟨e,_⟩|⟨z,cz,e,rfl,hz⟩
     .cases e
     .cases e;obtain⟨e1,e2,e3⟩:=NT (P:=P) (mk:=k) (cap:=cap) hp (by omega) IN hz w';have hcy:=hy.fG;have jE:((i.toNat:Nat):Int)=i:=Int.toNat_of_nonneg hc.1;rw[jE] at e1;refine⟨?_,e2,e3,by simp;omega,by omega,λk hk=>by cases hk;omega⟩;rw[hcy];simp only[Instr.sliceBounds] at e1|-;exact e1
   .cases he
  .cases he
 .cases he
 .rename_i hmn;rcases LF with⟨_,rfl⟩|⟨y,cy,e,_⟩
  .split at he
   .obtain⟨p,hp,e⟩:=Option.map_eq_some_iff.1 he;obtain⟨p1,p2⟩:=p;cases e;rcases Qd with⟨_,rfl⟩|⟨z,cz,e,_⟩
    .obtain⟨e1,e2,e3⟩:=AH (P:=P) (φ:=φ) (h:=h) (w:=w) (cap:=cap) (Ba:=Ba) (Qc:=none) hp hn true IN (.inl ⟨rfl,rfl⟩) w';exact⟨e1,e2,by simp;omega,by simp,by omega,λk hk=>by cases hk⟩
    .cases e
   .rename_i hv;obtain⟨p,hp,e⟩:=Option.map_eq_some_iff.1 he;obtain⟨p1,p2⟩:=p;cases e;rcases Qd with⟨e,_⟩|⟨z,cz,e,rfl,hz⟩
    .cases e
    .cases e;obtain⟨e1,e2,e3⟩:=AH (P:=P) (φ:=φ) (h:=h) (w:=w) (cap:=cap) (Ba:=Ba) (Qc:=some cz) hp (by omega) true IN (.inr ⟨_,_,rfl,rfl,hz⟩) w';refine⟨?_,e2,by simp;omega,by simp,by omega,λk hk=>by cases hk⟩;simp only[Instr.sliceBounds] at e1|-;exact e1
  .cases e
theorem abY{t e:TypeId}{x:Operand}{lo hi mx:Option Operand}{o:Oper}(ho:o.op=.slice t x lo hi mx){x':dU}{SG jE mx':Option dU}(hx:iQ x=some x')(IN:BI lo=some SG)(Qd:BI hi=some jE)(LF:BI mx=some mx')
 (ht:P.underlying t=some (.slice e)) {i:TypeInfo} (ad3:P.info? e=some i) {v:AV} {h':ai}
 (he:(match x'.ev fr with
  |.aJ=>(jc 0 0 (SG.map (·.ev fr)) (jE.map (·.ev fr)) (mx'.map (·.ev fr))).map λ_=>(AV.aJ,h)
  |.sl xs=>if (xs.all λx=>(x.cells?.map List.length)==some i.size) then
   (jc xs.length xs.length (SG.map (·.ev fr)) (jE.map (·.ev fr)) (mx'.map (·.ev fr))).map λp=>(if p.2.2=some p.1 then .aJ else .sl ((xs.take p.2.1).drop p.1),h) else none
  |.vec id off len s lb=>if s=i.size then
   (jc len lb (SG.map (·.ev fr)) (jE.map (·.ev fr)) (mx'.map (·.ev fr))).map λp=>(if p.2.2=some p.1 then .aJ else .vec id (off+p.1*i.size) (p.2.1-p.1) i.size (p.2.2.getD lb-p.1),h) else none
  |_=>none)=some (v,h')) (hf:FR φ h w fr a.tmps) (hr:HR φ h w):gL P (execOp a.eval o) φ h w v h':=by
 have g:=di hx hf
 have key:∀ad n c l u m,a.eval x=.slice ad n c->(Instr.sliceBounds true n c (lo.map a.eval) (hi.map a.eval) (mx.map a.eval)).run P w=.ok (l,u,m) w->
  (execOp a.eval o).run P w=.ok (.value (.slice (if m=l then ad else ad.map (·.add (l*i.size))) (u-l) (m-l))) w:=λad n c l u m hq hb=>by
  unfold execOp;simp[ho,Instr.sliceAt,run_underlying ht,Instr.slice,hq,hb,kV ad3]
 split at he
 .rename_i e1;rw[e1] at g;obtain⟨ad,hq⟩:=g.py;obtain⟨⟨l,u,m⟩,hp,e2⟩:=Option.map_eq_some_iff.1 he;cases e2;obtain⟨b1,b2,b3,b4,_⟩:=vq (P:=P) (cap:=0) hp (Nat.le_refl _) (Nat.le_refl _) (ki IN hf) (ki Qd hf) (ki LF hf) w;have hk:=key _ _ _ _ _ _ hq b1;have:m.getD 0-l=0/\u-l=0:=by omega
  rw[this.1,this.2] at hk;exact .pure hr hk (.aJ _)
 .rename_i xs e1;rw[e1] at g;split at he
  .rename_i nY;obtain⟨⟨l,u,m⟩,hp,e2⟩:=Option.map_eq_some_iff.1 he;simp only[Prod.mk.injEq] at e2;obtain⟨e3,rfl⟩:=e2;rcases g.uA with⟨ad,cap,rfl,hq⟩|⟨b,o',cap,sz,vs,hq,SF,mW,wi,h1,kU,hc,hv⟩
   .obtain⟨b1,b2,b3,b4,b5,b6⟩:=vq (P:=P) (cap:=cap) hp (Nat.zero_le _) (Nat.zero_le _) (ki IN hf) (ki Qd hf) (ki LF hf) w;have hk:=key _ _ _ _ _ _ hq b1;simp only[List.length_nil,Nat.max_self,Nat.le_zero] at b5;subst b5;obtain rfl:l=0:=by omega
    split at e3
    .rename_i hm;subst e3;rw[hm] at hk;simp at hk;exact .pure hr hk (.aJ _)
    .subst e3;simp only[List.take_nil,List.drop_nil];rw[Nat.sub_self] at hk;exact .pure hr hk (.slnil _ _)
   .obtain⟨b1,b2,b3,b4,b5,b6⟩:=vq (P:=P) (cap:=cap) hp mW mW (ki IN hf) (ki Qd hf) (ki LF hf) w;have hk:=key _ _ _ _ _ _ hq b1;rw[Nat.max_self] at b5;split at e3
    .rename_i hm;subst e3;have b7:=b6 l hm;rw[hm] at hk;have:u-l=0:=by omega
     simp[this] at hk;exact .pure hr hk (.aJ _)
    .rename_i hm;subst e3;by_cases h0:u=l
     .have ag5:(xs.take u).drop l=[]:=by rw[List.drop_eq_nil_iff];simp;omega
      rw[ag5];rw[h0,Nat.sub_self] at hk;exact .pure hr hk (.slnil _ _)
     .have fZ:((xs.take u).drop l).length=u-l:=by simp;omega
      have tO:∀j (hj:j<((xs.take u).drop l).length),((xs.take u).drop l)[j]=xs[l+j]'(by omega):=λj hj=>by simp
      have fy:m.getD cap≠l:=λe=>h0 (by omega)
      rw[if_neg fy] at hk;simp only[Option.map_some,Addr.add_lit] at hk;rw[<-fZ] at hk;have WJ:0<xs.length:=by omega
      have akh:sz=i.size:=by have q1:=kU 0 WJ;have q2:=List.all_eq_true.1 nY xs[0] (List.getElem_mem WJ);rw[q1] at q2;simpa using q2
      subst akh;refine .pure hr hk (.sl _ b _ _ i.size (λk j=>vs (l+k) j) SF (by omega) ?_ (λk j=>h1 _ _) (λk A2=>?_) (λk j A2 hj=>?_) λk A2 j hj=>?_)
      .have:AV.aw ((xs.take u).drop l)<=0:=AV.kI λy hy=>by
        have:=AV.dk (List.mem_of_mem_take (List.mem_of_mem_drop hy));omega
       omega
      .rw[tO k A2];exact kU _ _
      .have:=hc (l+k) j (by omega) hj;rw[<-this];congr 2;rw[Nat.add_mul];omega
      .have e4:=tO k A2;have kP:j<(xs[l+k]'(by omega)).cells.length:=by rw[<-e4];exact hj
       have:=hv (l+k) (by omega) j kP;simpa[e4] using this
  .cases he
 .rename_i id off len s lb e1;rw[e1] at g;split at he
  .rename_i hs;subst hs;obtain⟨⟨l,u,m⟩,hp,e2⟩:=Option.map_eq_some_iff.1 he;simp only[Prod.mk.injEq] at e2;obtain⟨e3,rfl⟩:=e2;obtain⟨cap,ad,hq,cG,hl,xH,ze,ha⟩:=g.lR;obtain⟨b1,b2,b3,b4,b5,b6⟩:=vq (P:=P) (cap:=cap) hp hl xH (ki IN hf) (ki Qd hf) (ki LF hf) w;have hk:=key _ _ _ _ _ _ hq b1;split at e3
   .rename_i hm;subst e3;have b7:=b6 l hm;rw[hm] at hk;have:u-l=0:=by omega
    simp[this] at hk;exact .pure hr hk (.aJ _)
   .rename_i hm;subst e3;refine .pure hr hk (.vec _ _ _ _ _ _ _ cG (by omega) ?_ ?_ λnH=>?_)
    .cases m with
     |none=>simp;omega
     |some k=>simp
    .have hle:l<=m.getD cap:=by omega
     have:l*i.size+(m.getD cap-l)*i.size=m.getD cap*i.size:=by rw[<-Nat.add_mul];congr 1;omega
     have h2:m.getD cap*i.size<=cap*i.size:=Nat.mul_le_mul_right _ b4;omega
    .rw[if_neg (by omega),ha (by omega)];simp[Addr.add_lit,Nat.add_assoc]
  .cases he
 .cases he
end
end
section
section
variable {P:Program}{φ:eL}{h:ai}{w:World}{fr:List AV}{a:Act}
theorem Jn{y:Operand}(hy:y9 y=true):y=.const .nilIface\/y=.const (.pointer none)\/y=.const .nilFunc\/y=.const (.map none):=by unfold y9 at hy;split at hy<;>first|simp_all|cases hy
theorem adC{kind:Nat}{neg:Bool}{t ty:TypeId}{x y:Operand}{o:Oper}(ho:o.op=.binOp (if neg then .neq else .eql) t x y ty){x' y':dU}(hx:iQ x=some x')(hy:iQ y=some y')(hc:y9 y=true)
 (ht:(kind=0/\∃e,P.underlying t=some (.pointer e))\/(kind=1/\∃ms,P.underlying t=some (.interface ms))\/(kind=2/\∃ps rs v,P.underlying t=some (.func ps rs v))\/(kind=3/\∃k e,P.underlying t=some (.map k e)))
 {p:Bool} (hp:wL kind (x'.ev fr)=some p) (hq:wL kind (y'.ev fr)=some true) (hf:FR φ h w fr a.tmps) (hr:HR φ h w):
 gL P (execOp a.eval o) φ h w (.bool (if neg then !p else p)) h:=by
 have g1:=di hx hf;have g2:=di hy hf;generalize x'.ev fr=u at g1 hp;generalize y'.ev fr=v at g2 hq;have hcy:=Jn hc
 have key:(Op.equal t (a.eval x) (a.eval y)).run P w=.ok p w/\eqGuard (if neg then .neq else .eql) t x y (a.eval x) (a.eval y)=Pure.pure ()/\
  (∀op,op=.eql\/op=.neq->(binOp op t (a.eval x) (a.eval y))=if op=.eql then (do pure (.bool (<-Op.equal t (a.eval x) (a.eval y)))) else (do pure (.bool (!(<-Op.equal t (a.eval x) (a.eval y)))))):=by
  have ZZ:∀A B r,(∀d,(Op.equalIn (d+1) t A B).run P w=.ok r w)->(Op.equal t A B).run P w=.ok r w:=λA B r hh=>hh 9999
  rcases ht with⟨rfl,e,ht⟩|⟨rfl,ms,ht⟩|⟨rfl,ps,rs,vv,ht⟩|⟨rfl,k,e,ht⟩
  .have hv:v=.mV:=by cases v<;>simp[wL] at hq;rfl
   subst hv;rw[g2.KL];cases u<;>simp[wL] at hp<;>subst hp
   .rw[g1.KL];exact⟨ZZ _ _ _ λd=>by simp[Op.equalIn,run_underlying ht],by cases neg<;>rfl,λop fg=>by rcases fg with rfl|rfl<;>rfl⟩
   .rw[g1.vi.1];exact⟨ZZ _ _ _ λd=>by simp[Op.equalIn,run_underlying ht],by cases neg<;>rfl,λop fg=>by rcases fg with rfl|rfl<;>rfl⟩
   .obtain⟨b,o',vs,e1,_⟩:=g1.M0;rw[e1];exact⟨ZZ _ _ _ λd=>by simp[Op.equalIn,run_underlying ht],by cases neg<;>rfl,λop fg=>by rcases fg with rfl|rfl<;>rfl⟩
  .have hv:v=.mR:=by cases v<;>simp[wL] at hq;rfl
   subst hv;have e2:=g2.K5
   have jX:y=.const .nilIface:=by
    rcases hcy with rfl|rfl|rfl|rfl
    .rfl
    .simp[Act.eval] at e2
    .simp[Act.eval] at e2
    .simp[Act.eval] at e2
   subst jX;rw[e2];cases u<;>simp[wL] at hp<;>subst hp
   .rw[g1.K5];refine⟨ZZ _ _ _ λd=>by simp[Op.equalIn,run_underlying ht],?_,λop fg=>by rcases fg with rfl|rfl<;>rfl⟩;cases neg
    .exact eqGuard_nil_constR .eql t x _
    .exact eqGuard_nil_constR .neq t x _
   .obtain⟨c,e1,_⟩:=g1.R0;rw[e1];exact⟨ZZ _ _ _ λd=>by simp[Op.equalIn,run_underlying ht],by cases neg<;>rfl,λop fg=>by rcases fg with rfl|rfl<;>rfl⟩
  .have hv:v=.jv:=by cases v<;>simp[wL] at hq;rfl
   subst hv;rw[g2.GD];cases u<;>simp[wL] at hp<;>subst hp
   .rw[g1.GD];exact⟨ZZ _ _ _ λd=>by simp[Op.equalIn,run_underlying ht],by cases neg<;>rfl,λop fg=>by rcases fg with rfl|rfl<;>rfl⟩
   .obtain⟨c,e1,_⟩:=g1.Hc;rw[e1];exact⟨ZZ _ _ _ λd=>by simp[Op.equalIn,run_underlying ht],by cases neg<;>rfl,λop fg=>by rcases fg with rfl|rfl<;>rfl⟩
  .have hv:v=.om:=by cases v<;>simp[wL] at hq;rfl
   subst hv;rw[g2.KA];cases u<;>simp[wL] at hp<;>subst hp
   .rw[g1.KA];exact⟨ZZ _ _ _ λd=>by simp[Op.equalIn,run_underlying ht],by cases neg<;>rfl,λop fg=>by rcases fg with rfl|rfl<;>rfl⟩
   .rw[g1.Ci.1];exact⟨ZZ _ _ _ λd=>by simp[Op.equalIn,run_underlying ht],by cases neg<;>rfl,λop fg=>by rcases fg with rfl|rfl<;>rfl⟩
 obtain⟨k1,k2,k3⟩:=key;refine .pure (cv:=.bool (if neg then !p else p)) hr ?_ (.bool _);unfold execOp;cases neg
 .simp only[Bool.false_eq_true,if_false] at ho k2|-;simp[ho,k2,k3 .eql (.inl rfl),k1]
 .simp only[if_true] at ho k2|-;have h3:=k3 .neq (.inr rfl);simp[ho,k2,h3,k1]
theorem GL{t:TypeId}{k:Nat}(hk:KS P t=some k)(w:World):(isAgg t).run P w=.ok false w:=by
 unfold KS at hk
 split at hk<;>first
  |(rename_i hd;simp[isAgg,run_underlying hd];done)
  |cases hk
theorem Nk{t:TypeId}{k:Nat}(hk:KS P t=some k){x y:AV}{cx cy:Value}{r:Bool}(he:Il k x y=some r){nx:Nat}{pr:Nat->Prop}(hx:RV φ nx pr w x cx)(hy:RV φ nx pr w y cy)(d:Nat):
 (Op.equalIn (d+1) t cx cy).run P w=.ok r w:=by
 unfold KS at hk;unfold Il at he;split at he
 .cases he;split at hk<;>cases hk;rename_i ht;rw[hx.jd,hy.jd];exact run_equalIn_bool' w d t _ _ ht
 .split at he
  .rename_i e;subst e;cases he;split at hk<;>cases hk;rename_i ht;rw[hx.fG,hy.fG];exact run_equalIn_int w d t _ _ _ _ ht
  .cases he
 .cases he;split at hk<;>cases hk;rename_i ht;obtain⟨s,q1,q2⟩:=hx.hP;obtain⟨s',q3,q4⟩:=hy.hP;rw[q1,q3,run_equalIn_string w d t s s' ht,ByteArray.toList_eq,ByteArray.toList_eq,q2,q4]
 .cases he
theorem Bn{d:Nat}{xs ys:Array Value}{l m:List AV}(hl:xs.size=l.length)(hm:ys.size=m.length){nx:Nat}{pr:Nat->Prop}
 (hx:∀j (hj:j<l.length),RV φ nx pr w l[j] (xs.getD j default)) (hy:∀j (hj:j<m.length),RV φ nx pr w m[j] (ys.getD j default)):
 ∀(fs:List Field) (ks:List Nat) (k:Nat) (r:Bool),dO P fs k=some ks->lN ks (l.drop k) (m.drop k)=some r->(Op.eqFields (d+1) xs ys fs).run P w=.ok r w
 |[],ks,k,r,hf,he=>by simp only[dO,Option.some.injEq] at hf;subst hf;cases h1:l.drop k<;>cases h2:m.drop k<;>rw[h1,h2] at he<;>simp[lN] at he;subst he;simp[Op.eqFields]
 |f::fs,ks,k,r,hf,he=>by
   unfold dO at hf;split at hf
   .rename_i hc;split at hf
    .rename_i kd ks' hkd akj;cases hf
     cases h1:l.drop k with
     |nil=>rw[h1] at he;simp[lN] at he
     |cons x xr=>
       cases h2:m.drop k with
       |nil=>rw[h1,h2] at he;simp[lN] at he
       |cons y yr=>
         rw[h1,h2] at he;simp only[lN] at he;split at he
         .rename_i ra rb e1 e2;cases he
          have hkl:k<l.length:=by
           rcases Nat.lt_or_ge k l.length with q|q
           .exact q
           .rw[List.drop_eq_nil_iff.2 q] at h1;cases h1
          have hkm:k<m.length:=by
           rcases Nat.lt_or_ge k m.length with q|q
           .exact q
           .rw[List.drop_eq_nil_iff.2 q] at h2;cases h2
          have q1:=List.drop_eq_getElem_cons hkl;have q2:=List.drop_eq_getElem_cons hkm;rw[q1] at h1;rw[q2] at h2;cases h1;cases h2;have WJ:k<xs.size:=by omega
          have hys:k<ys.size:=by omega
          have g1:=hx k hkl;have g2:=hy k hkm;simp only[Array.getD,WJ,hys,dif_pos] at g1 g2;have uY:=Nk (P:=P) hkd e1 g1 g2 d;have ih:=Bn (d:=d) hl hm hx hy fs ks' (k+1) rb akj e2
          have Qe:(part f.type xs f.offset).run P w=.ok xs[k] w:=by rw[hc.2];simp[part,GL hkd,WJ]
          have Oc:(part f.type ys f.offset).run P w=.ok ys[k] w:=by rw[hc.2];simp[part,GL hkd,hys]
          simp only[Op.eqFields,ne_eq,hc.1,not_false_iff,if_true,Sem.run_bind,Qe,Oc,Result.andThen_ok];have ag6:Sem.run P (Op.equalIn (d+1) f.type xs[k] ys[k]) w=.ok ra w:=by simpa using uY
          rw[ag6];cases ra
          .simp
          .simpa using ih
         .cases he
    .cases hf
   .cases hf
theorem adm{ks:List Nat}{neg:Bool}{t ty:TypeId}{x y:Operand}{o:Oper}(ho:o.op=.binOp (if neg then .neq else .eql) t x y ty){x' y':dU}(hx:iQ x=some x')(hy:iQ y=some y')
 {fs:Array Field} (ht:P.underlying t=some (.struct fs)) (hk:dO P fs.toList 0=some ks) (hg:P.eqGuardType P.depth t=false) (hs:P.stoodInHeld t=false) {l m:List AV} (hl:x'.ev fr=.agg l) (hm:y'.ev fr=.agg m)
 {r:Bool} (he:lN ks l m=some r) (hf:FR φ h w fr a.tmps) (hr:HR φ h w):gL P (execOp a.eval o) φ h w (.bool (if neg then !r else r)) h:=by
 have g1:=di hx hf;have g2:=di hy hf;rw[hl] at g1;rw[hm] at g2;obtain⟨xs,q1,q2,_,q3⟩:=g1.pL;obtain⟨ys,q4,q5,_,q6⟩:=g2.pL;have hfo:P.fieldsOf t=fs:=by simp[Program.fieldsOf,ht]
 have uY:(Op.equalIn 10000 t (.agg xs) (.agg ys)).run P w=.ok r w:=by rw[run_equalIn_struct w 9999 t xs ys (by rw[hfo];exact ht) hs,hfo];exact Bn (d:=9998) q2 q5 q3 q6 fs.toList ks 0 r hk (by simpa using he)
 refine .pure (cv:=.bool (if neg then !r else r)) hr ?_ (.bool _);unfold execOp;cases neg
 .simp only[Bool.false_eq_true,if_false] at ho|-;simp[ho,q1,q4,run_eqGuard_agg w .eql t x y xs ys hg,run_eql_struct,uY]
 .simp only[if_true] at ho|-;simp[ho,q1,q4,run_eqGuard_agg w .neq t x y xs ys hg,run_neq_struct,uY]
end
end
section
section
variable {P:Program}{φ:eL}{h:ai}{w:World}{fr:List AV}{a:Act}
theorem KW{α β:Type}(f:α->List β)(sz:Nat):∀(xs:List α),(∀x∈xs,(f x).length=sz)->(xs.flatMap f).length=xs.length*sz/\
 ∀i j (hi:i<xs.length),j<sz->(xs.flatMap f)[i*sz+j]? =(f xs[i])[j]?
 |[],_=>⟨by simp,λi j hi=>by simp at hi⟩
 |x::xs,hx=>by
   have h1:=hx x (by simp);obtain⟨g1,g2⟩:=KW f sz xs λy hy=>hx y (by simp[hy])
   refine⟨by simp[g1,h1,Nat.add_mul];omega,λi j hi hj=>?_⟩;rw[List.flatMap_cons]
   cases i with
   |zero=>rw[List.getElem?_append_left (by omega)];simp
   |succ i=>rw[List.getElem?_append_right (by rw[Nat.add_mul];omega)];have:=g2 i j (by simpa using hi) hj;rw[show (i+1)*sz+j-(f x).length=i*sz+j by rw[Nat.add_mul];omega,this];simp
theorem GZ{sz n:Nat}{y:AV}{cy:Value}{news:List AV}(he:aT h sz y=some (n,news))(hy:fI φ h w y cy)(hr:HR φ h w)(nH:0<sz):
 news.length=n*sz/\∃f:Nat->Value,(∀j,j<n*sz->fI φ h w (news.getD j .undef) (f j)/\(f j).oneCell'=true)/\(∀w',(Builtin.lenOf cy).run P w'=.ok n w')/\
  ∀w':World,w'.heap=w.heap->(Builtin.firstCells sz n cy).run P w'=.ok ((List.range (n*sz)).map f).toArray w':=by
 have aiv:∀ad cap,(Builtin.firstCells sz 0 (.slice ad 0 cap)).run P w=.ok #[] w:=λad cap=>by cases ad<;>simp[Builtin.firstCells,loadCells,loadCellsFrom]
 have zf:∀ad cap (w':World),(Builtin.firstCells sz 0 (.slice ad 0 cap)).run P w'=.ok #[] w':=λad cap w'=>by cases ad<;>simp[Builtin.firstCells,loadCells,loadCellsFrom]
 unfold aT at he;split at he
 .cases he;obtain⟨ad,rfl⟩:=hy.py;exact⟨by simp,λ_=>default,λj hj=>by simp at hj,λw'=>by simp[Builtin.lenOf],λw' _=>by simpa using zf ad 0 w'⟩
 .rename_i xs;split at he
  .rename_i nY;cases he
   have fZ:∀x∈xs,x.cells.length=sz:=λx hx=>by have:=List.all_eq_true.1 nY x hx;cases x<;>simp[AV.cells?] at this<;>simp[AV.cells,this]
   obtain⟨g1,g2⟩:=KW AV.cells sz xs fZ;refine⟨g1,?_⟩;rcases hy.uA with⟨ad,cap,rfl,rfl⟩|⟨b,o,cap,Od,vs,rfl,SF,mW,wi,h1,kU,hc,hv⟩
   .exact⟨λ_=>default,λj hj=>by simp at hj,λw'=>by simp[Builtin.lenOf],λw' _=>by simpa using zf ad cap w'⟩
   .rcases Nat.eq_zero_or_pos xs.length with h0|h0
    .have hn:xs=[]:=List.eq_nil_of_length_eq_zero h0;subst hn;exact⟨λ_=>default,λj hj=>by simp at hj,λw'=>by simp[Builtin.lenOf],λw' _=>by simpa using zf _ cap w'⟩
    .have hss:Od=sz:=by
      have q1:=kU 0 h0;have q2:=List.all_eq_true.1 nY xs[0] (List.getElem_mem h0);rw[q1] at q2;simpa using q2
     subst hss
     have hdm:∀j,j<xs.length*Od->j / Od<xs.length/\j%Od<Od/\j / Od*Od+j%Od=j:=λj hj=>by refine⟨Nat.div_lt_of_lt_mul (by rw[Nat.mul_comm];exact hj),Nat.mod_lt _ nH,?_⟩;rw[Nat.mul_comm];exact Nat.div_add_mod j Od
     refine⟨λj=>vs (j / Od) (j%Od),λj hj=>⟨?_,h1 _ _⟩,λw'=>by simp[Builtin.lenOf],λw' Z0=>?_⟩
     .obtain⟨d1,d2,d3⟩:=hdm j hj;have e1:=g2 (j / Od) (j%Od) d1 d2;rw[d3] at e1;have d4:j%Od<(xs[j / Od]).cells.length:=by rw[fZ _ (List.getElem_mem d1)];exact d2
      rw[List.getElem?_eq_getElem d4] at e1;rw[List.getD_eq_getElem?_getD,e1];exact hv _ d1 _ d4
     .simp only[Builtin.firstCells];refine run_loadCells w' _ _ _ λj hj=>?_
      obtain⟨d1,d2,d3⟩:=hdm j hj;have:=hc _ _ d1 d2;rw[Nat.add_assoc,d3] at this;rw[Addr.add_lit,<-this];unfold World.cell?;rw[Z0]
  .cases he
 .rename_i id off len s lb;split at he
  .rename_i cs tj;have hg:=uI tj;split at he
   .rename_i hc;obtain⟨rfl,hle⟩:=hc;cases he;obtain⟨cap,ad,rfl,cG,hl,xH,ze,ha⟩:=hy.lR;refine⟨by simp;omega,?_⟩;rcases Nat.eq_zero_or_pos n with h0|h0
    .subst h0;exact⟨λ_=>default,λj hj=>by simp at hj,λw'=>by simp[Builtin.lenOf],λw' _=>by simpa using zf ad cap w'⟩
    .rw[ha (by omega)]
     have nh:∀j,j<n*s->∃v,w.cell? ⟨(φ id).ib,(φ id).base+(off+j),none⟩=some v/\fI φ h w (cs.getD (off+j) .undef) v/\v.oneCell'=true:=λj hj=>by
      obtain⟨v,c1,c2,c3⟩:=yB hr hg (off+j) (by omega);have cR:off+j<cs.length:=by omega
      exact⟨v,c1,by simpa[List.getD,cR] using c2,c3⟩
     refine⟨λj=>(w.cell? ⟨(φ id).ib,(φ id).base+(off+j),none⟩).getD default,λj hj=>?_,λw'=>by simp[Builtin.lenOf],λw' Z0=>?_⟩
     .obtain⟨v,c1,c2,c3⟩:=nh j hj;dsimp only;rw[c1];have cR:off+j<cs.length:=by omega
      have SH:j<((cs.drop off).take (n*s)).length:=by simp;omega
      refine⟨?_,c3⟩;rw[List.getD_eq_getElem?_getD,List.getElem?_take,if_pos hj,List.getElem?_drop];rw[List.getD_eq_getElem?_getD] at c2;exact c2
     .simp only[Builtin.firstCells];refine run_loadCells w' _ _ _ λj hj=>?_
      obtain⟨v,c1,c2,c3⟩:=nh j hj;have e:w'.cell? ⟨(φ id).ib,(φ id).base+(off+j),none⟩=w.cell? ⟨(φ id).ib,(φ id).base+(off+j),none⟩:=by unfold World.cell?;rw[Z0]
      rw[Addr.add_lit,Nat.add_assoc,e,c1];rfl
   .cases he
  .cases he
 .rename_i s;split at he
  .rename_i hs;subst hs;cases he;obtain⟨b,rfl,rfl⟩:=hy.hP;have hbl:b.data.toList.length=b.size:=Array.length_toList;refine⟨by simp,λj=>.int .u8 ((b.data.toList.getD j 0).toNat),λj hj=>⟨?_,rfl⟩,λw'=>by rw[hbl];rfl,λw' _=>?_⟩
   .have kP:j<b.data.toList.length:=by omega
    simp only[List.getD_eq_getElem?_getD,List.getElem?_map,List.getElem?_eq_getElem kP,Option.map_some,Option.getD_some];exact .int _ _
   .simp only[Builtin.firstCells,Sem.run_pure,Nat.mul_one];congr 1;apply Array.ext';rw[hbl];have:(b.extract 0 b.size)=b:=by simp
    rw[this];apply List.ext_getElem?;intro j;by_cases hj:j<b.data.toList.length
    .have I6:j<b.data.size:=by simpa using hj
     have hj3:j<b.size:=I6;simp[hj3]
    .have I6:¬j<b.data.size:=by simpa using hj
     have hj3:¬j<b.size:=I6;simp[hj3]
  .cases he
 .cases he
theorem UZ{z:Array Value}{n:Nat}:(Builtin.zeroCells z n).size=n*z.size:=by simp[Builtin.zeroCells]
theorem wA{z:Array Value}(hz:∀j,(z.getD j default).oneCell'=true)(n j:Nat):((Builtin.zeroCells z n).getD j default).oneCell'=true:=by
 unfold Builtin.zeroCells;by_cases hj:j<n*z.size
 .have nH:0<z.size:=Nat.pos_of_ne_zero λe=>by simp[e] at hj
  have hm:j%z.size<z.size:=Nat.mod_lt _ nH;have:=hz (j%z.size);simpa[Array.getD,hj,hm] using this
 .simp[Array.getD,hj];rfl
theorem DB{s:Sem Next}{h1:ai}{φ1:eL}(mw:HR φ1 h1 w)(hx1:Ext φ h w φ1 h1 w){el:TypeId}{m n cap sz:Nat}{cs:List AV}(f:Nat->Value){rest:Array Value}{w':World}
 (oC:cs.length=m) (hf:∀j,j<m->fI φ1 h1 w (cs.getD j .undef) (f j)/\(f j).oneCell'=true) (WK:∀j,(rest.getD j default).oneCell'=true)
 (hh:w'.heap=w.heap.push (.cells (((List.range m).map f).toArray++rest) el)) (ho:w'.os=w.os) (ht:w'.tape=w.tape) (uX:w'.output=w.output)
 (hs:s.run P w=.ok (.value (.slice (some ⟨w.heap.size,0,none⟩) n cap)) w') (hn:n<=cap) (ze:cap*sz<=m+rest.size):
 gL P s φ h w (.vec h1.next 0 n sz n) (h1.alloc (.row cs)):=by
 have kU:(((List.range m).map f).toArray++rest).size=m+rest.size:=by simp
 have tO:∀j,j<m->(((List.range m).map f).toArray++rest).getD j default=f j:=λj hj=>by
  have:j<m+rest.size:=by omega
  simp[Array.getD,this,hj]
 have k1:∀j,j<(((List.range m).map f).toArray++rest).size->((((List.range m).map f).toArray++rest).getD j default).oneCell'=true:=λj hj=>by
  by_cases hjm:j<m
  .rw[tO j hjm];exact (hf j hjm).2
  .have:=WK (j-m);rw[kU] at hj;have h3:j-m<rest.size:=by omega
   simp only[Array.getD,h3,dif_pos] at this;have h4:j<m+rest.size:=hj;simpa[Array.getD,h4,Array.getElem_append,hjm] using this
 have k2:∀j (hj:j<cs.length),fI φ1 h1 w cs[j] ((((List.range m).map f).toArray++rest).getD j default):=λj hj=>by
  have hjm:j<m:=by omega
  rw[tO j hjm];have:=(hf j hjm).1;simpa[List.getD,hj] using this
 obtain⟨g1,g2⟩:=HX (w':=w') (c:=((List.range m).map f).toArray++rest) (el:=el) (fz:=(0,0)) (cs:=cs) mw hh ho ht uX (by simp) k1 (by rw[kU];omega) k2;exact⟨_,w',_,.inl hs,O7 (.row cs) w.heap.size _ n sz n cap hn hn (by rw[kU];exact ze),g1,hx1.trans g2⟩
theorem run_append_room{t u e:TypeId}{ty:TypeId}{i:TypeInfo}(ht:P.underlying t=some (.slice e)){du:TypeDesc}(hu:P.underlying u=some du)(hdu:∀k,du≠.int k)(hi:P.info? e=some i)
 {ad:Option Addr} {pD wk n:Nat} {y:Value} {news:Array Value} {w1:World} (hl:(Builtin.lenOf y).run P w=.ok n w) (lu:pD+n<=wk) (hn:(Builtin.firstCells i.size n y).run P w=.ok news w)
 (wm:(match ad with|some a=>storeCells (a.add (pD*i.size)) news.toList|none=>Pure.pure ()).run P w=.ok () w1):
 (Builtin.append_ #[t,u] ty #[.slice ad pD wk,y]).run P w=.ok (.slice ad (pD+n) wk) w1:=by
 cases ad with
 |none=>simp only[Sem.run_pure,Result.ok.injEq,true_and] at wm;subst wm;simp[Builtin.append_,run_underlying ht,run_underlying hu,kV hi,hl,lu,hn]
 |some ad=>simp at wm;simp[Builtin.append_,run_underlying ht,run_underlying hu,kV hi,hl,lu,hn,wm]
theorem tE{t u e:TypeId}{ty:TypeId}{i:TypeInfo}{z:Value}(ht:P.underlying t=some (.slice e)){du:TypeDesc}(hu:P.underlying u=some du)(hdu:∀k,du≠.int k)(hi:P.info? e=some i)(hz0:i.zero=some z)
 {ad:Option Addr} {pD wk n:Nat} {y:Value} {ag8 news:Array Value} (hl:(Builtin.lenOf y).run P w=.ok n w) (WL:wk<pD+n) (h63:pD+n<2^63) (ad4:(pD+n)*i.bytes<=140737488355328)
 (ho:(Builtin.firstCells i.size pD (.slice ad pD wk)).run P w.drew=.ok ag8 w.drew) (hn:(Builtin.firstCells i.size n y).run P w.drew=.ok news w.drew):
 (Builtin.append_ #[t,u] ty #[.slice ad pD wk,y]).run P w=.ok (.slice (some ⟨w.heap.size,0,none⟩) (pD+n) (grownCap w (pD+n) wk e))
  (w.drew.alloc (.cells (ag8++news++Builtin.zeroCells z.cells (grownCap w (pD+n) wk e-(pD+n))) e)):=by
 have h1:¬(pD+n<=wk):=by omega
 have h2:¬(9223372036854775807<(pD:Int)+(n:Int)):=by omega
 have h3:¬(281474976710656<Builtin.nextslicecap (pD+n) wk*i.bytes):=by have:=growslice_fits WL ad4;omega
 simp[Builtin.append_,run_underlying ht,run_underlying hu,kV hi,hl,h1,h2,h3,typeInfo,hi,zeroValue,hz0,Question.forced,ho,hn,newRow,grownCap]
theorem IJ{f g:Nat->Value}(m n:Nat):((List.range m).map f).toArray++((List.range n).map g).toArray=((List.range (m+n)).map λj=>if j<m then f j else g (j-m)).toArray:=by
 apply Array.ext';simp only[Array.toList_append];rw[List.range_add,List.map_append];congr 1
 .apply List.map_congr_left;intro j hj;rw[if_pos (by simpa using hj)]
 .rw[List.map_map];apply List.map_congr_left;intro j _;simp only[Function.comp];rw[if_neg (by omega),Nat.add_sub_cancel_left]
theorem ud(w:World)(ag9 EX:Nat)(e:TypeId):ag9<=grownCap w ag9 EX e:=Nat.le_add_right _ _
theorem E7(hr:HR φ h w){id off k:Nat}{cs news:List AV}{fu:List Value}(hg:h.get id=some (.row cs))(hle:off+k<=cs.length)(room:Nat)(ze:off+room<=(φ id).room)(lu:k+news.length<=room)
 (fZ:news.length=fu.length) (hv:∀j (h1:j<news.length) (h2:j<fu.length),fI φ h w news[j] fu[j]/\fu[j].oneCell'=true):
 ∃w',(storeCells ⟨(φ id).ib,(φ id).base+off+k,none⟩ fu).run P w=.ok () w'/\
   HR (gq φ h.next ⟨(φ id).ib,(φ id).base+off,room⟩) ((h.set id .dead).alloc (.row ((cs.drop off).take k++news))) w'/\
   Ext φ h w (gq φ h.next ⟨(φ id).ib,(φ id).base+off,room⟩) ((h.set id .dead).alloc (.row ((cs.drop off).take k++news))) w':=by
 obtain⟨c,el,fz,h1,h2,h3,h4,h5,h6⟩:=hr.rows id cs hg;have oB:live h id:=⟨_,hg,λe=>by cases e⟩
 obtain⟨w',e1,e2,e3,e4,e5,e6,e7⟩:=mz (P:=P) fu c ((φ id).base+off+k) 0 w h1 (by omega) h4 (λv hvm=>by obtain⟨j,hj,rfl⟩:=List.getElem_of_mem hvm;exact (hv j (by omega) hj).2)
 have BR:(h.set id .dead).next=h.next:=by simp
 have lv:∀i,live ((h.set id .dead).alloc (.row ((cs.drop off).take k++news))) i->i=h.next\/(live h i/\i≠id/\i<h.next):=λi hi=>by
  rcases jw hi with e|⟨hl,cR⟩
  .exact .inl (by rw[e,BR])
  .obtain⟨q1,q2⟩:=kL hl;exact .inr ⟨q1,q2,by rw[<-BR];exact cR⟩
 have hφn:∀i,i<h.next->gq φ h.next ⟨(φ id).ib,(φ id).base+off,room⟩ i=φ i:=λi hi=>by simp[gq,Nat.ne_of_lt hi]
 have Z1:gq φ h.next ⟨(φ id).ib,(φ id).base+off,room⟩ h.next=⟨(φ id).ib,(φ id).base+off,room⟩:=by simp[gq]
 have ext:Ext φ h w (gq φ h.next ⟨(φ id).ib,(φ id).base+off,room⟩) ((h.set id .dead).alloc (.row ((cs.drop off).take k++news))) w':=by
  refine⟨e5,e6,e7,by omega,by simp,hφn,λb hb=>?_,rfl,λb hb=>e4 b λe=>(hr.gh b hb).2 id oB e.symm⟩;have fy:b≠(φ id).ib:=λe=>hb.2.1 id oB e.symm
  refine⟨⟨by rw[e3];exact hb.1,λi hi=>?_,hb.2.2⟩,e4 b fy⟩;rcases lv i hi with rfl|⟨q1,q2,q3⟩
  .rw[Z1];exact Ne.symm fy
  .rw[hφn i q3];exact hb.2.1 i q1
 refine⟨w',e1,⟨ai.po _ (ai.wf_set _ _ hr.wf),λi jt hi=>?_,λi es hi=>?_,λi j hi hj wj=>?_,λb hb=>⟨by rw[e3];exact (hr.gh b hb).1,λi hi=>?_⟩⟩,ext⟩
 .rcases lv i ⟨_,hi,λe=>by cases e⟩ with rfl|⟨q1,q2,q3⟩
  .rw[<-BR,ai.gw] at hi;cases hi;have aha:((cs.drop off).take k++news).length=k+news.length:=by simp;omega
   refine⟨_,el,fz,by rw[Z1];exact e2,by rw[Z1,mq];dsimp only;omega,by rw[Z1,aha];exact lu,by rw[mq];exact h4,λj hj=>?_,λj hj=>?_⟩
   .rw[Z1] at hj|-;dsimp only at hj|-;rw[nG _ _ _ _ (by omega)];split
    .rename_i A0;have cR:(φ id).base+off+j-((φ id).base+off+k+0)<fu.length:=by omega
     have:=(hv _ (by omega) cR).2;rw[List.getD_eq_getElem?_getD,List.getElem?_eq_getElem cR];exact this
    .have:=h5 (off+j) (by omega);rw[Nat.add_assoc];exact this
   .rw[Z1];dsimp only;rw[nG _ _ _ _ (by omega)];by_cases hjk:j<k
    .rw[if_neg (by omega)];have q:off+j<cs.length:=by omega
     have:=(h6 (off+j) q).ext ext;rw[Nat.add_assoc];have hjt:j<((cs.drop off).take k).length:=by simp;omega
     rw[List.getElem_append_left hjt];simpa using this
    .rw[if_pos (by omega)];have q1:j-k<news.length:=by omega
     have q2:(φ id).base+off+j-((φ id).base+off+k+0)=j-k:=by omega
     have q3:j-k<fu.length:=by omega
     have:=((hv _ q1 q3).1).ext ext;rw[q2,List.getD_eq_getElem?_getD,List.getElem?_eq_getElem q3];have hjt:((cs.drop off).take k).length=k:=by simp;omega
     rw[List.getElem_append_right (by omega)];simpa[hjt] using this
  .rw[ai.eF (by rw[BR];exact q3),ai.get_set_other (Ne.symm q2)] at hi;exact (hr.rows i jt hi).ext ext q3 (e4 _ λe=>q2 (hr.inj i id q1 oB e))
 .rcases lv i ⟨_,hi,λe=>by cases e⟩ with rfl|⟨q1,q2,q3⟩
  .rw[<-BR,ai.gw] at hi;cases hi
  .rw[ai.eF (by rw[BR];exact q3),ai.get_set_other (Ne.symm q2)] at hi;exact (hr.maps i es hi).ext ext q3 (e4 _ λe=>q2 (hr.inj i id q1 oB e))
 .rcases lv i hi with rfl|⟨q1,q2,q3⟩<;>rcases lv j hj with rfl|⟨r1,r2,r3⟩
  .rfl
  .rw[Z1,hφn j r3] at wj;exact absurd (hr.inj id j oB r1 wj).symm r2
  .rw[Z1,hφn i q3] at wj;exact absurd (hr.inj i id q1 oB wj) q2
  .rw[hφn i q3,hφn j r3] at wj;exact hr.inj i j q1 r1 wj
 .rcases lv i hi with rfl|⟨q1,q2,q3⟩
  .rw[Z1];exact (hr.gh b hb).2 id oB
  .rw[hφn i q3];exact (hr.gh b hb).2 i q1
theorem abz{t u e:TypeId}{x y:Operand}{o:Oper}(ho:o.op=.call {callee:=.builtin .append,args:=#[x,y],argTypes:=#[t,u]}){x' y':dU}(hx:iQ x=some x')(hy:iQ y=some y')
 (ht:P.underlying t=some (.slice e)) {du:TypeDesc} (hu:P.underlying u=some du) (hdu:∀k,du≠.int k) {i:TypeInfo} (hi:P.info? e=some i) {z:List AV} (hz:tC P e=some z) (Oa:z.length=i.size) (nH:0<i.size)
 {n:Nat} {news:List AV} (hn:aT h i.size (y'.ev fr)=some (n,news)) {v:AV} {h':ai}
 (he:(match x'.ev fr with
  |.aJ=>if n=0 then some (AV.aJ,h) else
    if n*i.bytes<=140737488355328/\n<2^63 then some (.vec h.next 0 n i.size n,h.alloc (.row news)) else none
  |.vec id off len s lb=>match h.row id with
    |some cs=>if s=i.size/\off+len*i.size<=cs.length then
     if n=0 then some (.vec id off len s lb,h) else
     if len+n<=lb/\off+(len+n)*i.size<=cs.length then some (.vec id off (len+n) i.size lb,(h.set id (.row (putAt cs (off+len*i.size) news))).mark id (.agg news)) else
     if (len+n)*i.bytes<=140737488355328/\len+n<2^63 then
      some (.vec h.next 0 (len+n) i.size (len+n),(h.set id .dead).alloc (.row ((cs.drop off).take (len*i.size)++news))) else none
      else none
    |none=>none
  |_=>none)=some (v,h')) (hf:FR φ h w fr a.tmps) (hr:HR φ h w):gL P (execOp a.eval o) φ h w v h':=by
 have g1:=di hx hf;have g2:=di hy hf;obtain⟨n1,f,n2,n3,n4⟩:=GZ (P:=P) hn g2 hr nH;obtain⟨i',zv,jE,SN,k1,k2,k3⟩:=ue (φ:=φ) hz;obtain rfl:i=i':=by rw[hi] at jE;exact Option.some.inj jE
 have hex:∀r w1,(Builtin.append_ #[t,u] o.type #[a.eval x,a.eval y]).run P w=.ok r w1->(execOp a.eval o).run P w=.ok (.value r) w1:=λr w1 uY=>by unfold execOp;simp[ho,resolve,invoke,builtin,uY]
 have WM:∀m,(Builtin.zeroCells zv.cells m).size=m*i.size:=λm=>by rw[UZ];rw[k1,Oa]
 split at he
 .rename_i e1;rw[e1] at g1;obtain⟨ad,hq⟩:=g1.py;split at he
  .rename_i h0;cases he;subst h0;have:=run_append_room (P:=P) (ty:=o.type) (ad:=ad) (pD:=0) (wk:=0) (w1:=w) ht hu hdu hi (n3 w) (Nat.le_refl _) (n4 w rfl) (by cases ad<;>simp[storeCells]);rw[<-hq] at this;exact .pure hr (hex _ _ this) g1
  .rename_i h0;split at he
   .rename_i hc;cases he;have hold:(Builtin.firstCells i.size 0 (.slice ad 0 0)).run P w.drew=.ok #[] w.drew:=by cases ad<;>simp[Builtin.firstCells,loadCells,loadCellsFrom]
    have:=tE (P:=P) (ty:=o.type) ht hu hdu hi SN (ad:=ad) (pD:=0) (wk:=0) (n3 w) (by omega) (by omega) (by simpa using hc.1) hold (n4 w.drew rfl);rw[<-hq,Nat.zero_add,Array.empty_append] at this;have mW:=ud w n 0 e;refine DB (P:=P) hr (.refl _ _ _) (el:=e) (m:=n*i.size) (cap:=grownCap w n 0 e) (rest:=Builtin.zeroCells zv.cells (grownCap w n 0 e-n)) f n1 n2 (wA k2 _) (w':=w.drew.alloc _) rfl rfl rfl rfl (hex _ _ this) mW ?_
    .rw[WM,<-Nat.add_mul];exact Nat.mul_le_mul_right _ (by omega)
   .cases he
 .rename_i id off len s lb e1;rw[e1] at g1;obtain⟨cap,ad,hq,cG,hl,xH,ze,ha⟩:=g1.lR;split at he
  .rename_i cs tj;have hg:=uI tj;split at he
   .rename_i hc;obtain⟨rfl,hle⟩:=hc;split at he
    .rename_i h0;cases he;subst h0;have:=run_append_room (P:=P) (ty:=o.type) (ad:=ad) (pD:=len) (wk:=cap) (w1:=w) ht hu hdu hi (n3 w) (by omega) (n4 w rfl) (by cases ad<;>simp[storeCells]);rw[<-hq] at this;rw[Nat.add_zero,<-hq] at this;exact .pure hr (hex _ _ this) g1
    .rename_i h0
     have WN:len+n<=cap->off+(len+n)*i.size<=cs.length->∃w',(Builtin.append_ #[t,u] o.type #[a.eval x,a.eval y]).run P w=.ok (.slice ad (len+n) cap) w'/\
      HR φ (h.set id (.row (putAt cs (off+len*i.size) news))) w'/\Ext φ h w φ (h.set id (.row (putAt cs (off+len*i.size) news))) w':=λlu jn=>by
      have had:=ha (by omega);have A1:(off+len*i.size)+news.length<=cs.length:=by rw[n1];rw[Nat.add_mul] at jn;omega
      obtain⟨w',q1,q2,q3⟩:=Gd (P:=P) (fu:=(List.range (n*i.size)).map f) hr hg A1 (by simp[n1]) λj q1 q2=>by
       have hj:j<n*i.size:=by omega
       have:=n2 j hj;rw[List.getD_eq_getElem?_getD,List.getElem?_eq_getElem q1] at this;simpa using this
      refine⟨w',?_,q2,q3⟩
      have:=run_append_room (P:=P) (ty:=o.type) (ad:=ad) (pD:=len) (wk:=cap) (w1:=w') ht hu hdu hi (n3 w) lu (n4 w rfl) (by rw[had];simp only[Addr.add_lit];rw[Nat.add_assoc];simpa using q1)
      rw[hq];exact this
     split at he
     .rename_i Oe;cases he;obtain⟨w',q1,q2,q3⟩:=WN (by omega) Oe.2;obtain⟨m1,m2⟩:=q2.mark id (.agg news);refine⟨_,w',φ,.inl (hex _ _ q1),?_,m1,q3.trans m2⟩;exact .vec _ _ _ _ _ _ _ (by simpa using cG) (by omega) xH ze ha
     .rename_i Oe;split at he
      .rename_i hc3;cases he;by_cases lu:len+n<=cap
       .have had:=ha (by omega)
        obtain⟨w',q1,q2,q3⟩:=E7 (P:=P) (fu:=(List.range (n*i.size)).map f) hr hg hle (cap*i.size) ze (by rw[n1,<-Nat.add_mul];exact Nat.mul_le_mul_right _ lu) (by simp[n1]) λj q1 q2=>by
         have hj:j<n*i.size:=by omega
         have:=n2 j hj;rw[List.getD_eq_getElem?_getD,List.getElem?_eq_getElem q1] at this;simpa using this
        have:=run_append_room (P:=P) (ty:=o.type) (ad:=ad) (pD:=len) (wk:=cap) (w1:=w') ht hu hdu hi (n3 w) lu (n4 w rfl) (by rw[had];simp only[Addr.add_lit];simpa using q1)
        rw[<-hq] at this;refine⟨_,w',_,.inl (hex _ _ this),.vec _ _ _ _ _ _ _ (by simp) lu lu ?_ ?_,q2,q3⟩
        .simp[gq]
        .intro _;rw[had];simp[gq]
       .have WL:cap<len+n:=by omega
        obtain⟨kr,kx⟩:=aaW hr id
        have nh:∀j,j<len*i.size->∃v,w.cell? ⟨(φ id).ib,(φ id).base+(off+j),none⟩=some v/\fI φ h w (cs.getD (off+j) .undef) v/\v.oneCell'=true:=λj hj=>by
         obtain⟨v,c1,c2,c3⟩:=yB hr hg (off+j) (by omega);have cR:off+j<cs.length:=by omega
         exact⟨v,c1,by simpa[List.getD,cR] using c2,c3⟩
        let g:Nat->Value:=λj=>(w.cell? ⟨(φ id).ib,(φ id).base+(off+j),none⟩).getD default
        have hold:(Builtin.firstCells i.size len (.slice ad len cap)).run P w.drew=.ok ((List.range (len*i.size)).map g).toArray w.drew:=by
         rcases Nat.eq_zero_or_pos len with h00|h00
         .subst h00;cases ad<;>simp[Builtin.firstCells,loadCells,loadCellsFrom]
         .rw[ha (by omega)];simp only[Builtin.firstCells];refine run_loadCells w.drew _ _ _ λj hj=>?_
          obtain⟨v,c1,c2,c3⟩:=nh j hj;rw[Addr.add_lit,Nat.add_assoc,World.cell?_drew,c1];simp[g,c1]
        have:=tE (P:=P) (ty:=o.type) ht hu hdu hi SN (n3 w) WL hc3.2 hc3.1 hold (n4 w.drew rfl);rw[<-hq,IJ] at this;have mW:=ud w (len+n) cap e;rw[show h.next=(h.set id .dead).next by simp];refine DB (P:=P) (h1:=h.set id .dead) kr kx (el:=e) (m:=len*i.size+n*i.size) (cap:=grownCap w (len+n) cap e) (rest:=Builtin.zeroCells zv.cells (grownCap w (len+n) cap e-(len+n))) _ ?_ (λj hj=>?_) (wA k2 _) (w':=w.drew.alloc _) rfl rfl rfl rfl (hex _ _ this) mW ?_
        .simp[n1];omega
        .by_cases hjk:j<len*i.size
         .obtain⟨v,c1,c2,c3⟩:=nh j hjk;rw[if_pos hjk];have hg1:g j=v:=by simp[g,c1]
          rw[hg1];refine⟨?_,c3⟩;have hjt:j<((cs.drop off).take (len*i.size)).length:=by simp;omega
          have:=c2.ext kx;rw[List.getD_eq_getElem?_getD,List.getElem?_append_left hjt,List.getElem?_take,if_pos hjk,List.getElem?_drop];rw[List.getD_eq_getElem?_getD] at this;exact this
         .rw[if_neg hjk];have hjn:j-len*i.size<n*i.size:=by omega
          obtain⟨r1,r2⟩:=n2 _ hjn;refine⟨?_,r2⟩;have hjt:((cs.drop off).take (len*i.size)).length=len*i.size:=by simp;omega
          have:=r1.ext kx;rw[List.getD_eq_getElem?_getD,List.getElem?_append_right (by omega),hjt];rw[List.getD_eq_getElem?_getD] at this;exact this
        .rw[WM,<-Nat.add_mul,<-Nat.add_mul];exact Nat.mul_le_mul_right _ (by omega)
      .cases he
   .cases he
  .cases he
 .cases he
end
end
section
section
variable {P:Program}{φ:eL}{h:ai}{w:World}{fr:List AV}{a:Act}
theorem wh{t e:TypeId}(ht:P.underlying t=some (.slice e))(ad:Option Addr)(n c:Nat)(w:World):(Op.equal t (.slice ad n c) (.slice none 0 0)).run P w=.ok ad.isNone w:=by
 have h:∀d:Nat,(Op.equalIn (d+1) t (.slice ad n c) (.slice none 0 0)).run P w=.ok ad.isNone w:=λd=>by cases ad<;>simp[Op.equalIn,run_underlying ht]
 exact h 9999
theorem Kl{neg:Bool}{t e ty:TypeId}{x:Operand}{o:Oper}(ho:o.op=.binOp (if neg then .neq else .eql) t x (.const (.slice none 0 0)) ty)(ht:P.underlying t=some (.slice e)){ad:Option Addr}{n c:Nat}(hx:a.eval x=.slice ad n c)(w:World):
 (execOp a.eval o).run P w=.ok (.value (.bool (if neg then !ad.isNone else ad.isNone))) w:=by
 have k1:=wh ht ad n c w;have hy:a.eval (.const (.slice none 0 0))=.slice none 0 0:=rfl;have k2:eqGuard (if neg then .neq else .eql) t x (.const (.slice none 0 0)) (.slice ad n c) (.slice none 0 0)=Pure.pure ():=by cases neg<;>rfl
 have k3:∀op,op=.eql\/op=.neq->(binOp op t (.slice ad n c) (.slice none 0 0))=if op=.eql then (do pure (.bool (<-Op.equal t (.slice ad n c) (.slice none 0 0)))) else (do pure (.bool (!(<-Op.equal t (.slice ad n c) (.slice none 0 0))))):=λop fg=>by rcases fg with rfl|rfl<;>rfl
 unfold execOp;cases neg
 .simp only[Bool.false_eq_true,if_false] at ho k2|-;simp[ho,hx,hy,k2,k3 .eql (.inl rfl),k1]
 .simp only[if_true] at ho k2|-;have h3:=k3 .neq (.inr rfl);simp[ho,hx,hy,k2,h3,k1]
theorem PW{neg:Bool}{t e ty:TypeId}{x:Operand}{o:Oper}(ho:o.op=.binOp (if neg then .neq else .eql) t x (.const (.slice none 0 0)) ty){x':dU}(hx:iQ x=some x')(ht:P.underlying t=some (.slice e))
 {v:AV} {h':ai} (he:(match x'.ev fr with
  |.sl (_::_)=>some (AV.bool neg,h)
  |.vec _ _ (_+1) _ _=>some (.bool neg,h)
  |_=>none)=some (v,h')) (hf:FR φ h w fr a.tmps) (hr:HR φ h w):gL P (execOp a.eval o) φ h w v h':=by
 have g:=di hx hf
 have fin:∀ad n c,a.eval x=.slice (some ad) n c->gL P (execOp a.eval o) φ h w (.bool neg) h:=λad n c hq=>by refine .pure (cv:=.bool neg) hr ?_ (.bool _);rw[Kl ho ht hq w];cases neg<;>rfl
 split at he
 .rename_i y ys e1;simp only[Option.some.injEq,Prod.mk.injEq] at he;obtain⟨rfl,rfl⟩:=he;rw[e1] at g;rcases g.uA with⟨_,_,q,_⟩|⟨b,o',cap,sz,vs,q,_⟩
  .cases q
  .exact fin _ _ _ q
 .rename_i id off n sz lb e1;simp only[Option.some.injEq,Prod.mk.injEq] at he;obtain⟨rfl,rfl⟩:=he;rw[e1] at g;obtain⟨cap,ad,q,_,hl,_,_,ha⟩:=g.lR;rw[ha (by omega)] at q;exact fin _ _ _ q
 .cases he
theorem AI{w':World}{x:Obj}(hr:HR φ h w)(hh:w'.heap=w.heap.push x)(ho:w'.os=w.os)(ht:w'.tape=w.tape)(uX:w'.output=w.output):HR φ h w'/\Ext φ h w φ h w':=by
 have e:Ext φ h w φ h w':=⟨ho,ht,uX,by rw[hh];simp,Nat.le_refl _,λ_ _=>rfl,λb hb=>⟨⟨by rw[hh];simp;have:=hb.1;omega,hb.2⟩,by rw[hh];exact getElem?_push_lt hb.1⟩,rfl,
  λb hb=>by rw[hh];exact getElem?_push_lt (hr.gh b hb).1⟩
 refine⟨⟨hr.wf,λi cs hi=>?_,λi es hi=>?_,λi j hi hj=>hr.inj i j hi hj,λb hb=>⟨by rw[hh];simp;have:=(hr.gh b hb).1;omega,(hr.gh b hb).2⟩⟩,e⟩
 .have hb:=hr.gJ ⟨_,hi,λe=>by cases e⟩;exact (hr.rows i cs hi).ext e (ai.eK hi) (by rw[hh];exact getElem?_push_lt hb)
 .have hb:=hr.gJ ⟨_,hi,λe=>by cases e⟩;exact (hr.maps i es hi).ext e (ai.eK hi) (by rw[hh];exact getElem?_push_lt hb)
theorem acV{t e:TypeId}{parts:Array (Nat×Operand)}{o:Oper}(ho:o.op=.buildSlice t 0 parts)(hp:parts=#[])(ht:P.underlying t=some (.slice e)){i:TypeInfo}(hi:P.info? e=some i)(hr:HR φ h w):
 gL P (execOp a.eval o) φ h w .aJ h:=by
 subst hp;obtain⟨r1,r2⟩:=AI (w':=w.alloc (.cells #[] e)) hr rfl rfl rfl rfl;refine⟨.slice (some ⟨w.heap.size,0,none⟩) 0 0,w.alloc (.cells #[] e),φ,.inl ?_,.aJ _,r1,r2⟩;unfold execOp;simp[ho,Instr.buildSlice,run_underlying ht,kV hi,newRow,Array.range_zero',Instr.fill]
end
end
section
section
variable {P:Program}{φ:eL}{h:ai}{w:World}{fr:List AV}{a:Act}
theorem Mr{nx:Nat}{pr:Nat->Prop}:∀(l:List AV) (s:List UInt8) (f:Nat->Value),bytesOf l=some s->(∀j,j<l.length->RV φ nx pr w (l.getD j .undef) (f j))->
 ∃ns:List Int,(List.range l.length).map f=ns.map (Value.int .u8)/\ns.map (λn=>UInt8.ofNat n.toNat)=s:=by
 intro l
 induction l with
 |nil=>intro s f hs _;simp only[bytesOf,Option.some.injEq] at hs;subst hs;exact⟨[],rfl,rfl⟩
 |cons x r ih=>
   intro s f hs hv;have hx:=hv 0 (by simp)
   cases x with
   |int k n=>
     cases k<;>simp only[bytesOf] at hs<;>first|(cases hs;done)|skip
     obtain⟨s',h1,rfl⟩:=Option.map_eq_some_iff.1 hs
     obtain⟨ns,e1,e2⟩:=ih s' (λj=>f (j+1)) h1 λj hj=>by have:=hv (j+1) (by simpa using hj);simpa using this
     refine⟨n::ns,?_,by simp[e2]⟩;have h0:f 0=.int .u8 n:=RV.fG (by simpa using hx);rw[List.length_cons,List.range_succ_eq_map,List.map_cons,List.map_map,h0,List.map_cons,<-e1];rfl
   |_=>simp[bytesOf] at hs
theorem y7:∀(ns:List Int) (r:ByteArray),(ns.foldl (λr n=>r.push (UInt8.ofNat n.toNat)) r).data.toList=r.data.toList++ns.map λn=>UInt8.ofNat n.toNat
 |[],r=>by simp
 |n::ns,r=>by rw[List.foldl_cons,y7 ns];simp[ByteArray.push]
theorem Y0{s d e:TypeId}{x:Operand}{o:Oper}(ho:o.op=.convert s d x){x':dU}(hx:iQ x=some x')(hs:P.underlying s=some .string)(hd:P.underlying d=some (.slice e))(he:P.underlying e=some (.int .u8))
 {b:List UInt8} (hv:x'.ev fr=.str b) (hf:FR φ h w fr a.tmps) (hr:HR φ h w):gL P (execOp a.eval o) φ h w (.sl (b.map λc=>.int .u8 c.toNat)) h:=by
 have g:=di hx hf;rw[hv] at g;obtain⟨c,q1,q2⟩:=g.hP;have uY:=run_bytes_of_string (P:=P) w s d e c hs hd he;generalize hg:grownCap w c.size 0 e=cap at uY;have mW:c.size<=cap:=by rw[<-hg];exact ud _ _ _ _
 obtain⟨r1,r2⟩:=AI (w':=w.drew.alloc (.cells (bytesRow c cap) e ((bytesRow c cap).size,(bytesRow c cap).size+1))) hr rfl rfl rfl rfl;refine⟨.slice (some ⟨w.heap.size,0,none⟩) c.size cap,w.drew.alloc (.cells (bytesRow c cap) e ((bytesRow c cap).size,(bytesRow c cap).size+1)),φ,.inl ?_,?_,r1,r2⟩
 .unfold execOp;simp[ho,q1,uY]
 .have fZ:(b.map λc=>AV.int .u8 c.toNat).length=c.size:=by
   rw[List.length_map,<-q2];simp
  rw[<-fZ]
  have kU:(bytesRow c cap).size=cap:=by unfold bytesRow;simp;have:c.data.size=c.size:=rfl;omega
  have hc:∀i,i<b.length->(bytesRow c cap)[i]? =some (.int .u8 ((b.getD i 0).toNat:Int)):=λi hi=>by
   have jE:i<c.data.size:=by
    have h1:c.data.toList.length=b.length:=by rw[q2]
    rw[Array.length_toList] at h1;omega
   unfold bytesRow;rw[Array.getElem?_append_left (by simpa using jE)]
   have h2:b.getD i 0=c.data[i]:=by rw[<-q2,List.getD_eq_getElem?_getD,Array.getElem?_toList,Array.getElem?_eq_getElem jE,Option.getD_some]
   rw[h2,Array.getElem?_map,Array.getElem?_eq_getElem jE,Option.map_some]
  refine .sl _ w.heap.size 0 cap 1 (λi _=>.int .u8 ((b.getD i 0).toNat:Int)) ⟨?_,?_,?_⟩ (by rw[fZ];exact mW) ?_ (λ_ _=>rfl) ?_ ?_ ?_
  .show w.heap.size<(w.heap.push _).size;simp
  .intro id hl e;have:=hr.gJ hl;omega
  .intro Cm;have:=(hr.gh _ Cm).1;omega
  .have:∀l:List UInt8,AV.aw (l.map λc=>AV.int .u8 c.toNat)=0:=by
    intro l
    induction l with
    |nil=>rfl
    |cons x r ih=>simp[AV.aw,AV.aK,ih]
   exact this b
  .intro i hi;simp[AV.cells?]
  .intro i j hi hj;have Z2:j=0:=by omega
   subst Z2;have jE:i<b.length:=by simpa using hi
   have hb:(w.drew.alloc (.cells (bytesRow c cap) e ((bytesRow c cap).size,(bytesRow c cap).size+1))).heap[w.heap.size]? =some (.cells (bytesRow c cap) e ((bytesRow c cap).size,(bytesRow c cap).size+1)):=by show (w.heap.push _)[w.heap.size]? =_;simp
   unfold World.cell?;simp only[hb,Nat.zero_add,Nat.mul_one,Nat.add_zero];exact hc i jE
  .intro i hi j hj;have jE:i<b.length:=by simpa using hi
   simp only[List.getElem_map,AV.cells] at hj|-;have Z2:j=0:=by simpa using hj
   subst Z2;have:b.getD i 0=b[i]:=by simp[List.getD,jE]
   rw[this];exact .int _ _
theorem OB{s d e:TypeId}{x:Operand}{o:Oper}(ho:o.op=.convert s d x){x':dU}(hx:iQ x=some x')(hs:P.underlying s=some (.slice e))(hd:P.underlying d=some .string)(he:P.underlying e=some (.int .u8))
 {n:Nat} {cs:List AV} (hv:aT h 1 (x'.ev fr)=some (n,cs)) (Cn:∀s,x'.ev fr≠.str s) {b:List UInt8} (hb:bytesOf cs=some b) (hf:FR φ h w fr a.tmps) (hr:HR φ h w):gL P (execOp a.eval o) φ h w (.str b) h:=by
 have g:=di hx hf
 have EP:∃ad cap,a.eval x=.slice ad n cap:=by
  cases hq:x'.ev fr with
  |aJ=>rw[hq] at g hv;obtain⟨ad,q⟩:=g.py;simp only[aT,Option.some.injEq,Prod.mk.injEq] at hv;exact⟨ad,0,by rw[q,<-hv.1]⟩
  |sl xs=>
    rw[hq] at g hv
    have hn:xs.length=n:=by
     simp only[aT] at hv;split at hv
     .cases hv;rfl
     .cases hv
    rcases g.uA with⟨ad,cap,e1,q⟩|⟨b,o',cap,sz,vs,q,_⟩
    .subst e1;exact⟨ad,cap,by rw[q,<-hn];rfl⟩
    .exact⟨_,cap,by rw[q,hn]⟩
  |vec id off len sz lb=>
    rw[hq] at g hv;obtain⟨cap,ad,q,_⟩:=g.lR
    have hn:len=n:=by
     simp only[aT] at hv;split at hv
     .split at hv
      .cases hv;rfl
      .cases hv
     .cases hv
    exact⟨ad,cap,by rw[q,hn]⟩
  |str s=>exact absurd hq (Cn s)
  |_=>rw[hq] at hv;simp[aT] at hv
 obtain⟨ad,cap,q⟩:=EP;obtain⟨n1,f,n2,_,n4⟩:=GZ (P:=P) hv g hr (by omega);rw[Nat.mul_one] at n1 n2 n4;obtain⟨ns,e1,e2⟩:=Mr (φ:=φ) (w:=w) cs b f hb λj hj=>(n2 j (by omega)).1
 have hl:=n4 w rfl;rw[q] at hl;rw[n1] at e1;rw[e1] at hl;have hcv:=run_convert_bytes_string (P:=P) w s d e ad n cap hs he hd
 cases ad with
 |none=>
   simp[Builtin.firstCells] at hl
   have akk:ns=[]:=by
    cases ns with
    |nil=>rfl
    |cons _ _=>simp at hl
   subst akk;refine .pure (cv:=.string .empty) hr ?_ (.Ag (by rw[<-e2];rfl));unfold execOp;simp[ho,q,hcv,Conv.bytesToString]
 |some ad=>
   simp only[Builtin.firstCells,Nat.mul_one] at hl;have A3:=run_bytesToString (P:=P) w ad n cap ns hl;refine .pure (cv:=.string (ns.foldl (λr n=>r.push (UInt8.ofNat n.toNat)) ByteArray.empty)) hr ?_ (.Ag ?_)
   .unfold execOp;simp[ho,q,hcv,A3]
   .rw[y7,e2];rfl
end
end
section
section
variable {P:Program}{φ:eL}{h:ai}{w:World}{fr:List AV}{a:Act}
theorem Io{n:Int}(h0:0<=n)(h1:n<128):Utf8.encode n=⟨#[UInt8.ofNat n.toNat]⟩:=by
 have hv:Utf8.valid n=true:=by unfold Utf8.valid;simp;omega
 unfold Utf8.encode;simp only[hv,if_true];rw[if_pos (by omega)]
theorem Zz{s d:TypeId}{x:Operand}{o:Oper}(ho:o.op=.convert s d x){x':dU}(hx:iQ x=some x'){k0:IntKind}(hs:P.underlying s=some (.int k0))(hd:P.underlying d=some .string)
 {k':IntKind} {n:Int} (hv:x'.ev fr=.int k' n) (h0:0<=n) (h1:n<128) (hf:FR φ h w fr a.tmps) (hr:HR φ h w):gL P (execOp a.eval o) φ h w (.str [UInt8.ofNat n.toNat]) h:=by
 have g:=di hx hf;rw[hv] at g;exact .pure (cv:=.string (Utf8.encode n)) hr (by unfold execOp;simp[ho,g.fG,convert,run_underlying hs,run_underlying hd,Conv.intToString]) (.Ag (by rw[Io h0 h1]))
end
end
end Sz
