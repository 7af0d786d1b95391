import Derived.Calls
import GoSem.Claims
import Derived.Laws.World
import Derived.Laws.Sem
import GoSem.Dispatch
import GoSem.Core.Region
import Derived.Laws.Append
import Derived.Laws.Tables
import Derived.Laws.Strings
import Derived.Laws.StructEq
import Derived.Laws.Slices
set_option linter.all false
set_option maxHeartbeats 16000000
set_option maxRecDepth 100000
namespace Sz
open Go
section
variable {X:World->Prop}
inductive AV where
 |undef
 |bool (b:Bool)
 |int (k:IntKind) (n:Int)
 |str (s:List UInt8)
 |nw
 |ptr (id off:Nat)
 |ip (cs:List AV)
 |aF
 |sl (xs:List AV)
 |vec (id off len sz lb:Nat)
 |kq
 |map (id:Nat)
 |ji
 |fn (f:Nat) (aO:List AV)
 |nu
 |iface (t:Nat) (v:AV)
 |agg (cs:List AV)
 |tuple (vs:List AV)
 deriving Inhabited
def AV.cells:AV->List AV
 |.agg cs=>cs
 |v=>[v]
def AV.cells?:AV->Option (List AV)
 |.agg cs=>some cs
 |.undef=>none
 |.tuple _=>none
 |v=>some [v]
mutual
def AV.aJ:AV->Nat
 |.ptr id _=>id+1
 |.vec id _ _ _ _=>id+1
 |.map id=>id+1
 |.fn _ aO=>AV.ah aO
 |.iface _ v=>v.aJ
 |.agg cs=>AV.ah cs
 |.tuple vs=>AV.ah vs
 |_=>0
def AV.ah:List AV->Nat
 |[]=>0
 |v::r=>max v.aJ (AV.ah r)
end
variable {v:AV}{l:List AV}
theorem AV.cR(h:v∈l):v.aJ<=AV.ah l:=by
 induction l with
 |nil=>cases h
 |cons x r ih=>
   simp only[AV.ah]
   cases h with
   |head=>omega
   |tail _ h=>have:=ih h;omega
theorem AV.kB{n:Nat}(h:∀v∈l,v.aJ<=n):AV.ah l<=n:=by
 induction l with
 |nil=>simp[AV.ah]
 |cons x r ih=>
   simp only[AV.ah];have h1:=h x (by simp);have h2:=ih λv hv=>h v (by simp[hv])
   omega
inductive aT where
 |row (cs:List AV)
 |map (es:List (AV×AV))
 |dead
 deriving Inhabited
structure af where
 next:Nat
 gm:List aT
 wl:Nat
 md:Nat
def af.get(h:af)(id:Nat):Option aT:=if id<h.next then h.gm[h.next-1-id]? else none
def af.set(h:af)(id:Nat)(o:aT):af:=if id<h.next then {h with gm:=h.gm.set (h.next-1-id) o,md:=min h.md id} else h
def af.alloc(h:af)(o:aT):af:={h with next:=h.next+1,gm:=o::h.gm}
def af.mark(h:af)(id:Nat)(v:AV):af:=if id+1<v.aJ then {h with wl:=min h.wl id} else h
def af.kj(h:af)(n:Nat):af:={h with next:=min h.next n,gm:=h.gm.drop (h.next-n)}
def af.wf(h:af):Prop:=h.gm.length=h.next
section heap
variable {h:af}{id VC n:Nat}{o o':aT}
@[simp] theorem af.ma:(h.alloc o).next=h.next+1:=rfl
@[simp] theorem af.Zj:(h.set id o).next=h.next:=by unfold af.set;split<;>rfl
@[simp] theorem af.ahg:(h.mark id v).next=h.next:=by unfold af.mark;split<;>rfl
@[simp] theorem af.lN:(h.mark id v).get VC=h.get VC:=by unfold af.mark;split<;>rfl
@[simp] theorem af.ai4:(h.alloc o).wl=h.wl:=rfl
@[simp] theorem af.ame:(h.set id o).wl=h.wl:=by unfold af.set;split<;>rfl
theorem af.fg:(h.alloc o).get h.next=some o:=by simp[af.get,af.alloc]
theorem af.dd(bX:id<h.next):(h.alloc o).get id=h.get id:=by unfold af.get af.alloc;simp only[bX,if_true,show id<h.next+1 by omega];rw[show h.next+1-1-id=(h.next-1-id)+1 by omega,List.getElem?_cons_succ]
theorem af.dR(hg:h.get id=some o):id<h.next:=by
 unfold af.get at hg;split at hg
 .assumption
 .cases hg
theorem af.get_set_same(hg:h.get id=some o'):(h.set id o).get id=some o:=by have hl:=af.dR hg;unfold af.get at hg|-;unfold af.set;simp only[hl,if_true] at hg|-;have:=(List.getElem?_eq_some_iff.1 hg).1;simp[this]
theorem af.get_set_other(eR:id≠VC):(h.set id o).get VC=h.get VC:=by
 unfold af.set;split
 .unfold af.get;dsimp only;split
  .rw[List.getElem?_set_ne (by omega)]
  .rfl
 .rfl
theorem af.sr(bX:id<n):(h.kj n).get id=h.get id:=by
 unfold af.kj af.get;dsimp only;by_cases hl:id<h.next
 .rw[if_pos (by omega),if_pos hl,List.getElem?_drop];congr 1;omega
 .rw[if_neg (by omega),if_neg hl]
@[simp] theorem af.yw:(h.kj n).next=min h.next n:=rfl
end heap
structure PE where
 gA:Nat
 base:Nat
 room:Nat
 deriving Inhabited
structure eJ where
 at_:Nat->PE
 gh:Nat->Prop
instance:CoeFun eJ (λ_=>Nat->PE):=⟨eJ.at_⟩
inductive RV (φ:eJ) (nx:Nat) (pr:Nat->Prop) (w:World):AV->Value->Prop where
 |undef (v:Value):RV φ nx pr w .undef v
 |bool (b:Bool):RV φ nx pr w (.bool b) (.bool b)
 |int (k:IntKind) (n:Int):RV φ nx pr w (.int k n) (.int k n)
 |str (s:ByteArray):RV φ nx pr w (.str s.data.toList) (.string s)
 |nw:RV φ nx pr w .nw (.pointer none)
 |ptr (id off:Nat) (h:id<nx):RV φ nx pr w (.ptr id off) (.pointer (some ⟨(φ id).gA,(φ id).base+off,none⟩))
 |ip (cs:List AV) (b o:Nat) (vs:Nat->Value) (hp:pr b) (wi:AV.ah cs=0) (h1:∀j,(vs j).oneCell'=true)
  (hc:∀j,j<cs.length->w.cell? ⟨b,o+j,none⟩=some (vs j)) (hv:∀j (h:j<cs.length),RV φ nx pr w cs[j] (vs j)):
  RV φ nx pr w (.ip cs) (.pointer (some ⟨b,o,none⟩))
 |aF (a:Option Addr):RV φ nx pr w .aF (.slice a 0 0)
 |slnil (a:Option Addr) (cap:Nat):RV φ nx pr w (.sl []) (.slice a 0 cap)
 |sl (xs:List AV) (b o cap sz:Nat) (vs:Nat->Nat->Value) (hp:pr b) (kI:xs.length<=cap) (wi:AV.ah xs=0) (h1:∀i j,(vs i j).oneCell'=true)
  (iE:∀i (h:i<xs.length),(xs[i]).cells?.map List.length=some sz)
  (hc:∀i j,i<xs.length->j<sz->w.cell? ⟨b,o+i*sz+j,none⟩=some (vs i j))
  (hv:∀i (h:i<xs.length) j (h':j<(xs[i]).cells.length),RV φ nx pr w ((xs[i]).cells[j]) (vs i j)):
  RV φ nx pr w (.sl xs) (.slice (some ⟨b,o,none⟩) xs.length cap)
 |vec (id off len sz lb cap:Nat) (a:Option Addr) (h:id<nx) (hl:len<=cap) (hb:lb<=cap) (hr:off+cap*sz<=(φ id).room)
  (ha:0<cap->a=some ⟨(φ id).gA,(φ id).base+off,none⟩):RV φ nx pr w (.vec id off len sz lb) (.slice a len cap)
 |kq:RV φ nx pr w .kq (.map none)
 |map (id:Nat) (h:id<nx):RV φ nx pr w (.map id) (.map (some (φ id).gA))
 |ji:RV φ nx pr w .ji .nilFunc
 |fn (f:Nat) (aO:List AV) (eY:Array Value) (hl:eY.size=aO.length) (hv:∀j (h:j<aO.length),RV φ nx pr w aO[j] (eY.getD j default)):
  RV φ nx pr w (.fn f aO) (.func (.func f) #[] eY)
 |nu:RV φ nx pr w .nu .nilIface
 |iface (t:Nat) (v:AV) (cv:Value) (hv:RV φ nx pr w v cv):RV φ nx pr w (.iface t v) (.iface t cv)
 |agg (cs:List AV) (eY:Array Value) (hl:eY.size=cs.length) (h1:∀j,(eY.getD j default).oneCell'=true) (hv:∀j (h:j<cs.length),RV φ nx pr w cs[j] (eY.getD j default)):
  RV φ nx pr w (.agg cs) (.agg eY)
 |tuple (vs:List AV) (eY:Array Value) (hl:eY.size=vs.length) (hv:∀j (h:j<vs.length),RV φ nx pr w vs[j] (eY.getD j default)):
  RV φ nx pr w (.tuple vs) (.tuple eY)
theorem cell?_of_block{w w':World}{b:Nat}(h:w'.heap[b]? =w.heap[b]?)(o:Nat):w'.cell? ⟨b,o,none⟩=w.cell? ⟨b,o,none⟩:=by unfold World.cell?;simp only[h]
theorem RV.mono{φ φ':eJ}{nx SI:Nat}{pr AT:Nat->Prop}{w w':World}{cv:Value}(h:RV φ nx pr w v cv)
 (hφ:∀id,id<v.aJ->id<nx->φ' id=φ id/\id<SI) (mF:∀b,pr b->AT b/\w'.heap[b]? =w.heap[b]?):RV φ' SI AT w' v cv:=by
 induction h with
 |undef v=>exact .undef v
 |bool b=>exact .bool b
 |int k n=>exact .int k n
 |str s=>exact .str s
 |nw=>exact .nw
 |ptr id off h=>obtain⟨e,hl⟩:=hφ id (by simp[AV.aJ]) h;rw[<-e];exact .ptr id off hl
 |ip cs b o vs hp wi h1 hc hv ih=>
   obtain⟨hp',hb⟩:=mF b hp;refine .ip cs b o vs hp' wi h1 (λj hj=>(cell?_of_block hb _).trans (hc j hj)) λj hj=>ih j hj λid bX=>?_
   have:=AV.cR (List.getElem_mem hj);omega
 |aF a=>exact .aF a
 |slnil a cap=>exact .slnil a cap
 |sl xs b o cap sz vs hp kI wi h1 iE hc hv ih=>
   obtain⟨hp',hb⟩:=mF b hp;refine .sl xs b o cap sz vs hp' kI wi h1 iE (λi j hi hj=>(cell?_of_block hb _).trans (hc i j hi hj)) λi hi j hj=>ih i hi j hj λid bX=>?_
   have h0:=AV.cR (List.getElem_mem hi);have h2:=AV.cR (List.getElem_mem hj)
   have h3:AV.ah (xs[i]).cells<=(xs[i]).aJ:=by cases xs[i]<;>simp[AV.cells,AV.aJ,AV.ah]
   omega
 |vec id off len sz lb cap a h hl hb hr ha=>obtain⟨e,wj⟩:=hφ id (by simp[AV.aJ]) h;rw[<-e] at hr ha;exact .vec id off len sz lb cap a wj hl hb hr ha
 |kq=>exact .kq
 |map id h=>obtain⟨e,hl⟩:=hφ id (by simp[AV.aJ]) h;rw[<-e];exact .map id hl
 |ji=>exact .ji
 |fn f aO eY hl hv ih=>
   refine .fn f aO eY hl λj hj=>ih j hj λid bX=>hφ id ?_
   have:=AV.cR (List.getElem_mem hj);simp only[AV.aJ];omega
 |nu=>exact .nu
 |iface t v cv hv ih=>exact .iface t v cv (ih λid bX=>hφ id (by simpa[AV.aJ] using bX))
 |agg cs eY hl h1 hv ih=>
   refine .agg cs eY hl h1 λj hj=>ih j hj λid bX=>hφ id ?_
   have:=AV.cR (List.getElem_mem hj);simp only[AV.aJ];omega
 |tuple cs eY hl hv ih=>
   refine .tuple cs eY hl λj hj=>ih j hj λid bX=>hφ id ?_
   have:=AV.cR (List.getElem_mem hj);simp only[AV.aJ];omega
theorem RV.DH{φ:eJ}{nx:Nat}{pr:Nat->Prop}{w:World}{cv:Value}(h:RV φ nx pr w v cv):v.aJ<=nx:=by
 induction h with
 |ptr id off h=>simp only[AV.aJ];omega
 |vec id off len sz lb cap a h hl hb hr ha=>simp only[AV.aJ];omega
 |map id h=>simp only[AV.aJ];omega
 |fn f aO eY hl hv ih=>
   simp only[AV.aJ];refine AV.kB λv NX=>?_
   obtain⟨j,hj,rfl⟩:=List.getElem_of_mem NX;exact ih j hj
 |iface t v cv hv ih=>simpa[AV.aJ] using ih
 |agg cs eY hl h1 hv ih=>
   simp only[AV.aJ];refine AV.kB λv NX=>?_
   obtain⟨j,hj,rfl⟩:=List.getElem_of_mem NX;exact ih j hj
 |tuple cs eY hl hv ih=>
   simp only[AV.aJ];refine AV.kB λv NX=>?_
   obtain⟨j,hj,rfl⟩:=List.getElem_of_mem NX;exact ih j hj
 |_=>simp[AV.aJ]
def live(h:af)(id:Nat):Prop:=∃o,h.get id=some o/\(∀_:o=.dead,False)
def Pr(φ:eJ)(h:af)(w:World)(b:Nat):Prop:=b<w.heap.size/\(∀id,live h id->(φ id).gA≠b)/\¬φ.gh b
abbrev fe(φ:eJ)(h:af)(w:World):AV->Value->Prop:=RV φ h.next (Pr φ h w) w
def u5(φ:eJ)(h:af)(w:World)(id:Nat)(cs:List AV):Prop:=
 ∃c el fr,w.heap[(φ id).gA]? =some (.cells c el fr)/\(φ id).base+(φ id).room<=c.size/\cs.length<=(φ id).room/\
   (∀o,o<c.size->¬(fr.1<=o/\o<fr.2))/\
   (∀j,j<(φ id).room->(c.getD ((φ id).base+j) default).oneCell'=true)/\
   ∀j (hj:j<cs.length),fe φ h w cs[j] (c.getD ((φ id).base+j) default)
def zR(φ:eJ)(h:af)(w:World)(id:Nat)(es:List (AV×AV)):Prop:=
 ∃gn pB,w.heap[(φ id).gA]? =some (.map gn pB)/\gn.size=es.length/\
   ∀j (hj:j<es.length),fe φ h w es[j].1 (gn.getD j default).key/\fe φ h w es[j].2 (gn.getD j default).val
structure HR(φ:eJ)(h:af)(w:World):Prop where
 wf:h.wf
 rows:∀id cs,h.get id=some (.row cs)->u5 φ h w id cs
 maps:∀id es,h.get id=some (.map es)->zR φ h w id es
 inj:∀i j,live h i->live h j->(φ i).gA=(φ j).gA->i=j
 gh:∀b,φ.gh b->b<w.heap.size/\∀id,live h id->(φ id).gA≠b
structure Ext(φ:eJ)(h:af)(w:World)(φ':eJ)(h':af)(w':World):Prop where
 os:w'.os=w.os
 tape:w'.tape=w.tape
 output:w'.output=w.output
 size:w.heap.size<=w'.heap.size
 next:h.next<=h'.next
 CD:∀id,id<h.next->φ' id=φ id
 pr:∀b,Pr φ h w b->Pr φ' h' w' b/\w'.heap[b]? =w.heap[b]?
 gh:φ'.gh=φ.gh/\∀b,φ.gh b->w'.heap[b]? =w.heap[b]?
theorem Ext.refl(φ:eJ)(h:af)(w:World):Ext φ h w φ h w:=⟨rfl,rfl,rfl,Nat.le_refl _,Nat.le_refl _,λ_ _=>rfl,λ_ hb=>⟨hb,rfl⟩,rfl,λ_ _=>rfl⟩
theorem Ext.trans{φ φ1 φ2:eJ}{h h1 h2:af}{w w1 w2:World}(a:Ext φ h w φ1 h1 w1)(b:Ext φ1 h1 w1 φ2 h2 w2):Ext φ h w φ2 h2 w2:=
 ⟨b.os.trans a.os,b.tape.trans a.tape,b.output.trans a.output,Nat.le_trans a.size b.size,Nat.le_trans a.next b.next,
  λid bX=>(b.CD id (Nat.lt_of_lt_of_le bX a.next)).trans (a.CD id bX),λx hx=>by obtain⟨h1,e1⟩:=a.pr x hx;obtain⟨h2,e2⟩:=b.pr x h1;exact⟨h2,e2.trans e1⟩,b.gh.1.trans a.gh.1,λx hx=>(b.gh.2 x (by rw[a.gh.1];exact hx)).trans (a.gh.2 x hx)⟩
theorem RV.ext{φ φ':eJ}{h h':af}{w w':World}{cv:Value}(hv:fe φ h w v cv)(e:Ext φ h w φ' h' w'):fe φ' h' w' v cv:=hv.mono (λid _ bX=>⟨e.CD id bX,Nat.lt_of_lt_of_le bX e.next⟩) e.pr
def ir(P:Program)(X:World->Prop)(φ:eJ)(h:af)(w:World):Prop:=∃w1:World,(w1.ShapedOpen P/\X w1)/\∀b,b<w1.heap.size->b<w.heap.size/\(φ.gh b\/Pr φ h w b)/\w.heap[b]? =w1.heap[b]?
theorem ir.ext{P:Program}{φ φ':eJ}{h h':af}{w w':World}(g:ir P X φ h w)(e:Ext φ h w φ' h' w'):ir P X φ' h' w':=by
 obtain⟨w1,h1,h2⟩:=g;refine⟨w1,h1,λb hb=>?_⟩;obtain⟨g1,g2,g3⟩:=h2 b hb;refine⟨Nat.lt_of_lt_of_le g1 e.size,?_⟩;rcases g2 with g2|g2
 .exact⟨.inl (by rw[e.gh.1];exact g2),(e.gh.2 b g2).trans g3⟩
 .exact⟨.inr (e.pr b g2).1,(e.pr b g2).2.trans g3⟩
def FR(φ:eJ)(h:af)(w:World)(fr:List AV)(tm:Array Value):Prop:=tm.size=fr.length/\∀t,fe φ h w (fr.getD t .undef) (tm.getD t undef)
variable {fr:List AV}
theorem FR.ext{φ φ':eJ}{h h':af}{w w':World}{tm:Array Value}(hf:FR φ h w fr tm)(e:Ext φ h w φ' h' w'):FR φ' h' w' fr tm:=⟨hf.1,λt=>(hf.2 t).ext e⟩
theorem FR.put{φ:eJ}{h:af}{w:World}{tm:Array Value}(hf:FR φ h w fr tm){cv:Value}(hv:fe φ h w v cv)(d:Nat):
 FR φ h w (fr.set d v) (tm.setIfInBounds d cv):=by
 refine⟨by simp[hf.1],λt=>?_⟩;have ht:=hf.2 t;rw[List.getD_eq_getElem?_getD] at ht|-;rw[Array.getD_eq_getD_getElem?] at ht|-;rw[List.getElem?_set,Array.getElem?_setIfInBounds];by_cases hd:d=t
 .subst hd;simp only[if_true,hf.1];by_cases hl:d<fr.length
  .simpa[hl] using hv
  .simp only[hl,if_false];exact .undef _
 .simpa[hd] using ht
variable {cs:List AV}
section inv
variable {φ:eJ}{nx:Nat}{pr:Nat->Prop}{w:World}{cv:Value}
theorem RV.wH{id off:Nat}(h:RV φ nx pr w (.ptr id off) cv):cv=.pointer (some ⟨(φ id).gA,(φ id).base+off,none⟩)/\id<nx:=by
 cases h with
 |ptr _ _ h=>exact⟨rfl,h⟩
theorem RV.Pp(h:RV φ nx pr w (.ip cs) cv):∃b o,∃vs:Nat->Value,cv=.pointer (some ⟨b,o,none⟩)/\pr b/\AV.ah cs=0/\(∀j,(vs j).oneCell'=true)/\
 (∀j,j<cs.length->w.cell? ⟨b,o+j,none⟩=some (vs j))/\∀j (h:j<cs.length),RV φ nx pr w cs[j] (vs j):=by
 cases h with
 |ip _ b o vs hp wi h1 hc hv=>exact⟨b,o,vs,rfl,hp,wi,h1,hc,hv⟩
theorem RV.tU{xs:List AV}(h:RV φ nx pr w (.sl xs) cv):(∃a cap,xs=[]/\cv=.slice a 0 cap)\/
 ∃b o cap sz,∃vs:Nat->Nat->Value,cv=.slice (some ⟨b,o,none⟩) xs.length cap/\pr b/\xs.length<=cap/\AV.ah xs=0/\(∀i j,(vs i j).oneCell'=true)/\
   (∀i (h:i<xs.length),(xs[i]).cells?.map List.length=some sz)/\(∀i j,i<xs.length->j<sz->w.cell? ⟨b,o+i*sz+j,none⟩=some (vs i j))/\
   ∀i (h:i<xs.length) j (h':j<(xs[i]).cells.length),RV φ nx pr w ((xs[i]).cells[j]) (vs i j):=by
 cases h with
 |slnil a cap=>exact .inl ⟨a,cap,rfl,rfl⟩
 |sl _ b o cap sz vs hp kI wi h1 iE hc hv=>exact .inr ⟨b,o,cap,sz,vs,rfl,hp,kI,wi,h1,iE,hc,hv⟩
theorem RV.kO{id off len sz lb:Nat}(h:RV φ nx pr w (.vec id off len sz lb) cv):∃cap a,cv=.slice a len cap/\id<nx/\len<=cap/\lb<=cap/\off+cap*sz<=(φ id).room/\
 (0<cap->a=some ⟨(φ id).gA,(φ id).base+off,none⟩):=by
 cases h with
 |vec _ _ _ _ _ cap a h hl hb hr ha=>exact⟨cap,a,rfl,h,hl,hb,hr,ha⟩
theorem RV.nh(h:RV φ nx pr w .aF cv):∃a,cv=.slice a 0 0:=by
 cases h with
 |aF a=>exact⟨a,rfl⟩
theorem RV.uo{id:Nat}(h:RV φ nx pr w (.map id) cv):cv=.map (some (φ id).gA)/\id<nx:=by
 cases h with
 |map _ h=>exact⟨rfl,h⟩
theorem RV.Ah(h:RV φ nx pr w .kq cv):cv=.map none:=by cases h;rfl
theorem RV.qu(h:RV φ nx pr w (.agg cs) cv):∃eY:Array Value,cv=.agg eY/\eY.size=cs.length/\(∀j,(eY.getD j default).oneCell'=true)/\
 ∀j (h:j<cs.length),RV φ nx pr w cs[j] (eY.getD j default):=by
 cases h with
 |agg _ eY hl h1 hv=>exact⟨eY,rfl,hl,h1,hv⟩
theorem RV.sa(h:RV φ nx pr w (.tuple cs) cv):∃eY:Array Value,cv=.tuple eY/\eY.size=cs.length/\∀j (h:j<cs.length),RV φ nx pr w cs[j] (eY.getD j default):=by
 cases h with
 |tuple _ eY hl hv=>exact⟨eY,rfl,hl,hv⟩
theorem RV.D5{f:Nat}{aO:List AV}(h:RV φ nx pr w (.fn f aO) cv):∃eY:Array Value,cv=.func (.func f) #[] eY/\eY.size=aO.length/\∀j (h:j<aO.length),RV φ nx pr w aO[j] (eY.getD j default):=by
 cases h with
 |fn _ _ eY hl hv=>exact⟨eY,rfl,hl,hv⟩
theorem RV.MZ(h:RV φ nx pr w .nw cv):cv=.pointer none:=by cases h;rfl
theorem RV.Nj(h:RV φ nx pr w .nu cv):cv=.nilIface:=by cases h;rfl
theorem RV.Ij(h:RV φ nx pr w .ji cv):cv=.nilFunc:=by cases h;rfl
theorem RV.UW{t:Nat}(h:RV φ nx pr w (.iface t v) cv):∃c,cv=.iface t c/\RV φ nx pr w v c:=by
 cases h with
 |iface _ _ c hv=>exact⟨c,rfl,hv⟩
end inv
end
section
inductive dY where
 |tmp (t:Nat)
 |const (v:AV)
 deriving Inhabited
inductive B6 where
 |Hy (x:dY)
 |pick (c x y:dY)
 |box (x:dY)
 |Sm (zero:List AV) (parts:List (Nat×Nat×dY))
 |AS (sz len:Nat) (zero:List AV) (parts:List (Nat×dY))
 |ld (n:Option Nat) (x:dY)
 |st (n:Nat) (x v:dY)
 |nck (x:dY)
 |bin (op:BinOp) (x y:dY)
 |beq (neg:Bool) (x y:dY)
 |ceq (kinds:List Nat) (neg:Bool) (x y:dY)
 |peq (kind:Nat) (neg:Bool) (x y:dY)
 |un (op:UnOp) (x:dY)
 |cvi (k:IntKind) (x:dY)
 |Ws (x:dY)
 |Py (x:dY)
 |TJ (x:dY)
 |S8 (x:dY)
 |mki (t:Nat) (x:dY)
 |VR (f:Nat) (aO:List dY)
 |mkm
 |mks (bytes:Nat) (zero:List AV) (l c:dY)
 |YP (x:dY) (lo hi:Option dY)
 |slv (sz:Nat) (x:dY) (lo hi mx:Option dY)
 |fad (off:Nat) (x:dY)
 |fld (off:Nat) (n:Option Nat) (x:dY)
 |iad (sz:Nat) (x i:dY)
 |ixs (x i:dY)
 |lkp (kd:Nat) (zero:AV) (ok:Bool) (m k:dY)
 |Z4 (kd:Nat) (m k v:dY)
 |ext (x:dY) (i:Nat)
 |lens (x:dY)
 |vj (x:dY)
 |ae9 (x:dY)
 |mx (x y:dY)
 |mn (x y:dY)
 |app (sz bytes:Nat) (x y:dY)
 |clr (zero:List AV) (x:dY)
 |bs0
 |OU (neg:Bool) (x:dY)
 |fsl (len:Nat) (zero:List AV) (parts:List (Nat×dY))
 |XL (x:dY)
 |die
 deriving Inhabited
inductive Sd where
 |op (a:B6)
 |call (f:Nat) (args:List dY)
 |lM (x:dY) (args:List dY)
 deriving Inhabited
structure aQ where
 dst:Option Nat
 op:Sd
 guard:Option (Nat×Bool):=none
 deriving Inhabited
inductive bZ where
 |skip
 |kT (ops:List aQ)
 |pJ (ops:List aQ) (chk:List (Nat×Nat))
 |seq (a b:bZ)
 |cond (c:dY) (a b:bZ)
 |block (id:Nat) (a:bZ)
 |loop (live:List Bool) (a:bZ)
 |exit (id:Nat) (live:List Bool)
 |ret (live:List Bool)
 deriving Inhabited
inductive MS where
 |tmp (t:Nat)
 |cell (t:Nat) (n:Option Nat)
 deriving Inhabited
structure cL where
 ntmps:Nat
 results:List MS
 gB:Bool
 code:bZ
 deriving Inhabited
structure Env where
 fn:Nat->Option cL
 GD:Nat->List AV->Option AV
 JJ:Nat->List AV->List aT->Option (AV×Option (List aT))
def B6.nH:B6->List dY
 |.Hy x|.box x|.ld _ x|.nck x|.un _ x|.cvi _ x|.Ws x|.Py x|.TJ x|.S8 x|.mki _ x|.fad _ x|.fld _ _ x|.ext x _|.lens x|.vj x|.ae9 x|.clr _ x|.OU _ x|.XL x=>[x]
 |.pick c x y=>[c,x,y]
 |.Sm _ parts=>parts.map (·.2.2)
 |.AS _ _ _ parts|.fsl _ _ parts=>parts.map (·.2)
 |.st _ x v=>[x,v]
 |.bin _ x y|.beq _ x y|.ceq _ _ x y|.peq _ _ x y|.iad _ x y|.ixs x y|.mx x y|.mn x y|.app _ _ x y=>[x,y]
 |.VR _ aO=>aO
 |.mkm|.bs0|.die=>[]
 |.mks _ _ l c=>[l,c]
 |.YP x lo hi=>x::(lo.toList++hi.toList)
 |.slv _ x lo hi m3=>x::(lo.toList++(hi.toList++m3.toList))
 |.lkp _ _ _ m k=>[m,k]
 |.Z4 _ m k v=>[m,k,v]
def Sd.nH:Sd->List dY
 |.op a=>a.nH
 |.call _ args=>args
 |.lM x args=>x::args
def dY.tmps:dY->List Nat
 |.tmp t=>[t]
 |.const _=>[]
def aQ.reads(s:aQ):List Nat:=(match s.guard with|some (t,_)=>[t]|none=>[])++s.op.nH.flatMap dY.tmps
def B6.still:B6->Bool
 |.Hy _|.pick .. |.Sm .. |.nck _|.bin .. |.beq .. |.ceq .. |.peq .. |.un .. |.cvi .. |.Ws _|.Py _|.mki .. |.VR .. |.YP .. |.slv .. |.fad .. |.fld .. |.iad .. |.ixs .. |.ext .. |.lens _|.vj _|.mx .. |.mn .. |.bs0|.OU .. |.fsl .. |.XL _=>true
 |_=>false
def aQ.MH(s:aQ):Bool:=match s.op with|.op (.ld ..)=>true|_=>false
def aQ.uy(s:aQ):Bool:=match s.op with|.op (.ld ..)=>false|.op o=>!o.still|_=>true
def dY.low:dY->Bool
 |.tmp _=>true
 |.const v=>v.aJ==0
def aQ.nj(s:aQ):Bool:=match s.guard,s.op with
 |none,.op (.box x)=>x.low
 |none,.op (.AS _ _ zero parts)=>AV.ah zero==0&&parts.all λp=>p.2.low
 |_,_=>false
def dY.ev(fr:List AV):dY->AV
 |.tmp t=>fr.getD t .undef
 |.const v=>v
def putAt(cells:List AV)(off:Nat):List AV->List AV
 |[]=>cells
 |c::cs=>putAt (cells.set off c) (off+1) cs
def nf(cells:List AV):List (Nat×Nat×AV)->Option (List AV)
 |[]=>some cells
 |(off,sz,v)::rest=>
   match v.cells? with
   |some cs=>if cs.length=sz/\off+sz<=cells.length then nf (putAt cells off cs) rest else none
   |none=>none
def af.row(h:af)(id:Nat):Option (List AV):=
 match h.get id with
 |some (.row cs)=>some cs
 |_=>none
def af.iq(h:af)(id:Nat):Option (List (AV×AV)):=
 match h.get id with
 |some (.map es)=>some es
 |_=>none
def H0(op:BinOp)(k:IntKind)(x y:Int):Int:=
 let a:=BitVec.ofInt k.bits x
 let b:=BitVec.ofInt k.bits y
 match op with
 |.and=>k.wrap (a&&&b).toNat
 |.or=>k.wrap (a|||b).toNat
 |.xor=>k.wrap (a ^^^ b).toNat
 |_=>k.wrap (a&&&~~~b).toNat
def yf(op:BinOp):AV->AV->Option AV
 |.int k a,.int k' b=>
   match op with
   |.shl=>if b<0 then none else some (.int k (k.wrap (a*2^min b.toNat k.bits)))
   |.shr=>if b<0 then none else some (.int k (a.fdiv (2^min b.toNat k.bits)))
   |op=>if k=k' then
    (match op with
    |.add=>some (.int k (k.wrap (a+b)))
    |.sub=>some (.int k (k.wrap (a-b)))
    |.mul=>some (.int k (k.wrap (a*b)))
    |.quo=>if b=0 then none else some (.int k (k.wrap (a.tdiv b)))
    |.rem=>if b=0 then none else some (.int k (a.tmod b))
    |.and|.or|.xor|.andNot=>some (.int k (H0 op k a b))
    |.eql=>some (.bool (decide (a=b)))
    |.neq=>some (.bool (!decide (a=b)))
    |.lss=>some (.bool (decide (a<b)))
    |.leq=>some (.bool (decide (a<=b)))
    |.gtr=>some (.bool (decide (b<a)))
    |.geq=>some (.bool (decide (b<=a)))
    |_=>none) else none
 |.str a,.str b=>
   match op with
   |.add=>if a.length+b.length<2^63 then some (.str (a++b)) else none
   |.eql=>some (.bool (a==b))
   |.neq=>some (.bool (!(a==b)))
   |.lss=>some (.bool (Op.bytesLess a b))
   |.leq=>some (.bool (Op.bytesLess a b||a==b))
   |.gtr=>some (.bool (!(Op.bytesLess a b||a==b)))
   |.geq=>some (.bool (!(Op.bytesLess a b)))
   |_=>none
 |_,_=>none
def iC:Nat->AV->AV->Option Bool
 |0,.bool a,.bool b=>some (a==b)
 |1,.int k a,.int k' b=>if k=k' then some (decide (a=b)) else none
 |2,.str a,.str b=>some (a==b)
 |_,_,_=>none
def nY:List Nat->List AV->List AV->Option Bool
 |[],[],[]=>some true
 |k::ks,x::xs,y::ys=>
   match iC k x y,nY ks xs ys with
   |some a,some b=>some (a&&b)
   |_,_=>none
 |_,_,_=>none
def TF:AV->Option Bool
 |.nw|.nu|.ji|.kq=>some true
 |.ptr .. |.ip .. |.iface .. |.fn .. |.map ..=>some false
 |_=>none
def x5:Nat->AV->Option Bool
 |0,.nw=>some true
 |0,.ptr ..=>some false
 |0,.ip _=>some false
 |1,.nu=>some true
 |1,.iface ..=>some false
 |2,.ji=>some true
 |2,.fn ..=>some false
 |3,.kq=>some true
 |3,.map _=>some false
 |_,_=>none
def sliceB(n:Nat)(lo hi:Option AV):Option (Nat×Nat):=
 match (match hi with|none=>some n|some (.int _ i)=>(if 0<=i/\i<=(n:Int) then some i.toNat else none)|_=>none) with
 |none=>none
 |some h=>
   match (match lo with|none=>some 0|some (.int _ i)=>(if 0<=i/\i<=(h:Int) then some i.toNat else none)|_=>none) with
   |none=>none
   |some l=>some (l,h)
def ic(n lb:Nat)(lo hi mx:Option AV):Option (Nat×Nat×Option Nat):=
 match mx with
 |some (.int _ i)=>if 0<=i/\i<=(max n lb:Nat) then (match hi with
  |some _=>(sliceB i.toNat lo hi).map λp=>(p.1,p.2,some i.toNat)
  |none=>none) else none
 |some _=>none
 |none=>match hi with
   |none=>(sliceB n lo none).map λp=>(p.1,p.2,none)
   |some _=>(sliceB (max n lb) lo hi).map λp=>(p.1,p.2,none)
def aG(h:af)(sz:Nat):AV->Option (Nat×List AV)
 |.aF=>some (0,[])
 |.sl xs=>if (xs.all λx=>(x.cells?.map List.length)==some sz) then some (xs.length,xs.flatMap AV.cells) else none
 |.vec id off len s _=>
   match h.row id with
   |some cs=>if s=sz/\off+len*sz<=cs.length then some (len,(cs.drop off).take (len*sz)) else none
   |none=>none
 |.str s=>if sz=1 then some (s.length,s.map λb=>.int .u8 b.toNat) else none
 |_=>none
def bytesOf:List AV->Option (List UInt8)
 |[]=>some []
 |.int .u8 n::r=>(bytesOf r).map (UInt8.ofNat n.toNat::·)
 |_=>none
def oX(kd:Nat)(k:AV):List (AV×AV)->Option (Option AV)
 |[]=>some none
 |(k',v)::r=>
   match iC kd k k' with
   |some true=>some (some v)
   |some false=>oX kd k r
   |none=>none
def vP(kd:Nat)(k v:AV):List (AV×AV)->Option (List (AV×AV))
 |[]=>some [(k,v)]
 |(k',v')::r=>
   match iC kd k k' with
   |some true=>some ((k,v)::r)
   |some false=>(vP kd k v r).map ((k',v')::·)
   |none=>none
def Sv(h:af)(n:Option Nat):AV->Option AV
 |.ptr id off=>
   match h.row id,n with
   |some cs,none=>cs[off]?
   |some cs,some n=>if off+n<=cs.length then some (.agg ((cs.drop off).take n)) else none
   |none,_=>none
 |.ip cs=>
   match n with
   |none=>cs[0]?
   |some n=>if n<=cs.length then some (.agg (cs.take n)) else none
 |_=>none
def bG(fr:List AV)(h:af):B6->Option (AV×af)
 |.Hy x=>some (x.ev fr,h)
 |.pick c x y=>match c.ev fr with
   |.bool b=>some (if b then x.ev fr else y.ev fr,h)
   |_=>none
 |.box x=>match (x.ev fr).cells? with
   |some cs=>some (.ptr h.next 0,h.alloc (.row cs))
   |none=>none
 |.Sm zero parts=>(nf zero (parts.map λp=>(p.1,p.2.1,p.2.2.ev fr))).map λcs=>(.agg cs,h)
 |.AS sz len zero parts=>(nf zero (parts.map λp=>(p.1*sz,sz,p.2.ev fr))).map λcs=>(.vec h.next 0 len sz len,h.alloc (.row cs))
 |.ld n x=>(Sv h n (x.ev fr)).map λv=>(v,h)
 |.st n x v=>match x.ev fr,(v.ev fr).cells? with
   |.ptr id off,some vs=>match h.row id with
     |some cs=>if vs.length=n/\off+n<=cs.length then some (.undef,(h.set id (.row (putAt cs off vs))).mark id (v.ev fr)) else none
     |none=>none
   |_,_=>none
 |.nck x=>match TF (x.ev fr) with
   |some false=>some (x.ev fr,h)
   |_=>none
 |.bin op x y=>(yf op (x.ev fr) (y.ev fr)).map λv=>(v,h)
 |.beq neg x y=>match x.ev fr,y.ev fr with
   |.bool a,.bool b=>some (.bool (if neg then !(a==b) else a==b),h)
   |_,_=>none
 |.ceq kinds neg x y=>match x.ev fr,y.ev fr with
   |.agg a,.agg b=>(nY kinds a b).map λr=>(.bool (if neg then !r else r),h)
   |_,_=>none
 |.peq kind neg x y=>match x5 kind (x.ev fr),x5 kind (y.ev fr) with
   |some p,some true=>some (.bool (if neg then !p else p),h)
   |_,_=>none
 |.un op x=>match op,x.ev fr with
   |.not,.bool b=>some (.bool (!b),h)
   |.neg,.int k n=>some (.int k (k.wrap (0-n)),h)
   |.xor,.int k n=>some (.int k (H0 .xor k (if k.signed then -1 else k.max) n),h)
   |_,_=>none
 |.cvi k x=>match x.ev fr with
   |.int _ n=>some (.int k (k.wrap n),h)
   |_=>none
 |.Ws x=>match x.ev fr with
   |.str s=>some (.str s,h)
   |_=>none
 |.Py x=>match x.ev fr with
   |.int _ n=>if 0<=n/\n<128 then some (.str [UInt8.ofNat n.toNat],h) else none
   |_=>none
 |.TJ x=>match x.ev fr with
   |.str s=>some (.sl (s.map λb=>.int .u8 b.toNat),h)
   |_=>none
 |.S8 x=>match aG h 1 (x.ev fr),x.ev fr with
   |_,.str _=>none
   |some (_,cs),_=>(bytesOf cs).map λs=>(.str s,h)
   |none,_=>none
 |.fsl _ zero parts=>match nf zero (parts.map λp=>(p.1*1,1,p.2.ev fr)) with
   |some cs=>if (bytesOf cs).isSome then some (.sl cs,h) else none
   |none=>none
 |.XL x=>match x.ev fr with
   |.sl cs=>(bytesOf cs).map λs=>(.str s,h)
   |_=>none
 |.mki t x=>some (.iface t (x.ev fr),h)
 |.VR f aO=>some (.fn f (aO.map (·.ev fr)),h)
 |.mkm=>some (.map h.next,h.alloc (.map []))
 |.mks bytes zero l c=>match l.ev fr,c.ev fr with
   |.int .i64 l,.int .i64 c=>if 0<=l/\l<=c/\c*bytes<=140737488355328/\c<2^63 then
    some (.vec h.next 0 l.toNat zero.length c.toNat,h.alloc (.row (List.replicate c.toNat zero).flatten)) else none
   |_,_=>none
 |.YP x lo hi=>match x.ev fr with
   |.str s=>(sliceB s.length (lo.map (·.ev fr)) (hi.map (·.ev fr))).map λp=>(.str ((s.take p.2).drop p.1),h)
   |_=>none
 |.slv sz x lo hi mx=>
   match x.ev fr with
    |.aF=>(ic 0 0 (lo.map (·.ev fr)) (hi.map (·.ev fr)) (mx.map (·.ev fr))).map λ_=>(.aF,h)
    |.sl xs=>if (xs.all λx=>(x.cells?.map List.length)==some sz) then
     (ic xs.length xs.length (lo.map (·.ev fr)) (hi.map (·.ev fr)) (mx.map (·.ev fr))).map λp=>(if p.2.2=some p.1 then .aF else .sl ((xs.take p.2.1).drop p.1),h) else none
    |.vec id off len s lb=>if s=sz then
     (ic len lb (lo.map (·.ev fr)) (hi.map (·.ev fr)) (mx.map (·.ev fr))).map λp=>(if p.2.2=some p.1 then .aF else .vec id (off+p.1*sz) (p.2.1-p.1) sz (p.2.2.getD lb-p.1),h) else none
    |_=>none
 |.fad off x=>match x.ev fr with
   |.ptr id o=>some (.ptr id (o+off),h)
   |.ip cs=>some (.ip (cs.drop off),h)
   |_=>none
 |.fld off n x=>match x.ev fr with
   |.agg cs=>match n with
     |none=>(cs[off]?).map λv=>(v,h)
     |some n=>if off+n<=cs.length then some (.agg ((cs.drop off).take n),h) else none
   |_=>none
 |.iad sz x i=>match x.ev fr,i.ev fr with
   |.sl xs,.int _ i=>if 0<=i then (match xs[i.toNat]? with
    |some v=>(match v.cells? with
      |some cs=>if cs.length=sz then some (.ip cs,h) else none
      |none=>none)
    |none=>none) else none
   |.vec id off len s _,.int _ i=>if 0<=i/\i<len/\s=sz then some (.ptr id (off+i.toNat*sz),h) else none
   |_,_=>none
 |.ixs x i=>match x.ev fr,i.ev fr with
   |.str s,.int _ i=>if 0<=i then (s[i.toNat]?).map λb=>(.int .u8 b.toNat,h) else none
   |_,_=>none
 |.lkp kd zero ok m k=>match (match m.ev fr with|.kq=>some []|.map id=>h.iq id|_=>none) with
   |some es=>(oX kd (k.ev fr) es).map λr=>(match r with
     |some v=>(if ok then .tuple [v,.bool true] else v,h)
     |none=>(if ok then .tuple [zero,.bool false] else zero,h))
   |none=>none
 |.Z4 kd m k v=>match m.ev fr with
   |.map id=>match h.iq id with
     |some es=>(vP kd (k.ev fr) (v.ev fr) es).map λuW=>(.undef,((h.set id (.map uW)).mark id (v.ev fr)).mark id (k.ev fr))
     |none=>none
   |_=>none
 |.ext x i=>match x.ev fr with
   |.tuple vs=>(vs[i]?).map λv=>(v,h)
   |_=>none
 |.lens x=>match x.ev fr with
   |.str s=>some (.int .i64 s.length,h)
   |_=>none
 |.vj x=>match x.ev fr with
   |.aF=>some (.int .i64 0,h)
   |.sl xs=>some (.int .i64 xs.length,h)
   |.vec _ _ n _ _=>some (.int .i64 n,h)
   |_=>none
 |.ae9 x=>match x.ev fr with
   |.kq=>some (.int .i64 0,h)
   |.map id=>(h.iq id).map λes=>(.int .i64 es.length,h)
   |_=>none
 |.mx x y=>match x.ev fr,y.ev fr with
   |.int k a,.int _ b=>some (.int k (if a<b then b else a),h)
   |_,_=>none
 |.mn x y=>match x.ev fr,y.ev fr with
   |.int k a,.int _ b=>some (.int k (if b<a then b else a),h)
   |_,_=>none
 |.app sz bytes x y=>match aG h sz (y.ev fr) with
   |none=>none
   |some (n,news)=>
     match x.ev fr with
     |.aF=>if n=0 then some (.aF,h) else
       if n*bytes<=140737488355328/\n<2^63 then some (.vec h.next 0 n sz n,h.alloc (.row news)) else none
     |.vec id off len s lb=>match h.row id with
       |some cs=>if s=sz/\off+len*sz<=cs.length then
        if n=0 then some (.vec id off len s lb,h) else
        if len+n<=lb/\off+(len+n)*sz<=cs.length then some (.vec id off (len+n) sz lb,(h.set id (.row (putAt cs (off+len*sz) news))).mark id (.agg news)) else
        if (len+n)*bytes<=140737488355328/\len+n<2^63 then
         some (.vec h.next 0 (len+n) sz (len+n),(h.set id .dead).alloc (.row ((cs.drop off).take (len*sz)++news))) else none
         else none
       |none=>none
     |_=>none
 |.bs0=>some (.aF,h)
 |.OU neg x=>match x.ev fr with
   |.sl (_::_)=>some (.bool neg,h)
   |.vec _ _ (_+1) _ _=>some (.bool neg,h)
   |_=>none
 |.die=>none
 |.clr zero x=>match x.ev fr with
   |.aF=>some (.tuple [],h)
   |.vec id off len s _=>match h.row id with
     |some cs=>if s=zero.length/\off+len*s<=cs.length then some (.tuple [],(h.set id (.row (putAt cs off (List.replicate len zero).flatten))).mark id (.agg zero)) else none
     |none=>none
   |_=>none
def cW(fr:List AV):Option (Nat×Bool)->Option Bool
 |none=>some false
 |some (t,want)=>
   match fr[t]? with
   |some (.bool b)=>some (b !=want)
   |some (.tuple [])=>some true
   |_=>none
def gw(fr:List AV):Option Nat->AV->List AV
 |some d,v=>fr.set d v
 |none,_=>fr
def cK(C:Nat->List AV->af->Option (AV×af))(s:aQ)(fr:List AV)(h:af):Option (List AV×af):=
 match cW fr s.guard with
 |none=>none
 |some true=>some (gw fr s.dst (.tuple []),h)
 |some false=>
   match s.op with
   |.call f args=>(C f (args.map (·.ev fr)) h).map λp=>(gw fr s.dst p.1,p.2)
   |.lM x args=>match x.ev fr with
     |.fn f aO=>(C f (args.map (·.ev fr)++aO) h).map λp=>(gw fr s.dst p.1,p.2)
     |_=>none
   |.op o=>(bG fr h o).map λp=>(gw fr s.dst p.1,p.2)
def cS(C:Nat->List AV->af->Option (AV×af)):List aQ->List AV->af->Option (List AV×af)
 |[],fr,h=>some (fr,h)
 |s::rest,fr,h=>
   match cK C s fr h with
   |some (de,h')=>cS C rest de h'
   |none=>none
def C1(s:aQ)(fr:List AV):Nat:=
 match s.op with
 |.op (.ld _ x)=>match x.ev fr with
   |.ptr id _=>id+1
   |_=>0
 |.op (.st _ x _)=>match x.ev fr with
   |.ptr id _=>id+1
   |_=>0
 |_=>0
mutual
def AV.NM:AV->AV->Bool
 |.undef,.undef=>true
 |.bool a,.bool b=>a==b
 |.int k n,.int k' n'=>decide (k=k')&&decide (n=n')
 |.str a,.str b=>decide (a=b)
 |.nw,.nw=>true
 |.ptr i o,.ptr j q=>Nat.beq i j&&Nat.beq o q
 |.ip a,.ip b=>AV.BG a b
 |.aF,.aF=>true
 |.sl a,.sl b=>AV.BG a b
 |.vec i o l s b,.vec i' o' l' s' b'=>Nat.beq i i'&&Nat.beq o o'&&Nat.beq l l'&&Nat.beq s s'&&Nat.beq b b'
 |.kq,.kq=>true
 |.map i,.map j=>Nat.beq i j
 |.ji,.ji=>true
 |.fn f a,.fn g b=>Nat.beq f g&&AV.BG a b
 |.nu,.nu=>true
 |.iface t a,.iface u b=>Nat.beq t u&&a.NM b
 |.agg a,.agg b=>AV.BG a b
 |.tuple a,.tuple b=>AV.BG a b
 |_,_=>false
def AV.BG:List AV->List AV->Bool
 |[],[]=>true
 |a::r,b::s=>a.NM b&&AV.BG r s
 |_,_=>false
end
def RL:Option aT->Option aT->Bool
 |some (.row a),some (.row b)=>AV.BG a b
 |_,_=>false
def uS(C:Nat->List AV->af->Option (AV×af)):List aQ->List AV->af->Option (List AV×af×List (Nat×af×af))
 |[],fr,h=>some (fr,h,[])
 |s::rest,fr,h=>
   match cK C s fr {h with md:=h.next} with
   |some (de,h')=>(uS C rest de {h' with md:=min h.md h'.md}).map λp=>(p.1,p.2.1,(C1 s fr,h,h')::p.2.2)
   |none=>none
def Nl(tr:List (Nat×af×af))(chk:List (Nat×Nat)):Bool:=chk.all λp=>
 match tr[p.1]?,tr[p.2]? with
 |some a,some b=>decide (a.1<=b.2.2.md)||(decide (0<b.1)&&!(a.1==b.1))||(decide (0<a.1)&&RL (b.2.1.get (a.1-1)) (b.2.2.get (a.1-1)))
 |_,_=>false
inductive Ex where
 |normal
 |exit (id:Nat)
 |ret
 deriving DecidableEq,Inhabited
def clear:List Bool->List AV->List AV
 |b::bs,v::vs=>(if b then v else .undef)::clear bs vs
 |_,vs=>vs
def AV.top:AV->Option Nat
 |.ptr id _=>some id
 |.vec id _ _ _ _=>some id
 |.map id=>some id
 |_=>none
def aE(n0:Nat):List AV->List Nat->List Nat
 |[],aM=>aM
 |v::r,aM=>match v.top with
   |some id=>if n0<=id/\aM.contains id=false then aE n0 r (aM++[id]) else aE n0 r aM
   |none=>aE n0 r aM
def oD(n0:Nat)(ks:List Nat)(id:Nat):Nat:=if id<n0 then id else n0+ks.idxOf id
def dm(n0:Nat)(ks:List Nat):AV->AV
 |.ptr id off=>.ptr (oD n0 ks id) off
 |.vec id off len sz lb=>.vec (oD n0 ks id) off len sz lb
 |.map id=>.map (oD n0 ks id)
 |v=>v
def tD(n:Nat):aT->Bool
 |.row cs=>decide (AV.ah cs<=n)
 |.map es=>es.all λe=>decide (e.1.aJ<=n)&&decide (e.2.aJ<=n)
 |.dead=>false
def lT(h:af)(n0:Nat):List Nat->Option (List aT)
 |[]=>some []
 |id::r=>match h.get id,lT h n0 r with
   |some o,some os=>if tD n0 o then some (o::os) else none
   |_,_=>none
def jw:aT->List AV
 |.row cs=>cs
 |.map es=>es.flatMap λe=>[e.1,e.2]
 |.dead=>[]
def jB:List aT->List AV
 |[]=>[]
 |o::r=>jw o++jB r
def rh(n0:Nat)(ks:List Nat):aT->aT
 |.row cs=>.row (cs.map (dm n0 ks))
 |.map es=>.map (es.map λe=>(dm n0 ks e.1,dm n0 ks e.2))
 |.dead=>.dead
def ug(n0:Nat)(v:AV):Bool:=v.top.isSome||decide (v.aJ<=n0)
def dB(n0:Nat)(o:aT):Bool:=(jw o).all λv=>decide (v.aJ<=n0)
def KI(n0:Nat)(fr:List AV)(h:af):List AV×af:=
 match lT h n0 (aE n0 (jB (h.gm.drop (h.next-n0))) (aE n0 fr [])) with
 |some os=>if n0<=h.next/\fr.all (ug n0)=true/\(jB (h.gm.drop (h.next-n0))).all (ug n0)=true/\((h.gm.drop (h.next-n0)).drop (n0-h.wl)).all (dB n0)=true then
  (fr.map (dm n0 (aE n0 (jB (h.gm.drop (h.next-n0))) (aE n0 fr []))),
   ⟨n0+os.length,os.reverse++(h.gm.drop (h.next-n0)).map (rh n0 (aE n0 (jB (h.gm.drop (h.next-n0))) (aE n0 fr []))),h.wl,min h.md h.wl⟩) else (fr,h)
 |none=>(fr,h)
def L3(n0:Nat)(fr:List AV)(h:af):List AV×af:=
 match lT h n0 (aE n0 fr []) with
 |some os=>if n0<=h.wl/\n0<=h.next/\(fr.all λv=>v.top.isSome||decide (v.aJ<=n0))=true then
  (fr.map (dm n0 (aE n0 fr [])),{h with next:=n0+os.length,gm:=os.reverse++h.gm.drop (h.next-n0)}) else (fr,h)
 |none=>(fr,h)
def gc(n0:Nat)(fr:List AV)(h:af):List AV×af:=if n0<=h.wl then L3 n0 fr h else KI n0 fr h
def rL(B:List AV->af->Option (Ex×List AV×af))(live:List Bool)(n0:Nat):Nat->List AV->af->Option (Ex×List AV×af)
 |0,_,_=>none
 |n+1,fr,h=>
   match B (gc n0 (clear live fr) h).1 (gc n0 (clear live fr) h).2 with
   |some (.normal,de,h')=>rL B live n0 n de h'
   |r=>r
def aC(C:Nat->List AV->af->Option (AV×af))(n:Nat):bZ->List AV->af->Option (Ex×List AV×af)
 |.skip,fr,h=>some (.normal,fr,h)
 |.kT ops,fr,h=>(cS C ops fr h).map λp=>(.normal,p.1,p.2)
 |.pJ ops chk,fr,h=>
   match uS C ops fr h with
   |some (de,h',tr)=>if Nl tr chk then some (.normal,de,h') else none
   |none=>none
 |.seq a b,fr,h=>
   match aC C n a fr h with
   |some (.normal,de,h')=>aC C n b de h'
   |r=>r
 |.cond c a b,fr,h=>
   match c.ev fr with
   |.bool t=>if t then aC C n a fr h else aC C n b fr h
   |_=>none
 |.block id a,fr,h=>
   match aC C n a fr h with
   |some (.exit i,de,h')=>some (if i=id then .normal else .exit i,de,h')
   |r=>r
 |.loop live a,fr,h=>(rL (aC C n a) live h.next n fr {h with wl:=h.next}).map λr=>(r.1,(gc h.next r.2.1 r.2.2).1,{(gc h.next r.2.1 r.2.2).2 with wl:=min h.wl (gc h.next r.2.1 r.2.2).2.wl})
 |.exit id live,fr,h=>some (.exit id,clear live fr,h)
 |.ret live,fr,h=>some (.ret,clear live fr,h)
def xy(fr:List AV)(h:af):MS->Option AV
 |.tmp t=>some (fr.getD t .undef)
 |.cell t n=>Sv h n (fr.getD t .undef)
def jf(fr:List AV)(h:af):List MS->Option (List AV)
 |[]=>some []
 |r::rs=>match xy fr h r,jf fr h rs with
   |some v,some vs=>some (v::vs)
   |_,_=>none
def chunk(sz:Nat):Nat->List AV->List AV
 |0,_=>[]
 |n+1,cs=>(if sz=1 then (cs.headD .undef) else .agg (cs.take sz))::chunk sz n (cs.drop sz)
def lg(F:AV->Option (AV×List Nat)):List AV->Option (List AV×List Nat)
 |[]=>some ([],[])
 |v::r=>
   match F v,lg F r with
   |some (v',i),some (r',j)=>some (v'::r',i++j)
   |_,_=>none
def jL(h:af)(n0:Nat):Nat->AV->Option (AV×List Nat)
 |0,_=>none
 |d+1,v=>
   match v with
   |.vec id off len sz lb=>
     if id<n0 then some (.vec id off len sz lb,[]) else
     match h.row id with
     |some cs=>if off+len*sz<=cs.length/\sz≠0 then
      (match lg (jL h n0 d) ((cs.drop off).take (len*sz)) with
      |some (iN,eG)=>if AV.ah iN=0/\(iN.all λc=>c.cells?.map List.length==some 1) then some (.sl (chunk sz len iN),id::eG) else none
      |none=>none) else none
     |none=>none
   |.agg cs=>(lg (jL h n0 d) cs).map λp=>(.agg p.1,p.2)
   |.tuple cs=>(lg (jL h n0 d) cs).map λp=>(.tuple p.1,p.2)
   |v=>some (v,[])
def kill(h:af):List Nat->af
 |[]=>h
 |id::r=>kill (h.set id .dead) r
def finish(gB:Bool)(h0:af)(v:AV)(h:af):AV×af:=
 if gB then (v,{h with wl:=min h0.wl h.wl,md:=min h0.md h.md}) else
 match jL h h0.next 8 v with
 |none=>(v,{h with wl:=min h0.wl h.wl,md:=min h0.md h.md})
 |some (v',eG)=>
   if h0.next<=h.wl/\v'.aJ<=h0.next then (v',{h.kj h0.next with wl:=h0.wl,md:=if h.md<h0.next then min h0.md h.md else h0.md})
   else (v',{kill h eG with wl:=min h0.wl h.wl,md:=min h0.md h.md})
def oneOf:List AV->AV
 |[v]=>v
 |vs=>.tuple vs
def uL:AV->Bool
 |.bool _|.int .. |.str _|.nw|.aF|.kq|.ji|.nu=>true
 |_=>false
def sc:AV->Bool
 |.tuple vs=>vs.all uL
 |.agg vs=>vs.all uL
 |v=>uL v
def sig(g:Nat->Nat):AV->AV
 |.ptr id off=>.ptr (g id) off
 |.vec id off len sz lb=>.vec (g id) off len sz lb
 |.map id=>.map (g id)
 |v=>v
def gE(g:Nat->Nat):aT->aT
 |.row cs=>.row (cs.map (sig g))
 |.map es=>.map (es.map λe=>(sig g e.1,sig g e.2))
 |.dead=>.dead
def aT.aJ:aT->Nat
 |.row cs=>AV.ah cs
 |.map es=>AV.ah (es.flatMap λe=>[e.1,e.2])
 |.dead=>0
def Bj(h:af)(k:Nat)(o:aT):af:={h.set k o with wl:=if o.aJ<=k+1 then h.wl else min h.wl k}
def p7(g:Nat->Nat):List Nat->List aT->af->af
 |k::ks,o::os,h=>p7 g ks os (Bj h k (gE g o))
 |_,_,h=>h
def yR(g:Nat->Nat):List aT->af->af
 |o::os,h=>yR g os (h.alloc (gE g o))
 |[],h=>h
def oE(h:af)(τ:List Nat)(i:Nat):Nat:=if i<τ.length then τ.getD i 0 else h.next+(i-τ.length)
def join(h:af)(τ:List Nat)(os:List aT):af:=yR (oE h τ) (os.drop τ.length) (p7 (oE h τ) τ (os.take τ.length) h)
def xZ:List Nat->Nat->Bool
 |[],_=>false
 |k::r,id=>if k=id then true else xZ r id
def xX:List Nat->Nat->Nat
 |[],_=>0
 |k::r,id=>if k=id then 0 else xX r id+1
def gN:List AV->List Nat->List Nat
 |[],aM=>aM
 |v::r,aM=>match v.top with
   |some j=>if xZ aM j then gN r aM else gN r (aM++[j])
   |none=>gN r aM
def okV(τ:List Nat)(v:AV):Bool:=match v.top with
 |some id=>xZ τ id
 |none=>v.aJ==0
def okO(τ:List Nat):aT->Bool
 |.row cs=>cs.all (okV τ)
 |.map es=>es.all λe=>okV τ e.1&&okV τ e.2
 |.dead=>false
def uI(h:af)(τ:List Nat):List Nat->Option (List aT)
 |[]=>some []
 |id::r=>match h.get id,uI h τ r with
   |some o,some os=>if okO τ o then some (gE (xX τ) o::os) else none
   |_,_=>none
def nB(h:af)(τ:List Nat):Option (List aT)->af
 |none=>h
 |some nC=>join h τ nC
def pP(M:List AV->List aT->Option (AV×Option (List aT)))(args:List AV)(h:af):Option (AV×af):=
 match args with
 |.ptr k 0::rest=>match h.get k with
   |some (.row cs)=>match uI h (gN cs [k]) (gN cs [k]) with
     |some os=>if AV.ah rest=0 then (M (.ptr 0 0::rest) os).map λr=>(r.1,nB h (gN cs [k]) r.2) else none
     |none=>none
   |_=>none
 |_=>none
def aH(E:Env):Nat->Nat->List AV->af->Option (AV×af)
 |0,_,_,_=>none
 |n+1,f,args,h=>
   match (lg (jL h 0 8) args).bind λp=>(E.GD f p.1).map λv=>(v,if sc v then h else kill h p.2) with
   |some r=>some r
   |none=>
   match pP (E.JJ f) args h with
   |some r=>some r
   |none=>
     match E.fn f with
     |none=>none
     |some F=>
       match aC (aH E n) n F.code (args++List.replicate (F.ntmps-args.length) .undef) {h with wl:=h.next,md:=h.next} with
       |some (.exit _,_,_)=>none
       |some (_,fr,h')=>(jf fr h' F.results).map λvs=>finish F.gB h (oneOf vs) h'
       |none=>none
end
section
def Bg:Value->Option AV
 |.bool b=>some (.bool b)
 |.int k n=>some (.int k n)
 |.string s=>some (.str s.data.toList)
 |.pointer none=>some .nw
 |.slice none 0 0=>some .aF
 |.map none=>some .kq
 |.nilFunc=>some .ji
 |.nilIface=>some .nu
 |.func (.func f) ⟨[]⟩ ⟨[]⟩=>some (.fn f [])
 |_=>none
def dP{α β:Type}(f:α->Option β):List α->Option (List β)
 |[]=>some []
 |x::r=>match f x,dP f r with
   |some y,some s=>some (y::s)
   |_,_=>none
def MF:Value->Option AV
 |.agg cs=>(dP Bg cs.toList).map .agg
 |.tuple ⟨[]⟩=>some (.tuple [])
 |v=>Bg v
def fZ:Operand->Option dY
 |.tmp t=>some (.tmp t)
 |.const v=>(MF v).map .const
 |.func f=>some (.const (.fn f []))
 |.global _=>none
def nH(xs:Array Operand):Option (List dY):=dP fZ xs.toList
def CY:Option Operand->Option (Option dY)
 |none=>some none
 |some x=>(fZ x).map some
def JW(P:Program)(t:TypeId):Option (Option Nat):=
 match P.underlying t with
 |none=>none
 |some (.struct _)=>(P.info? t).map λi=>some i.size
 |some (.array ..)=>(P.info? t).map λi=>some i.size
 |some _=>some none
def oY(P:Program)(t:TypeId):Option (List AV):=((P.info? t).bind (·.zero)).bind λz=>(MF z).bind AV.cells?
def zeroV(P:Program)(t:TypeId):Option AV:=((P.info? t).bind (·.zero)).bind MF
def M6(P:Program)(t:TypeId):Option Nat:=
 match P.underlying t with
 |some .bool=>some 0
 |some (.int _)=>some 1
 |some .string=>some 2
 |_=>none
def fO(P:Program):List Field->Nat->Option (List Nat)
 |[],_=>some []
 |f::r,i=>if f.name≠ "_" /\f.offset=i then (match M6 P f.type,fO P r (i+1) with
   |some k,some ks=>some (k::ks)
   |_,_=>none) else none
def AJ:Operand->Bool
 |.const .nilIface|.const (.pointer none)|.const .nilFunc|.const (.map none)=>true
 |_=>false
def placesOf(P:Program)(fs:Array Field):Option (List (Nat×Nat)):=fs.toList.mapM λf=>(P.info? f.type).map λi=>(f.offset,i.size)
def pk(places:List (Nat×Nat)):List (Nat×Operand)->Option (List (Nat×Nat×dY))
 |[]=>some []
 |(i,x)::r=>
   match places[i]?,fZ x,pk places r with
   |some p,some x',some r'=>some ((p.1,p.2,x')::r')
   |_,_,_=>none
def wv(op:BinOp)(k:Nat)(x' y':dY)(y:Operand):Option B6:=
 if AJ y then
  (match op with
  |.eql=>some (.peq k false x' y')
  |.neq=>some (.peq k true x' y')
  |_=>none) else none
def R6(P:Program)(op:BinOp)(t:TypeId)(x y:Operand):Option B6:=
 match fZ x,fZ y with
 |some x',some y'=>
   match P.underlying t with
   |some (.int _)|some .string=>some (.bin op x' y')
   |some .bool=>(match op with
    |.eql=>some (.beq false x' y')
    |.neq=>some (.beq true x' y')
    |_=>none)
   |some (.struct fs)=>(match fO P fs.toList 0 with
     |some ks=>if P.eqGuardType P.depth t=false/\P.stoodInHeld t=false then
       (match op with
       |.eql=>some (.ceq ks false x' y')
       |.neq=>some (.ceq ks true x' y')
       |_=>none) else none
     |none=>none)
   |some (.pointer _)=>wv op 0 x' y' y
   |some (.interface _)=>wv op 1 x' y' y
   |some (.func ..)=>wv op 2 x' y' y
   |some (.map ..)=>wv op 3 x' y' y
   |some (.slice _)=>(match op,y with
     |.eql,.const (.slice none 0 0)=>some (.OU false x')
     |.neq,.const (.slice none 0 0)=>some (.OU true x')
     |_,_=>none)
   |_=>none
 |_,_=>none
def Ma(P:Program)(s d:TypeId)(x:Operand):Option B6:=
 match fZ x,P.underlying s,P.underlying d with
 |some x',some (.int _),some (.int k)=>some (.cvi k x')
 |some x',some (.int _),some .string=>some (.Py x')
 |some x',some .string,some .string=>some (.Ws x')
 |some x',some .string,some (.slice e)=>(match P.underlying e with|some (.int .u8)=>some (.TJ x')|_=>none)
 |some x',some (.slice e),some .string=>(match P.underlying e with|some (.int .u8)=>some (.S8 x')|_=>none)
 |_,_,_=>none
def dt(P:Program):Op->Option B6
 |.move x|.assign x=>(fZ x).map .Hy
 |.pick c x y=>match fZ c,fZ x,fZ y with
   |some c',some x',some y'=>some (.pick c' x' y')
   |_,_,_=>none
 |.alloc t=>(oY P t).map λz=>.box (.const (.agg z))
 |.box _ x=>(fZ x).map .box
 |.build t parts=>match P.underlying t,oY P t with
   |some (.struct fs),some z=>match placesOf P fs with
     |some places=>(pk places parts.toList).map λps=>.Sm z ps
     |none=>none
   |_,_=>none
 |.buildSlice t len parts=>if len=0/\parts.isEmpty then (match P.underlying t with
  |some (.slice e)=>(P.info? e).map λ_=>.bs0
  |_=>none) else match P.underlying t with
   |some (.slice e)=>match P.info? e,oY P e,dP (λp=>(fZ p.2).map λx=>(p.1,x)) parts.toList with
     |some i,some z,some ps=>if len*i.size<=2^24/\z.length=i.size then some (.AS i.size len ((List.range (len*i.size)).map λj=>z.getD (j%i.size) .undef) ps) else none
     |_,_,_=>none
   |_=>none
 |.load t x=>match fZ x,JW P t with
   |some x',some n=>some (.ld n x')
   |_,_=>none
 |.store t x v=>match fZ x,fZ v,P.info? t with
   |some x',some v',some i=>some (.st i.size x' v')
   |_,_,_=>none
 |.nilCheck x=>(fZ x).map .nck
 |.binOp op t x y _=>R6 P op t x y
 |.unOp op _ x=>(fZ x).map (.un op)
 |.convert s d x=>Ma P s d x
 |.makeInterface t x=>match fZ x,P.underlying t with
   |some _,some (.interface _)=>none
   |some x',some _=>some (.mki t x')
   |_,_=>none
 |.makeFunc (.func f) first aO=>if first.isEmpty then (nH aO).map (.VR f) else none
 |.makeMap _ none=>some .mkm
 |.makeSlice t l c=>match P.underlying t,fZ l,fZ c with
   |some (.slice e),some l',some c'=>match P.info? e,oY P e with
     |some i,some z=>if z.length=i.size then some (.mks i.bytes z l' c') else none
     |_,_=>none
   |_,_,_=>none
 |.slice t x lo hi mx=>match P.underlying t,fZ x,CY lo,CY hi,CY mx with
   |some .string,some x',some VD,some iO,some none=>some (.YP x' VD iO)
   |some (.slice e),some x',some VD,some iO,some mx'=>(P.info? e).map λi=>.slv i.size x' VD iO mx'
   |_,_,_,_,_=>none
 |.fieldAddr s x f=>match P.underlying s,fZ x with
   |some (.struct fs),some x'=>match fs[f]? with
     |some fd=>match P.info? fd.type with
       |some i=>if i.size≠0 then some (.fad fd.offset x') else none
       |none=>none
     |none=>none
   |_,_=>none
 |.field t x f=>match P.underlying t,fZ x with
   |some (.struct fs),some x'=>match fs[f]? with
     |some fd=>(JW P fd.type).map λn=>.fld fd.offset n x'
     |none=>none
   |_,_=>none
 |.indexAddr t x i=>match P.underlying t,fZ x,fZ i with
   |some (.slice e),some x',some i'=>(P.info? e).map λinf=>.iad inf.size x' i'
   |_,_,_=>none
 |.index t x i=>match P.underlying t,fZ x,fZ i with
   |some .string,some x',some i'=>some (.ixs x' i')
   |_,_,_=>none
 |.lookup t m k ok=>match P.underlying t,fZ m,fZ k with
   |some (.map kt e),some m',some k'=>(match P.underlying kt,zeroV P e with
     |some (.int _),some z=>some (.lkp 1 z ok m' k')
     |_,_=>none)
   |_,_,_=>none
 |.mapUpdate t m k v=>match P.underlying t,fZ m,fZ k,fZ v with
   |some (.map kt _),some m',some k',some v'=>(match P.underlying kt with
     |some (.int _)=>some (.Z4 1 m' k' v')
     |_=>none)
   |_,_,_,_=>none
 |.extract x i=>(fZ x).map λx'=>.ext x' i
 |.call {callee:=.builtin b,args,argTypes}=>match b,args.toList,argTypes.toList with
   |.len,[x],[t]=>match P.underlying t with
     |some .string=>(fZ x).map .lens
     |some (.slice _)=>(fZ x).map .vj
     |some (.map ..)=>(fZ x).map .ae9
     |_=>none
   |.clear,[x],[t]=>match P.underlying t,fZ x with
     |some (.slice e),some x'=>match P.info? e,oY P e with
       |some i,some z=>if z.length=i.size then some (.clr z x') else none
       |_,_=>none
     |_,_=>none
   |.max,[x,y],_=>match fZ x,fZ y with
     |some x',some y'=>some (.mx x' y')
     |_,_=>none
   |.min,[x,y],_=>match fZ x,fZ y with
     |some x',some y'=>some (.mn x' y')
     |_,_=>none
   |.append,[x,y],[t,u]=>match P.underlying t,P.underlying u,fZ x,fZ y with
     |some (.slice _),some (.int _),_,_=>none
     |some (.slice e),some _,some x',some y'=>match P.info? e,oY P e with
       |some i,some z=>if z.length=i.size/\0<i.size then some (.app i.size i.bytes x' y') else none
       |_,_=>none
     |_,_,_,_=>none
   |_,_,_=>none
 |_=>none
def rp(P:Program)(op:Op):Option B6:=match dt P op with|some a=>some a|none=>some .die
def JY(P:Program):Op->Option Sd
 |.call {callee:=.value f,args,argTypes:=_}=>match fZ f,nH args with
   |some (.const (.fn g [])),some as=>some (.call g as)
   |some f',some as=>some (.lM f' as)
   |_,_=>some (.op .die)
 |op=>(rp P op).map .op
def Am(P:Program)(ops:Array Oper)(o:Oper):Option B6:=
 match o.op with
 |.buildSlice t len parts=>match P.underlying t with
   |some (.slice e)=>match P.info? e,oY P e,dP (λp=>(fZ p.2).map λx=>(p.1,x)) parts.toList with
     |some i,some z,some ps=>if i.size=1/\len<=2^24/\z.length=1/\(o.dst.isSome&&ops.toList.any λq=>match q.op with|.convert _ _ x=>(match fZ x,o.dst with|some (.tmp u),some t'=>Nat.beq u t'|_,_=>false)|_=>false)=true
      then some (.fsl len ((List.range (len*1)).map λj=>z.getD (j%1) .undef) ps) else none
     |_,_,_=>none
   |_=>none
 |.convert s d x=>match fZ x,P.underlying s,P.underlying d with
   |some (.tmp u),some (.slice e),some .string=>(match P.underlying e with
     |some (.int .u8)=>if (ops.toList.any λq=>match q.op,q.dst with|.buildSlice ..,some t'=>Nat.beq u t'|_,_=>false)=true then some (.XL (.tmp u)) else none
     |_=>none)
   |_,_,_=>none
 |_=>none
def vZ(P:Program)(ops:Array Oper)(o:Oper):Option Sd:=match Am P ops o with|some a=>some (.op a)|none=>JY P o.op
def im(P:Program)(ops:Array Oper)(o:Oper):Option aQ:=
 match vZ P ops o with
 |none=>none
 |some a=>match o.guard with
   |none=>some {dst:=o.dst,op:=a}
   |some (j,want)=>((ops[j]?).bind (·.dst)).map λt=>{dst:=o.dst,op:=a,guard:=some (t,want)}
def force{α:Type}(n:Nat)(k:Nat->α):α:=match n with|0=>k 0|m+1=>k (m+1)
def Cc(b:List Nat):List Edge->Nat
 |[]=>0
 |e::r=>if Region.binds .any e then (2^e.on|||b.getD e.on 0)|||Cc b r else Cc b r
def aep:List Oper->List Nat->List Nat
 |[],aM=>aM
 |o::r,aM=>force (Cc aM o.after.toList) λv=>aep r (aM++[v])
def bt(b:List Nat)(i j:Nat):Bool:=(b.getD j 0).testBit i
def rX(b:List Nat)(es:List (aQ×Nat)):List (Nat×Nat):=es.flatMap λp=>if p.1.MH then es.filterMap λq=>if q.1.uy&&!bt b p.2 q.2&&!bt b q.2 p.2 then some (p.2,q.2) else none else []
def BB(b:List Nat)(es:List (aQ×Nat))(s:aQ)(i:Nat)(r:aQ)(j:Nat):Bool:=
 i==j||
 ((match s.dst,r.dst with|some d,some d'=>d !=d'|_,_=>true)&&
  (!(i<j&&s.uy&&r.uy)||bt b i j||r.nj)&&
  (match r.dst with
   |none=>true
   |some d=>!s.reads.contains d||(if j<i then bt b j i&&(!r.nj||es.all λq=>!(q.2<j&&q.1.uy)||bt b q.2 i) else bt b i j))&&
  (!(s.MH&&r.nj&&decide (j<i)&&bt b j i)||es.all λq=>!(q.2<j&&q.1.uy)||bt b q.2 i))
def Dg(b:List Nat)(p:Oper×Nat):Bool:=b.getD p.2 0==Cc b p.1.after.toList&&p.1.after.toList.all λe=>!Region.binds .any e||decide (e.on<p.2)
def EZ(ops:Array Oper)(as:List aQ)(b:List Nat):Bool:=(ops.toList.zipIdx.all (Dg b))&&(as.zipIdx.all λp=>as.zipIdx.all λq=>BB b as.zipIdx p.1 p.2 q.1 q.2)
def P7(as:List aQ)(b:List Nat):bZ:=
 match rX b as.zipIdx with
 |[]=>.kT as
 |chk=>.pJ as chk
def Ay:aQ:=⟨none,.op .die,none⟩
def ck(P:Program):Code->Option bZ
 |.skip=>some .skip
 |.region _ ops draw=>match dP (im P ops) ops.toList with
   |some as=>if draw then (if EZ ops as (aep ops.toList []) then some (P7 as (aep ops.toList [])) else some (.kT [Ay])) else some (.kT as)
   |none=>some (.kT [Ay])
 |.seq a b=>match ck P a,ck P b with
   |some a',some b'=>some (.seq a' b')
   |_,_=>none
 |.cond c a b=>match fZ c,ck P a,ck P b with
   |some c',some a',some b'=>some (.cond c' a' b')
   |_,_,_=>none
 |.block id a=>(ck P a).map (.block id)
 |.loop a=>(ck P a).map (.loop [])
 |.exit id=>some (.exit id [])
 |.ret=>some (.ret [])
 |_=>some (.kT [Ay])
def wQ(P:Program):ResultVar->Option MS
 |.tmp t=>some (.tmp t)
 |.cell t ty=>(JW P ty).map λn=>.cell t n
end
section
variable {o:aT}{id:Nat}
theorem gK{h:af}(hl:live (h.alloc o) id):id=h.next\/(live h id/\id<h.next):=by
 obtain⟨x,hg,hx⟩:=hl;have cY:=af.dR hg;simp only[af.ma] at cY;rcases Nat.lt_or_ge id h.next with bX|bX
 .exact .inr ⟨⟨x,by rw[<-af.dd (o:=o) bX];exact hg,hx⟩,bX⟩
 .exact .inl (by omega)
variable {i:Nat}
theorem zV{h:af}(hl:live (h.set i o) id)(hi:live h i):live h id:=by
 by_cases e:i=id
 .exact e▸hi
 .obtain⟨x,hg,hx⟩:=hl;rw[af.get_set_other e] at hg;exact⟨x,hg,hx⟩
theorem af.oz{h:af}(o:aT)(hw:h.wf):(h.alloc o).wf:=by simpa[af.wf,af.alloc] using hw
theorem af.wf_set{h:af}(id:Nat)(o:aT)(hw:h.wf):(h.set id o).wf:=by unfold af.set;split<;>simpa[af.wf] using hw
theorem af.Dk{h:af}(id:Nat)(v:AV)(hw:h.wf):(h.mark id v).wf:=by unfold af.mark;split<;>simpa[af.wf] using hw
theorem af.KW{h:af}(n:Nat)(hw:h.wf):(h.kj n).wf:=by unfold af.wf at *;simp only[af.kj,List.length_drop,hw];omega
def eI(φ:eJ)(n:Nat)(e:PE):eJ:={φ with at_:=λid=>if id=n then e else φ id}
theorem getElem?_push_lt{α:Type}{a:Array α}{x:α}(h:i<a.size):(a.push x)[i]? =a[i]?:=by rw[Array.getElem?_push];rw[if_neg (by omega)]
variable {x:Obj}{e:PE}{cs:List AV}
section
variable {φ:eJ}{h:af}{w:World}
theorem HR.fA(hr:HR φ h w)(hl:live h id):(φ id).gA<w.heap.size:=by
 obtain⟨o,hg,ho⟩:=hl;have key:∀x,w.heap[(φ id).gA]? =some x->(φ id).gA<w.heap.size:=λx hx=>(Array.getElem?_eq_some_iff.1 hx).1
 cases o with
 |row cs=>obtain⟨c,el,fr,hb,_⟩:=hr.rows id cs hg;exact key _ hb
 |map es=>obtain⟨e,k,hb,_⟩:=hr.maps id es hg;exact key _ hb
 |dead=>exact (ho rfl).elim
theorem Sy{w':World}(hr:HR φ h w)(hh:w'.heap=w.heap.push x)(ho:w'.os=w.os)(ht:w'.tape=w.tape)(tg:w'.output=w.output)
 (he:e.gA=w.heap.size):Ext φ h w (eI φ h.next e) (h.alloc o) w':=by
 refine⟨ho,ht,tg,by rw[hh];simp,by simp,λid bX=>by simp[eI,Nat.ne_of_lt bX],λb hb=>⟨⟨by rw[hh];simp;have:=hb.1;omega,λid hl=>?_,hb.2.2⟩,by rw[hh];exact getElem?_push_lt hb.1⟩,
  rfl,λb hb=>by rw[hh];exact getElem?_push_lt (hr.gh b hb).1⟩
 rcases gK hl with rfl|⟨hl,cY⟩
 .simp only[eI,if_true,he];have:=hb.1;omega
 .simp only[eI,Nat.ne_of_lt cY,if_false];exact hb.2.1 id hl
theorem WX{w':World}(hr:HR φ h w)(hh:w'.heap=w.heap.push x)(he:e.gA=w.heap.size):
 ∀b,(eI φ h.next e).gh b->b<w'.heap.size/\∀id,live (h.alloc o) id->((eI φ h.next e) id).gA≠b:=λb hb=>by
 obtain⟨g1,g2⟩:=hr.gh b hb;refine⟨by rw[hh];simp;omega,λid hl=>?_⟩;rcases gK hl with rfl|⟨hl,cY⟩
 .simp only[eI,if_true,he];omega
 .simp only[eI,Nat.ne_of_lt cY,if_false];exact g2 id hl
theorem u5.ext{φ':eJ}{h':af}{w':World}(hk:u5 φ h w id cs)(e:Ext φ h w φ' h' w')(bX:id<h.next)
 (hb:w'.heap[(φ id).gA]? =w.heap[(φ id).gA]?):u5 φ' h' w' id cs:=by
 obtain⟨c,el,fr,h1,h2,h3,h4,h5,h6⟩:=hk;have hp:=e.CD id bX;refine⟨c,el,fr,by rw[hp,hb];exact h1,by rw[hp];exact h2,by rw[hp];exact h3,h4,by rw[hp];exact h5,λj hj=>?_⟩;rw[hp];exact (h6 j hj).ext e
theorem zR.ext{φ':eJ}{h':af}{w':World}{es:List (AV×AV)}(hk:zR φ h w id es)(e:Ext φ h w φ' h' w')(bX:id<h.next)
 (hb:w'.heap[(φ id).gA]? =w.heap[(φ id).gA]?):zR φ' h' w' id es:=by
 obtain⟨c,k,h1,h2,h3⟩:=hk;have hp:=e.CD id bX;exact⟨c,k,by rw[hp,hb];exact h1,h2,λj hj=>⟨(h3 j hj).1.ext e,(h3 j hj).2.ext e⟩⟩
theorem DA{w':World}{c:Array Value}{el:TypeId}{fz:Nat×Nat}(hr:HR φ h w)(hh:w'.heap=w.heap.push (.cells c el fz))
 (ho:w'.os=w.os) (ht:w'.tape=w.tape) (tg:w'.output=w.output) (ZE:∀o,o<c.size->¬(fz.1<=o/\o<fz.2))
 (h1:∀j,j<c.size->(c.getD j default).oneCell'=true) (hl:cs.length<=c.size) (hv:∀j (hj:j<cs.length),fe φ h w cs[j] (c.getD j default)):
 HR (eI φ h.next ⟨w.heap.size,0,c.size⟩) (h.alloc (.row cs)) w'/\Ext φ h w (eI φ h.next ⟨w.heap.size,0,c.size⟩) (h.alloc (.row cs)) w':=by
 have e:Ext φ h w (eI φ h.next ⟨w.heap.size,0,c.size⟩) (h.alloc (.row cs)) w':=Sy (o:=.row cs) hr hh ho ht tg rfl;refine⟨⟨af.oz _ hr.wf,λid iN hg=>?_,λid es hg=>?_,λi j hi hj uA=>?_,WX hr hh rfl⟩,e⟩
 .have cY:=af.dR hg;simp only[af.ma] at cY;rcases Nat.lt_or_ge id h.next with bX|bX
  .rw[af.dd bX] at hg;have hb:=hr.fA ⟨_,hg,λe=>by cases e⟩;exact (hr.rows id iN hg).ext e bX (by rw[hh];exact getElem?_push_lt hb)
  .obtain rfl:id=h.next:=by omega
   rw[af.fg] at hg;cases hg;refine⟨c,el,fz,?_,?_,?_,ZE,?_,λj hj=>?_⟩
   .simp[eI,hh]
   .simp[eI]
   .simpa[eI] using hl
   .simpa[eI] using h1
   .have:=(hv j hj).ext e;simpa[eI] using this
 .have cY:=af.dR hg;simp only[af.ma] at cY;rcases Nat.lt_or_ge id h.next with bX|bX
  .rw[af.dd bX] at hg;have hb:=hr.fA ⟨_,hg,λe=>by cases e⟩;exact (hr.maps id es hg).ext e bX (by rw[hh];exact getElem?_push_lt hb)
  .obtain rfl:id=h.next:=by omega
   rw[af.fg] at hg;cases hg
 .rcases gK hi with rfl|⟨hi,qo⟩<;>rcases gK hj with rfl|⟨hj,Gj⟩
  .rfl
  .have:=hr.fA hj;simp only[eI,if_true,Nat.ne_of_lt Gj,if_false] at uA;omega
  .have:=hr.fA hi;simp only[eI,if_true,Nat.ne_of_lt qo,if_false] at uA;omega
  .simp only[eI,Nat.ne_of_lt qo,Nat.ne_of_lt Gj,if_false] at uA;exact hr.inj i j hi hj uA
theorem aa4{w':World}{pB:Nat}(hr:HR φ h w)(hh:w'.heap=w.heap.push (.map #[] pB))(ho:w'.os=w.os)(ht:w'.tape=w.tape)(tg:w'.output=w.output):
 HR (eI φ h.next ⟨w.heap.size,0,0⟩) (h.alloc (.map [])) w'/\Ext φ h w (eI φ h.next ⟨w.heap.size,0,0⟩) (h.alloc (.map [])) w':=by
 have e:Ext φ h w (eI φ h.next ⟨w.heap.size,0,0⟩) (h.alloc (.map [])) w':=Sy (o:=.map []) hr hh ho ht tg rfl;refine⟨⟨af.oz _ hr.wf,λid iN hg=>?_,λid es hg=>?_,λi j hi hj uA=>?_,WX hr hh rfl⟩,e⟩
 .have cY:=af.dR hg;simp only[af.ma] at cY;rcases Nat.lt_or_ge id h.next with bX|bX
  .rw[af.dd bX] at hg;have hb:=hr.fA ⟨_,hg,λe=>by cases e⟩;exact (hr.rows id iN hg).ext e bX (by rw[hh];exact getElem?_push_lt hb)
  .obtain rfl:id=h.next:=by omega
   rw[af.fg] at hg;cases hg
 .have cY:=af.dR hg;simp only[af.ma] at cY;rcases Nat.lt_or_ge id h.next with bX|bX
  .rw[af.dd bX] at hg;have hb:=hr.fA ⟨_,hg,λe=>by cases e⟩;exact (hr.maps id es hg).ext e bX (by rw[hh];exact getElem?_push_lt hb)
  .obtain rfl:id=h.next:=by omega
   rw[af.fg] at hg;cases hg;exact⟨#[],pB,by simp[eI,hh],rfl,λj hj=>by simp at hj⟩
 .rcases gK hi with rfl|⟨hi,qo⟩<;>rcases gK hj with rfl|⟨hj,Gj⟩
  .rfl
  .have:=hr.fA hj;simp only[eI,if_true,Nat.ne_of_lt Gj,if_false] at uA;omega
  .have:=hr.fA hi;simp only[eI,if_true,Nat.ne_of_lt qo,if_false] at uA;omega
  .simp only[eI,Nat.ne_of_lt qo,Nat.ne_of_lt Gj,if_false] at uA;exact hr.inj i j hi hj uA
theorem L5{w':World}{o':aT}(hr:HR φ h w)(hg:h.get id=some o)(fW:∀_:o=.dead,False)
 (iE:w'.heap.size=w.heap.size) (hh:∀b,b≠(φ id).gA->w'.heap[b]? =w.heap[b]?)
 (ho:w'.os=w.os) (ht:w'.tape=w.tape) (tg:w'.output=w.output):
 Ext φ h w φ (h.set id o') w'/\((∀cs,o'=.row cs->u5 φ (h.set id o') w' id cs)->(∀es,o'=.map es->zR φ (h.set id o') w' id es)->HR φ (h.set id o') w'):=by
 have o4:live h id:=⟨o,hg,fW⟩
 have e:Ext φ h w φ (h.set id o') w':=by
  refine⟨ho,ht,tg,by omega,by simp,λ_ _=>rfl,λb hb=>⟨⟨by rw[iE];exact hb.1,λi hi=>hb.2.1 i (zV hi o4),hb.2.2⟩,hh b λeq=>hb.2.1 id o4 eq.symm⟩,
   rfl,λb hb=>hh b λeq=>(hr.gh b hb).2 id o4 eq.symm⟩
 refine⟨e,λrF amS=>⟨af.wf_set _ _ hr.wf,λi cs hi=>?_,λi es hi=>?_,λi j hi hj uA=>hr.inj i j (zV hi o4) (zV hj o4) uA,
  λb hb=>⟨by rw[iE];exact (hr.gh b hb).1,λi hi=>(hr.gh b hb).2 i (zV hi o4)⟩⟩⟩
 .by_cases eq:id=i
  .subst eq;rw[af.get_set_same hg] at hi;exact rF cs (by simpa using hi)
  .have hi0:=hi;rw[af.get_set_other eq] at hi;refine (hr.rows i cs hi).ext e (af.dR hi) (hh _ λhb=>eq (hr.inj id i o4 ⟨_,hi,λe=>by cases e⟩ hb.symm))
 .by_cases eq:id=i
  .subst eq;rw[af.get_set_same hg] at hi;exact amS es (by simpa using hi)
  .rw[af.get_set_other eq] at hi;refine (hr.maps i es hi).ext e (af.dR hi) (hh _ λhb=>eq (hr.inj id i o4 ⟨_,hi,λe=>by cases e⟩ hb.symm))
theorem kF(hl:live (h.set id .dead) i):live h i/\i≠id:=by
 obtain⟨o,hg,fW⟩:=hl;by_cases eq:id=i
 .subst eq;have cY:=af.dR hg;simp only[af.Zj] at cY
  cases hx:h.get id with
  |none=>unfold af.set at hg;rw[if_pos cY] at hg;unfold af.get at hg hx;simp only[cY,if_true] at hg hx;rw[List.getElem?_eq_none_iff] at hx;rw[List.getElem?_eq_none (by simpa using hx)] at hg;cases hg
  |some x=>rw[af.get_set_same hx] at hg;cases hg;exact (fW rfl).elim
 .rw[af.get_set_other eq] at hg;exact⟨⟨o,hg,fW⟩,λe=>eq e.symm⟩
theorem adx(hr:HR φ h w)(id:Nat):HR φ (h.set id .dead) w/\Ext φ h w φ (h.set id .dead) w:=by
 have e:Ext φ h w φ (h.set id .dead) w:=⟨rfl,rfl,rfl,Nat.le_refl _,by simp,λ_ _=>rfl,λb hb=>⟨⟨hb.1,λi hi=>hb.2.1 i (kF hi).1,hb.2.2⟩,rfl⟩,rfl,λ_ _=>rfl⟩
 refine⟨⟨af.wf_set _ _ hr.wf,λi cs hi=>?_,λi es hi=>?_,λi j hi hj uA=>hr.inj i j (kF hi).1 (kF hj).1 uA,λb hb=>⟨(hr.gh b hb).1,λi hi=>(hr.gh b hb).2 i (kF hi).1⟩⟩,e⟩
 .have eR:=(kF ⟨_,hi,λe=>by cases e⟩).2;rw[af.get_set_other (Ne.symm eR)] at hi;exact (hr.rows i cs hi).ext e (af.dR hi) rfl
 .have eR:=(kF ⟨_,hi,λe=>by cases e⟩).2;rw[af.get_set_other (Ne.symm eR)] at hi;exact (hr.maps i es hi).ext e (af.dR hi) rfl
theorem Sc(eG:List Nat):∀{h:af},HR φ h w->HR φ (kill h eG) w/\Ext φ h w φ (kill h eG) w:=by
 induction eG with
 |nil=>exact λhr=>⟨hr,.refl _ _ _⟩
 |cons id r ih=>intro h hr;obtain⟨h1,e1⟩:=adx hr id;obtain⟨h2,e2⟩:=ih h1;exact⟨h2,e1.trans e2⟩
theorem Tx:∀(eG:List Nat) {h:af} {i:Nat},live (kill h eG) i->live h i/\i∉eG:=by
 intro eG
 induction eG with
 |nil=>exact λhl=>⟨hl,by simp⟩
 |cons id r ih=>intro h i hl;obtain⟨h1,h2⟩:=ih hl;obtain⟨h3,h4⟩:=kF h1;exact⟨h3,by simp[h2,h4]⟩
theorem HR.mark(hr:HR φ h w)(id:Nat)(v:AV):HR φ (h.mark id v) w/\Ext φ h w φ (h.mark id v) w:=by
 have eF:∀i,live (h.mark id v) i↔live h i:=λi=>by unfold live;simp only[af.lN]
 have e:Ext φ h w φ (h.mark id v) w:=⟨rfl,rfl,rfl,Nat.le_refl _,by simp,λ_ _=>rfl,λb hb=>⟨⟨hb.1,λi hi=>hb.2.1 i ((eF i).1 hi),hb.2.2⟩,rfl⟩,rfl,λ_ _=>rfl⟩
 refine⟨⟨af.Dk _ _ hr.wf,λi cs hi=>?_,λi es hi=>?_,λi j hi hj=>hr.inj i j ((eF i).1 hi) ((eF j).1 hj),λb hb=>⟨(hr.gh b hb).1,λi hi=>(hr.gh b hb).2 i ((eF i).1 hi)⟩⟩,e⟩
 .rw[af.lN] at hi;exact (hr.rows i cs hi).ext e (af.dR hi) rfl
 .rw[af.lN] at hi;exact (hr.maps i es hi).ext e (af.dR hi) rfl
theorem HR.uK(hr:HR φ h w)(x y:Nat):HR φ {h with wl:=x,md:=y} w/\Ext φ h w φ {h with wl:=x,md:=y} w:=by
 have e:Ext φ h w φ {h with wl:=x,md:=y} w:=⟨rfl,rfl,rfl,Nat.le_refl _,Nat.le_refl _,λ_ _=>rfl,λb hb=>⟨hb,rfl⟩,rfl,λ_ _=>rfl⟩
 refine⟨⟨hr.wf,λi cs hi=>?_,λi es hi=>?_,λi j hi hj=>hr.inj i j hi hj,hr.gh⟩,e⟩
 .exact (hr.rows i cs hi).ext e (af.dR hi) rfl
 .exact (hr.maps i es hi).ext e (af.dR hi) rfl
end
theorem HR.world{φ:eJ}{h:af}{w w':World}(hr:HR φ h w)(hh:w'.heap=w.heap)(ho:w'.os=w.os)(ht:w'.tape=w.tape)(tg:w'.output=w.output):
 HR φ h w'/\Ext φ h w φ h w':=by
 have e:Ext φ h w φ h w':=⟨ho,ht,tg,by rw[hh];exact Nat.le_refl _,Nat.le_refl _,λ_ _=>rfl,λb hb=>⟨⟨by rw[hh];exact hb.1,hb.2⟩,by rw[hh]⟩,rfl,λ_ _=>by rw[hh]⟩
 refine⟨⟨hr.wf,λi cs hi=>?_,λi es hi=>?_,λi j hi hj=>hr.inj i j hi hj,λb hb=>by rw[hh];exact hr.gh b hb⟩,e⟩
 .exact (hr.rows i cs hi).ext e (af.dR hi) (by rw[hh])
 .exact (hr.maps i es hi).ext e (af.dR hi) (by rw[hh])
end
section
def fB(P:Program)(s:Sem Next)(φ:eJ)(h:af)(w:World)(v:AV)(h':af):Prop:=∃cv w' φ',(s.run P w=.ok (.value cv) w'\/(s.run P w=.ok .skip w'/\cv=undef))/\fe φ' h' w' v cv/\HR φ' h' w'/\Ext φ h w φ' h' w'
variable {cv:Value}
theorem fB.pure{P:Program}{s:Sem Next}{φ:eJ}{h:af}{w:World}{v:AV}(hr:HR φ h w)(hs:s.run P w=.ok (.value cv) w)(hv:fe φ h w v cv):
 fB P s φ h w v h:=⟨cv,w,φ,.inl hs,hv,hr,.refl _ _ _⟩
variable {v:Value}
section consts
variable {φ:eJ}{nx:Nat}{pr:Nat->Prop}{w:World}
theorem IF{av:AV}(he:Bg v=some av):RV φ nx pr w av v:=by
 unfold Bg at he;split at he<;>cases he
 .exact .bool _
 .exact .int _ _
 .exact .str _
 .exact .nw
 .exact .aF _
 .exact .kq
 .exact .ji
 .exact .nu
 .exact .fn _ [] #[] rfl λj hj=>by simp at hj
theorem Kd{av:AV}(he:Bg v=some av):v.oneCell'=true/\av.cells? =some [av]:=by unfold Bg at he;split at he<;>cases he<;>simp[Value.oneCell',AV.cells?]
theorem oi{α β:Type}{f:α->Option β}:∀{l:List α} {m:List β},dP f l=some m->m.length=l.length
 |[],m,he=>by simp[dP] at he;subst he;rfl
 |x::r,m,he=>by
   unfold dP at he;split at he
   .rename_i y s h1 h2;cases he;simp[oi h2]
   .cases he
theorem mj{α β:Type}{f:α->Option β}:∀{l:List α} {m:List β},dP f l=some m->∀i (hi:i<l.length) (iO:i<m.length),f l[i]=some m[i]
 |[],m,he=>by intro i hi;simp at hi
 |x::r,m,he=>by
   unfold dP at he;split at he
   .rename_i y s h1 h2;cases he;intro i hi iO
    cases i with
    |zero=>simpa using h1
    |succ i=>simpa using mj h2 i (by simpa using hi) (by simpa using iO)
   .cases he
theorem Ed{av:AV}(he:MF v=some av):RV φ nx pr w av v:=by
 unfold MF at he;split at he
 .rename_i cs;obtain⟨l,hl,rfl⟩:=Option.map_eq_some_iff.1 he;have dI:=oi hl;refine .agg l cs (by simpa using dI.symm) (λj=>?_) λj hj=>?_
  .by_cases hj:j<cs.size
   .have jC:j<cs.toList.length:=by simpa using hj
    have:=(Kd (mj hl j jC (by omega))).1;simpa[Array.getD,hj] using this
   .simp[Array.getD,hj];rfl
  have jC:j<cs.toList.length:=by omega
  have:=IF (φ:=φ) (nx:=nx) (pr:=pr) (w:=w) (mj hl j jC hj);have DO:j<cs.size:=by simpa using jC
  simpa[Array.getD,DO] using this
 .cases he;exact .tuple [] #[] rfl λj hj=>by simp at hj
 .exact IF he
end consts
variable {x:Operand}{x':dY}{o:Oper}{b:Bool}{c:Array Value}
section
variable {P:Program}{φ:eJ}{h:af}{w:World}{fr:List AV}{a:Act}
theorem ch(he:fZ x=some x')(hf:FR φ h w fr a.tmps):fe φ h w (x'.ev fr) (a.eval x):=by
 unfold fZ at he;split at he
 .cases he;exact hf.2 _
 .obtain⟨v',hv,rfl⟩:=Option.map_eq_some_iff.1 he;exact Ed hv
 .cases he;exact .fn _ [] #[] rfl λj hj=>by simp at hj
 .cases he
theorem RV.cells{nx:Nat}{pr:Nat->Prop}{v:AV}{cs:List AV}(hv:RV φ nx pr w v cv)(hc:v.cells? =some cs):
 cv.cells.size=cs.length/\(∀j,(cv.cells.getD j default).oneCell'=true)/\∀j (hj:j<cs.length),RV φ nx pr w cs[j] (cv.cells.getD j default):=by
 cases hv with
 |agg l eY hl h1 hv=>simp only[AV.cells?,Option.some.injEq] at hc;subst hc;exact⟨hl,h1,hv⟩
 |undef=>simp[AV.cells?] at hc
 |tuple=>simp[AV.cells?] at hc
 |_=>
   simp only[AV.cells?,Option.some.injEq] at hc;subst hc;refine⟨rfl,λj=>by cases j<;>rfl,λj hj=>?_⟩;obtain rfl:j=0:=by simpa using hj
   first
    |exact .bool _
    |exact .int _ _
    |exact .str _
    |exact .nw
    |exact .ptr _ _ ‹_›
    |exact .ip _ _ _ _ ‹_› ‹_› ‹_› ‹_› ‹_›
    |exact .ip _ _ _ _ ‹_› ‹_› ‹_› ‹_› (by assumption)
    |exact .aF _
    |exact .slnil _ _
    |exact .sl _ _ _ _ _ _ ‹_› ‹_› ‹_› ‹_› ‹_› ‹_› ‹_›
    |exact .vec _ _ _ _ _ _ _ ‹_› ‹_› ‹_› ‹_› ‹_›
    |exact .kq
    |exact .map _ ‹_›
    |exact .ji
    |exact .fn _ _ _ ‹_› ‹_›
    |exact .nu
    |exact .iface _ _ _ ‹_›
theorem X6(ho:o.op=.move x\/o.op=.assign x)(hx:fZ x=some x')(hf:FR φ h w fr a.tmps)(hr:HR φ h w):
 fB P (execOp a.eval o) φ h w (x'.ev fr) h:=
 .pure hr (by unfold execOp;rcases ho with ho|ho<;>simp[ho]) (ch hx hf)
theorem RV.gM{nx:Nat}{pr:Nat->Prop}(hv:RV φ nx pr w (.bool b) cv):cv=.bool b:=by cases hv;rfl
theorem RV.dS{nx:Nat}{pr:Nat->Prop}{k:IntKind}{n:Int}(hv:RV φ nx pr w (.int k n) cv):cv=.int k n:=by cases hv;rfl
theorem RV.fS{nx:Nat}{pr:Nat->Prop}{s:List UInt8}(hv:RV φ nx pr w (.str s) cv):∃b:ByteArray,cv=.string b/\b.data.toList=s:=by cases hv;exact⟨_,rfl,rfl⟩
theorem RV.yi{nx:Nat}{pr:Nat->Prop}{s:List UInt8}{b:ByteArray}(hb:b.data.toList=s):RV φ nx pr w (.str s) (.string b):=hb▸.str b
theorem aas{c y:Operand}(ho:o.op=.pick c x y){c' y':dY}(hc:fZ c=some c')(hx:fZ x=some x')(hy:fZ y=some y')(hb:c'.ev fr=.bool b)
 (hf:FR φ h w fr a.tmps) (hr:HR φ h w):fB P (execOp a.eval o) φ h w (if b then x'.ev fr else y'.ev fr) h:=by
 have h0:=ch hc hf;rw[hb] at h0;have h0:=h0.gM;refine .pure (cv:=if b then a.eval x else a.eval y) hr (by unfold execOp;simp[ho,h0,asBool]) ?_;cases b
 .exact ch hy hf
 .exact ch hx hf
theorem abb(o:aT)(b r:Nat){w':World}:fe (eI φ h.next ⟨b,0,r⟩) (h.alloc o) w' (.ptr h.next 0) (.pointer (some ⟨b,0,none⟩)):=by
 have:=RV.ptr (φ:=eI φ h.next ⟨b,0,r⟩) (nx:=(h.alloc o).next) (pr:=Pr (eI φ h.next ⟨b,0,r⟩) (h.alloc o) w') (w:=w') h.next 0 (by simp)
 have e:eI φ h.next ⟨b,0,r⟩ h.next=⟨b,0,r⟩:=by simp[eI]
 rw[e] at this;exact this
theorem JE(o:aT)(b r n sz lb cap:Nat){w':World}(hn:n<=cap)(hb:lb<=cap)(hr:cap*sz<=r):fe (eI φ h.next ⟨b,0,r⟩) (h.alloc o) w' (.vec h.next 0 n sz lb) (.slice (some ⟨b,0,none⟩) n cap):=.vec _ _ _ _ _ _ _ (by simp) hn hb (by simpa[eI] using hr) λ_=>by simp[eI]
theorem Eh{s:Sem Next}{el:TypeId}{cs:List AV}(hr:HR φ h w)
 (hs:s.run P w=.ok (.value (.pointer (some ⟨w.heap.size,0,none⟩))) (w.alloc (.cells c el)))
 (h1:∀j,(c.getD j default).oneCell'=true) (hl:cs.length<=c.size) (hv:∀j (hj:j<cs.length),fe φ h w cs[j] (c.getD j default)):
 fB P s φ h w (.ptr h.next 0) (h.alloc (.row cs)):=by
 obtain⟨g1,g2⟩:=DA (w':=w.alloc (.cells c el)) hr rfl rfl rfl rfl (by simp) (λj _=>h1 j) hl hv;refine⟨_,_,_,.inl hs,?_,g1,g2⟩;exact abb _ _ _
theorem afl{t:TypeId}(ho:o.op=.box t x)(hx:fZ x=some x'){cs:List AV}(hc:(x'.ev fr).cells? =some cs)
 (hf:FR φ h w fr a.tmps) (hr:HR φ h w):fB P (execOp a.eval o) φ h w (.ptr h.next 0) (h.alloc (.row cs)):=by
 obtain⟨g1,g2,g3⟩:=(ch hx hf).cells hc;refine Eh (c:=(a.eval x).cells) (el:=t) hr ?_ g2 (by omega) g3;unfold execOp;simp[ho,Instr.box,newVar,newRow]
theorem pK{t:TypeId}{cs:List AV}(hz:oY P t=some cs):∃i z,P.info? t=some i/\i.zero=some z/\z.cells.size=cs.length/\(∀j,(z.cells.getD j default).oneCell'=true)/\
 ∀nx pr (w:World),∀j (hj:j<cs.length),RV φ nx pr w cs[j] (z.cells.getD j default):=by
 unfold oY at hz;obtain⟨z,hz1,hz2⟩:=Option.bind_eq_some_iff.1 hz;obtain⟨v,hv1,hv2⟩:=Option.bind_eq_some_iff.1 hz2;obtain⟨i,hi,Kx⟩:=Option.bind_eq_some_iff.1 hz1;have key:=λnx pr (w:World)=>(Ed (φ:=φ) (nx:=nx) (pr:=pr) (w:=w) hv1).cells hv2
 obtain⟨k1,k2,_⟩:=key 0 (λ_=>False) default;exact⟨i,z,hi,Kx,k1,k2,λnx pr w=>(key nx pr w).2.2⟩
theorem Wb{t:TypeId}(ho:o.op=.alloc t){cs:List AV}(hz:oY P t=some cs)(hr:HR φ h w):
 fB P (execOp a.eval o) φ h w (.ptr h.next 0) (h.alloc (.row cs)):=by
 obtain⟨i,z,hi,Kx,k1,k2,k3⟩:=pK (φ:=φ) hz;refine Eh (c:=z.cells) (el:=t) hr ?_ k2 (by omega) (k3 _ _ _);unfold execOp;simp[ho,Instr.alloc,zeroValue,typeInfo,hi,Kx,newVar,newRow]
def tK(φ:eJ)(nx:Nat)(pr:Nat->Prop)(w:World)(l:List AV)(c:Array Value):Prop:=c.size=l.length/\(∀j,(c.getD j default).oneCell'=true)/\∀j (hj:j<l.length),RV φ nx pr w l[j] (c.getD j default)
theorem tK.set{nx:Nat}{pr:Nat->Prop}{l:List AV}(hc:tK φ nx pr w l c){v:AV}(hv:RV φ nx pr w v cv)(h1:cv.oneCell'=true)(i:Nat):
 tK φ nx pr w (l.set i v) (c.setIfInBounds i cv):=by
 obtain⟨k1,k2,k3⟩:=hc;refine⟨by simpa using k1,λj=>?_,λj hj=>?_⟩
 .have:=k2 j;rw[Array.getD_eq_getD_getElem?] at this|-;rw[Array.getElem?_setIfInBounds];by_cases e:i=j
  .subst e;by_cases hl:i<c.size
   .simpa[hl] using h1
   .simp[hl];rfl
  .simpa[e] using this
 .have jC:j<l.length:=by simpa using hj
  have:=k3 j jC;rw[Array.getD_eq_getD_getElem?] at this|-;rw[Array.getElem?_setIfInBounds,List.getElem_set];by_cases e:i=j
  .subst e;simpa[k1,jC] using hv
  .simpa[e] using this
theorem No{nx:Nat}{pr:Nat->Prop}:∀(vs:List AV) (eY:List Value) (k off:Nat) (l:List AV) (c:Array Value),tK φ nx pr w l c->
 vs.length=eY.length->(∀j (h:j<vs.length) (h':j<eY.length),RV φ nx pr w vs[j] eY[j]/\eY[j].oneCell'=true)->
 tK φ nx pr w (putAt l (off+k) vs) ((eY.zipIdx k).foldl (λcs p=>cs.setIfInBounds (off+p.2) p.1) c)
 |[],[],_,_,_,_,hc,_,_=>hc
 |v::vs,cv::eY,k,off,l,c,hc,hl,hv=>by
   obtain⟨h1,h2⟩:=hv 0 (by simp) (by simp);have:=No vs eY (k+1) off _ _ (hc.set (by simpa using h1) (by simpa using h2) (off+k)) (by simpa using hl) λj h h'=>hv (j+1) (Nat.succ_lt_succ h) (Nat.succ_lt_succ h')
   simpa[putAt,List.zipIdx_cons,Nat.add_assoc] using this
 |[],_::_,_,_,_,_,_,hl,_=>by simp at hl
 |_::_,[],_,_,_,_,_,hl,_=>by simp at hl
theorem Ac(vs:List AV):∀(l:List AV) (off:Nat),(putAt l off vs).length=l.length:=by
 induction vs with
 |nil=>intro l off;rfl
 |cons v r ih=>intro l off;simp[putAt,ih]
theorem Dq{nx:Nat}{pr:Nat->Prop}(place:Nat->Option (Nat×Nat)):∀(ps:List (Nat×Nat×AV)) (cps:List (Nat×Value)) (l:List AV) (c:Array Value) (l':List AV),
 tK φ nx pr w l c->ps.length=cps.length->(∀j (h:j<ps.length) (h':j<cps.length),place cps[j].1=some (ps[j].1,ps[j].2.1)/\RV φ nx pr w ps[j].2.2 cps[j].2)->
 nf l ps=some l'->∃c',Instr.fill place c cps=some c'/\tK φ nx pr w l' c'
 |[],[],l,c,l',hc,_,_,hf=>by simp only[nf,Option.some.injEq] at hf;subst hf;exact⟨c,rfl,hc⟩
 |(off,sz,v)::ps,(i,cv)::cps,l,c,l',hc,hl,hp,hf=>by
   obtain⟨DP,hv⟩:=hp 0 (by simp) (by simp);simp only[List.getElem_cons_zero] at DP hv;unfold nf at hf;split at hf
   .rename_i cs nQ;split at hf
    .rename_i iE;obtain⟨g1,g2,g3⟩:=hv.cells nQ
     have step:=No (φ:=φ) (nx:=nx) (pr:=pr) (w:=w) cs cv.cells.toList 0 off l c hc (by simpa using g1.symm) λj h h'=>by
      have e1:=g3 j h;have e2:=g2 j;have hj:j<cv.cells.size:=by omega
      simp only[Array.getD,hj,dif_pos] at e1 e2;exact⟨by simpa using e1,by simpa using e2⟩
     obtain⟨c',e1,e2⟩:=Dq place ps cps _ _ l' step (by simpa using hl) (λj h h'=>hp (j+1) (Nat.succ_lt_succ h) (Nat.succ_lt_succ h')) (by simpa using hf);refine⟨c',?_,e2⟩;unfold Instr.fill;simp only[DP]
     have amU:(cv.cells.size≠sz||off+cv.cells.size > c.size)=false:=by have:=hc.1;simp;omega
     rw[if_neg (by rw[amU];simp)];rw[<-e1];congr 1;rw[<-Array.foldl_toList,Array.toList_zipIdx]
    .cases hf
   .cases hf
 |[],_::_,_,_,_,_,hl,_,_=>by simp at hl
 |_::_,[],_,_,_,_,hl,_,_=>by simp at hl
theorem RQ{xs:Array Operand}{xs':List dY}(he:nH xs=some xs')(hf:FR φ h w fr a.tmps):
 (xs.map a.eval).size=xs'.length/\∀j,j<xs'.length->fe φ h w ((xs'.map (·.ev fr)).getD j .undef) ((xs.map a.eval).getD j default):=by
 have dI:=oi he;simp only[Array.length_toList] at dI;refine⟨by simpa using dI.symm,λj hj=>?_⟩;have jC:j<xs.toList.length:=by simpa[<-dI] using hj
 have:=ch (mj he j jC hj) hf;have DO:j<xs.size:=by simpa using jC
 simpa[Array.getD,DO,List.getD,hj] using this
theorem y8{places:List (Nat×Nat)}:∀{parts:List (Nat×Operand)} {ps:List (Nat×Nat×dY)},pk places parts=some ps->
 ps.length=parts.length/\∀j (h:j<ps.length) (h':j<parts.length),places[parts[j].1]? =some (ps[j].1,ps[j].2.1)/\fZ parts[j].2=some ps[j].2.2
 |[],ps,he=>by simp[pk] at he;subst he;simp
 |(i,x)::r,ps,he=>by
   unfold pk at he;split at he
   .rename_i p x' r' h1 h2 h3;cases he;obtain⟨g1,g2⟩:=y8 h3;refine⟨by simp[g1],λj hj jC=>?_⟩
    cases j with
    |zero=>simpa using ⟨h1,h2⟩
    |succ j=>simpa using g2 j (by simpa using hj) (by simpa using jC)
   .cases he
theorem wh(off:Nat):∀(l:List (Value×Nat)) (c:Array Value),(l.foldl (λcs (x:Value×Nat)=>match x with|(c,j)=>cs.setIfInBounds (off+j) c) c).size=c.size
 |[],_=>rfl
 |x::l,c=>by rw[List.foldl_cons,wh off l];simp
theorem lQ(place:Nat->Option (Nat×Nat)):∀(ps:List (Nat×Value)) (c c':Array Value),Instr.fill place c ps=some c'->c'.size=c.size
 |[],c,c',he=>by simp[Instr.fill] at he;rw[he]
 |(i,v)::r,c,c',he=>by
   unfold Instr.fill at he;split at he
   .cases he
   .split at he
    .cases he
    .rw[lQ place r _ c' he,<-Array.foldl_toList];exact wh _ _ _
theorem aeC{t:TypeId}{parts:Array (Nat×Operand)}(ho:o.op=.build t parts){fs:Array Field}(ht:P.underlying t=some (.struct fs)){z:List AV}(hz:oY P t=some z)
 {places:List (Nat×Nat)} (hp:placesOf P fs=some places) {ps:List (Nat×Nat×dY)} (AL:pk places parts.toList=some ps) {cs:List AV}
 (he:nf z (ps.map λp=>(p.1,p.2.1,p.2.2.ev fr))=some cs) (hf:FR φ h w fr a.tmps) (hr:HR φ h w):fB P (execOp a.eval o) φ h w (.agg cs) h:=by
 obtain⟨i,zv,hi,Kx,k1,k2,k3⟩:=pK (φ:=φ) hz;obtain⟨g1,g2⟩:=y8 AL
 obtain⟨c',e1,e2,e3,e4⟩:=Dq (φ:=φ) (nx:=h.next) (pr:=Pr φ h w) (w:=w) (places.toArray[·]?) (ps.map λp=>(p.1,p.2.1,p.2.2.ev fr)) ((parts.map λ(i,x)=>(i,a.eval x)).toList) z zv.cells cs ⟨k1,k2,k3 _ _ _⟩
  (by simp[g1]) (λj hj jC=>by obtain⟨q1,q2⟩:=g2 j (by simpa using hj) (by simpa using jC);exact⟨by simpa using q1,by simpa using ch q2 hf⟩) he
 refine .pure (cv:=.agg c') hr ?_ (.agg cs c' e2 e3 e4)
 have hb:P.built t (parts.map λ(i,x)=>(i,a.eval x)).toList=some c':=by unfold Program.built;simp only[hi,ht,Kx];unfold placesOf at hp;rw[hp];exact e1
 unfold execOp;simp[ho,run_build w t _ c' hb]
theorem jG{t:TypeId}{i:TypeInfo}(hi:P.info? t=some i)(w:World):(Go.sizeOf t).run P w=.ok i.size w:=by simp[Go.sizeOf,typeInfo,hi]
theorem agc{t e:TypeId}{len:Nat}{parts:Array (Nat×Operand)}(ho:o.op=.buildSlice t len parts)(ht:P.underlying t=some (.slice e)){i:TypeInfo}(hi:P.info? e=some i)
 {z:List AV} (hz:oY P e=some z) {ps:List (Nat×dY)} (AL:dP (λp:Nat×Operand=>(fZ p.2).map λx=>(p.1,x)) parts.toList=some ps) (dI:len*i.size<=2^24) (CP:z.length=i.size) {cs:List AV}
 (he:nf ((List.range (len*i.size)).map λj=>z.getD (j%i.size) .undef) (ps.map λp=>(p.1*i.size,i.size,p.2.ev fr))=some cs) (hf:FR φ h w fr a.tmps) (hr:HR φ h w):
 fB P (execOp a.eval o) φ h w (.vec h.next 0 len i.size len) (h.alloc (.row cs)):=by
 obtain⟨i',zv,iO,Kx,k1,k2,k3⟩:=pK (φ:=φ) hz;obtain rfl:i=i':=by rw[hi] at iO;exact Option.some.inj iO
 have g1:=oi AL
 let zz:Array Value:=if len*i.size=0 then #[] else zv.cells
 have ZF:tK φ h.next (Pr φ h w) w ((List.range (len*i.size)).map λj=>z.getD (j%i.size) .undef) ((Array.range (len*i.size)).map (zz[· % zz.size]!)):=by
  refine⟨by simp,λj=>?_,λj hj=>?_⟩
  .by_cases hj:j<len*i.size
   .have lP:0<i.size:=Nat.pos_of_ne_zero λe=>by simp[e] at hj
    have ZG:zz=zv.cells:=if_neg (by omega);have hm:j%i.size<i.size:=Nat.mod_lt _ lP;have:=k2 (j%i.size);simp only[ZG,k1,CP];simpa[Array.getD,hj,k1,CP,hm] using this
   .simp[Array.getD,hj];rfl
  .have jC:j<len*i.size:=by simpa using hj
   have lP:0<i.size:=Nat.pos_of_ne_zero λe=>by simp[e] at jC
   have ZG:zz=zv.cells:=if_neg (by omega);have hm:j%i.size<z.length:=by rw[CP];exact Nat.mod_lt _ lP
   have:=k3 h.next (Pr φ h w) w (j%i.size) hm
   simp only[ZG,k1,CP];have hm':j%i.size<i.size:=by omega
   simpa[Array.getD,jC,k1,CP,hm,hm',List.getD] using this
 obtain⟨c',e1,e2,e3,e4⟩:=Dq (φ:=φ) (nx:=h.next) (pr:=Pr φ h w) (w:=w) (λk=>some (k*i.size,i.size)) (ps.map λp=>(p.1*i.size,i.size,p.2.ev fr)) ((parts.map λ(i,x)=>(i,a.eval x)).toList) _ _ cs ZF
  (by simp[g1]) (λj hj jC=>by
   have VE:j<ps.length:=by simpa using hj
   have DO:j<parts.toList.length:=by simpa using jC
   have q:=mj AL j DO VE;obtain⟨x',q1,q2⟩:=Option.map_eq_some_iff.1 q;have q3:=ch q1 hf;have q4:ps[j]=((parts.toList[j]).1,x'):=q2.symm;exact⟨by simp[q4],by simpa[q4] using q3⟩) he
 obtain⟨n1,n2⟩:=DA (w':=w.alloc (.cells c' e)) hr rfl rfl rfl rfl (by simp) (λj _=>e3 j) (by omega) e4
 have dq:cs.length=len*i.size:=by
  have:c'.size=len*i.size:=by have:=lQ _ _ _ _ e1;simpa using this
  omega
 refine⟨_,_,_,.inl ?_,JE (.row cs) w.heap.size c'.size len i.size len len (Nat.le_refl _) (Nat.le_refl _) (by omega),n1,n2⟩;unfold execOp;have amV:¬(len*i.size > 2^24):=by omega
 by_cases h0:len*i.size=0
 .simp only[zz,h0,if_true] at e1;have NY:¬(16777216<len*i.size):=by omega
  simp[Array.range_zero'] at e1;simp[ho,Instr.buildSlice,run_underlying ht,jG hi,h0,newRow,Array.range_zero',e1]
 .simp only[zz,h0,if_false] at e1;have NY:¬(16777216<len*i.size):=by omega
  simp at e1;simp[ho,Instr.buildSlice,run_underlying ht,jG hi,zeroValue,typeInfo,hi,Kx,NY,h0,newRow,e1]
end
end
section
variable {id:Nat}{n:Option Nat}
section
variable {P:Program}{φ:eJ}{h:af}{w:World}{fr:List AV}{a:Act}
theorem sn{cs:List AV}(he:h.row id=some cs):h.get id=some (.row cs):=by
 unfold af.row at he;split at he
 .rename_i g;cases he;exact g
 .cases he
theorem PL{es:List (AV×AV)}(he:h.iq id=some es):h.get id=some (.map es):=by
 unfold af.iq at he;split at he
 .rename_i g;cases he;exact g
 .cases he
theorem zW(hr:HR φ h w){cs:List AV}(hg:h.get id=some (.row cs))(j:Nat)(hj:j<cs.length):
 ∃v,w.cell? ⟨(φ id).gA,(φ id).base+j,none⟩=some v/\fe φ h w cs[j] v/\v.oneCell'=true:=by
 obtain⟨c,el,fz,h1,h2,h3,h4,h5,h6⟩:=hr.rows id cs hg;have cY:(φ id).base+j<c.size:=by omega
 have e:c.getD ((φ id).base+j) default=c[(φ id).base+j]:=by simp[Array.getD,cY]
 refine⟨c.getD ((φ id).base+j) default,?_,h6 j hj,h5 j (by omega)⟩;unfold World.cell?;simp[h1,e,cY]
theorem s0{t:TypeId}(he:JW P t=some n)(w:World):
 (isAgg t).run P w=.ok n.isSome w/\∀m,n=some m->∃i,P.info? t=some i/\i.size=m:=by
 unfold JW at he
 cases hu:P.underlying t with
 |none=>simp[hu] at he
 |some d=>
   rw[hu] at he
   cases d<;>first
    | (simp only[Option.map_eq_some_iff] at he
       obtain⟨i,hi,rfl⟩:=he;exact⟨by simp[isAgg,run_underlying hu],λm hm=>⟨i,hi,by simpa using hm⟩⟩)
    | (simp only[Option.some.injEq] at he
       subst he;exact⟨by simp[isAgg,run_underlying hu],λm hm=>by cases hm⟩)
theorem V2{t:TypeId}(ht:JW P t=some n){x v:AV}{cx:Value}(hx:fe φ h w x cx)(hr:HR φ h w)(he:Sv h n x=some v):
 ∃ad cv,cx=.pointer (some ad)/\(loadVar t ad).run P w=.ok cv w/\fe φ h w v cv:=by
 obtain⟨hag,iE⟩:=s0 ht w
 cases hx with
 |ptr id off bX=>
   unfold Sv at he;dsimp only at he;split at he
   .rename_i cs n rF;have hg:=sn rF;obtain⟨amW,hv⟩:=List.getElem?_eq_some_iff.1 he;obtain⟨cv,c1,c2,c3⟩:=zW hr hg off amW;refine⟨_,cv,rfl,?_,hv▸c2⟩;simp[loadVar,hag,c1]
   .rename_i cs n rF;have hg:=sn rF;split at he
    .rename_i hle;cases he;obtain⟨i,hi,AM⟩:=iE n rfl
     have wk:∀j,j<n->∃cv,w.cell? ⟨(φ id).gA,(φ id).base+off+j,none⟩=some cv/\fe φ h w (cs.getD (off+j) .undef) cv/\cv.oneCell'=true:=by
      intro j hj;obtain⟨cv,c1,c2,c3⟩:=zW hr hg (off+j) (by omega);have cY:off+j<cs.length:=by omega
      exact⟨cv,by rw[Nat.add_assoc];exact c1,by simpa[List.getD,cY] using c2,c3⟩
     let f:Nat->Value:=λj=>(w.cell? ⟨(φ id).gA,(φ id).base+off+j,none⟩).getD default
     have hf:∀j,j<n->w.cell? ((⟨(φ id).gA,(φ id).base+off,none⟩:Addr).add j)=some (f j):=λj hj=>by obtain⟨cv,c1,_⟩:=wk j hj;rw[Addr.add_lit];simp[f,c1]
     have rG:=run_loadCells (P:=P) w ⟨(φ id).gA,(φ id).base+off,none⟩ n f hf;refine⟨_,.agg ((List.range n).map f).toArray,rfl,?_,.agg _ _ (by simp;omega) (λj=>?_) λj hj=>?_⟩
     .simp[loadVar,hag,jG hi,AM,rG]
     .by_cases hj:j<n
      .obtain⟨cv,c1,c2,c3⟩:=wk j hj;simpa[Array.getD,hj,f,c1] using c3
      .simp[Array.getD,hj];rfl
     .have jC:j<n:=by simp at hj;omega
      obtain⟨cv,c1,c2,c3⟩:=wk j jC;have cY:off+j<cs.length:=by omega
      simp[List.getD,cY] at c2;simpa[Array.getD,jC,f,c1] using c2
    .cases he
   .cases he
 |ip cs b o vs hp wi h1 hc hv=>
   unfold Sv at he;dsimp only at he
   cases n with
   |none=>dsimp only at he;obtain⟨h0,rfl⟩:=List.getElem?_eq_some_iff.1 he;have:=hc 0 h0;refine⟨_,vs 0,rfl,?_,hv 0 h0⟩;simp at this;simp[loadVar,hag,this]
   |some n=>
     dsimp only at he;split at he
     .rename_i hle;cases he;obtain⟨i,hi,AM⟩:=iE n rfl
      have hf:∀j,j<n->w.cell? ((⟨b,o,none⟩:Addr).add j)=some (vs j):=λj hj=>by rw[Addr.add_lit];exact hc j (by omega)
      have rG:=run_loadCells (P:=P) w ⟨b,o,none⟩ n vs hf;refine⟨_,.agg ((List.range n).map vs).toArray,rfl,?_,.agg _ _ (by simp;omega) (λj=>?_) λj hj=>?_⟩
      .simp[loadVar,hag,jG hi,AM,rG]
      .by_cases hj:j<n
       .simpa[Array.getD,hj] using h1 j
       .simp[Array.getD,hj];rfl
      .have jC:j<n:=by simp at hj;omega
       have:=hv j (by omega);simpa[Array.getD,jC] using this
     .cases he
 |_=>simp[Sv] at he
theorem ah3{t:TypeId}{x:Operand}{o:Oper}(ho:o.op=.load t x){x':dY}(hx:fZ x=some x')(ht:JW P t=some n){v:AV}
 (he:Sv h n (x'.ev fr)=some v) (hf:FR φ h w fr a.tmps) (hr:HR φ h w):fB P (execOp a.eval o) φ h w v h:=by
 obtain⟨ad,cv,e1,e2,e3⟩:=V2 ht (ch hx hf) hr he;refine .pure hr ?_ e3;unfold execOp;simp[ho,Instr.loadAt,Instr.sureAddr,e1,e2]
def tB(c:Array Value)(k:Nat):List Value->Array Value
 |[]=>c
 |v::r=>tB (c.setIfInBounds k v) (k+1) r
theorem mA:∀(vs:List Value) (c:Array Value) (k:Nat),(tB c k vs).size=c.size
 |[],_,_=>rfl
 |v::r,c,k=>by simp[tB,mA r]
theorem nP:∀(vs:List Value) (c:Array Value) (k j:Nat),k+vs.length<=c.size->
 (tB c k vs).getD j default=if k<=j/\j<k+vs.length then vs.getD (j-k) default else c.getD j default
 |[],c,k,j,_=>by simp only[tB,List.length_nil];rw[if_neg (by omega)]
 |v::r,c,k,j,hl=>by
   simp only[List.length_cons] at hl;rw[tB,nP r _ _ _ (by simp;omega)];simp only[List.length_cons];by_cases h1:k+1<=j/\j<k+1+r.length
   .rw[if_pos h1,if_pos (by omega)];rw[show j-k=(j-(k+1))+1 by omega,List.getD_cons_succ]
   .rw[if_neg h1];by_cases h2:j=k
    .subst h2;rw[if_pos (by omega)];have:j<c.size:=by omega
     simp[Array.getD,this]
    .rw[if_neg (by omega)];have eR:k≠j:=λe=>h2 e.symm
     rw[Array.getD_eq_getD_getElem?,Array.getD_eq_getD_getElem?,Array.getElem?_setIfInBounds];simp[eR]
theorem mM{b:Nat}{el:TypeId}{fz:Nat×Nat}:∀(vs:List Value) (c:Array Value) (o i:Nat) (w:World),w.heap[b]? =some (.cells c el fz)->o+i+vs.length<=c.size->
 (∀x,x<c.size->¬(fz.1<=x/\x<fz.2))->(∀v∈vs,v.oneCell'=true)->
 ∃w',(storeCells ⟨b,o,none⟩ vs i).run P w=.ok () w'/\w'.heap[b]? =some (.cells (tB c (o+i) vs) el fz)/\w'.heap.size=w.heap.size/\(∀x,x≠b->w'.heap[x]? =w.heap[x]?)/\
   w'.os=w.os/\w'.tape=w.tape/\w'.output=w.output
 |[],c,o,i,w,hb,_,_,_=>⟨w,by simp[storeCells],by simpa[tB] using hb,rfl,λ_ _=>rfl,rfl,rfl,rfl⟩
 |v::r,c,o,i,w,hb,hl,ZE,h1=>by
   simp only[List.length_cons] at hl;have cY:o+i<c.size:=by omega
   have mG:w.cell? ⟨b,o+i,none⟩=some c[o+i]:=by unfold World.cell?;simp[hb,cY]
   have uB:w.frozen? ⟨b,o+i,none⟩=false:=by have:=ZE (o+i) cY;unfold World.frozen?;simp only[hb];simpa using this
   have B2:(w.setCell ⟨b,o+i,none⟩ v).heap[b]? =some (.cells (c.setIfInBounds (o+i) v) el fz):=by simp[World.setCell,Array.getElem?_modify,hb]
   obtain⟨w',e1,e2,e3,e4,e5,e6,e7⟩:=mM r (c.setIfInBounds (o+i) v) o (i+1) (w.setCell ⟨b,o+i,none⟩ v) B2 (by simp;omega) (by simpa using ZE) (λv hv=>h1 v (by simp[hv]));refine⟨w',?_,by rw[tB,Nat.add_assoc];exact e2,by rw[e3];simp,λx hx=>(e4 x hx).trans ?_,e5,e6,e7⟩
   .unfold storeCells;rw[Sem.run_bind,Addr.add_lit,run_store P w _ v _ (h1 v (by simp))];simp[mG,uB,e1]
   .simp[World.setCell,Array.getElem?_modify,Ne.symm hx]
end
end
section
variable {id off k:Nat}{x:Operand}{o:Oper}{x' y':dY}{cx:Value}
section
variable {P:Program}{φ:eJ}{h:af}{w:World}{fr:List AV}{a:Act}
theorem Ht:∀(vs:List AV) (l:List AV) (k j:Nat),k+vs.length<=l.length->
 (putAt l k vs).getD j .undef=if k<=j/\j<k+vs.length then vs.getD (j-k) .undef else l.getD j .undef
 |[],l,k,j,_=>by simp only[putAt,List.length_nil];rw[if_neg (by omega)]
 |v::r,l,k,j,hl=>by
   simp only[List.length_cons] at hl;rw[putAt,Ht r _ _ _ (by simp;omega)];simp only[List.length_cons];by_cases h1:k+1<=j/\j<k+1+r.length
   .rw[if_pos h1,if_pos (by omega)];rw[show j-k=(j-(k+1))+1 by omega,List.getD_cons_succ]
   .rw[if_neg h1];by_cases h2:j=k
    .subst h2;rw[if_pos (by omega)];have:j<l.length:=by omega
     simp[List.getD,this]
    .rw[if_neg (by omega)];have eR:k≠j:=λe=>h2 e.symm
     simp[List.getD,eR]
theorem Bp(hr:HR φ h w){cs vs:List AV}{eY:List Value}(hg:h.get id=some (.row cs))(hle:off+vs.length<=cs.length)(dI:vs.length=eY.length)
 (hv:∀j (h1:j<vs.length) (h2:j<eY.length),fe φ h w vs[j] eY[j]/\eY[j].oneCell'=true):
 ∃w',(storeCells ⟨(φ id).gA,(φ id).base+off,none⟩ eY).run P w=.ok () w'/\HR φ (h.set id (.row (putAt cs off vs))) w'/\Ext φ h w φ (h.set id (.row (putAt cs off vs))) w':=by
 obtain⟨c,el,fz,h1,h2,h3,h4,h5,h6⟩:=hr.rows id cs hg
 obtain⟨w',e1,e2,e3,e4,e5,e6,e7⟩:=mM (P:=P) eY c ((φ id).base+off) 0 w h1 (by omega) h4 (λv hvm=>by obtain⟨j,hj,rfl⟩:=List.getElem_of_mem hvm;exact (hv j (by omega) hj).2)
 obtain⟨t1,t2⟩:=L5 (w':=w') (o':=.row (putAt cs off vs)) hr hg (λe=>by cases e) e3 e4 e5 e6 e7;refine⟨w',e1,t2 (λiN amX=>?_) (λes VF=>by cases VF),t1⟩;cases amX;refine⟨_,el,fz,e2,by rw[mA];exact h2,by rw[Ac];exact h3,by rw[mA];exact h4,λj hj=>?_,λj hj=>?_⟩
 .rw[nP _ _ _ _ (by omega)];split
  .rename_i AM;have cY:(φ id).base+j-((φ id).base+off+0)<eY.length:=by omega
   have:=(hv _ (by omega) cY).2;rw[List.getD_eq_getElem?_getD,List.getElem?_eq_getElem cY];exact this
  .exact h5 j hj
 .have jC:j<cs.length:=by rw[Ac] at hj;exact hj
  have hp:=Ht vs cs off j hle;rw[List.getD_eq_getElem?_getD,List.getElem?_eq_getElem hj,Option.getD_some] at hp;rw[hp,nP _ _ _ _ (by omega)];by_cases AM:off<=j/\j<off+vs.length
  .rw[if_pos AM,if_pos (by omega)];have q1:j-off<vs.length:=by omega
   have q2:(φ id).base+j-((φ id).base+off+0)=j-off:=by omega
   have q3:j-off<eY.length:=by omega
   have:=((hv _ q1 q3).1).ext t1;rw[q2];simpa[List.getD,q1,q3] using this
  .rw[if_neg AM,if_neg (by omega)];have:=(h6 j jC).ext t1;simpa[List.getD,jC] using this
theorem aiZ{t:TypeId}{v:Operand}(ho:o.op=.store t x v){v':dY}(hx:fZ x=some x')(hv:fZ v=some v'){i:TypeInfo}(hi:P.info? t=some i)
 (hp:x'.ev fr=.ptr id off) {vs cs:List AV} (Gz:(v'.ev fr).cells? =some vs) (rF:h.row id=some cs) (dI:vs.length=i.size) (hle:off+i.size<=cs.length)
  (hf:FR φ h w fr a.tmps) (hr:HR φ h w):fB P (execOp a.eval o) φ h w .undef ((h.set id (.row (putAt cs off vs))).mark id (v'.ev fr)):=by
 have hg:=sn rF;have g1:=ch hx hf;rw[hp] at g1;obtain⟨k1,k2,k3⟩:=(ch hv hf).cells Gz
 obtain⟨w',e1,e2,e3⟩:=Bp (P:=P) (eY:=(a.eval v).cells.toList) hr hg (by omega:off+vs.length<=cs.length) (by simpa using k1.symm) λj q1 q2=>by
  have r1:=k3 j q1;have r2:=k2 j;have hj:j<(a.eval v).cells.size:=by omega
  simp only[Array.getD,hj,dif_pos] at r1 r2;exact⟨by simpa using r1,by simpa using r2⟩
 obtain⟨m1,m2⟩:=e2.mark id (v'.ev fr);refine⟨undef,w',φ,.inr ⟨?_,rfl⟩,.undef _,m1,e3.trans m2⟩
 have hc:a.eval x=.pointer (some ⟨(φ id).gA,(φ id).base+off,none⟩):=by cases hq:a.eval x<;>rw[hq] at g1<;>cases g1;rfl
 unfold execOp;have iE:(a.eval v).cells.size=i.size:=by omega
 simp[ho,Instr.storeAt,Instr.sureAddr,hc,storeVar,jG hi,iE,e1]
theorem Qp{x:AV}(hn:TF x=some false)(hx:fe φ h w x cx):
 (∃ad,cx=.pointer (some ad))\/(∃t v,cx=.iface t v)\/(∃f c,cx=.func (.func f) #[] c)\/(∃r,cx=.map (some r)):=by
 cases hx<;>simp[TF] at hn
 .exact .inl ⟨_,rfl⟩
 .exact .inl ⟨_,rfl⟩
 .exact .inr (.inr (.inr ⟨_,rfl⟩))
 .exact .inr (.inr (.inl ⟨_,_,rfl⟩))
 .exact .inr (.inl ⟨_,_,rfl⟩)
theorem aeb(ho:o.op=.nilCheck x)(hx:fZ x=some x')(hn:TF (x'.ev fr)=some false)
 (hf:FR φ h w fr a.tmps) (hr:HR φ h w):fB P (execOp a.eval o) φ h w (x'.ev fr) h:=by
 have g:=ch hx hf;refine .pure hr ?_ g;unfold execOp;rcases Qp hn g with⟨ad,e⟩|⟨t,v,e⟩|⟨f,c,e⟩|⟨r,e⟩<;>simp[ho,e]
theorem qZ(op:BinOp)(t:TypeId)(x y:Operand){u v:Value}(hu:(∃k n,u=.int k n)\/(∃s,u=.string s)\/(∃b,u=.bool b)):eqGuard op t x y u v=Pure.pure ():=by rcases hu with⟨k,n,rfl⟩|⟨s,rfl⟩|⟨b,rfl⟩<;>cases op<;>rfl
theorem GI(w:World)(op:BinOp)(t:TypeId)(k:IntKind)(x y:Int)(v:AV)(hv:yf op (.int k x) (.int k y)=some v)(hs:op≠.shl/\op≠.shr):
 ∃cv,(binOp op t (.int k x) (.int k y)).run P w=.ok cv w/\∀nx pr,RV φ nx pr w v cv:=by
 cases op<;>simp at hs<;>simp only[yf,if_true] at hv<;>simp only[binOp,ne_eq,not_true,if_false]
 case quo|rem=>
  split at hv
  .cases hv
  .rename_i h0;cases hv;exact⟨_,by simp[Op.intDiv,h0],λ_ _=>.int _ _⟩
 case add|sub|mul=>cases hv;exact⟨_,by simp[Op.intArith],λ_ _=>.int _ _⟩
 case and|or|xor|andNot=>cases hv;exact⟨_,rfl,λ_ _=>.int _ _⟩
 case eql=>cases hv;exact⟨_,rfl,λ_ _=>RV.bool (x==y)⟩
 case neq=>cases hv;exact⟨_,rfl,λ_ _=>RV.bool (!(x==y))⟩
 case lss|leq|gtr|geq=>cases hv;exact⟨_,by simp only[Op.intCmp];rfl,λ_ _=>.bool _⟩
 all_goals (cases hv)
theorem Nq(w:World)(op:BinOp)(t:TypeId)(k k':IntKind)(x y:Int)(v:AV)(hs:op=.shl\/op=.shr)(hv:yf op (.int k x) (.int k' y)=some v):
 ∃cv,(binOp op t (.int k x) (.int k' y)).run P w=.ok cv w/\∀nx pr,RV φ nx pr w v cv:=by
 rcases hs with rfl|rfl<;>simp only[yf] at hv<;>split at hv<;>cases hv
 .rename_i h0;refine⟨.int k (k.wrap (x*2^min y.toNat k.bits)),?_,λ_ _=>.int _ _⟩;show (Op.shift .shl k x k' y).run P w=_;unfold Op.shift;rw[if_neg h0];rfl
 .rename_i h0;refine⟨.int k (x.fdiv (2^min y.toNat k.bits)),?_,λ_ _=>.int _ _⟩;show (Op.shift .shr k x k' y).run P w=_;unfold Op.shift;rw[if_neg h0];rfl
theorem Vb(w:World)(op:BinOp)(t:TypeId)(x y:ByteArray)(v:AV)(hv:yf op (.str x.data.toList) (.str y.data.toList)=some v):
 ∃cv,(binOp op t (.string x) (.string y)).run P w=.ok cv w/\∀nx pr,RV φ nx pr w v cv:=by
 have e:(x.toList==y.toList)=(x.data.toList==y.data.toList):=by rw[ByteArray.toList_eq,ByteArray.toList_eq]
 cases op<;>simp only[yf] at hv
 case add=>
  split at hv
  .rename_i hl;cases hv;refine⟨.string (x++y),?_,λ_ _=>.yi (by simp[ByteArray.data_append])⟩
   have iE:((x.size+y.size:Nat):Int)<=9223372036854775807:=by have h1:x.data.toList.length=x.size:=Array.length_toList;have h2:y.data.toList.length=y.size:=Array.length_toList;rw[h1,h2] at hl;omega
   have:¬(((x.size+y.size:Nat):Int) > IntKind.i64.max):=by rw[IntKind.max_i64];omega
   show (Op.stringOp .add x y).run P w=_;unfold Op.stringOp;dsimp only;rw[if_neg this];rfl
  .cases hv
 case eql=>cases hv;exact⟨.bool (x.toList==y.toList),rfl,λ_ _=>e▸.bool _⟩
 case neq=>cases hv;exact⟨.bool (!(x.toList==y.toList)),rfl,λ_ _=>e▸.bool _⟩
 case lss=>cases hv;exact⟨.bool (Op.bytesLess x.toList y.toList),rfl,λ_ _=>by rw[ByteArray.toList_eq,ByteArray.toList_eq];exact .bool _⟩
 case leq=>cases hv;exact⟨.bool (Op.bytesLess x.toList y.toList||x.toList==y.toList),rfl,λ_ _=>by rw[ByteArray.toList_eq,ByteArray.toList_eq];exact .bool _⟩
 case gtr=>cases hv;exact⟨.bool (!(Op.bytesLess x.toList y.toList||x.toList==y.toList)),rfl,λ_ _=>by rw[ByteArray.toList_eq,ByteArray.toList_eq];exact .bool _⟩
 case geq=>cases hv;exact⟨.bool (!(Op.bytesLess x.toList y.toList)),rfl,λ_ _=>by rw[ByteArray.toList_eq,ByteArray.toList_eq];exact .bool _⟩
 all_goals (cases hv)
theorem afI{neg:Bool}{t ty:TypeId}{y:Operand}(ho:o.op=.binOp (if neg then .neq else .eql) t x y ty)(hx:fZ x=some x')(hy:fZ y=some y')
 (ht:P.underlying t=some .bool) {u v:Bool} (hu:x'.ev fr=.bool u) (hv:y'.ev fr=.bool v) (hf:FR φ h w fr a.tmps) (hr:HR φ h w):
 fB P (execOp a.eval o) φ h w (.bool (if neg then !(u==v) else u==v)) h:=by
 have g1:=ch hx hf;have g2:=ch hy hf;rw[hu] at g1;rw[hv] at g2;have hq0:∀d,(Op.equalIn (d+1) t (.bool u) (.bool v)).run P w=.ok (u==v) w:=λd=>by simp[Op.equalIn,run_underlying ht]
 have hq:(Op.equal t (.bool u) (.bool v)).run P w=.ok (u==v) w:=hq0 9999;refine .pure (cv:=.bool (if neg then !(u==v) else u==v)) hr ?_ (.bool _);unfold execOp;cases neg
 .simp only[Bool.false_eq_true,if_false] at ho|-;simp[ho,g1.gM,g2.gM,qZ .eql t x y (u:=.bool u) (v:=.bool v) (.inr (.inr ⟨_,rfl⟩)),binOp,hq]
 .simp only[if_true] at ho|-;simp[ho,g1.gM,g2.gM,qZ .neq t x y (u:=.bool u) (v:=.bool v) (.inr (.inr ⟨_,rfl⟩)),binOp,hq]
theorem Wm{op:BinOp}{t ty:TypeId}{y:Operand}(ho:o.op=.binOp op t x y ty)(hx:fZ x=some x')(hy:fZ y=some y'){v:AV}(hv:yf op (x'.ev fr) (y'.ev fr)=some v)
 (hf:FR φ h w fr a.tmps) (hr:HR φ h w):fB P (execOp a.eval o) φ h w v h:=by
 have g1:=ch hx hf;have g2:=ch hy hf
 have key:∃cv,(binOp op t (a.eval x) (a.eval y)).run P w=.ok cv w/\(∀nx pr,RV φ nx pr w v cv)/\((∃k n,a.eval x=.int k n)\/(∃s,a.eval x=.string s)\/(∃b,a.eval x=.bool b)):=by
  cases Ky:x'.ev fr with
  |int k n=>
    cases hy':y'.ev fr with
    |int k' n'=>
      rw[Ky] at g1;rw[hy'] at g2;rw[g1.dS,g2.dS];rw[Ky,hy'] at hv;by_cases hs:op=.shl\/op=.shr
      .obtain⟨cv,e1,e2⟩:=Nq (P:=P) (φ:=φ) w op t k k' n n' v hs hv;exact⟨cv,e1,e2,.inl ⟨_,_,rfl⟩⟩
      .have DQ:k=k':=by
        cases op<;>simp at hs<;>simp only[yf] at hv<;>split at hv<;>first|assumption|cases hv
       subst DQ;obtain⟨cv,e1,e2⟩:=GI (P:=P) (φ:=φ) w op t k n n' v hv ⟨λe=>hs (.inl e),λe=>hs (.inr e)⟩;exact⟨cv,e1,e2,.inl ⟨_,_,rfl⟩⟩
    |_=>rw[Ky,hy'] at hv;simp[yf] at hv
  |str s=>
    cases hy':y'.ev fr with
    |str s'=>rw[Ky] at g1;rw[hy'] at g2;obtain⟨b1,q1,q2⟩:=g1.fS;obtain⟨b2,q3,q4⟩:=g2.fS;rw[q1,q3];rw[Ky,hy',<-q2,<-q4] at hv;obtain⟨cv,e1,e2⟩:=Vb (P:=P) (φ:=φ) w op t b1 b2 v hv;exact⟨cv,e1,e2,.inr (.inl ⟨_,rfl⟩)⟩
    |_=>rw[Ky,hy'] at hv;simp[yf] at hv
  |_=>rw[Ky] at hv;simp[yf] at hv
 obtain⟨cv,e1,e2,e3⟩:=key;refine .pure hr ?_ (e2 _ _);unfold execOp;simp[ho,qZ op t x y e3,e1]
theorem ajk{op:UnOp}{t:TypeId}(ho:o.op=.unOp op t x)(hx:fZ x=some x'){v:AV}
 (hv:(match (generalizing:=false) op,x'.ev fr with
 |.not,.bool b=>some (AV.bool (!b))
 |.neg,.int k n=>some (.int k (k.wrap (0-n)))
 |.xor,.int k n=>some (.int k (H0 .xor k (if k.signed then -1 else k.max) n))
 |_,_=>none)=some v) (hf:FR φ h w fr a.tmps) (hr:HR φ h w):fB P (execOp a.eval o) φ h w v h:=by
 have g:=ch hx hf;split at hv
 .rename_i b hb;cases hv;rw[hb] at g;exact .pure (cv:=.bool (!b)) hr (by unfold execOp;simp[ho,g.gM,Op.unary]) (.bool _)
 .rename_i k n hb;cases hv;rw[hb] at g;exact .pure (cv:=.int k (k.wrap (0-n))) hr (by unfold execOp;simp[ho,g.dS,Op.unary,Op.intArith]) (.int _ _)
 .rename_i k n hb;cases hv;rw[hb] at g;refine .pure (cv:=.int k (H0 .xor k (if k.signed then -1 else k.max) n)) hr ?_ (.int _ _);unfold execOp;simp only[ho,g.dS,Op.unary];rfl
 .cases hv
theorem ad2{s d:TypeId}(ho:o.op=.convert s d x)(hx:fZ x=some x'){k0 k:IntKind}(hs:P.underlying s=some (.int k0))(hd:P.underlying d=some (.int k))
 {k':IntKind} {n:Int} (hv:x'.ev fr=.int k' n) (hf:FR φ h w fr a.tmps) (hr:HR φ h w):fB P (execOp a.eval o) φ h w (.int k (k.wrap n)) h:=by
 have g:=ch hx hf;rw[hv] at g;exact .pure (cv:=.int k (k.wrap n)) hr (by unfold execOp;simp[ho,g.dS,convert,run_underlying hs,run_underlying hd,Conv.intToInt]) (.int _ _)
theorem abZ{s d:TypeId}(ho:o.op=.convert s d x)(hx:fZ x=some x')(hs:P.underlying s=some .string)(hd:P.underlying d=some .string)
 {b:List UInt8} (hv:x'.ev fr=.str b) (hf:FR φ h w fr a.tmps) (hr:HR φ h w):fB P (execOp a.eval o) φ h w (.str b) h:=by
 have g:=ch hx hf;rw[hv] at g;obtain⟨c,q1,q2⟩:=g.fS;exact .pure (cv:=.string c) hr (by unfold execOp;simp[ho,q1,convert,run_underlying hs,run_underlying hd]) (.yi q2)
theorem ad0{t:TypeId}(ho:o.op=.makeInterface t x)(hx:fZ x=some x'){d:TypeDesc}(ht:P.underlying t=some d)(hd:∀ms,d≠.interface ms)
 (hf:FR φ h w fr a.tmps) (hr:HR φ h w):fB P (execOp a.eval o) φ h w (.iface t (x'.ev fr)) h:=by
 refine .pure (cv:=.iface t (a.eval x)) hr ?_ (.iface _ _ _ (ch hx hf));unfold execOp
 cases d<;>first
  |(rename_i ms;exact absurd rfl (hd ms))
  |simp[ho,Instr.makeInterface,run_underlying ht]
theorem aei{f:Nat}{aO:Array Operand}{first:Array Operand}(ho:o.op=.makeFunc (.func f) first aO)(h0:first.isEmpty=true){ZH:List dY}(hc:nH aO=some ZH)
 (hf:FR φ h w fr a.tmps) (hr:HR φ h w):fB P (execOp a.eval o) φ h w (.fn f (ZH.map (·.ev fr))) h:=by
 obtain⟨g1,g2⟩:=RQ hc hf;have h0':first=#[]:=by simpa using h0
 refine .pure (cv:=.func (.func f) #[] (aO.map a.eval)) hr (by unfold execOp;simp[ho,Instr.makeFunc,h0']) (.fn _ _ _ (by simpa using g1) λj hj=>?_);have:=g2 j (by simpa using hj);have jC:j<ZH.length:=by simpa using hj
 simpa[List.getD,jC] using this
theorem afE{t:TypeId}(ho:o.op=.makeMap t none)(hr:HR φ h w):fB P (execOp a.eval o) φ h w (.map h.next) (h.alloc (.map [])):=by
 obtain⟨g1,g2⟩:=aa4 (w':=w.alloc (.map #[] 0)) hr rfl rfl rfl rfl;refine⟨.map (some w.heap.size),_,_,.inl ?_,?_,g1,g2⟩
 .unfold execOp;simp[ho,Instr.makeMap]
 .have:=RV.map (φ:=eI φ h.next ⟨w.heap.size,0,0⟩) (nx:=(h.alloc (.map [])).next) (pr:=Pr (eI φ h.next ⟨w.heap.size,0,0⟩) (h.alloc (.map [])) (w.alloc (.map #[] 0))) (w:=w.alloc (.map #[] 0)) h.next (by simp)
  have e:eI φ h.next ⟨w.heap.size,0,0⟩ h.next=⟨w.heap.size,0,0⟩:=by simp[eI]
  rw[e] at this;exact this
theorem afD{s:TypeId}(ho:o.op=.fieldAddr s x k)(hx:fZ x=some x'){fs:Array Field}(hs:P.underlying s=some (.struct fs)){fd:Field}(hfd:fs[k]? =some fd)
 {i:TypeInfo} (hi:P.info? fd.type=some i) (h0:i.size≠0) {v:AV} (hv:(match x'.ev fr with|.ptr id o=>some (AV.ptr id (o+fd.offset))|.ip cs=>some (.ip (cs.drop fd.offset))|_=>none)=some v)
 (hf:FR φ h w fr a.tmps) (hr:HR φ h w):fB P (execOp a.eval o) φ h w v h:=by
 have g:=ch hx hf
 have key:∀ad:Addr,a.eval x=.pointer (some ad)->(execOp a.eval o).run P w=.ok (.value (.pointer (some (ad.add fd.offset)))) w:=λad he=>by unfold execOp;simp[ho,Instr.fieldAt,run_underlying hs,hfd,Instr.sureAddr,he,fieldPlace,jG hi,h0]
 split at hv
 .rename_i id off he;cases hv;rw[he] at g;obtain⟨hq,bX⟩:=g.wH;refine .pure hr (key _ hq) ?_;rw[Addr.add_lit,Nat.add_assoc];exact .ptr _ _ bX
 .rename_i cs he;cases hv;rw[he] at g;obtain⟨b,o,vs,hq,hp,wi,h1,hc,hv⟩:=g.Pp;refine .pure hr (key _ hq) ?_;rw[Addr.add_lit];refine .ip _ _ _ (λj=>vs (fd.offset+j)) hp ?_ (λj=>h1 _) (λj hj=>?_) λj hj=>?_
  .have:AV.ah (cs.drop fd.offset)<=0:=AV.kB λv hv=>by
    have:=AV.cR (List.mem_of_mem_drop hv);omega
   omega
  .have:=hc (fd.offset+j) (by simp at hj;omega);rw[Nat.add_assoc];exact this
  .have:=hv (fd.offset+j) (by simp at hj;omega);simpa using this
 .cases hv
theorem aes(ho:o.op=.extract x k)(hx:fZ x=some x'){vs:List AV}(hv:x'.ev fr=.tuple vs){v:AV}(hk:vs[k]? =some v)
 (hf:FR φ h w fr a.tmps) (hr:HR φ h w):fB P (execOp a.eval o) φ h w v h:=by
 have g:=ch hx hf;rw[hv] at g;obtain⟨cY,rfl⟩:=List.getElem?_eq_some_iff.1 hk;obtain⟨eY,hq,hl,NX⟩:=g.sa;have VG:k<eY.size:=by omega
 have:=NX k cY;simp only[Array.getD,VG,dif_pos] at this;refine .pure (cv:=eY[k]) hr ?_ (by simpa using this);unfold execOp;simp[ho,hq,Instr.extract,VG]
end
end
section
variable {n:Option Nat}{x:Operand}{k k':IntKind}{o:Oper}{x' i' y':dY}
section
variable {P:Program}{φ:eJ}{h:af}{w:World}{fr:List AV}{a:Act}
theorem XD{t:TypeId}(ht:JW P t=some n)(cs:Array Value)(off:Nat)(w:World):
 (n=none->∀v,cs[off]? =some v->(part t cs off).run P w=.ok v w)/\(∀m,n=some m->(part t cs off).run P w=.ok (.agg (cs.extract off (off+m))) w):=by
 obtain⟨hag,iE⟩:=s0 ht w;refine⟨λe v hv=>?_,λm e=>?_⟩
 .subst e;simp[part,hag,hv]
 .subst e;obtain⟨i,hi,him⟩:=iE m rfl;simp[part,hag,jG hi,him]
theorem Xn{t:TypeId}{k:Nat}(ho:o.op=.field t x k)(hx:fZ x=some x'){fs:Array Field}(hs:P.underlying t=some (.struct fs)){fd:Field}(hfd:fs[k]? =some fd)
 (hn:JW P fd.type=some n) {cs:List AV} (hv:x'.ev fr=.agg cs) {v:AV}
  (he:(match (generalizing:=false) n with|none=>cs[fd.offset]? |some n=>if fd.offset+n<=cs.length then some (.agg ((cs.drop fd.offset).take n)) else none)=some v)
  (hf:FR φ h w fr a.tmps) (hr:HR φ h w):fB P (execOp a.eval o) φ h w v h:=by
 have g:=ch hx hf;rw[hv] at g;obtain⟨eY,hq,hl,h1,NX⟩:=g.qu;obtain⟨p1,p2⟩:=XD hn eY fd.offset w;split at he
 .obtain⟨cY,rfl⟩:=List.getElem?_eq_some_iff.1 he;have VG:fd.offset<eY.size:=by omega
  have:=NX fd.offset cY;simp only[Array.getD,VG,dif_pos] at this;refine .pure (cv:=eY[fd.offset]) hr ?_ (by simpa using this);unfold execOp;simp[ho,hq,Instr.field,run_underlying hs,hfd,asAgg,p1 rfl _ (Array.getElem?_eq_getElem VG)]
 .rename_i n;split at he
  .rename_i hle;cases he;refine .pure (cv:=.agg (eY.extract fd.offset (fd.offset+n))) hr ?_ (.agg _ _ (by simp;omega) (λj=>?_) λj hj=>?_)
   .unfold execOp;simp[ho,hq,Instr.field,run_underlying hs,hfd,asAgg,p2 n rfl]
   .have:=h1 (fd.offset+j);by_cases hj:j<n
    .have q:fd.offset+j<eY.size:=by omega
     have q2:j<min (fd.offset+n) eY.size-fd.offset:=by omega
     simpa[Array.getD,q,q2] using this
    .have q2:¬j<min (fd.offset+n) eY.size-fd.offset:=by omega
     simp[Array.getD,q2];rfl
   .have jC:j<n:=by simp at hj;omega
    have:=NX (fd.offset+j) (by omega);have q:fd.offset+j<eY.size:=by omega
    have q2:j<min (fd.offset+n) eY.size-fd.offset:=by omega
    simpa[Array.getD,q,q2] using this
  .cases he
theorem aev{t:TypeId}{i:Operand}(ho:o.op=.index t x i)(hx:fZ x=some x')(hi:fZ i=some i')(ht:P.underlying t=some .string)
 {s:List UInt8} {n:Int} (hs:x'.ev fr=.str s) (hn:i'.ev fr=.int k n) (h0:0<=n) {b:UInt8} (hb:s[n.toNat]? =some b)
 (hf:FR φ h w fr a.tmps) (hr:HR φ h w):fB P (execOp a.eval o) φ h w (.int .u8 b.toNat) h:=by
 have g1:=ch hx hf;have g2:=ch hi hf;rw[hs] at g1;rw[hn] at g2;obtain⟨c,q1,q2⟩:=g1.fS;refine .pure (cv:=.int .u8 b.toNat) hr ?_ (.int _ _)
 have hcb:c[n.toNat]? =some b:=by
  rw[<-q2] at hb;obtain⟨hl,e⟩:=List.getElem?_eq_some_iff.1 hb;have wj:n.toNat<c.size:=by rw[Array.length_toList] at hl;exact hl
  rw[getElem?_pos c n.toNat wj];rw[<-e];rfl
 unfold execOp;simp[ho,q1,g2.dS,Instr.index,asIntOf,run_underlying ht,h0,hcb]
theorem aeI{t e:TypeId}{i:Operand}(ho:o.op=.indexAddr t x i)(hx:fZ x=some x')(hi:fZ i=some i')(ht:P.underlying t=some (.slice e)){inf:TypeInfo}(agv:P.info? e=some inf)
 {v:AV} {h':af} (he:(match x'.ev fr,i'.ev fr with
 |.sl xs,.int _ i=>if 0<=i then (match xs[i.toNat]? with
  |some v=>(match v.cells? with
    |some cs=>if cs.length=inf.size then some (.ip cs,h) else none
    |none=>none)
  |none=>none) else none
 |.vec id off len s _,.int _ i=>if 0<=i/\i<len/\s=inf.size then some (.ptr id (off+i.toNat*inf.size),h) else none
 |_,_=>none)=some (v,h'))
 (hf:FR φ h w fr a.tmps) (hr:HR φ h w):fB P (execOp a.eval o) φ h w v h':=by
 have g1:=ch hx hf;have g2:=ch hi hf
 have ajC:∀k n,a.eval i=.int k n->∀ad len cap,a.eval x=.slice (some ad) len cap->0<=n->n<(len:Int)->
  (execOp a.eval o).run P w=.ok (.value (.pointer (some (ad.add (n.toNat*inf.size))))) w:=λk n e1 ad len cap e2 h0 cY=>by
  unfold execOp;simp[ho,e1,e2,Instr.indexAt,asIntOf,run_underlying ht,h0,cY,jG agv]
 split at he
 .rename_i xs k n e1 e2;rw[e1] at g1;rw[e2] at g2;split at he
  .rename_i h0;split at he
   .rename_i y hy;split at he
    .rename_i cs nQ;split at he
     .rename_i iE;cases he;obtain⟨cY,hyx⟩:=List.getElem?_eq_some_iff.1 hy;rcases g1.tU with⟨_,_,rfl,_⟩|⟨b,o,cap,sz,vs,hq,hp,kI,wi,h1,amY,hc,hv⟩
      .simp at cY
      .refine .pure hr (ajC k n g2.dS _ _ _ hq h0 (by omega)) ?_;have hs1:=amY n.toNat cY;rw[hyx,nQ] at hs1;simp only[Option.map_some,Option.some.injEq] at hs1
       have NZ:y.cells=cs:=by cases y<;>simp[AV.cells?] at nQ<;>simp[AV.cells,nQ]
       rw[Addr.add_lit];refine .ip _ _ _ (λj=>vs n.toNat j) hp ?_ (λj=>h1 _ _) (λj hj=>?_) λj hj=>?_
       .have h2:AV.ah cs=y.aJ:=by cases y<;>simp[AV.cells?] at nQ<;>subst nQ<;>simp[AV.aJ,AV.ah]
        have h3:=AV.cR (List.getElem_mem cY);rw[hyx] at h3;omega
       .have:=hc n.toNat j cY (by omega);rw[<-iE,hs1];exact this
       .have:=hv n.toNat cY j (by rw[hyx,NZ];exact hj);simpa[hyx,NZ] using this
     .cases he
    .cases he
   .cases he
  .cases he
 .rename_i id off len s lb k n e1 e2;rw[e1] at g1;rw[e2] at g2;split at he
  .rename_i hh;obtain⟨h0,cY,hs⟩:=hh;cases he;obtain⟨cap,ad,hq,bX,hl,_,xV,ha⟩:=g1.kO;have kI:0<cap:=by omega
   have had:=ha kI;subst had;refine .pure hr (ajC k n g2.dS _ _ _ hq h0 cY) ?_;rw[Addr.add_lit,Nat.add_assoc];exact .ptr _ _ bX
  .cases he
 .cases he
theorem BQ{n cap:Nat}{lo hi:Option AV}{l u:Nat}(he:sliceB n lo hi=some (l,u))(hnc:n<=cap)(ajD:Bool){Cc SJ:Option Value}
 (G0:(lo=none/\Cc=none)\/∃x cx,lo=some x/\Cc=some cx/\fe φ h w x cx) (SK:(hi=none/\SJ=none)\/∃x cx,hi=some x/\SJ=some cx/\fe φ h w x cx) (w':World):
 (Instr.sliceBounds ajD n cap Cc SJ none).run P w'=.ok (l,u,cap) w'/\l<=u/\u<=n:=by
 unfold sliceB at he;split at he
 .cases he
 .rename_i u' G1;split at he
  .cases he
  .rename_i l' wj;cases he
   have hu:u<=n/\((SJ=none/\u=n)\/∃v,SJ=some v/\(Instr.sliceBound v cap (if ajD then .sliceAcap else .sliceAlen)).run P w'=.ok u w'):=by
    rcases SK with⟨rfl,rfl⟩|⟨x,cx,rfl,rfl,hx⟩
    .simp at G1;exact⟨by omega,.inl ⟨rfl,G1.symm⟩⟩
    .split at G1
     .rename_i e;cases e
     .rename_i k i e;cases e;split at G1
      .rename_i hc;cases G1;refine⟨by omega,.inr ⟨cx,rfl,?_⟩⟩;rw[hx.dS];have h2:i<=(cap:Int):=by omega
       simp[Instr.sliceBound,asIntOf,hc.1,h2]
      .cases G1
     .cases G1
   have hl:l<=u/\((Cc=none/\l=0)\/∃v,Cc=some v/\(Instr.sliceBound v u .sliceB).run P w'=.ok l w'):=by
    rcases G0 with⟨rfl,rfl⟩|⟨x,cx,rfl,rfl,hx⟩
    .simp at wj;exact⟨by omega,.inl ⟨rfl,wj.symm⟩⟩
    .split at wj
     .rename_i e;cases e
     .rename_i k i e;cases e;split at wj
      .rename_i hc;cases wj;refine⟨by omega,.inr ⟨cx,rfl,?_⟩⟩;rw[hx.dS];simp[Instr.sliceBound,asIntOf,hc.1,hc.2]
      .cases wj
     .cases wj
   refine⟨?_,hl.1,hu.1⟩;rcases hu.2 with⟨rfl,rfl⟩|⟨v,rfl,h1⟩<;>rcases hl.2 with⟨rfl,rfl⟩|⟨v2,rfl,h2⟩
   .simp[Instr.sliceBounds]
   .simp[Instr.sliceBounds,h2]
   .simp[Instr.sliceBounds,h1]
   .simp[Instr.sliceBounds,h1,h2]
theorem jX{x:Option Operand}{x':Option dY}(he:CY x=some x')(hf:FR φ h w fr a.tmps):
 (x'.map (·.ev fr)=none/\x.map a.eval=none)\/∃y cy,x'.map (·.ev fr)=some y/\x.map a.eval=some cy/\fe φ h w y cy:=by
 cases x with
 |none=>simp[CY] at he;subst he;exact .inl ⟨rfl,rfl⟩
 |some x=>simp only[CY,Option.map_eq_some_iff] at he;obtain⟨y,hy,rfl⟩:=he;exact .inr ⟨_,_,rfl,rfl,ch hy hf⟩
theorem ad9{t:TypeId}{lo hi:Option Operand}(ho:o.op=.slice t x lo hi none){VD iO:Option dY}(hx:fZ x=some x')(G0:CY lo=some VD)(SK:CY hi=some iO)
 (ht:P.underlying t=some .string) {s:List UInt8} (hs:x'.ev fr=.str s) {l u:Nat} (he:sliceB s.length (VD.map (·.ev fr)) (iO.map (·.ev fr))=some (l,u))
 (hf:FR φ h w fr a.tmps) (hr:HR φ h w):fB P (execOp a.eval o) φ h w (.str ((s.take u).drop l)) h:=by
 have g:=ch hx hf;rw[hs] at g;obtain⟨c,q1,q2⟩:=g.fS;have dI:s.length=c.size:=by rw[<-q2,Array.length_toList];rfl
 obtain⟨e1,e2,e3⟩:=BQ (P:=P) (cap:=s.length) he (Nat.le_refl _) false (jX G0 hf) (jX SK hf) w;rw[dI] at e1;refine .pure (cv:=.string (c.extract l u)) hr ?_ (.yi ?_)
 .unfold execOp;simp[ho,q1,Instr.sliceAt,run_underlying ht,Instr.slice,e1]
 .rw[ByteArray.data_extract,<-q2,Array.toList_extract,List.extract_eq_take_drop,List.drop_take]
theorem abW{t:TypeId}(ho:o.op=.call {callee:=.builtin .len,args:=#[x],argTypes:=#[t]})(hx:fZ x=some x')(ht:P.underlying t=some .string)
 {s:List UInt8} (hs:x'.ev fr=.str s) (hf:FR φ h w fr a.tmps) (hr:HR φ h w):fB P (execOp a.eval o) φ h w (.int .i64 s.length) h:=by
 have g:=ch hx hf;rw[hs] at g;obtain⟨c,q1,q2⟩:=g.fS;have dI:s.length=c.size:=by rw[<-q2,Array.length_toList];rfl
 refine .pure (cv:=.int .i64 c.size) hr ?_ (by rw[dI];exact .int _ _);unfold execOp;simp[ho,resolve,invoke,builtin,q1,Builtin.len_,run_underlying ht,goInt]
theorem abR{t e:TypeId}(ho:o.op=.call {callee:=.builtin .len,args:=#[x],argTypes:=#[t]})(hx:fZ x=some x')(ht:P.underlying t=some (.slice e))
 {v:AV} {h':af} (he:(match x'.ev fr with
 |.aF=>some (AV.int .i64 0,h)
 |.sl xs=>some (.int .i64 xs.length,h)
 |.vec _ _ n _ _=>some (.int .i64 n,h)
 |_=>none)=some (v,h')) (hf:FR φ h w fr a.tmps) (hr:HR φ h w):fB P (execOp a.eval o) φ h w v h':=by
 have g:=ch hx hf
 have key:∀ad n c,a.eval x=.slice ad n c->(execOp a.eval o).run P w=.ok (.value (.int .i64 n)) w:=λad n c hq=>by unfold execOp;simp[ho,resolve,invoke,builtin,hq,Builtin.len_,run_underlying ht,goInt]
 split at he
 .rename_i e1;cases he;rw[e1] at g;obtain⟨ad,hq⟩:=g.nh;exact .pure hr (key _ _ _ hq) (.int _ _)
 .rename_i xs e1;cases he;rw[e1] at g;rcases g.tU with⟨ad,cap,rfl,hq⟩|⟨b,o,cap,sz,vs,hq,_⟩
  .exact .pure hr (key _ _ _ hq) (.int _ _)
  .exact .pure hr (key _ _ _ hq) (.int _ _)
 .rename_i e1;cases he;rw[e1] at g;obtain⟨cap,ad,hq,_⟩:=g.kO;exact .pure hr (key _ _ _ hq) (.int _ _)
 .cases he
theorem abD{t k e:TypeId}(ho:o.op=.call {callee:=.builtin .len,args:=#[x],argTypes:=#[t]})(hx:fZ x=some x')(ht:P.underlying t=some (.map k e))
 {v:AV} {h':af} (he:(match x'.ev fr with
 |.kq=>some (AV.int .i64 0,h)
 |.map id=>(h.iq id).map λes=>(.int .i64 es.length,h)
 |_=>none)=some (v,h')) (hf:FR φ h w fr a.tmps) (hr:HR φ h w):fB P (execOp a.eval o) φ h w v h':=by
 have g:=ch hx hf;split at he
 .rename_i e1;cases he;rw[e1] at g;refine .pure (cv:=.int .i64 0) hr ?_ (.int _ _);unfold execOp;simp[ho,resolve,invoke,builtin,g.Ah,Builtin.len_,run_underlying ht,goInt]
 .rename_i id e1;rw[e1] at g;obtain⟨es,VF,e2⟩:=Option.map_eq_some_iff.1 he;cases e2;obtain⟨hq,bX⟩:=g.uo;obtain⟨gn,pB,m1,m2,m3⟩:=hr.maps id es (PL VF);refine .pure (cv:=.int .i64 gn.size) hr ?_ (by rw[m2];exact .int _ _);unfold execOp;have hg:(getObj (φ id).gA).run P w=.ok (.map gn pB) w:=by simp[getObj,Sem.run,m1]
  simp[ho,resolve,invoke,builtin,hq,Builtin.len_,run_underlying ht,goInt,hg]
 .cases he
theorem aiB{ts:Array TypeId}{y:Operand}(ho:o.op=.call {callee:=.builtin .max,args:=#[x,y],argTypes:=ts})(hx:fZ x=some x')(hy:fZ y=some y')
 {m n:Int} (h1:x'.ev fr=.int k m) (h2:y'.ev fr=.int k' n) (hf:FR φ h w fr a.tmps) (hr:HR φ h w):fB P (execOp a.eval o) φ h w (.int k (if m<n then n else m)) h:=by
 have g1:=ch hx hf;have g2:=ch hy hf;rw[h1] at g1;rw[h2] at g2;refine .pure (cv:=.int k (if m<n then n else m)) hr ?_ (.int _ _);unfold execOp;simp[ho,resolve,invoke,builtin,g1.dS,g2.dS,Builtin.max_,Builtin.max2]
theorem ahH{ts:Array TypeId}{y:Operand}(ho:o.op=.call {callee:=.builtin .min,args:=#[x,y],argTypes:=ts})(hx:fZ x=some x')(hy:fZ y=some y')
 {m n:Int} (h1:x'.ev fr=.int k m) (h2:y'.ev fr=.int k' n) (hf:FR φ h w fr a.tmps) (hr:HR φ h w):fB P (execOp a.eval o) φ h w (.int k (if n<m then n else m)) h:=by
 have g1:=ch hx hf;have g2:=ch hy hf;rw[h1] at g1;rw[h2] at g2;refine .pure (cv:=.int k (if n<m then n else m)) hr ?_ (.int _ _);unfold execOp;simp[ho,resolve,invoke,builtin,g1.dS,g2.dS,Builtin.min_,Builtin.min2]
end
end
section
section
variable {P:Program}{φ:eJ}{h:af}{w:World}{fr:List AV}{a:Act}
abbrev abv(φ:eJ)(h:af)(w:World)(x:Option AV)(cx:Option Value):Prop:=(x=none/\cx=none)\/∃y cy,x=some y/\cx=some cy/\fe φ h w y cy
theorem Qr{n cap:Nat}{lo:Option AV}{hi:AV}{l u:Nat}(he:sliceB n lo (some hi)=some (l,u)){Cc:Option Value}{SJ:Value}{mk:IntKind}(hnc:n<=cap)
 (G0:abv φ h w lo Cc) (SK:fe φ h w hi SJ) (w':World):
 (Instr.sliceBounds true cap cap Cc (some SJ) (some (.int mk n))).run P w'=.ok (l,u,n) w'/\l<=u/\u<=n:=by
 unfold sliceB at he;split at he
 .cases he
 .rename_i u' G1;split at he
  .cases he
  .rename_i l' wj;cases he
   have hm:(Instr.sliceBound (.int mk n) cap .slice3Acap).run P w'=.ok n w':=by
    have:(n:Int)<=cap:=by omega
    simp[Instr.sliceBound,asIntOf,this]
   have hu:u<=n/\(Instr.sliceBound SJ n .slice3B).run P w'=.ok u w':=by
    split at G1
    .rename_i e;cases e
    .rename_i k i e;cases e;split at G1
     .rename_i hc;cases G1;refine⟨by omega,?_⟩;rw[SK.dS];simp[Instr.sliceBound,asIntOf,hc.1,hc.2]
     .cases G1
    .cases G1
   have hl:l<=u/\((Cc=none/\l=0)\/∃v,Cc=some v/\(Instr.sliceBound v u .slice3C).run P w'=.ok l w'):=by
    rcases G0 with⟨rfl,rfl⟩|⟨x,cx,rfl,rfl,hx⟩
    .simp at wj;exact⟨by omega,.inl ⟨rfl,wj.symm⟩⟩
    .split at wj
     .rename_i e;cases e
     .rename_i k i e;cases e;split at wj
      .rename_i hc;cases wj;refine⟨by omega,.inr ⟨cx,rfl,?_⟩⟩;rw[hx.dS];simp[Instr.sliceBound,asIntOf,hc.1,hc.2]
      .cases wj
     .cases wj
   refine⟨?_,hl.1,hu.1⟩;have h1:=hu.2;rcases hl.2 with⟨rfl,rfl⟩|⟨v2,rfl,h2⟩
   .simp[Instr.sliceBounds,hm,h1]
   .simp[Instr.sliceBounds,hm,h1,h2]
theorem wP{n lb cap:Nat}{lo hi mx:Option AV}{l u:Nat}{m:Option Nat}(he:ic n lb lo hi mx=some (l,u,m))(hn:n<=cap)(p8:lb<=cap){Cc SJ cmx:Option Value}
 (G0:abv φ h w lo Cc) (SK:abv φ h w hi SJ) (GA:abv φ h w mx cmx) (w':World):
 (Instr.sliceBounds true n cap Cc SJ cmx).run P w'=.ok (l,u,m.getD cap) w'/\l<=u/\u<=m.getD cap/\m.getD cap<=cap/\u<=max n lb/\∀k,m=some k->u<=k/\k<=max n lb:=by
 unfold ic at he;split at he
 .rename_i k i;split at he
  .rename_i hc;split at he
   .rename_i hv;obtain⟨p,hp,e⟩:=Option.map_eq_some_iff.1 he;obtain⟨p1,p2⟩:=p;cases e;rcases GA with⟨e,_⟩|⟨y,cy,e,rfl,hy⟩
    .cases e
    .cases e;rcases SK with⟨e,_⟩|⟨z,cz,e,rfl,hz⟩
     .cases e
     .cases e;obtain⟨e1,e2,e3⟩:=Qr (P:=P) (mk:=k) (cap:=cap) hp (by omega) G0 hz w';have Oi:=hy.dS;have iO:((i.toNat:Nat):Int)=i:=Int.toNat_of_nonneg hc.1;rw[iO] at e1;refine⟨?_,e2,e3,by simp;omega,by omega,λk hk=>by cases hk;omega⟩;rw[Oi];simp only[Instr.sliceBounds] at e1|-;exact e1
   .cases he
  .cases he
 .cases he
 .rename_i hmn;rcases GA with⟨_,rfl⟩|⟨y,cy,e,_⟩
  .split at he
   .obtain⟨p,hp,e⟩:=Option.map_eq_some_iff.1 he;obtain⟨p1,p2⟩:=p;cases e;rcases SK with⟨_,rfl⟩|⟨z,cz,e,_⟩
    .obtain⟨e1,e2,e3⟩:=BQ (P:=P) (φ:=φ) (h:=h) (w:=w) (cap:=cap) (Cc:=Cc) (SJ:=none) hp hn true G0 (.inl ⟨rfl,rfl⟩) w';exact⟨e1,e2,by simp;omega,by simp,by omega,λk hk=>by cases hk⟩
    .cases e
   .rename_i hv;obtain⟨p,hp,e⟩:=Option.map_eq_some_iff.1 he;obtain⟨p1,p2⟩:=p;cases e;rcases SK with⟨e,_⟩|⟨z,cz,e,rfl,hz⟩
    .cases e
    .cases e;obtain⟨e1,e2,e3⟩:=BQ (P:=P) (φ:=φ) (h:=h) (w:=w) (cap:=cap) (Cc:=Cc) (SJ:=some cz) hp (by omega) true G0 (.inr ⟨_,_,rfl,rfl,hz⟩) w';refine⟨?_,e2,by simp;omega,by simp,by omega,λk hk=>by cases hk⟩;simp only[Instr.sliceBounds] at e1|-;exact e1
  .cases e
theorem aex{t e:TypeId}{x:Operand}{lo hi mx:Option Operand}{o:Oper}(ho:o.op=.slice t x lo hi mx){x':dY}{VD iO mx':Option dY}(hx:fZ x=some x')(G0:CY lo=some VD)(SK:CY hi=some iO)(GA:CY mx=some mx')
 (ht:P.underlying t=some (.slice e)) {i:TypeInfo} (agv:P.info? e=some i) {v:AV} {h':af}
 (he:(match x'.ev fr with
  |.aF=>(ic 0 0 (VD.map (·.ev fr)) (iO.map (·.ev fr)) (mx'.map (·.ev fr))).map λ_=>(AV.aF,h)
  |.sl xs=>if (xs.all λx=>(x.cells?.map List.length)==some i.size) then
   (ic xs.length xs.length (VD.map (·.ev fr)) (iO.map (·.ev fr)) (mx'.map (·.ev fr))).map λp=>(if p.2.2=some p.1 then .aF else .sl ((xs.take p.2.1).drop p.1),h) else none
  |.vec id off len s lb=>if s=i.size then
   (ic len lb (VD.map (·.ev fr)) (iO.map (·.ev fr)) (mx'.map (·.ev fr))).map λp=>(if p.2.2=some p.1 then .aF else .vec id (off+p.1*i.size) (p.2.1-p.1) i.size (p.2.2.getD lb-p.1),h) else none
  |_=>none)=some (v,h')) (hf:FR φ h w fr a.tmps) (hr:HR φ h w):fB P (execOp a.eval o) φ h w v h':=by
 have g:=ch hx hf
 have key:∀ad n c l u m,a.eval x=.slice ad n c->(Instr.sliceBounds true n c (lo.map a.eval) (hi.map a.eval) (mx.map a.eval)).run P w=.ok (l,u,m) w->
  (execOp a.eval o).run P w=.ok (.value (.slice (if m=l then ad else ad.map (·.add (l*i.size))) (u-l) (m-l))) w:=λad n c l u m hq hb=>by
  unfold execOp;simp[ho,Instr.sliceAt,run_underlying ht,Instr.slice,hq,hb,jG agv]
 split at he
 .rename_i e1;rw[e1] at g;obtain⟨ad,hq⟩:=g.nh;obtain⟨⟨l,u,m⟩,hp,e2⟩:=Option.map_eq_some_iff.1 he;cases e2;obtain⟨b1,b2,b3,b4,_⟩:=wP (P:=P) (cap:=0) hp (Nat.le_refl _) (Nat.le_refl _) (jX G0 hf) (jX SK hf) (jX GA hf) w;have hk:=key _ _ _ _ _ _ hq b1;have:m.getD 0-l=0/\u-l=0:=by omega
  rw[this.1,this.2] at hk;exact .pure hr hk (.aF _)
 .rename_i xs e1;rw[e1] at g;split at he
  .rename_i iF;obtain⟨⟨l,u,m⟩,hp,e2⟩:=Option.map_eq_some_iff.1 he;simp only[Prod.mk.injEq] at e2;obtain⟨e3,rfl⟩:=e2;rcases g.tU with⟨ad,cap,rfl,hq⟩|⟨b,o',cap,sz,vs,hq,mF,kI,wi,h1,iE,hc,hv⟩
   .obtain⟨b1,b2,b3,b4,b5,b6⟩:=wP (P:=P) (cap:=cap) hp (Nat.zero_le _) (Nat.zero_le _) (jX G0 hf) (jX SK hf) (jX GA hf) w;have hk:=key _ _ _ _ _ _ hq b1;simp only[List.length_nil,Nat.max_self,Nat.le_zero] at b5;subst b5;obtain rfl:l=0:=by omega
    split at e3
    .rename_i hm;subst e3;rw[hm] at hk;simp at hk;exact .pure hr hk (.aF _)
    .subst e3;simp only[List.take_nil,List.drop_nil];rw[Nat.sub_self] at hk;exact .pure hr hk (.slnil _ _)
   .obtain⟨b1,b2,b3,b4,b5,b6⟩:=wP (P:=P) (cap:=cap) hp kI kI (jX G0 hf) (jX SK hf) (jX GA hf) w;have hk:=key _ _ _ _ _ _ hq b1;rw[Nat.max_self] at b5;split at e3
    .rename_i hm;subst e3;have b7:=b6 l hm;rw[hm] at hk;have:u-l=0:=by omega
     simp[this] at hk;exact .pure hr hk (.aF _)
    .rename_i hm;subst e3;by_cases h0:u=l
     .have acx:(xs.take u).drop l=[]:=by rw[List.drop_eq_nil_iff];simp;omega
      rw[acx];rw[h0,Nat.sub_self] at hk;exact .pure hr hk (.slnil _ _)
     .have dI:((xs.take u).drop l).length=u-l:=by simp;omega
      have mg:∀j (hj:j<((xs.take u).drop l).length),((xs.take u).drop l)[j]=xs[l+j]'(by omega):=λj hj=>by simp
      have eR:m.getD cap≠l:=λe=>h0 (by omega)
      rw[if_neg eR] at hk;simp only[Option.map_some,Addr.add_lit] at hk;rw[<-dI] at hk;have QL:0<xs.length:=by omega
      have amZ:sz=i.size:=by have q1:=iE 0 QL;have q2:=List.all_eq_true.1 iF xs[0] (List.getElem_mem QL);rw[q1] at q2;simpa using q2
      subst amZ;refine .pure hr hk (.sl _ b _ _ i.size (λk j=>vs (l+k) j) mF (by omega) ?_ (λk j=>h1 _ _) (λk yL=>?_) (λk j yL hj=>?_) λk yL j hj=>?_)
      .have:AV.ah ((xs.take u).drop l)<=0:=AV.kB λy hy=>by
        have:=AV.cR (List.mem_of_mem_take (List.mem_of_mem_drop hy));omega
       omega
      .rw[mg k yL];exact iE _ _
      .have:=hc (l+k) j (by omega) hj;rw[<-this];congr 2;rw[Nat.add_mul];omega
      .have e4:=mg k yL;have jC:j<(xs[l+k]'(by omega)).cells.length:=by rw[<-e4];exact hj
       have:=hv (l+k) (by omega) j jC;simpa[e4] using this
  .cases he
 .rename_i id off len s lb e1;rw[e1] at g;split at he
  .rename_i hs;subst hs;obtain⟨⟨l,u,m⟩,hp,e2⟩:=Option.map_eq_some_iff.1 he;simp only[Prod.mk.injEq] at e2;obtain⟨e3,rfl⟩:=e2;obtain⟨cap,ad,hq,bX,hl,p8,xV,ha⟩:=g.kO;obtain⟨b1,b2,b3,b4,b5,b6⟩:=wP (P:=P) (cap:=cap) hp hl p8 (jX G0 hf) (jX SK hf) (jX GA hf) w;have hk:=key _ _ _ _ _ _ hq b1;split at e3
   .rename_i hm;subst e3;have b7:=b6 l hm;rw[hm] at hk;have:u-l=0:=by omega
    simp[this] at hk;exact .pure hr hk (.aF _)
   .rename_i hm;subst e3;refine .pure hr hk (.vec _ _ _ _ _ _ _ bX (by omega) ?_ ?_ λlP=>?_)
    .cases m with
     |none=>simp;omega
     |some k=>simp
    .have hle:l<=m.getD cap:=by omega
     have:l*i.size+(m.getD cap-l)*i.size=m.getD cap*i.size:=by rw[<-Nat.add_mul];congr 1;omega
     have h2:m.getD cap*i.size<=cap*i.size:=Nat.mul_le_mul_right _ b4;omega
    .rw[if_neg (by omega),ha (by omega)];simp[Addr.add_lit,Nat.add_assoc]
  .cases he
 .cases he
end
end
section
variable {y:Operand}{neg r:Bool}{o:Oper}{x' y':dY}{k:Nat}
section
variable {P:Program}{φ:eJ}{h:af}{w:World}{fr:List AV}{a:Act}
theorem Lf(hy:AJ y=true):y=.const .nilIface\/y=.const (.pointer none)\/y=.const .nilFunc\/y=.const (.map none):=by unfold AJ at hy;split at hy<;>first|simp_all|cases hy
theorem af4{kind:Nat}{t ty:TypeId}{x:Operand}(ho:o.op=.binOp (if neg then .neq else .eql) t x y ty)(hx:fZ x=some x')(hy:fZ y=some y')(hc:AJ y=true)
 (ht:(kind=0/\∃e,P.underlying t=some (.pointer e))\/(kind=1/\∃ms,P.underlying t=some (.interface ms))\/(kind=2/\∃ps rs v,P.underlying t=some (.func ps rs v))\/(kind=3/\∃k e,P.underlying t=some (.map k e)))
 {p:Bool} (hp:x5 kind (x'.ev fr)=some p) (hq:x5 kind (y'.ev fr)=some true) (hf:FR φ h w fr a.tmps) (hr:HR φ h w):
 fB P (execOp a.eval o) φ h w (.bool (if neg then !p else p)) h:=by
 have g1:=ch hx hf;have g2:=ch hy hf;generalize x'.ev fr=u at g1 hp;generalize y'.ev fr=v at g2 hq;have Oi:=Lf hc
 have key:(Op.equal t (a.eval x) (a.eval y)).run P w=.ok p w/\eqGuard (if neg then .neq else .eql) t x y (a.eval x) (a.eval y)=Pure.pure ()/\
  (∀op,op=.eql\/op=.neq->(binOp op t (a.eval x) (a.eval y))=if op=.eql then (do pure (.bool (<-Op.equal t (a.eval x) (a.eval y)))) else (do pure (.bool (!(<-Op.equal t (a.eval x) (a.eval y)))))):=by
  have eqd:∀A B r,(∀d,(Op.equalIn (d+1) t A B).run P w=.ok r w)->(Op.equal t A B).run P w=.ok r w:=λA B r hh=>hh 9999
  rcases ht with⟨rfl,e,ht⟩|⟨rfl,ms,ht⟩|⟨rfl,ps,rs,vv,ht⟩|⟨rfl,k,e,ht⟩
  .have hv:v=.nw:=by cases v<;>simp[x5] at hq;rfl
   subst hv;rw[g2.MZ];cases u<;>simp[x5] at hp<;>subst hp
   .rw[g1.MZ];exact⟨eqd _ _ _ λd=>by simp[Op.equalIn,run_underlying ht],by cases neg<;>rfl,λop dT=>by rcases dT with rfl|rfl<;>rfl⟩
   .rw[g1.wH.1];exact⟨eqd _ _ _ λd=>by simp[Op.equalIn,run_underlying ht],by cases neg<;>rfl,λop dT=>by rcases dT with rfl|rfl<;>rfl⟩
   .obtain⟨b,o',vs,e1,_⟩:=g1.Pp;rw[e1];exact⟨eqd _ _ _ λd=>by simp[Op.equalIn,run_underlying ht],by cases neg<;>rfl,λop dT=>by rcases dT with rfl|rfl<;>rfl⟩
  .have hv:v=.nu:=by cases v<;>simp[x5] at hq;rfl
   subst hv;have e2:=g2.Nj
   have rH:y=.const .nilIface:=by
    rcases Oi with rfl|rfl|rfl|rfl
    .rfl
    .simp[Act.eval] at e2
    .simp[Act.eval] at e2
    .simp[Act.eval] at e2
   subst rH;rw[e2];cases u<;>simp[x5] at hp<;>subst hp
   .rw[g1.Nj];refine⟨eqd _ _ _ λd=>by simp[Op.equalIn,run_underlying ht],?_,λop dT=>by rcases dT with rfl|rfl<;>rfl⟩;cases neg
    .exact eqGuard_nil_constR .eql t x _
    .exact eqGuard_nil_constR .neq t x _
   .obtain⟨c,e1,_⟩:=g1.UW;rw[e1];exact⟨eqd _ _ _ λd=>by simp[Op.equalIn,run_underlying ht],by cases neg<;>rfl,λop dT=>by rcases dT with rfl|rfl<;>rfl⟩
  .have hv:v=.ji:=by cases v<;>simp[x5] at hq;rfl
   subst hv;rw[g2.Ij];cases u<;>simp[x5] at hp<;>subst hp
   .rw[g1.Ij];exact⟨eqd _ _ _ λd=>by simp[Op.equalIn,run_underlying ht],by cases neg<;>rfl,λop dT=>by rcases dT with rfl|rfl<;>rfl⟩
   .obtain⟨c,e1,_⟩:=g1.D5;rw[e1];exact⟨eqd _ _ _ λd=>by simp[Op.equalIn,run_underlying ht],by cases neg<;>rfl,λop dT=>by rcases dT with rfl|rfl<;>rfl⟩
  .have hv:v=.kq:=by cases v<;>simp[x5] at hq;rfl
   subst hv;rw[g2.Ah];cases u<;>simp[x5] at hp<;>subst hp
   .rw[g1.Ah];exact⟨eqd _ _ _ λd=>by simp[Op.equalIn,run_underlying ht],by cases neg<;>rfl,λop dT=>by rcases dT with rfl|rfl<;>rfl⟩
   .rw[g1.uo.1];exact⟨eqd _ _ _ λd=>by simp[Op.equalIn,run_underlying ht],by cases neg<;>rfl,λop dT=>by rcases dT with rfl|rfl<;>rfl⟩
 obtain⟨k1,k2,k3⟩:=key;refine .pure (cv:=.bool (if neg then !p else p)) hr ?_ (.bool _);unfold execOp;cases neg
 .simp only[Bool.false_eq_true,if_false] at ho k2|-;simp[ho,k2,k3 .eql (.inl rfl),k1]
 .simp only[if_true] at ho k2|-;have h3:=k3 .neq (.inr rfl);simp[ho,k2,h3,k1]
theorem It{t:TypeId}(hk:M6 P t=some k)(w:World):(isAgg t).run P w=.ok false w:=by
 unfold M6 at hk
 split at hk<;>first
  |(rename_i hd;simp[isAgg,run_underlying hd];done)
  |cases hk
theorem PF{t:TypeId}(hk:M6 P t=some k){x y:AV}{cx cy:Value}(he:iC k x y=some r){nx:Nat}{pr:Nat->Prop}(hx:RV φ nx pr w x cx)(hy:RV φ nx pr w y cy)(d:Nat):
 (Op.equalIn (d+1) t cx cy).run P w=.ok r w:=by
 unfold M6 at hk;unfold iC at he;split at he
 .cases he;split at hk<;>cases hk;rename_i ht;rw[hx.gM,hy.gM];exact run_equalIn_bool' w d t _ _ ht
 .split at he
  .rename_i e;subst e;cases he;split at hk<;>cases hk;rename_i ht;rw[hx.dS,hy.dS];exact run_equalIn_int w d t _ _ _ _ ht
  .cases he
 .cases he;split at hk<;>cases hk;rename_i ht;obtain⟨s,q1,q2⟩:=hx.fS;obtain⟨s',q3,q4⟩:=hy.fS;rw[q1,q3,run_equalIn_string w d t s s' ht,ByteArray.toList_eq,ByteArray.toList_eq,q2,q4]
 .cases he
theorem Cu{d:Nat}{xs ys:Array Value}{l m:List AV}(hl:xs.size=l.length)(hm:ys.size=m.length){nx:Nat}{pr:Nat->Prop}
 (hx:∀j (hj:j<l.length),RV φ nx pr w l[j] (xs.getD j default)) (hy:∀j (hj:j<m.length),RV φ nx pr w m[j] (ys.getD j default)):
 ∀(fs:List Field) (ks:List Nat) (k:Nat) (r:Bool),fO P fs k=some ks->nY ks (l.drop k) (m.drop k)=some r->(Op.eqFields (d+1) xs ys fs).run P w=.ok r w
 |[],ks,k,r,hf,he=>by simp only[fO,Option.some.injEq] at hf;subst hf;cases h1:l.drop k<;>cases h2:m.drop k<;>rw[h1,h2] at he<;>simp[nY] at he;subst he;simp[Op.eqFields]
 |f::fs,ks,k,r,hf,he=>by
   unfold fO at hf;split at hf
   .rename_i hc;split at hf
    .rename_i kd ks' hkd am1;cases hf
     cases h1:l.drop k with
     |nil=>rw[h1] at he;simp[nY] at he
     |cons x xr=>
       cases h2:m.drop k with
       |nil=>rw[h1,h2] at he;simp[nY] at he
       |cons y yr=>
         rw[h1,h2] at he;simp only[nY] at he;split at he
         .rename_i ra rb e1 e2;cases he
          have hkl:k<l.length:=by
           rcases Nat.lt_or_ge k l.length with q|q
           .exact q
           .rw[List.drop_eq_nil_iff.2 q] at h1;cases h1
          have hkm:k<m.length:=by
           rcases Nat.lt_or_ge k m.length with q|q
           .exact q
           .rw[List.drop_eq_nil_iff.2 q] at h2;cases h2
          have q1:=List.drop_eq_getElem_cons hkl;have q2:=List.drop_eq_getElem_cons hkm;rw[q1] at h1;rw[q2] at h2;cases h1;cases h2;have QL:k<xs.size:=by omega
          have hys:k<ys.size:=by omega
          have g1:=hx k hkl;have g2:=hy k hkm;simp only[Array.getD,QL,hys,dif_pos] at g1 g2;have rG:=PF (P:=P) hkd e1 g1 g2 d;have ih:=Cu (d:=d) hl hm hx hy fs ks' (k+1) rb am1 e2
          have hp1:(part f.type xs f.offset).run P w=.ok xs[k] w:=by rw[hc.2];simp[part,It hkd,QL]
          have ZI:(part f.type ys f.offset).run P w=.ok ys[k] w:=by rw[hc.2];simp[part,It hkd,hys]
          simp only[Op.eqFields,ne_eq,hc.1,not_false_iff,if_true,Sem.run_bind,hp1,ZI,Result.andThen_ok];have ajE:Sem.run P (Op.equalIn (d+1) f.type xs[k] ys[k]) w=.ok ra w:=by simpa using rG
          rw[ajE];cases ra
          .simp
          .simpa using ih
         .cases he
    .cases hf
   .cases hf
theorem afM{ks:List Nat}{t ty:TypeId}{x:Operand}(ho:o.op=.binOp (if neg then .neq else .eql) t x y ty)(hx:fZ x=some x')(hy:fZ y=some y')
 {fs:Array Field} (ht:P.underlying t=some (.struct fs)) (hk:fO P fs.toList 0=some ks) (hg:P.eqGuardType P.depth t=false) (hs:P.stoodInHeld t=false) {l m:List AV} (hl:x'.ev fr=.agg l) (hm:y'.ev fr=.agg m)
 (he:nY ks l m=some r) (hf:FR φ h w fr a.tmps) (hr:HR φ h w):fB P (execOp a.eval o) φ h w (.bool (if neg then !r else r)) h:=by
 have g1:=ch hx hf;have g2:=ch hy hf;rw[hl] at g1;rw[hm] at g2;obtain⟨xs,q1,q2,_,q3⟩:=g1.qu;obtain⟨ys,q4,q5,_,q6⟩:=g2.qu;have hfo:P.fieldsOf t=fs:=by simp[Program.fieldsOf,ht]
 have rG:(Op.equalIn 10000 t (.agg xs) (.agg ys)).run P w=.ok r w:=by rw[run_equalIn_struct w 9999 t xs ys (by rw[hfo];exact ht) hs,hfo];exact Cu (d:=9998) q2 q5 q3 q6 fs.toList ks 0 r hk (by simpa using he)
 refine .pure (cv:=.bool (if neg then !r else r)) hr ?_ (.bool _);unfold execOp;cases neg
 .simp only[Bool.false_eq_true,if_false] at ho|-;simp[ho,q1,q4,run_eqGuard_agg w .eql t x y xs ys hg,run_eql_struct,rG]
 .simp only[if_true] at ho|-;simp[ho,q1,q4,run_eqGuard_agg w .neq t x y xs ys hg,run_neq_struct,rG]
end
end
section
variable {n qp yM:Nat}{y:Value}{ad:Option Addr}{x:Operand}{o:Oper}{x':dY}
section
variable {P:Program}{φ:eJ}{h:af}{w:World}{fr:List AV}{a:Act}
theorem Nc{α β:Type}(f:α->List β)(sz:Nat):∀(xs:List α),(∀x∈xs,(f x).length=sz)->(xs.flatMap f).length=xs.length*sz/\
 ∀i j (hi:i<xs.length),j<sz->(xs.flatMap f)[i*sz+j]? =(f xs[i])[j]?
 |[],_=>⟨by simp,λi j hi=>by simp at hi⟩
 |x::xs,hx=>by
   have h1:=hx x (by simp);obtain⟨g1,g2⟩:=Nc f sz xs λy hy=>hx y (by simp[hy])
   refine⟨by simp[g1,h1,Nat.add_mul];omega,λi j hi hj=>?_⟩;rw[List.flatMap_cons]
   cases i with
   |zero=>rw[List.getElem?_append_left (by omega)];simp
   |succ i=>rw[List.getElem?_append_right (by rw[Nat.add_mul];omega)];have:=g2 i j (by simpa using hi) hj;rw[show (i+1)*sz+j-(f x).length=i*sz+j by rw[Nat.add_mul];omega,this];simp
theorem IM{sz:Nat}{y:AV}{cy:Value}{news:List AV}(he:aG h sz y=some (n,news))(hy:fe φ h w y cy)(hr:HR φ h w)(lP:0<sz):
 news.length=n*sz/\∃f:Nat->Value,(∀j,j<n*sz->fe φ h w (news.getD j .undef) (f j)/\(f j).oneCell'=true)/\(∀w',(Builtin.lenOf cy).run P w'=.ok n w')/\
  ∀w':World,w'.heap=w.heap->(Builtin.firstCells sz n cy).run P w'=.ok ((List.range (n*sz)).map f).toArray w':=by
 have ak2:∀ad cap,(Builtin.firstCells sz 0 (.slice ad 0 cap)).run P w=.ok #[] w:=λad cap=>by cases ad<;>simp[Builtin.firstCells,loadCells,loadCellsFrom]
 have AN:∀ad cap (w':World),(Builtin.firstCells sz 0 (.slice ad 0 cap)).run P w'=.ok #[] w':=λad cap w'=>by cases ad<;>simp[Builtin.firstCells,loadCells,loadCellsFrom]
 unfold aG at he;split at he
 .cases he;obtain⟨ad,rfl⟩:=hy.nh;exact⟨by simp,λ_=>default,λj hj=>by simp at hj,λw'=>by simp[Builtin.lenOf],λw' _=>by simpa using AN ad 0 w'⟩
 .rename_i xs;split at he
  .rename_i iF;cases he
   have dI:∀x∈xs,x.cells.length=sz:=λx hx=>by have:=List.all_eq_true.1 iF x hx;cases x<;>simp[AV.cells?] at this<;>simp[AV.cells,this]
   obtain⟨g1,g2⟩:=Nc AV.cells sz xs dI;refine⟨g1,?_⟩;rcases hy.tU with⟨ad,cap,rfl,rfl⟩|⟨b,o,cap,QM,vs,rfl,mF,kI,wi,h1,iE,hc,hv⟩
   .exact⟨λ_=>default,λj hj=>by simp at hj,λw'=>by simp[Builtin.lenOf],λw' _=>by simpa using AN ad cap w'⟩
   .rcases Nat.eq_zero_or_pos xs.length with h0|h0
    .have hn:xs=[]:=List.eq_nil_of_length_eq_zero h0;subst hn;exact⟨λ_=>default,λj hj=>by simp at hj,λw'=>by simp[Builtin.lenOf],λw' _=>by simpa using AN _ cap w'⟩
    .have hss:QM=sz:=by
      have q1:=iE 0 h0;have q2:=List.all_eq_true.1 iF xs[0] (List.getElem_mem h0);rw[q1] at q2;simpa using q2
     subst hss
     have hdm:∀j,j<xs.length*QM->j / QM<xs.length/\j%QM<QM/\j / QM*QM+j%QM=j:=λj hj=>by refine⟨Nat.div_lt_of_lt_mul (by rw[Nat.mul_comm];exact hj),Nat.mod_lt _ lP,?_⟩;rw[Nat.mul_comm];exact Nat.div_add_mod j QM
     refine⟨λj=>vs (j / QM) (j%QM),λj hj=>⟨?_,h1 _ _⟩,λw'=>by simp[Builtin.lenOf],λw' hw'=>?_⟩
     .obtain⟨d1,d2,d3⟩:=hdm j hj;have e1:=g2 (j / QM) (j%QM) d1 d2;rw[d3] at e1;have d4:j%QM<(xs[j / QM]).cells.length:=by rw[dI _ (List.getElem_mem d1)];exact d2
      rw[List.getElem?_eq_getElem d4] at e1;rw[List.getD_eq_getElem?_getD,e1];exact hv _ d1 _ d4
     .simp only[Builtin.firstCells];refine run_loadCells w' _ _ _ λj hj=>?_
      obtain⟨d1,d2,d3⟩:=hdm j hj;have:=hc _ _ d1 d2;rw[Nat.add_assoc,d3] at this;rw[Addr.add_lit,<-this];unfold World.cell?;rw[hw']
  .cases he
 .rename_i id off len s lb;split at he
  .rename_i cs rF;have hg:=sn rF;split at he
   .rename_i hc;obtain⟨rfl,hle⟩:=hc;cases he;obtain⟨cap,ad,rfl,bX,hl,p8,xV,ha⟩:=hy.kO;refine⟨by simp;omega,?_⟩;rcases Nat.eq_zero_or_pos n with h0|h0
    .subst h0;exact⟨λ_=>default,λj hj=>by simp at hj,λw'=>by simp[Builtin.lenOf],λw' _=>by simpa using AN ad cap w'⟩
    .rw[ha (by omega)]
     have mG:∀j,j<n*s->∃v,w.cell? ⟨(φ id).gA,(φ id).base+(off+j),none⟩=some v/\fe φ h w (cs.getD (off+j) .undef) v/\v.oneCell'=true:=λj hj=>by
      obtain⟨v,c1,c2,c3⟩:=zW hr hg (off+j) (by omega);have cY:off+j<cs.length:=by omega
      exact⟨v,c1,by simpa[List.getD,cY] using c2,c3⟩
     refine⟨λj=>(w.cell? ⟨(φ id).gA,(φ id).base+(off+j),none⟩).getD default,λj hj=>?_,λw'=>by simp[Builtin.lenOf],λw' hw'=>?_⟩
     .obtain⟨v,c1,c2,c3⟩:=mG j hj;dsimp only;rw[c1];have cY:off+j<cs.length:=by omega
      have VG:j<((cs.drop off).take (n*s)).length:=by simp;omega
      refine⟨?_,c3⟩;rw[List.getD_eq_getElem?_getD,List.getElem?_take,if_pos hj,List.getElem?_drop];rw[List.getD_eq_getElem?_getD] at c2;exact c2
     .simp only[Builtin.firstCells];refine run_loadCells w' _ _ _ λj hj=>?_
      obtain⟨v,c1,c2,c3⟩:=mG j hj;have e:w'.cell? ⟨(φ id).gA,(φ id).base+(off+j),none⟩=w.cell? ⟨(φ id).gA,(φ id).base+(off+j),none⟩:=by unfold World.cell?;rw[hw']
      rw[Addr.add_lit,Nat.add_assoc,e,c1];rfl
   .cases he
  .cases he
 .rename_i s;split at he
  .rename_i hs;subst hs;cases he;obtain⟨b,rfl,rfl⟩:=hy.fS;have hbl:b.data.toList.length=b.size:=Array.length_toList;refine⟨by simp,λj=>.int .u8 ((b.data.toList.getD j 0).toNat),λj hj=>⟨?_,rfl⟩,λw'=>by rw[hbl];rfl,λw' _=>?_⟩
   .have jC:j<b.data.toList.length:=by omega
    simp only[List.getD_eq_getElem?_getD,List.getElem?_map,List.getElem?_eq_getElem jC,Option.map_some,Option.getD_some];exact .int _ _
   .simp only[Builtin.firstCells,Sem.run_pure,Nat.mul_one];congr 1;apply Array.ext';rw[hbl];have:(b.extract 0 b.size)=b:=by simp
    rw[this];apply List.ext_getElem?;intro j;by_cases hj:j<b.data.toList.length
    .have DO:j<b.data.size:=by simpa using hj
     have hj3:j<b.size:=DO;simp[hj3]
    .have DO:¬j<b.data.size:=by simpa using hj
     have hj3:¬j<b.size:=DO;simp[hj3]
  .cases he
 .cases he
theorem MC{z:Array Value}:(Builtin.zeroCells z n).size=n*z.size:=by simp[Builtin.zeroCells]
theorem xK{z:Array Value}(hz:∀j,(z.getD j default).oneCell'=true)(n j:Nat):((Builtin.zeroCells z n).getD j default).oneCell'=true:=by
 unfold Builtin.zeroCells;by_cases hj:j<n*z.size
 .have lP:0<z.size:=Nat.pos_of_ne_zero λe=>by simp[e] at hj
  have hm:j%z.size<z.size:=Nat.mod_lt _ lP;have:=hz (j%z.size);simpa[Array.getD,hj,hm] using this
 .simp[Array.getD,hj];rfl
theorem E7{s:Sem Next}{h1:af}{φ1:eJ}(mH:HR φ1 h1 w)(hx1:Ext φ h w φ1 h1 w){el:TypeId}{m cap sz:Nat}{cs:List AV}(f:Nat->Value){rest:Array Value}{w':World}
 (nQ:cs.length=m) (hf:∀j,j<m->fe φ1 h1 w (cs.getD j .undef) (f j)/\(f j).oneCell'=true) (ZJ:∀j,(rest.getD j default).oneCell'=true)
 (hh:w'.heap=w.heap.push (.cells (((List.range m).map f).toArray++rest) el)) (ho:w'.os=w.os) (ht:w'.tape=w.tape) (tg:w'.output=w.output)
 (hs:s.run P w=.ok (.value (.slice (some ⟨w.heap.size,0,none⟩) n cap)) w') (hn:n<=cap) (xV:cap*sz<=m+rest.size):
 fB P s φ h w (.vec h1.next 0 n sz n) (h1.alloc (.row cs)):=by
 have iE:(((List.range m).map f).toArray++rest).size=m+rest.size:=by simp
 have mg:∀j,j<m->(((List.range m).map f).toArray++rest).getD j default=f j:=λj hj=>by
  have:j<m+rest.size:=by omega
  simp[Array.getD,this,hj]
 have k1:∀j,j<(((List.range m).map f).toArray++rest).size->((((List.range m).map f).toArray++rest).getD j default).oneCell'=true:=λj hj=>by
  by_cases hjm:j<m
  .rw[mg j hjm];exact (hf j hjm).2
  .have:=ZJ (j-m);rw[iE] at hj;have h3:j-m<rest.size:=by omega
   simp only[Array.getD,h3,dif_pos] at this;have h4:j<m+rest.size:=hj;simpa[Array.getD,h4,Array.getElem_append,hjm] using this
 have k2:∀j (hj:j<cs.length),fe φ1 h1 w cs[j] ((((List.range m).map f).toArray++rest).getD j default):=λj hj=>by
  have hjm:j<m:=by omega
  rw[mg j hjm];have:=(hf j hjm).1;simpa[List.getD,hj] using this
 obtain⟨g1,g2⟩:=DA (w':=w') (c:=((List.range m).map f).toArray++rest) (el:=el) (fz:=(0,0)) (cs:=cs) mH hh ho ht tg (by simp) k1 (by rw[iE];omega) k2;exact⟨_,w',_,.inl hs,JE (.row cs) w.heap.size _ n sz n cap hn hn (by rw[iE];exact xV),g1,hx1.trans g2⟩
theorem run_append_room{t u e:TypeId}{ty:TypeId}{i:TypeInfo}(ht:P.underlying t=some (.slice e)){du:TypeDesc}(hu:P.underlying u=some du)(hdu:∀k,du≠.int k)(hi:P.info? e=some i)
 {news:Array Value} {w1:World} (hl:(Builtin.lenOf y).run P w=.ok n w) (fR:qp+n<=yM) (hn:(Builtin.firstCells i.size n y).run P w=.ok news w)
  (qS:(match ad with|some a=>storeCells (a.add (qp*i.size)) news.toList|none=>Pure.pure ()).run P w=.ok () w1):
  (Builtin.append_ #[t,u] ty #[.slice ad qp yM,y]).run P w=.ok (.slice ad (qp+n) yM) w1:=by
 cases ad with
 |none=>simp only[Sem.run_pure,Result.ok.injEq,true_and] at qS;subst qS;simp[Builtin.append_,run_underlying ht,run_underlying hu,jG hi,hl,fR,hn]
 |some ad=>simp at qS;simp[Builtin.append_,run_underlying ht,run_underlying hu,jG hi,hl,fR,hn,qS]
theorem uJ{t u e:TypeId}{ty:TypeId}{i:TypeInfo}{z:Value}(ht:P.underlying t=some (.slice e)){du:TypeDesc}(hu:P.underlying u=some du)(hdu:∀k,du≠.int k)(hi:P.info? e=some i)(hz0:i.zero=some z)
 {ajF news:Array Value} (hl:(Builtin.lenOf y).run P w=.ok n w) (ZK:yM<qp+n) (h63:qp+n<2^63) (agx:(qp+n)*i.bytes<=140737488355328)
  (ho:(Builtin.firstCells i.size qp (.slice ad qp yM)).run P w.drew=.ok ajF w.drew) (hn:(Builtin.firstCells i.size n y).run P w.drew=.ok news w.drew):
  (Builtin.append_ #[t,u] ty #[.slice ad qp yM,y]).run P w=.ok (.slice (some ⟨w.heap.size,0,none⟩) (qp+n) (grownCap w (qp+n) yM e))
   (w.drew.alloc (.cells (ajF++news++Builtin.zeroCells z.cells (grownCap w (qp+n) yM e-(qp+n))) e)):=by
 have h1:¬(qp+n<=yM):=by omega
 have h2:¬(9223372036854775807<(qp:Int)+(n:Int)):=by omega
 have h3:¬(281474976710656<Builtin.nextslicecap (qp+n) yM*i.bytes):=by have:=growslice_fits ZK agx;omega
 simp[Builtin.append_,run_underlying ht,run_underlying hu,jG hi,hl,h1,h2,h3,typeInfo,hi,zeroValue,hz0,Question.forced,ho,hn,newRow,grownCap]
theorem Ku{f g:Nat->Value}(m n:Nat):((List.range m).map f).toArray++((List.range n).map g).toArray=((List.range (m+n)).map λj=>if j<m then f j else g (j-m)).toArray:=by
 apply Array.ext';simp only[Array.toList_append];rw[List.range_add,List.map_append];congr 1
 .apply List.map_congr_left;intro j hj;rw[if_pos (by simpa using hj)]
 .rw[List.map_map];apply List.map_congr_left;intro j _;simp only[Function.comp];rw[if_neg (by omega),Nat.add_sub_cancel_left]
theorem vl(w:World)(ajG GB:Nat)(e:TypeId):ajG<=grownCap w ajG GB e:=Nat.le_add_right _ _
theorem GN(hr:HR φ h w){id off k:Nat}{cs news:List AV}{eY:List Value}(hg:h.get id=some (.row cs))(hle:off+k<=cs.length)(room:Nat)(xV:off+room<=(φ id).room)(fR:k+news.length<=room)
 (dI:news.length=eY.length) (hv:∀j (h1:j<news.length) (h2:j<eY.length),fe φ h w news[j] eY[j]/\eY[j].oneCell'=true):
 ∃w',(storeCells ⟨(φ id).gA,(φ id).base+off+k,none⟩ eY).run P w=.ok () w'/\
   HR (eI φ h.next ⟨(φ id).gA,(φ id).base+off,room⟩) ((h.set id .dead).alloc (.row ((cs.drop off).take k++news))) w'/\
   Ext φ h w (eI φ h.next ⟨(φ id).gA,(φ id).base+off,room⟩) ((h.set id .dead).alloc (.row ((cs.drop off).take k++news))) w':=by
 obtain⟨c,el,fz,h1,h2,h3,h4,h5,h6⟩:=hr.rows id cs hg;have o4:live h id:=⟨_,hg,λe=>by cases e⟩
 obtain⟨w',e1,e2,e3,e4,e5,e6,e7⟩:=mM (P:=P) eY c ((φ id).base+off+k) 0 w h1 (by omega) h4 (λv hvm=>by obtain⟨j,hj,rfl⟩:=List.getElem_of_mem hvm;exact (hv j (by omega) hj).2)
 have CQ:(h.set id .dead).next=h.next:=by simp
 have lv:∀i,live ((h.set id .dead).alloc (.row ((cs.drop off).take k++news))) i->i=h.next\/(live h i/\i≠id/\i<h.next):=λi hi=>by
  rcases gK hi with e|⟨hl,cY⟩
  .exact .inl (by rw[e,CQ])
  .obtain⟨q1,q2⟩:=kF hl;exact .inr ⟨q1,q2,by rw[<-CQ];exact cY⟩
 have hφn:∀i,i<h.next->eI φ h.next ⟨(φ id).gA,(φ id).base+off,room⟩ i=φ i:=λi hi=>by simp[eI,Nat.ne_of_lt hi]
 have hφe:eI φ h.next ⟨(φ id).gA,(φ id).base+off,room⟩ h.next=⟨(φ id).gA,(φ id).base+off,room⟩:=by simp[eI]
 have ext:Ext φ h w (eI φ h.next ⟨(φ id).gA,(φ id).base+off,room⟩) ((h.set id .dead).alloc (.row ((cs.drop off).take k++news))) w':=by
  refine⟨e5,e6,e7,by omega,by simp,hφn,λb hb=>?_,rfl,λb hb=>e4 b λe=>(hr.gh b hb).2 id o4 e.symm⟩;have eR:b≠(φ id).gA:=λe=>hb.2.1 id o4 e.symm
  refine⟨⟨by rw[e3];exact hb.1,λi hi=>?_,hb.2.2⟩,e4 b eR⟩;rcases lv i hi with rfl|⟨q1,q2,q3⟩
  .rw[hφe];exact Ne.symm eR
  .rw[hφn i q3];exact hb.2.1 i q1
 refine⟨w',e1,⟨af.oz _ (af.wf_set _ _ hr.wf),λi iN hi=>?_,λi es hi=>?_,λi j hi hj uA=>?_,λb hb=>⟨by rw[e3];exact (hr.gh b hb).1,λi hi=>?_⟩⟩,ext⟩
 .rcases lv i ⟨_,hi,λe=>by cases e⟩ with rfl|⟨q1,q2,q3⟩
  .rw[<-CQ,af.fg] at hi;cases hi;have ajH:((cs.drop off).take k++news).length=k+news.length:=by simp;omega
   refine⟨_,el,fz,by rw[hφe];exact e2,by rw[hφe,mA];dsimp only;omega,by rw[hφe,ajH];exact fR,by rw[mA];exact h4,λj hj=>?_,λj hj=>?_⟩
   .rw[hφe] at hj|-;dsimp only at hj|-;rw[nP _ _ _ _ (by omega)];split
    .rename_i AM;have cY:(φ id).base+off+j-((φ id).base+off+k+0)<eY.length:=by omega
     have:=(hv _ (by omega) cY).2;rw[List.getD_eq_getElem?_getD,List.getElem?_eq_getElem cY];exact this
    .have:=h5 (off+j) (by omega);rw[Nat.add_assoc];exact this
   .rw[hφe];dsimp only;rw[nP _ _ _ _ (by omega)];by_cases hjk:j<k
    .rw[if_neg (by omega)];have q:off+j<cs.length:=by omega
     have:=(h6 (off+j) q).ext ext;rw[Nat.add_assoc];have hjt:j<((cs.drop off).take k).length:=by simp;omega
     rw[List.getElem_append_left hjt];simpa using this
    .rw[if_pos (by omega)];have q1:j-k<news.length:=by omega
     have q2:(φ id).base+off+j-((φ id).base+off+k+0)=j-k:=by omega
     have q3:j-k<eY.length:=by omega
     have:=((hv _ q1 q3).1).ext ext;rw[q2,List.getD_eq_getElem?_getD,List.getElem?_eq_getElem q3];have hjt:((cs.drop off).take k).length=k:=by simp;omega
     rw[List.getElem_append_right (by omega)];simpa[hjt] using this
  .rw[af.dd (by rw[CQ];exact q3),af.get_set_other (Ne.symm q2)] at hi;exact (hr.rows i iN hi).ext ext q3 (e4 _ λe=>q2 (hr.inj i id q1 o4 e))
 .rcases lv i ⟨_,hi,λe=>by cases e⟩ with rfl|⟨q1,q2,q3⟩
  .rw[<-CQ,af.fg] at hi;cases hi
  .rw[af.dd (by rw[CQ];exact q3),af.get_set_other (Ne.symm q2)] at hi;exact (hr.maps i es hi).ext ext q3 (e4 _ λe=>q2 (hr.inj i id q1 o4 e))
 .rcases lv i hi with rfl|⟨q1,q2,q3⟩<;>rcases lv j hj with rfl|⟨r1,r2,r3⟩
  .rfl
  .rw[hφe,hφn j r3] at uA;exact absurd (hr.inj id j o4 r1 uA).symm r2
  .rw[hφe,hφn i q3] at uA;exact absurd (hr.inj i id q1 o4 uA) q2
  .rw[hφn i q3,hφn j r3] at uA;exact hr.inj i j q1 r1 uA
 .rcases lv i hi with rfl|⟨q1,q2,q3⟩
  .rw[hφe];exact (hr.gh b hb).2 id o4
  .rw[hφn i q3];exact (hr.gh b hb).2 i q1
theorem aed{t u e:TypeId}{y:Operand}(ho:o.op=.call {callee:=.builtin .append,args:=#[x,y],argTypes:=#[t,u]}){y':dY}(hx:fZ x=some x')(hy:fZ y=some y')
 (ht:P.underlying t=some (.slice e)) {du:TypeDesc} (hu:P.underlying u=some du) (hdu:∀k,du≠.int k) {i:TypeInfo} (hi:P.info? e=some i) {z:List AV} (hz:oY P e=some z) (CP:z.length=i.size) (lP:0<i.size)
 {news:List AV} (hn:aG h i.size (y'.ev fr)=some (n,news)) {v:AV} {h':af}
  (he:(match x'.ev fr with
   |.aF=>if n=0 then some (AV.aF,h) else
     if n*i.bytes<=140737488355328/\n<2^63 then some (.vec h.next 0 n i.size n,h.alloc (.row news)) else none
   |.vec id off len s lb=>match h.row id with
     |some cs=>if s=i.size/\off+len*i.size<=cs.length then
      if n=0 then some (.vec id off len s lb,h) else
      if len+n<=lb/\off+(len+n)*i.size<=cs.length then some (.vec id off (len+n) i.size lb,(h.set id (.row (putAt cs (off+len*i.size) news))).mark id (.agg news)) else
      if (len+n)*i.bytes<=140737488355328/\len+n<2^63 then
       some (.vec h.next 0 (len+n) i.size (len+n),(h.set id .dead).alloc (.row ((cs.drop off).take (len*i.size)++news))) else none
       else none
     |none=>none
   |_=>none)=some (v,h')) (hf:FR φ h w fr a.tmps) (hr:HR φ h w):fB P (execOp a.eval o) φ h w v h':=by
 have g1:=ch hx hf;have g2:=ch hy hf;obtain⟨n1,f,n2,n3,n4⟩:=IM (P:=P) hn g2 hr lP;obtain⟨i',zv,iO,Kx,k1,k2,k3⟩:=pK (φ:=φ) hz;obtain rfl:i=i':=by rw[hi] at iO;exact Option.some.inj iO
 have hex:∀r w1,(Builtin.append_ #[t,u] o.type #[a.eval x,a.eval y]).run P w=.ok r w1->(execOp a.eval o).run P w=.ok (.value r) w1:=λr w1 rG=>by unfold execOp;simp[ho,resolve,invoke,builtin,rG]
 have IV:∀m,(Builtin.zeroCells zv.cells m).size=m*i.size:=λm=>by rw[MC];rw[k1,CP]
 split at he
 .rename_i e1;rw[e1] at g1;obtain⟨ad,hq⟩:=g1.nh;split at he
  .rename_i h0;cases he;subst h0;have:=run_append_room (P:=P) (ty:=o.type) (ad:=ad) (qp:=0) (yM:=0) (w1:=w) ht hu hdu hi (n3 w) (Nat.le_refl _) (n4 w rfl) (by cases ad<;>simp[storeCells]);rw[<-hq] at this;exact .pure hr (hex _ _ this) g1
  .rename_i h0;split at he
   .rename_i hc;cases he;have hold:(Builtin.firstCells i.size 0 (.slice ad 0 0)).run P w.drew=.ok #[] w.drew:=by cases ad<;>simp[Builtin.firstCells,loadCells,loadCellsFrom]
    have:=uJ (P:=P) (ty:=o.type) ht hu hdu hi Kx (ad:=ad) (qp:=0) (yM:=0) (n3 w) (by omega) (by omega) (by simpa using hc.1) hold (n4 w.drew rfl);rw[<-hq,Nat.zero_add,Array.empty_append] at this;have kI:=vl w n 0 e;refine E7 (P:=P) hr (.refl _ _ _) (el:=e) (m:=n*i.size) (cap:=grownCap w n 0 e) (rest:=Builtin.zeroCells zv.cells (grownCap w n 0 e-n)) f n1 n2 (xK k2 _) (w':=w.drew.alloc _) rfl rfl rfl rfl (hex _ _ this) kI ?_
    .rw[IV,<-Nat.add_mul];exact Nat.mul_le_mul_right _ (by omega)
   .cases he
 .rename_i id off len s lb e1;rw[e1] at g1;obtain⟨cap,ad,hq,bX,hl,p8,xV,ha⟩:=g1.kO;split at he
  .rename_i cs rF;have hg:=sn rF;split at he
   .rename_i hc;obtain⟨rfl,hle⟩:=hc;split at he
    .rename_i h0;cases he;subst h0;have:=run_append_room (P:=P) (ty:=o.type) (ad:=ad) (qp:=len) (yM:=cap) (w1:=w) ht hu hdu hi (n3 w) (by omega) (n4 w rfl) (by cases ad<;>simp[storeCells]);rw[<-hq] at this;rw[Nat.add_zero,<-hq] at this;exact .pure hr (hex _ _ this) g1
    .rename_i h0
     have ZL:len+n<=cap->off+(len+n)*i.size<=cs.length->∃w',(Builtin.append_ #[t,u] o.type #[a.eval x,a.eval y]).run P w=.ok (.slice ad (len+n) cap) w'/\
      HR φ (h.set id (.row (putAt cs (off+len*i.size) news))) w'/\Ext φ h w φ (h.set id (.row (putAt cs (off+len*i.size) news))) w':=λfR dq=>by
      have had:=ha (by omega);have wk:(off+len*i.size)+news.length<=cs.length:=by rw[n1];rw[Nat.add_mul] at dq;omega
      obtain⟨w',q1,q2,q3⟩:=Bp (P:=P) (eY:=(List.range (n*i.size)).map f) hr hg wk (by simp[n1]) λj q1 q2=>by
       have hj:j<n*i.size:=by omega
       have:=n2 j hj;rw[List.getD_eq_getElem?_getD,List.getElem?_eq_getElem q1] at this;simpa using this
      refine⟨w',?_,q2,q3⟩
      have:=run_append_room (P:=P) (ty:=o.type) (ad:=ad) (qp:=len) (yM:=cap) (w1:=w') ht hu hdu hi (n3 w) fR (n4 w rfl) (by rw[had];simp only[Addr.add_lit];rw[Nat.add_assoc];simpa using q1)
      rw[hq];exact this
     split at he
     .rename_i N0;cases he;obtain⟨w',q1,q2,q3⟩:=ZL (by omega) N0.2;obtain⟨m1,m2⟩:=q2.mark id (.agg news);refine⟨_,w',φ,.inl (hex _ _ q1),?_,m1,q3.trans m2⟩;exact .vec _ _ _ _ _ _ _ (by simpa using bX) (by omega) p8 xV ha
     .rename_i N0;split at he
      .rename_i hc3;cases he;by_cases fR:len+n<=cap
       .have had:=ha (by omega)
        obtain⟨w',q1,q2,q3⟩:=GN (P:=P) (eY:=(List.range (n*i.size)).map f) hr hg hle (cap*i.size) xV (by rw[n1,<-Nat.add_mul];exact Nat.mul_le_mul_right _ fR) (by simp[n1]) λj q1 q2=>by
         have hj:j<n*i.size:=by omega
         have:=n2 j hj;rw[List.getD_eq_getElem?_getD,List.getElem?_eq_getElem q1] at this;simpa using this
        have:=run_append_room (P:=P) (ty:=o.type) (ad:=ad) (qp:=len) (yM:=cap) (w1:=w') ht hu hdu hi (n3 w) fR (n4 w rfl) (by rw[had];simp only[Addr.add_lit];simpa using q1)
        rw[<-hq] at this;refine⟨_,w',_,.inl (hex _ _ this),.vec _ _ _ _ _ _ _ (by simp) fR fR ?_ ?_,q2,q3⟩
        .simp[eI]
        .intro _;rw[had];simp[eI]
       .have ZK:cap<len+n:=by omega
        obtain⟨kr,kx⟩:=adx hr id
        have mG:∀j,j<len*i.size->∃v,w.cell? ⟨(φ id).gA,(φ id).base+(off+j),none⟩=some v/\fe φ h w (cs.getD (off+j) .undef) v/\v.oneCell'=true:=λj hj=>by
         obtain⟨v,c1,c2,c3⟩:=zW hr hg (off+j) (by omega);have cY:off+j<cs.length:=by omega
         exact⟨v,c1,by simpa[List.getD,cY] using c2,c3⟩
        let g:Nat->Value:=λj=>(w.cell? ⟨(φ id).gA,(φ id).base+(off+j),none⟩).getD default
        have hold:(Builtin.firstCells i.size len (.slice ad len cap)).run P w.drew=.ok ((List.range (len*i.size)).map g).toArray w.drew:=by
         rcases Nat.eq_zero_or_pos len with h00|h00
         .subst h00;cases ad<;>simp[Builtin.firstCells,loadCells,loadCellsFrom]
         .rw[ha (by omega)];simp only[Builtin.firstCells];refine run_loadCells w.drew _ _ _ λj hj=>?_
          obtain⟨v,c1,c2,c3⟩:=mG j hj;rw[Addr.add_lit,Nat.add_assoc,World.cell?_drew,c1];simp[g,c1]
        have:=uJ (P:=P) (ty:=o.type) ht hu hdu hi Kx (n3 w) ZK hc3.2 hc3.1 hold (n4 w.drew rfl);rw[<-hq,Ku] at this;have kI:=vl w (len+n) cap e;rw[show h.next=(h.set id .dead).next by simp];refine E7 (P:=P) (h1:=h.set id .dead) kr kx (el:=e) (m:=len*i.size+n*i.size) (cap:=grownCap w (len+n) cap e) (rest:=Builtin.zeroCells zv.cells (grownCap w (len+n) cap e-(len+n))) _ ?_ (λj hj=>?_) (xK k2 _) (w':=w.drew.alloc _) rfl rfl rfl rfl (hex _ _ this) kI ?_
        .simp[n1];omega
        .by_cases hjk:j<len*i.size
         .obtain⟨v,c1,c2,c3⟩:=mG j hjk;rw[if_pos hjk];have hg1:g j=v:=by simp[g,c1]
          rw[hg1];refine⟨?_,c3⟩;have hjt:j<((cs.drop off).take (len*i.size)).length:=by simp;omega
          have:=c2.ext kx;rw[List.getD_eq_getElem?_getD,List.getElem?_append_left hjt,List.getElem?_take,if_pos hjk,List.getElem?_drop];rw[List.getD_eq_getElem?_getD] at this;exact this
         .rw[if_neg hjk];have hjn:j-len*i.size<n*i.size:=by omega
          obtain⟨r1,r2⟩:=n2 _ hjn;refine⟨?_,r2⟩;have hjt:((cs.drop off).take (len*i.size)).length=len*i.size:=by simp;omega
          have:=r1.ext kx;rw[List.getD_eq_getElem?_getD,List.getElem?_append_right (by omega),hjt];rw[List.getD_eq_getElem?_getD] at this;exact this
        .rw[IV,<-Nat.add_mul,<-Nat.add_mul];exact Nat.mul_le_mul_right _ (by omega)
      .cases he
   .cases he
  .cases he
 .cases he
theorem u6(z:List AV)(n:Nat):(List.replicate n z).flatten.length=n*z.length/\∀j,j<n*z.length->(List.replicate n z).flatten.getD j .undef=z.getD (j%z.length) .undef:=by
 induction n with
 |zero=>simp
 |succ n ih=>
   refine⟨by simp,λj hj=>?_⟩;rw[List.replicate_succ,List.flatten_cons];by_cases hjz:j<z.length
   .rw[List.getD_eq_getElem?_getD,List.getElem?_append_left hjz,Nat.mod_eq_of_lt hjz,List.getD_eq_getElem?_getD]
   .rw[List.getD_eq_getElem?_getD,List.getElem?_append_right (by omega)];have h2:=ih.2 (j-z.length) (by rw[Nat.add_mul,Nat.one_mul] at hj;omega);rw[List.getD_eq_getElem?_getD] at h2;have e:=Nat.mod_eq_sub_mod (a:=j) (b:=z.length) (by omega);rw[h2,e]
theorem ae4{t e:TypeId}{l c:Operand}(ho:o.op=.makeSlice t l c){l' c':dY}(hl:fZ l=some l')(hc:fZ c=some c')(ht:P.underlying t=some (.slice e)){i:TypeInfo}(hi:P.info? e=some i)
 {z:List AV} (hz:oY P e=some z) (CP:z.length=i.size) {m n:Int} (h1:l'.ev fr=.int .i64 m) (h2:c'.ev fr=.int .i64 n) (hb:0<=m/\m<=n/\n*i.bytes<=140737488355328/\n<2^63)
 (hf:FR φ h w fr a.tmps) (hr:HR φ h w):fB P (execOp a.eval o) φ h w (.vec h.next 0 m.toNat z.length n.toNat) (h.alloc (.row (List.replicate n.toNat z).flatten)):=by
 obtain⟨i',zv,iO,Kx,k1,k2,k3⟩:=pK (φ:=φ) hz;obtain rfl:i=i':=by rw[hi] at iO;exact Option.some.inj iO
 have g1:=ch hl hf;have g2:=ch hc hf;rw[h1] at g1;rw[h2] at g2;obtain⟨b0,b1,b2,b3⟩:=hb;obtain⟨n',rfl⟩:=Int.eq_ofNat_of_zero_le (by omega:0<=n);obtain⟨m',rfl⟩:=Int.eq_ofNat_of_zero_le b0
 have hbn:n'*i.bytes<=140737488355328:=by
  have:((n'*i.bytes:Nat):Int)<=140737488355328:=by rw[Int.natCast_mul];exact b2
  omega
 simp only[Int.toNat_natCast];obtain⟨r1,r2⟩:=u6 z n'
 let zz:Array Value:=if n'*i.size=0 then #[] else zv.cells
 let cells:Array Value:=(Array.range (n'*i.size)).map (zz[· % zz.size]!)
 have ZG:n'*i.size≠0->zz=zv.cells:=λh0=>if_neg h0
 have nQ:cells.size=n'*i.size:=by simp[cells]
 have q1:∀j,j<cells.size->(cells.getD j default).oneCell'=true:=λj hj=>by
  rw[nQ] at hj;have lP:0<i.size:=Nat.pos_of_ne_zero λe=>by simp[e] at hj
  have hm:j%i.size<i.size:=Nat.mod_lt _ lP;have:=k2 (j%i.size);have hz':=ZG (by omega);simp only[cells,hz',k1,CP];simpa[Array.getD,hj,k1,CP,hm] using this
 have q2:∀j (hj:j<(List.replicate n' z).flatten.length),fe φ h w (List.replicate n' z).flatten[j] (cells.getD j default):=λj hj=>by
  have jC:j<n'*i.size:=by rw[r1,CP] at hj;exact hj
  have lP:0<i.size:=Nat.pos_of_ne_zero λe=>by simp[e] at jC
  have hm:j%i.size<i.size:=Nat.mod_lt _ lP;have hm':j%i.size<z.length:=by omega
  have:=k3 h.next (Pr φ h w) w (j%i.size) hm'
  have hz':=ZG (by omega);have e:=r2 j (by rw[CP];exact jC);rw[List.getD_eq_getElem?_getD,List.getElem?_eq_getElem hj,Option.getD_some] at e;rw[e,CP];simp only[cells,hz',k1,CP];simpa[Array.getD,jC,k1,CP,hm,hm',List.getD] using this
 obtain⟨n1,n2⟩:=DA (w':=w.alloc (.cells cells e)) hr rfl rfl rfl rfl (by simp) q1 (by rw[nQ,r1,CP];exact Nat.le_refl _) q2;refine⟨_,_,_,.inl ?_,JE _ w.heap.size cells.size m' z.length n' n' (by omega) (Nat.le_refl _) (by rw[nQ,CP];exact Nat.le_refl _),n1,n2⟩;unfold execOp;have w1:IntKind.i64.wrap (m':Int)=m':=by rw[IntKind.wrap_i64];omega
 have w2:IntKind.i64.wrap (n':Int)=n':=by rw[IntKind.wrap_i64];omega
 have t1:¬((n':Int)<0):=by omega
 have t2:¬(281474976710656<(i.bytes:Int)*(n':Int)):=by rw[Int.mul_comm];omega
 have t3:¬((m':Int)<0):=by omega
 have t4:¬(n'<m'):=by omega
 by_cases h0:n'*i.size=0
 .have SL:cells=#[]:=by apply Array.eq_empty_of_size_eq_zero;rw[nQ];exact h0
  rw[SL];simp[ho,g1.dS,g2.dS,Instr.makeSlice,run_underlying ht,asInt,asIntOf,typeInfo,hi,w1,w2,t1,t2,t3,t4,jG hi,h0,newRow,Array.range_zero']
 .have SL:cells=(Array.range (n'*i.size)).map (zv.cells[· % zv.cells.size]!):=by simp only[cells,ZG h0]
  rw[SL];simp[ho,g1.dS,g2.dS,Instr.makeSlice,run_underlying ht,asInt,asIntOf,typeInfo,hi,w1,w2,t1,t2,t3,t4,jG hi,h0,newRow,zeroValue,Kx]
theorem afV{t e:TypeId}(ho:o.op=.call {callee:=.builtin .clear,args:=#[x],argTypes:=#[t]})(hx:fZ x=some x')(ht:P.underlying t=some (.slice e)){i:TypeInfo}(hi:P.info? e=some i)
 {z:List AV} (hz:oY P e=some z) (CP:z.length=i.size) {v:AV} {h':af}
 (he:(match x'.ev fr with
 |.aF=>some (AV.tuple [],h)
 |.vec id off len s _=>match h.row id with
   |some cs=>if s=z.length/\off+len*s<=cs.length then some (.tuple [],(h.set id (.row (putAt cs off (List.replicate len z).flatten))).mark id (.agg z)) else none
   |none=>none
 |_=>none)=some (v,h')) (hf:FR φ h w fr a.tmps) (hr:HR φ h w):fB P (execOp a.eval o) φ h w v h':=by
 obtain⟨i',zv,iO,Kx,k1,k2,k3⟩:=pK (φ:=φ) hz;obtain rfl:i=i':=by rw[hi] at iO;exact Option.some.inj iO
 have g:=ch hx hf;have agA:∀φ h w,fe φ h w (.tuple []) (.tuple #[]):=λφ h w=>.tuple [] #[] rfl λj hj=>by simp at hj
 split at he
 .rename_i e1;cases he;rw[e1] at g;obtain⟨ad,hq⟩:=g.nh;refine .pure (cv:=.tuple #[]) hr ?_ (agA _ _ _);unfold execOp;cases ad<;>simp[ho,resolve,invoke,builtin,hq,Builtin.clear_,run_underlying ht]
 .rename_i id off len s lb e1;rw[e1] at g;obtain⟨cap,ad,hq,bX,hl,p8,xV,ha⟩:=g.kO;split at he
  .rename_i cs rF;have hg:=sn rF;split at he
   .rename_i hc;obtain⟨rfl,hle⟩:=hc;cases he;obtain⟨r1,r2⟩:=u6 z len;rcases Nat.eq_zero_or_pos len with h0|h0
    .subst h0
     have e2:(h.set id (.row (putAt cs off (List.replicate 0 z).flatten)))={h with wl:=h.wl,md:=min h.md id}:=by simp only[List.replicate_zero,List.flatten_nil,putAt];unfold af.set;have cY:=af.dR hg;rw[if_pos cY];have hgg:=hg;unfold af.get at hgg;rw[if_pos cY] at hgg;obtain⟨q1,q2⟩:=List.getElem?_eq_some_iff.1 hgg;rw[<-q2,List.set_getElem_self]
     rw[e2];obtain⟨s1,s2⟩:=hr.uK h.wl (min h.md id);obtain⟨m1,m2⟩:=s1.mark id (.agg z);refine⟨.tuple #[],w,φ,.inl ?_,agA _ _ _,m1,s2.trans m2⟩;unfold execOp;cases ad<;>simp[ho,resolve,invoke,builtin,hq,Builtin.clear_,run_underlying ht]
    .have had:=ha (by omega)
     let eY:=(Builtin.zeroCells zv.cells len).toList
     have dq:eY.length=len*z.length:=by simp only[eY,Array.length_toList];rw[MC,k1]
     obtain⟨w',e1,e2,e3⟩:=Bp (P:=P) (eY:=eY) (vs:=(List.replicate len z).flatten) hr hg (by rw[r1];exact hle) (by rw[r1,dq]) λj q1 q2=>by
      have hj:j<len*z.length:=by omega
      have lP:0<z.length:=Nat.pos_of_ne_zero λe=>by simp[e] at hj
      have hm:j%z.length<z.length:=Nat.mod_lt _ lP;have t1:=k3 h.next (Pr φ h w) w _ hm
      have t2:=k2 (j%z.length);have e:=r2 j hj;rw[List.getD_eq_getElem?_getD,List.getElem?_eq_getElem q1,Option.getD_some] at e;have jt:j%z.length<zv.cells.size:=by omega
      have e4:eY[j]=zv.cells.getD (j%z.length) default:=by simp only[eY,Builtin.zeroCells,Array.getElem_toList,Array.getElem_map,Array.getElem_range,k1];simp[Array.getD,jt]
      rw[e,e4];exact⟨by simpa[List.getD,hm] using t1,t2⟩
     obtain⟨m1,m2⟩:=e2.mark id (.agg z);refine⟨.tuple #[],w',φ,.inl ?_,agA _ _ _,m1,e3.trans m2⟩;unfold execOp;obtain⟨am6,rfl⟩:∃l',len=l'+1:=⟨len-1,by omega⟩
     simp[ho,resolve,invoke,builtin,hq,had,Builtin.clear_,run_underlying ht,zeroValue,typeInfo,hi,Kx];rw[show (Builtin.zeroCells zv.cells (am6+1)).toList=eY from rfl,e1];rfl
   .cases he
  .cases he
 .cases he
end
end
end Sz
