import Derived.Calls
import GoSem.Claims
import Derived.Laws.World
import Derived.Laws.Sem
import GoSem.Dispatch
import GoSem.Core.Region
import Derived.Laws.Append
import Derived.Laws.Tables
import Derived.Laws.Strings
import Derived.Laws.StructEq
import Derived.Laws.Slices
set_option linter.unusedVariables false
set_option linter.unusedSimpArgs false
set_option linter.unusedSectionVars false
set_option maxHeartbeats 16000000
set_option maxRecDepth 100000

/- The values, the heap and the frame of an abstract run, and what they say of the model's values and worlds. No program is named here. -/
namespace Sz
open Go
variable {X:World→Prop}
inductive AV where
 | undef
 | bool (b:Bool)
 | int (k:IntKind) (n:Int)
 | str (s:List UInt8)
 | jr
 | ptr (id off:Nat)
 | ip (cs:List AV)
 | aw
 | sl (xs:List AV)
 | vec (id off len sz lb:Nat)
 | iC
 | map (id:Nat)
 | fQ
 | fn (f:Nat) (caps:List AV)
 | jt
 | iface (t:Nat) (v:AV)
 | agg (cs:List AV)
 | tuple (vs:List AV)
 deriving Inhabited
def AV.cells:AV→List AV
 | .agg cs=>cs
 | v=>[v]
def AV.cells?:AV→Option (List AV)
 | .agg cs=>some cs
 | .undef=>none
 | .tuple _=>none
 | v=>some [v]
mutual
def AV.refs:AV→Nat
 | .ptr id _=>id+1
 | .vec id _ _ _ _=>id+1
 | .map id=>id+1
 | .fn _ caps=>AV.ai caps
 | .iface _ v=>v.refs
 | .agg cs=>AV.ai cs
 | .tuple vs=>AV.ai vs
 | _=>0
def AV.ai:List AV→Nat
 | []=>0
 | v::r=>max v.refs (AV.ai r)
end
theorem AV.cA {v:AV} {l:List AV} (h:v ∈ l):v.refs≤AV.ai l:=by
 induction l with
 | nil=>cases h
 | cons x r ih=>
   simp only[AV.ai]
   cases h with
   | head=>omega
   | tail _ h=>have:=ih h;omega
theorem AV.gE {l:List AV} {n:Nat} (h:∀v ∈ l,v.refs≤n):AV.ai l≤n:=by
 induction l with
 | nil=>simp[AV.ai]
 | cons x r ih=>
   simp only[AV.ai];have h1:=h x (by simp);have h2:=ih fun v hv=>h v (by simp[hv])
   omega
inductive bf where
 | row (cs:List AV)
 | map (es:List (AV×AV))
 | dead
 deriving Inhabited
structure aa where
 next:Nat
 fi:List bf
 wl:Nat
 md:Nat
def aa.get (h:aa) (id:Nat):Option bf:=if id < h.next then h.fi[h.next - 1 - id]? else none
def aa.set (h:aa) (id:Nat) (o:bf):aa:=if id < h.next then {h with fi:=h.fi.set (h.next - 1 - id) o,md:=min h.md id} else h
def aa.alloc (h:aa) (o:bf):aa:={h with next:=h.next+1,fi:=o::h.fi}
def aa.mark (h:aa) (id:Nat) (v:AV):aa:=if id+1 < v.refs then {h with wl:=min h.wl id} else h
def aa.gM (h:aa) (n:Nat):aa:={h with next:=min h.next n,fi:=h.fi.drop (h.next - n)}
def aa.wf (h:aa):Prop:=h.fi.length=h.next
section heap
variable {h:aa} {id id' n:Nat} {o o':bf}
@[simp] theorem aa.iD:(h.alloc o).next=h.next+1:=rfl
@[simp] theorem aa.Ie:(h.set id o).next=h.next:=by unfold aa.set;split<;>rfl
@[simp] theorem aa.QC {v:AV}:(h.mark id v).next=h.next:=by unfold aa.mark;split<;>rfl
@[simp] theorem aa.ir {v:AV}:(h.mark id v).get id'=h.get id':=by unfold aa.mark;split<;>rfl
@[simp] theorem aa.RA:(h.alloc o).wl=h.wl:=rfl
@[simp] theorem aa.Ua:(h.set id o).wl=h.wl:=by unfold aa.set;split<;>rfl
theorem aa.dM:(h.alloc o).get h.next=some o:=by simp[aa.get,aa.alloc]
theorem aa.cQ (hid:id < h.next):(h.alloc o).get id=h.get id:=by
 unfold aa.get aa.alloc;simp only[hid,if_true,show id < h.next+1 by omega];rw[show h.next+1 - 1 - id=(h.next - 1 - id)+1 by omega,List.getElem?_cons_succ]
theorem aa.di (hg:h.get id=some o):id < h.next:=by
 unfold aa.get at hg;split at hg
 ·assumption
 ·cases hg
theorem aa.get_set_same (hg:h.get id=some o'):(h.set id o).get id=some o:=by
 have hl:=aa.di hg;unfold aa.get at hg ⊢;unfold aa.set;simp only[hl,if_true] at hg ⊢;have:=(List.getElem?_eq_some_iff.1 hg).1;simp[this]
theorem aa.get_set_other (hne:id≠id'):(h.set id o).get id'=h.get id':=by
 unfold aa.set;split
 ·unfold aa.get;dsimp only;split
  ·rw[List.getElem?_set_ne (by omega)]
  ·rfl
 ·rfl
theorem aa.mA (hid:id < n):(h.gM n).get id=h.get id:=by
 unfold aa.gM aa.get;dsimp only;by_cases hl:id < h.next
 ·rw[if_pos (by omega),if_pos hl,List.getElem?_drop];congr 1;omega
 ·rw[if_neg (by omega),if_neg hl]
@[simp] theorem aa.qx:(h.gM n).next=min h.next n:=rfl
end heap
structure PE where
 eM:Nat
 base:Nat
 room:Nat
 deriving Inhabited
structure dp where
 at_:Nat→PE
 gh:Nat→Prop
instance:CoeFun dp (fun _=>Nat→PE):=⟨dp.at_⟩
inductive RV (φ:dp) (nx:Nat) (pr:Nat→Prop) (w:World):AV→Value→Prop where
 | undef (v:Value):RV φ nx pr w .undef v
 | bool (b:Bool):RV φ nx pr w (.bool b) (.bool b)
 | int (k:IntKind) (n:Int):RV φ nx pr w (.int k n) (.int k n)
 | str (s:ByteArray):RV φ nx pr w (.str s.data.toList) (.string s)
 | jr:RV φ nx pr w .jr (.pointer none)
 | ptr (id off:Nat) (h:id < nx):RV φ nx pr w (.ptr id off) (.pointer (some ⟨(φ id).eM,(φ id).base+off,none⟩))
 | ip (cs:List AV) (b o:Nat) (vs:Nat→Value) (hp:pr b) (hrf:AV.ai cs=0) (h1:∀j,(vs j).oneCell'=true)
  (hc:∀j,j < cs.length→w.cell? ⟨b,o+j,none⟩=some (vs j)) (hv:∀j (h:j < cs.length),RV φ nx pr w cs[j] (vs j)):
  RV φ nx pr w (.ip cs) (.pointer (some ⟨b,o,none⟩))
 | aw (a:Option Addr):RV φ nx pr w .aw (.slice a 0 0)
 | slnil (a:Option Addr) (cap:Nat):RV φ nx pr w (.sl []) (.slice a 0 cap)
 | sl (xs:List AV) (b o cap sz:Nat) (vs:Nat→Nat→Value) (hp:pr b) (hcap:xs.length≤cap) (hrf:AV.ai xs=0) (h1:∀i j,(vs i j).oneCell'=true)
  (hsz:∀i (h:i < xs.length),(xs[i]).cells?.map List.length=some sz)
  (hc:∀i j,i < xs.length→j < sz→w.cell? ⟨b,o+i*sz+j,none⟩=some (vs i j))
  (hv:∀i (h:i < xs.length) j (h':j < (xs[i]).cells.length),RV φ nx pr w ((xs[i]).cells[j]) (vs i j)):
  RV φ nx pr w (.sl xs) (.slice (some ⟨b,o,none⟩) xs.length cap)
 | vec (id off len sz lb cap:Nat) (a:Option Addr) (h:id < nx) (hl:len≤cap) (hb:lb≤cap) (hr:off+cap*sz≤(φ id).room)
  (ha:0 < cap→a=some ⟨(φ id).eM,(φ id).base+off,none⟩):RV φ nx pr w (.vec id off len sz lb) (.slice a len cap)
 | iC:RV φ nx pr w .iC (.map none)
 | map (id:Nat) (h:id < nx):RV φ nx pr w (.map id) (.map (some (φ id).eM))
 | fQ:RV φ nx pr w .fQ .nilFunc
 | fn (f:Nat) (caps:List AV) (cvs:Array Value) (hl:cvs.size=caps.length) (hv:∀j (h:j < caps.length),RV φ nx pr w caps[j] (cvs.getD j default)):
  RV φ nx pr w (.fn f caps) (.func (.func f) #[] cvs)
 | jt:RV φ nx pr w .jt .nilIface
 | iface (t:Nat) (v:AV) (cv:Value) (hv:RV φ nx pr w v cv):RV φ nx pr w (.iface t v) (.iface t cv)
 | agg (cs:List AV) (cvs:Array Value) (hl:cvs.size=cs.length) (h1:∀j,(cvs.getD j default).oneCell'=true) (hv:∀j (h:j < cs.length),RV φ nx pr w cs[j] (cvs.getD j default)):
  RV φ nx pr w (.agg cs) (.agg cvs)
 | tuple (vs:List AV) (cvs:Array Value) (hl:cvs.size=vs.length) (hv:∀j (h:j < vs.length),RV φ nx pr w vs[j] (cvs.getD j default)):
  RV φ nx pr w (.tuple vs) (.tuple cvs)
theorem cell?_of_block {w w':World} {b:Nat} (h:w'.heap[b]? =w.heap[b]?) (o:Nat):w'.cell? ⟨b,o,none⟩=w.cell? ⟨b,o,none⟩:=by
 unfold World.cell?;simp only[h]
theorem RV.mono {φ φ':dp} {nx nx':Nat} {pr pr':Nat→Prop} {w w':World} {v:AV} {cv:Value} (h:RV φ nx pr w v cv)
 (hφ:∀id,id < v.refs→id < nx→φ' id=φ id∧id < nx') (hpr:∀b,pr b→pr' b∧w'.heap[b]? =w.heap[b]?):RV φ' nx' pr' w' v cv:=by
 induction h with
 | undef v=>exact .undef v
 | bool b=>exact .bool b
 | int k n=>exact .int k n
 | str s=>exact .str s
 | jr=>exact .jr
 | ptr id off h=>
   obtain⟨e,hl⟩:=hφ id (by simp[AV.refs]) h;rw[←e];exact .ptr id off hl
 | ip cs b o vs hp hrf h1 hc hv ih=>
   obtain⟨hp',hb⟩:=hpr b hp;refine .ip cs b o vs hp' hrf h1 (fun j hj=>(cell?_of_block hb _).trans (hc j hj)) fun j hj=>ih j hj fun id hid=>?_
   have:=AV.cA (List.getElem_mem hj);omega
 | aw a=>exact .aw a
 | slnil a cap=>exact .slnil a cap
 | sl xs b o cap sz vs hp hcap hrf h1 hsz hc hv ih=>
   obtain⟨hp',hb⟩:=hpr b hp;refine .sl xs b o cap sz vs hp' hcap hrf h1 hsz (fun i j hi hj=>(cell?_of_block hb _).trans (hc i j hi hj)) fun i hi j hj=>ih i hi j hj fun id hid=>?_
   have h0:=AV.cA (List.getElem_mem hi);have h2:=AV.cA (List.getElem_mem hj)
   have h3:AV.ai (xs[i]).cells≤(xs[i]).refs:=by
    cases xs[i]<;>simp[AV.cells,AV.refs,AV.ai]
   omega
 | vec id off len sz lb cap a h hl hb hr ha=>
   obtain⟨e,hl'⟩:=hφ id (by simp[AV.refs]) h;rw[←e] at hr ha;exact .vec id off len sz lb cap a hl' hl hb hr ha
 | iC=>exact .iC
 | map id h=>
   obtain⟨e,hl⟩:=hφ id (by simp[AV.refs]) h;rw[←e];exact .map id hl
 | fQ=>exact .fQ
 | fn f caps cvs hl hv ih=>
   refine .fn f caps cvs hl fun j hj=>ih j hj fun id hid=>hφ id ?_
   have:=AV.cA (List.getElem_mem hj);simp only[AV.refs];omega
 | jt=>exact .jt
 | iface t v cv hv ih=>exact .iface t v cv (ih fun id hid=>hφ id (by simpa[AV.refs] using hid))
 | agg cs cvs hl h1 hv ih=>
   refine .agg cs cvs hl h1 fun j hj=>ih j hj fun id hid=>hφ id ?_
   have:=AV.cA (List.getElem_mem hj);simp only[AV.refs];omega
 | tuple cs cvs hl hv ih=>
   refine .tuple cs cvs hl fun j hj=>ih j hj fun id hid=>hφ id ?_
   have:=AV.cA (List.getElem_mem hj);simp only[AV.refs];omega
theorem RV.vo {φ:dp} {nx:Nat} {pr:Nat→Prop} {w:World} {v:AV} {cv:Value} (h:RV φ nx pr w v cv):v.refs≤nx:=by
 induction h with
 | ptr id off h=>simp only[AV.refs];omega
 | vec id off len sz lb cap a h hl hb hr ha=>simp only[AV.refs];omega
 | map id h=>simp only[AV.refs];omega
 | fn f caps cvs hl hv ih=>
   simp only[AV.refs];refine AV.gE fun v hv'=>?_
   obtain⟨j,hj,rfl⟩:=List.getElem_of_mem hv';exact ih j hj
 | iface t v cv hv ih=>simpa[AV.refs] using ih
 | agg cs cvs hl h1 hv ih=>
   simp only[AV.refs];refine AV.gE fun v hv'=>?_
   obtain⟨j,hj,rfl⟩:=List.getElem_of_mem hv';exact ih j hj
 | tuple cs cvs hl hv ih=>
   simp only[AV.refs];refine AV.gE fun v hv'=>?_
   obtain⟨j,hj,rfl⟩:=List.getElem_of_mem hv';exact ih j hj
 | _=>simp[AV.refs]
def live (h:aa) (id:Nat):Prop:=∃o,h.get id=some o∧(∀_:o=.dead,False)
def Pr (φ:dp) (h:aa) (w:World) (b:Nat):Prop:=b < w.heap.size∧(∀id,live h id→(φ id).eM≠b)∧¬ φ.gh b
abbrev dK (φ:dp) (h:aa) (w:World):AV→Value→Prop:=RV φ h.next (Pr φ h w) w
def ov (φ:dp) (h:aa) (w:World) (id:Nat) (cs:List AV):Prop:=
 ∃c el fr,w.heap[(φ id).eM]? =some (.cells c el fr)∧(φ id).base+(φ id).room≤c.size∧cs.length≤(φ id).room∧
   (∀o,o < c.size→¬ (fr.1≤o∧o < fr.2))∧
   (∀j,j < (φ id).room→(c.getD ((φ id).base+j) default).oneCell'=true)∧
   ∀j (hj:j < cs.length),dK φ h w cs[j] (c.getD ((φ id).base+j) default)
def rP (φ:dp) (h:aa) (w:World) (id:Nat) (es:List (AV×AV)):Prop:=
 ∃ents clk,w.heap[(φ id).eM]? =some (.map ents clk)∧ents.size=es.length∧
   ∀j (hj:j < es.length),dK φ h w es[j].1 (ents.getD j default).key∧dK φ h w es[j].2 (ents.getD j default).val
structure HR (φ:dp) (h:aa) (w:World):Prop where
 wf:h.wf
 rows:∀id cs,h.get id=some (.row cs)→ov φ h w id cs
 maps:∀id es,h.get id=some (.map es)→rP φ h w id es
 inj:∀i j,live h i→live h j→(φ i).eM=(φ j).eM→i=j
 gh:∀b,φ.gh b→b < w.heap.size∧∀id,live h id→(φ id).eM≠b
structure Ext (φ:dp) (h:aa) (w:World) (φ':dp) (h':aa) (w':World):Prop where
 os:w'.os=w.os
 tape:w'.tape=w.tape
 output:w'.output=w.output
 size:w.heap.size≤w'.heap.size
 next:h.next≤h'.next
 uJ:∀id,id < h.next→φ' id=φ id
 pr:∀b,Pr φ h w b→Pr φ' h' w' b∧w'.heap[b]? =w.heap[b]?
 gh:φ'.gh=φ.gh∧∀b,φ.gh b→w'.heap[b]? =w.heap[b]?
theorem Ext.refl (φ:dp) (h:aa) (w:World):Ext φ h w φ h w:=⟨rfl,rfl,rfl,Nat.le_refl _,Nat.le_refl _,fun _ _=>rfl,fun _ hb=>⟨hb,rfl⟩,rfl,fun _ _=>rfl⟩
theorem Ext.trans {φ φ1 φ2:dp} {h h1 h2:aa} {w w1 w2:World} (a:Ext φ h w φ1 h1 w1) (b:Ext φ1 h1 w1 φ2 h2 w2):Ext φ h w φ2 h2 w2:=
 ⟨b.os.trans a.os,b.tape.trans a.tape,b.output.trans a.output,Nat.le_trans a.size b.size,Nat.le_trans a.next b.next,
  fun id hid=>(b.uJ id (Nat.lt_of_lt_of_le hid a.next)).trans (a.uJ id hid),fun x hx=>by
   obtain⟨h1,e1⟩:=a.pr x hx;obtain⟨h2,e2⟩:=b.pr x h1;exact⟨h2,e2.trans e1⟩,b.gh.1.trans a.gh.1,fun x hx=>(b.gh.2 x (by rw[a.gh.1];exact hx)).trans (a.gh.2 x hx)⟩
theorem RV.ext {φ φ':dp} {h h':aa} {w w':World} {v:AV} {cv:Value} (hv:dK φ h w v cv) (e:Ext φ h w φ' h' w'):dK φ' h' w' v cv:=
 hv.mono (fun id _ hid=>⟨e.uJ id hid,Nat.lt_of_lt_of_le hid e.next⟩) e.pr
def fv (P:Program) (X:World→Prop) (φ:dp) (h:aa) (w:World):Prop:=
 ∃w1:World,(w1.ShapedOpen P∧X w1)∧∀b,b < w1.heap.size→b < w.heap.size∧(φ.gh b∨Pr φ h w b)∧w.heap[b]? =w1.heap[b]?
theorem fv.ext {P:Program} {φ φ':dp} {h h':aa} {w w':World} (g:fv P X φ h w) (e:Ext φ h w φ' h' w'):fv P X φ' h' w':=by
 obtain⟨w1,h1,h2⟩:=g;refine⟨w1,h1,fun b hb=>?_⟩;obtain⟨g1,g2,g3⟩:=h2 b hb;refine⟨Nat.lt_of_lt_of_le g1 e.size,?_⟩;rcases g2 with g2 | g2
 ·exact⟨.inl (by rw[e.gh.1];exact g2),(e.gh.2 b g2).trans g3⟩
 ·exact⟨.inr (e.pr b g2).1,(e.pr b g2).2.trans g3⟩
def FR (φ:dp) (h:aa) (w:World) (fr:List AV) (tm:Array Value):Prop:=
 tm.size=fr.length∧∀t,dK φ h w (fr.getD t .undef) (tm.getD t undef)
theorem FR.ext {φ φ':dp} {h h':aa} {w w':World} {fr:List AV} {tm:Array Value} (hf:FR φ h w fr tm) (e:Ext φ h w φ' h' w'):FR φ' h' w' fr tm:=
 ⟨hf.1,fun t=>(hf.2 t).ext e⟩
theorem FR.put {φ:dp} {h:aa} {w:World} {fr:List AV} {tm:Array Value} (hf:FR φ h w fr tm) {v:AV} {cv:Value} (hv:dK φ h w v cv) (d:Nat):
 FR φ h w (fr.set d v) (tm.setIfInBounds d cv):=by
 refine⟨by simp[hf.1],fun t=>?_⟩;have ht:=hf.2 t;rw[List.getD_eq_getElem?_getD] at ht ⊢;rw[Array.getD_eq_getD_getElem?] at ht ⊢;rw[List.getElem?_set,Array.getElem?_setIfInBounds];by_cases hd:d=t
 ·subst hd;simp only[if_true,hf.1];by_cases hl:d < fr.length
  ·simpa[hl] using hv
  ·simp only[hl,if_false];exact .undef _
 ·simpa[hd] using ht
section inv
variable {φ:dp} {nx:Nat} {pr:Nat→Prop} {w:World} {cv:Value}
theorem RV.oU {id off:Nat} (h:RV φ nx pr w (.ptr id off) cv):cv=.pointer (some ⟨(φ id).eM,(φ id).base+off,none⟩)∧id < nx:=by
 cases h with
 | ptr _ _ h=>exact⟨rfl,h⟩
theorem RV.Ej {cs:List AV} (h:RV φ nx pr w (.ip cs) cv):∃b o,∃vs:Nat→Value,cv=.pointer (some ⟨b,o,none⟩)∧pr b∧AV.ai cs=0∧(∀j,(vs j).oneCell'=true)∧
 (∀j,j < cs.length→w.cell? ⟨b,o+j,none⟩=some (vs j))∧∀j (h:j < cs.length),RV φ nx pr w cs[j] (vs j):=by
 cases h with
 | ip _ b o vs hp hrf h1 hc hv=>exact⟨b,o,vs,rfl,hp,hrf,h1,hc,hv⟩
theorem RV.nU {xs:List AV} (h:RV φ nx pr w (.sl xs) cv):(∃a cap,xs=[]∧cv=.slice a 0 cap)∨
 ∃b o cap sz,∃vs:Nat→Nat→Value,cv=.slice (some ⟨b,o,none⟩) xs.length cap∧pr b∧xs.length≤cap∧AV.ai xs=0∧(∀i j,(vs i j).oneCell'=true)∧
   (∀i (h:i < xs.length),(xs[i]).cells?.map List.length=some sz)∧(∀i j,i < xs.length→j < sz→w.cell? ⟨b,o+i*sz+j,none⟩=some (vs i j))∧
   ∀i (h:i < xs.length) j (h':j < (xs[i]).cells.length),RV φ nx pr w ((xs[i]).cells[j]) (vs i j):=by
 cases h with
 | slnil a cap=>exact .inl ⟨a,cap,rfl,rfl⟩
 | sl _ b o cap sz vs hp hcap hrf h1 hsz hc hv=>exact .inr ⟨b,o,cap,sz,vs,rfl,hp,hcap,hrf,h1,hsz,hc,hv⟩
theorem RV.gW {id off len sz lb:Nat} (h:RV φ nx pr w (.vec id off len sz lb) cv):∃cap a,cv=.slice a len cap∧id < nx∧len≤cap∧lb≤cap∧off+cap*sz≤(φ id).room∧
 (0 < cap→a=some ⟨(φ id).eM,(φ id).base+off,none⟩):=by
 cases h with
 | vec _ _ _ _ _ cap a h hl hb hr ha=>exact⟨cap,a,rfl,h,hl,hb,hr,ha⟩
theorem RV.jX (h:RV φ nx pr w .aw cv):∃a,cv=.slice a 0 0:=by
 cases h with
 | aw a=>exact⟨a,rfl⟩
theorem RV.nt {id:Nat} (h:RV φ nx pr w (.map id) cv):cv=.map (some (φ id).eM)∧id < nx:=by
 cases h with
 | map _ h=>exact⟨rfl,h⟩
theorem RV.re (h:RV φ nx pr w .iC cv):cv=.map none:=by cases h;rfl
theorem RV.lO {cs:List AV} (h:RV φ nx pr w (.agg cs) cv):∃cvs:Array Value,cv=.agg cvs∧cvs.size=cs.length∧(∀j,(cvs.getD j default).oneCell'=true)∧
 ∀j (h:j < cs.length),RV φ nx pr w cs[j] (cvs.getD j default):=by
 cases h with
 | agg _ cvs hl h1 hv=>exact⟨cvs,rfl,hl,h1,hv⟩
theorem RV.l8 {cs:List AV} (h:RV φ nx pr w (.tuple cs) cv):∃cvs:Array Value,cv=.tuple cvs∧cvs.size=cs.length∧∀j (h:j < cs.length),RV φ nx pr w cs[j] (cvs.getD j default):=by
 cases h with
 | tuple _ cvs hl hv=>exact⟨cvs,rfl,hl,hv⟩
theorem RV.w8 {f:Nat} {caps:List AV} (h:RV φ nx pr w (.fn f caps) cv):∃cvs:Array Value,cv=.func (.func f) #[] cvs∧cvs.size=caps.length∧∀j (h:j < caps.length),RV φ nx pr w caps[j] (cvs.getD j default):=by
 cases h with
 | fn _ _ cvs hl hv=>exact⟨cvs,rfl,hl,hv⟩
theorem RV.A1 (h:RV φ nx pr w .jr cv):cv=.pointer none:=by cases h;rfl
theorem RV.B9 (h:RV φ nx pr w .jt cv):cv=.nilIface:=by cases h;rfl
theorem RV.xY (h:RV φ nx pr w .fQ cv):cv=.nilFunc:=by cases h;rfl
theorem RV.HP {t:Nat} {v:AV} (h:RV φ nx pr w (.iface t v) cv):∃c,cv=.iface t c∧RV φ nx pr w v c:=by
 cases h with
 | iface _ _ c hv=>exact⟨c,rfl,hv⟩
end inv
end Sz

/- The compiled form of the code, and the abstract run over it. No program is named here. -/
namespace Sz
open Go
inductive cI where
 | tmp (t:Nat)
 | const (v:AV)
 deriving Inhabited
inductive qR where
 | lZ (x:cI)
 | pick (c x y:cI)
 | box (x:cI)
 | iz (zero:List AV) (parts:List (Nat×Nat×cI))
 | tQ (sz len:Nat) (zero:List AV) (parts:List (Nat×cI))
 | ld (n:Option Nat) (x:cI)
 | st (n:Nat) (x v:cI)
 | P2 (x:cI)
 | bin (op:BinOp) (x y:cI)
 | beq (neg:Bool) (x y:cI)
 | K9 (kinds:List Nat) (neg:Bool) (x y:cI)
 | NQ (kind:Nat) (neg:Bool) (x y:cI)
 | un (op:UnOp) (x:cI)
 | K7 (k:IntKind) (x:cI)
 | J6 (x:cI)
 | CN (x:cI)
 | IU (x:cI)
 | Jc (x:cI)
 | Ra (t:Nat) (x:cI)
 | I9 (f:Nat) (caps:List cI)
 | QN
 | S9 (bytes:Nat) (zero:List AV) (l c:cI)
 | xt (x:cI) (lo hi:Option cI)
 | NS (sz:Nat) (x:cI) (lo hi mx:Option cI)
 | Qn (off:Nat) (x:cI)
 | P5 (off:Nat) (n:Option Nat) (x:cI)
 | Ou (sz:Nat) (x i:cI)
 | LA (x i:cI)
 | S5 (kd:Nat) (zero:AV) (ok:Bool) (m k:cI)
 | N0 (kd:Nat) (m k v:cI)
 | ext (x:cI) (i:Nat)
 | lens (x:cI)
 | uR (x:cI)
 | O8 (x:cI)
 | mx (x y:cI)
 | mn (x y:cI)
 | app (sz bytes:Nat) (x y:cI)
 | Rg (zero:List AV) (x:cI)
 | NB
 | Ee (neg:Bool) (x:cI)
 | K6 (len:Nat) (zero:List AV) (parts:List (Nat×cI))
 | y9 (x:cI)
 | die
 deriving Inhabited
inductive F6 where
 | op (a:qR)
 | call (f:Nat) (args:List cI)
 | hU (x:cI) (args:List cI)
 deriving Inhabited
structure aU where
 dst:Option Nat
 op:F6
 guard:Option (Nat×Bool):=none
 deriving Inhabited
inductive bF where
 | skip
 | aD (ops:List aU)
 | nS (ops:List aU) (chk:List (Nat×Nat))
 | seq (a b:bF)
 | cond (c:cI) (a b:bF)
 | block (id:Nat) (a:bF)
 | loop (live:List Bool) (a:bF)
 | exit (id:Nat) (live:List Bool)
 | ret (live:List Bool)
 deriving Inhabited
inductive AT where
 | tmp (t:Nat)
 | cell (t:Nat) (n:Option Nat)
 deriving Inhabited
structure ck where
 ntmps:Nat
 results:List AT
 eI:Bool
 code:bF
 deriving Inhabited
structure Env where
 fn:Nat→Option ck
 xG:Nat→List AV→Option AV
 zb:Nat→List AV→List bf→Option (AV×Option (List bf))
def qR.jO:qR→List cI
 | .lZ x | .box x | .ld _ x | .P2 x | .un _ x | .K7 _ x | .J6 x | .CN x | .IU x | .Jc x | .Ra _ x | .Qn _ x | .P5 _ _ x | .ext x _ | .lens x | .uR x | .O8 x | .Rg _ x | .Ee _ x | .y9 x=>[x]
 | .pick c x y=>[c,x,y]
 | .iz _ parts=>parts.map (·.2.2)
 | .tQ _ _ _ parts | .K6 _ _ parts=>parts.map (·.2)
 | .st _ x v=>[x,v]
 | .bin _ x y | .beq _ x y | .K9 _ _ x y | .NQ _ _ x y | .Ou _ x y | .LA x y | .mx x y | .mn x y | .app _ _ x y=>[x,y]
 | .I9 _ caps=>caps
 | .QN | .NB | .die=>[]
 | .S9 _ _ l c=>[l,c]
 | .xt x lo hi=>x::(lo.toList++hi.toList)
 | .NS _ x lo hi m3=>x::(lo.toList++(hi.toList++m3.toList))
 | .S5 _ _ _ m k=>[m,k]
 | .N0 _ m k v=>[m,k,v]
def F6.jO:F6→List cI
 | .op a=>a.jO
 | .call _ args=>args
 | .hU x args=>x::args
def cI.tmps:cI→List Nat
 | .tmp t=>[t]
 | .const _=>[]
def aU.reads (s:aU):List Nat:=(match s.guard with | some (t,_)=>[t] | none=>[])++s.op.jO.flatMap cI.tmps
def qR.still:qR→Bool
 | .lZ _ | .pick .. | .iz .. | .P2 _ | .bin .. | .beq .. | .K9 .. | .NQ .. | .un .. | .K7 .. | .J6 _ | .CN _ | .Ra .. | .I9 .. | .xt .. | .NS .. | .Qn .. | .P5 .. | .Ou .. | .LA .. | .ext .. | .lens _ | .uR _ | .mx .. | .mn .. | .NB | .Ee .. | .K6 .. | .y9 _=>true
 | _=>false
def aU.AR (s:aU):Bool:=match s.op with | .op (.ld ..)=>true | _=>false
def aU.mL (s:aU):Bool:=match s.op with | .op (.ld ..)=>false | .op o=>!o.still | _=>true
def cI.low:cI→Bool
 | .tmp _=>true
 | .const v=>v.refs==0
def aU.jd (s:aU):Bool:=match s.guard,s.op with
 | none,.op (.box x)=>x.low
 | none,.op (.tQ _ _ zero parts)=>AV.ai zero==0&&parts.all fun p=>p.2.low
 | _,_=>false
def cI.ev (fr:List AV):cI→AV
 | .tmp t=>fr.getD t .undef
 | .const v=>v
def putAt (cells:List AV) (off:Nat):List AV→List AV
 | []=>cells
 | c::cs=>putAt (cells.set off c) (off+1) cs
def iW (cells:List AV):List (Nat×Nat×AV)→Option (List AV)
 | []=>some cells
 | (off,sz,v)::rest=>
   match v.cells? with
   | some cs=>if cs.length=sz∧off+sz≤cells.length then iW (putAt cells off cs) rest else none
   | none=>none
def aa.row (h:aa) (id:Nat):Option (List AV):=
 match h.get id with
 | some (.row cs)=>some cs
 | _=>none
def aa.lN (h:aa) (id:Nat):Option (List (AV×AV)):=
 match h.get id with
 | some (.map es)=>some es
 | _=>none
def yV (op:BinOp) (k:IntKind) (x y:Int):Int:=
 let a:=BitVec.ofInt k.bits x
 let b:=BitVec.ofInt k.bits y
 match op with
 | .and=>k.wrap (a&&&b).toNat
 | .or=>k.wrap (a|||b).toNat
 | .xor=>k.wrap (a ^^^ b).toNat
 | _=>k.wrap (a&&&~~~b).toNat
def qJ (op:BinOp):AV→AV→Option AV
 | .int k a,.int k' b=>
   match op with
   | .shl=>if b < 0 then none else some (.int k (k.wrap (a*2 ^ min b.toNat k.bits)))
   | .shr=>if b < 0 then none else some (.int k (a.fdiv (2 ^ min b.toNat k.bits)))
   | op=>if k=k' then
    (match op with
    | .add=>some (.int k (k.wrap (a+b)))
    | .sub=>some (.int k (k.wrap (a - b)))
    | .mul=>some (.int k (k.wrap (a*b)))
    | .quo=>if b=0 then none else some (.int k (k.wrap (a.tdiv b)))
    | .rem=>if b=0 then none else some (.int k (a.tmod b))
    | .and | .or | .xor | .andNot=>some (.int k (yV op k a b))
    | .eql=>some (.bool (decide (a=b)))
    | .neq=>some (.bool (!decide (a=b)))
    | .lss=>some (.bool (decide (a < b)))
    | .leq=>some (.bool (decide (a≤b)))
    | .gtr=>some (.bool (decide (b < a)))
    | .geq=>some (.bool (decide (b≤a)))
    | _=>none) else none
 | .str a,.str b=>
   match op with
   | .add=>if a.length+b.length < 2 ^ 63 then some (.str (a++b)) else none
   | .eql=>some (.bool (a==b))
   | .neq=>some (.bool (!(a==b)))
   | .lss=>some (.bool (Op.bytesLess a b))
   | .leq=>some (.bool (Op.bytesLess a b||a==b))
   | .gtr=>some (.bool (!(Op.bytesLess a b||a==b)))
   | .geq=>some (.bool (!(Op.bytesLess a b)))
   | _=>none
 | _,_=>none
def ij:Nat→AV→AV→Option Bool
 | 0,.bool a,.bool b=>some (a==b)
 | 1,.int k a,.int k' b=>if k=k' then some (decide (a=b)) else none
 | 2,.str a,.str b=>some (a==b)
 | _,_,_=>none
def gz:List Nat→List AV→List AV→Option Bool
 | [],[],[]=>some true
 | k::ks,x::xs,y::ys=>
   match ij k x y,gz ks xs ys with
   | some a,some b=>some (a&&b)
   | _,_=>none
 | _,_,_=>none
def Gh:AV→Option Bool
 | .jr | .jt | .fQ | .iC=>some true
 | .ptr .. | .ip .. | .iface .. | .fn .. | .map ..=>some false
 | _=>none
def qF:Nat→AV→Option Bool
 | 0,.jr=>some true
 | 0,.ptr ..=>some false
 | 0,.ip _=>some false
 | 1,.jt=>some true
 | 1,.iface ..=>some false
 | 2,.fQ=>some true
 | 2,.fn ..=>some false
 | 3,.iC=>some true
 | 3,.map _=>some false
 | _,_=>none
def sliceB (n:Nat) (lo hi:Option AV):Option (Nat×Nat):=
 match (match hi with | none=>some n | some (.int _ i)=>(if 0≤i∧i≤(n:Int) then some i.toNat else none) | _=>none) with
 | none=>none
 | some h=>
   match (match lo with | none=>some 0 | some (.int _ i)=>(if 0≤i∧i≤(h:Int) then some i.toNat else none) | _=>none) with
   | none=>none
   | some l=>some (l,h)
def fP (n lb:Nat) (lo hi mx:Option AV):Option (Nat×Nat×Option Nat):=
 match mx with
 | some (.int _ i)=>if 0≤i∧i≤(max n lb:Nat) then (match hi with
  | some _=>(sliceB i.toNat lo hi).map fun p=>(p.1,p.2,some i.toNat)
  | none=>none) else none
 | some _=>none
 | none=>match hi with
   | none=>(sliceB n lo none).map fun p=>(p.1,p.2,none)
   | some _=>(sliceB (max n lb) lo hi).map fun p=>(p.1,p.2,none)
def aS (h:aa) (sz:Nat):AV→Option (Nat×List AV)
 | .aw=>some (0,[])
 | .sl xs=>if (xs.all fun x=>(x.cells?.map List.length)==some sz) then some (xs.length,xs.flatMap AV.cells) else none
 | .vec id off len s _=>
   match h.row id with
   | some cs=>if s=sz∧off+len*sz≤cs.length then some (len,(cs.drop off).take (len*sz)) else none
   | none=>none
 | .str s=>if sz=1 then some (s.length,s.map fun b=>.int .u8 b.toNat) else none
 | _=>none
def bytesOf:List AV→Option (List UInt8)
 | []=>some []
 | .int .u8 n::r=>(bytesOf r).map (UInt8.ofNat n.toNat::·)
 | _=>none
def pU (kd:Nat) (k:AV):List (AV×AV)→Option (Option AV)
 | []=>some none
 | (k',v)::r=>
   match ij kd k k' with
   | some true=>some (some v)
   | some false=>pU kd k r
   | none=>none
def xz (kd:Nat) (k v:AV):List (AV×AV)→Option (List (AV×AV))
 | []=>some [(k,v)]
 | (k',v')::r=>
   match ij kd k k' with
   | some true=>some ((k,v)::r)
   | some false=>(xz kd k v r).map ((k',v')::·)
   | none=>none
def Fg (h:aa) (n:Option Nat):AV→Option AV
 | .ptr id off=>
   match h.row id,n with
   | some cs,none=>cs[off]?
   | some cs,some n=>if off+n≤cs.length then some (.agg ((cs.drop off).take n)) else none
   | none,_=>none
 | .ip cs=>
   match n with
   | none=>cs[0]?
   | some n=>if n≤cs.length then some (.agg (cs.take n)) else none
 | _=>none
def bE (fr:List AV) (h:aa):qR→Option (AV×aa)
 | .lZ x=>some (x.ev fr,h)
 | .pick c x y=>match c.ev fr with
   | .bool b=>some (if b then x.ev fr else y.ev fr,h)
   | _=>none
 | .box x=>match (x.ev fr).cells? with
   | some cs=>some (.ptr h.next 0,h.alloc (.row cs))
   | none=>none
 | .iz zero parts=>(iW zero (parts.map fun p=>(p.1,p.2.1,p.2.2.ev fr))).map fun cs=>(.agg cs,h)
 | .tQ sz len zero parts=>(iW zero (parts.map fun p=>(p.1*sz,sz,p.2.ev fr))).map fun cs=>(.vec h.next 0 len sz len,h.alloc (.row cs))
 | .ld n x=>(Fg h n (x.ev fr)).map fun v=>(v,h)
 | .st n x v=>match x.ev fr,(v.ev fr).cells? with
   | .ptr id off,some vs=>match h.row id with
     | some cs=>if vs.length=n∧off+n≤cs.length then some (.undef,(h.set id (.row (putAt cs off vs))).mark id (v.ev fr)) else none
     | none=>none
   | _,_=>none
 | .P2 x=>match Gh (x.ev fr) with
   | some false=>some (x.ev fr,h)
   | _=>none
 | .bin op x y=>(qJ op (x.ev fr) (y.ev fr)).map fun v=>(v,h)
 | .beq neg x y=>match x.ev fr,y.ev fr with
   | .bool a,.bool b=>some (.bool (if neg then !(a==b) else a==b),h)
   | _,_=>none
 | .K9 kinds neg x y=>match x.ev fr,y.ev fr with
   | .agg a,.agg b=>(gz kinds a b).map fun r=>(.bool (if neg then !r else r),h)
   | _,_=>none
 | .NQ kind neg x y=>match qF kind (x.ev fr),qF kind (y.ev fr) with
   | some p,some true=>some (.bool (if neg then !p else p),h)
   | _,_=>none
 | .un op x=>match op,x.ev fr with
   | .not,.bool b=>some (.bool (!b),h)
   | .neg,.int k n=>some (.int k (k.wrap (0 - n)),h)
   | .xor,.int k n=>some (.int k (yV .xor k (if k.signed then -1 else k.max) n),h)
   | _,_=>none
 | .K7 k x=>match x.ev fr with
   | .int _ n=>some (.int k (k.wrap n),h)
   | _=>none
 | .J6 x=>match x.ev fr with
   | .str s=>some (.str s,h)
   | _=>none
 | .CN x=>match x.ev fr with
   | .int _ n=>if 0≤n∧n < 128 then some (.str [UInt8.ofNat n.toNat],h) else none
   | _=>none
 | .IU x=>match x.ev fr with
   | .str s=>some (.sl (s.map fun b=>.int .u8 b.toNat),h)
   | _=>none
 | .Jc x=>match aS h 1 (x.ev fr),x.ev fr with
   | _,.str _=>none
   | some (_,cs),_=>(bytesOf cs).map fun s=>(.str s,h)
   | none,_=>none
 | .K6 _ zero parts=>match iW zero (parts.map fun p=>(p.1*1,1,p.2.ev fr)) with
   | some cs=>if (bytesOf cs).isSome then some (.sl cs,h) else none
   | none=>none
 | .y9 x=>match x.ev fr with
   | .sl cs=>(bytesOf cs).map fun s=>(.str s,h)
   | _=>none
 | .Ra t x=>some (.iface t (x.ev fr),h)
 | .I9 f caps=>some (.fn f (caps.map (·.ev fr)),h)
 | .QN=>some (.map h.next,h.alloc (.map []))
 | .S9 bytes zero l c=>match l.ev fr,c.ev fr with
   | .int .i64 l,.int .i64 c=>if 0≤l∧l≤c∧c*bytes≤140737488355328∧c < 2 ^ 63 then
    some (.vec h.next 0 l.toNat zero.length c.toNat,h.alloc (.row (List.replicate c.toNat zero).flatten)) else none
   | _,_=>none
 | .xt x lo hi=>match x.ev fr with
   | .str s=>(sliceB s.length (lo.map (·.ev fr)) (hi.map (·.ev fr))).map fun p=>(.str ((s.take p.2).drop p.1),h)
   | _=>none
 | .NS sz x lo hi mx=>
   match x.ev fr with
    | .aw=>(fP 0 0 (lo.map (·.ev fr)) (hi.map (·.ev fr)) (mx.map (·.ev fr))).map fun _=>(.aw,h)
    | .sl xs=>if (xs.all fun x=>(x.cells?.map List.length)==some sz) then
     (fP xs.length xs.length (lo.map (·.ev fr)) (hi.map (·.ev fr)) (mx.map (·.ev fr))).map fun p=>(if p.2.2=some p.1 then .aw else .sl ((xs.take p.2.1).drop p.1),h) else none
    | .vec id off len s lb=>if s=sz then
     (fP len lb (lo.map (·.ev fr)) (hi.map (·.ev fr)) (mx.map (·.ev fr))).map fun p=>
      (if p.2.2=some p.1 then .aw else .vec id (off+p.1*sz) (p.2.1 - p.1) sz (p.2.2.getD lb - p.1),h) else none
    | _=>none
 | .Qn off x=>match x.ev fr with
   | .ptr id o=>some (.ptr id (o+off),h)
   | .ip cs=>some (.ip (cs.drop off),h)
   | _=>none
 | .P5 off n x=>match x.ev fr with
   | .agg cs=>match n with
     | none=>(cs[off]?).map fun v=>(v,h)
     | some n=>if off+n≤cs.length then some (.agg ((cs.drop off).take n),h) else none
   | _=>none
 | .Ou sz x i=>match x.ev fr,i.ev fr with
   | .sl xs,.int _ i=>if 0≤i then (match xs[i.toNat]? with
    | some v=>(match v.cells? with
      | some cs=>if cs.length=sz then some (.ip cs,h) else none
      | none=>none)
    | none=>none) else none
   | .vec id off len s _,.int _ i=>if 0≤i∧i < len∧s=sz then some (.ptr id (off+i.toNat*sz),h) else none
   | _,_=>none
 | .LA x i=>match x.ev fr,i.ev fr with
   | .str s,.int _ i=>if 0≤i then (s[i.toNat]?).map fun b=>(.int .u8 b.toNat,h) else none
   | _,_=>none
 | .S5 kd zero ok m k=>match (match m.ev fr with | .iC=>some [] | .map id=>h.lN id | _=>none) with
   | some es=>(pU kd (k.ev fr) es).map fun r=>(match r with
     | some v=>(if ok then .tuple [v,.bool true] else v,h)
     | none=>(if ok then .tuple [zero,.bool false] else zero,h))
   | none=>none
 | .N0 kd m k v=>match m.ev fr with
   | .map id=>match h.lN id with
     | some es=>(xz kd (k.ev fr) (v.ev fr) es).map fun es'=>(.undef,((h.set id (.map es')).mark id (v.ev fr)).mark id (k.ev fr))
     | none=>none
   | _=>none
 | .ext x i=>match x.ev fr with
   | .tuple vs=>(vs[i]?).map fun v=>(v,h)
   | _=>none
 | .lens x=>match x.ev fr with
   | .str s=>some (.int .i64 s.length,h)
   | _=>none
 | .uR x=>match x.ev fr with
   | .aw=>some (.int .i64 0,h)
   | .sl xs=>some (.int .i64 xs.length,h)
   | .vec _ _ n _ _=>some (.int .i64 n,h)
   | _=>none
 | .O8 x=>match x.ev fr with
   | .iC=>some (.int .i64 0,h)
   | .map id=>(h.lN id).map fun es=>(.int .i64 es.length,h)
   | _=>none
 | .mx x y=>match x.ev fr,y.ev fr with
   | .int k a,.int _ b=>some (.int k (if a < b then b else a),h)
   | _,_=>none
 | .mn x y=>match x.ev fr,y.ev fr with
   | .int k a,.int _ b=>some (.int k (if b < a then b else a),h)
   | _,_=>none
 | .app sz bytes x y=>match aS h sz (y.ev fr) with
   | none=>none
   | some (n,news)=>
     match x.ev fr with
     | .aw=>if n=0 then some (.aw,h) else
       if n*bytes≤140737488355328∧n < 2 ^ 63 then some (.vec h.next 0 n sz n,h.alloc (.row news)) else none
     | .vec id off len s lb=>match h.row id with
       | some cs=>if s=sz∧off+len*sz≤cs.length then
        if n=0 then some (.vec id off len s lb,h) else
        if len+n≤lb∧off+(len+n)*sz≤cs.length then some (.vec id off (len+n) sz lb,(h.set id (.row (putAt cs (off+len*sz) news))).mark id (.agg news)) else
        if (len+n)*bytes≤140737488355328∧len+n < 2 ^ 63 then
         some (.vec h.next 0 (len+n) sz (len+n),(h.set id .dead).alloc (.row ((cs.drop off).take (len*sz)++news))) else none
         else none
       | none=>none
     | _=>none
 | .NB=>some (.aw,h)
 | .Ee neg x=>match x.ev fr with
   | .sl (_::_)=>some (.bool neg,h)
   | .vec _ _ (_+1) _ _=>some (.bool neg,h)
   | _=>none
 | .die=>none
 | .Rg zero x=>match x.ev fr with
   | .aw=>some (.tuple [],h)
   | .vec id off len s _=>match h.row id with
     | some cs=>if s=zero.length∧off+len*s≤cs.length then some (.tuple [],(h.set id (.row (putAt cs off (List.replicate len zero).flatten))).mark id (.agg zero)) else none
     | none=>none
   | _=>none
def cG (fr:List AV):Option (Nat×Bool)→Option Bool
 | none=>some false
 | some (t,want)=>
   match fr[t]? with
   | some (.bool b)=>some (b !=want)
   | some (.tuple [])=>some true
   | _=>none
def eG (fr:List AV):Option Nat→AV→List AV
 | some d,v=>fr.set d v
 | none,_=>fr
def cd (C:Nat→List AV→aa→Option (AV×aa)) (s:aU) (fr:List AV) (h:aa):Option (List AV×aa):=
 match cG fr s.guard with
 | none=>none
 | some true=>some (eG fr s.dst (.tuple []),h)
 | some false=>
   match s.op with
   | .call f args=>(C f (args.map (·.ev fr)) h).map fun p=>(eG fr s.dst p.1,p.2)
   | .hU x args=>match x.ev fr with
     | .fn f caps=>(C f (args.map (·.ev fr)++caps) h).map fun p=>(eG fr s.dst p.1,p.2)
     | _=>none
   | .op o=>(bE fr h o).map fun p=>(eG fr s.dst p.1,p.2)
def cB (C:Nat→List AV→aa→Option (AV×aa)):List aU→List AV→aa→Option (List AV×aa)
 | [],fr,h=>some (fr,h)
 | s::rest,fr,h=>
   match cd C s fr h with
   | some (fr',h')=>cB C rest fr' h'
   | none=>none
def uV (s:aU) (fr:List AV):Nat:=
 match s.op with
 | .op (.ld _ x)=>match x.ev fr with
   | .ptr id _=>id+1
   | _=>0
 | .op (.st _ x _)=>match x.ev fr with
   | .ptr id _=>id+1
   | _=>0
 | _=>0
mutual
def AV.Am:AV→AV→Bool
 | .undef,.undef=>true
 | .bool a,.bool b=>a==b
 | .int k n,.int k' n'=>decide (k=k')&&decide (n=n')
 | .str a,.str b=>decide (a=b)
 | .jr,.jr=>true
 | .ptr i o,.ptr j q=>Nat.beq i j&&Nat.beq o q
 | .ip a,.ip b=>AV.tg a b
 | .aw,.aw=>true
 | .sl a,.sl b=>AV.tg a b
 | .vec i o l s b,.vec i' o' l' s' b'=>Nat.beq i i'&&Nat.beq o o'&&Nat.beq l l'&&Nat.beq s s'&&Nat.beq b b'
 | .iC,.iC=>true
 | .map i,.map j=>Nat.beq i j
 | .fQ,.fQ=>true
 | .fn f a,.fn g b=>Nat.beq f g&&AV.tg a b
 | .jt,.jt=>true
 | .iface t a,.iface u b=>Nat.beq t u&&a.Am b
 | .agg a,.agg b=>AV.tg a b
 | .tuple a,.tuple b=>AV.tg a b
 | _,_=>false
def AV.tg:List AV→List AV→Bool
 | [],[]=>true
 | a::r,b::s=>a.Am b&&AV.tg r s
 | _,_=>false
end
def F3:Option bf→Option bf→Bool
 | some (.row a),some (.row b)=>AV.tg a b
 | _,_=>false
def nL (C:Nat→List AV→aa→Option (AV×aa)):List aU→List AV→aa→Option (List AV×aa×List (Nat×aa×aa))
 | [],fr,h=>some (fr,h,[])
 | s::rest,fr,h=>
   match cd C s fr {h with md:=h.next} with
   | some (fr',h')=>(nL C rest fr' {h' with md:=min h.md h'.md}).map fun p=>(p.1,p.2.1,(uV s fr,h,h')::p.2.2)
   | none=>none
def AS (tr:List (Nat×aa×aa)) (chk:List (Nat×Nat)):Bool:=chk.all fun p=>
 match tr[p.1]?,tr[p.2]? with
 | some a,some b=>decide (a.1≤b.2.2.md)||(decide (0 < b.1)&&!(a.1==b.1))||(decide (0 < a.1)&&F3 (b.2.1.get (a.1 - 1)) (b.2.2.get (a.1 - 1)))
 | _,_=>false
inductive Ex where
 | normal
 | exit (id:Nat)
 | ret
 deriving DecidableEq,Inhabited
def clear:List Bool→List AV→List AV
 | b::bs,v::vs=>(if b then v else .undef)::clear bs vs
 | _,vs=>vs
def AV.top:AV→Option Nat
 | .ptr id _=>some id
 | .vec id _ _ _ _=>some id
 | .map id=>some id
 | _=>none
def keeps (n0:Nat):List AV→List Nat→List Nat
 | [],acc=>acc
 | v::r,acc=>match v.top with
   | some id=>if n0≤id∧acc.contains id=false then keeps n0 r (acc++[id]) else keeps n0 r acc
   | none=>keeps n0 r acc
def lJ (n0:Nat) (ks:List Nat) (id:Nat):Nat:=if id < n0 then id else n0+ks.idxOf id
def cN (n0:Nat) (ks:List Nat):AV→AV
 | .ptr id off=>.ptr (lJ n0 ks id) off
 | .vec id off len sz lb=>.vec (lJ n0 ks id) off len sz lb
 | .map id=>.map (lJ n0 ks id)
 | v=>v
def mT (n:Nat):bf→Bool
 | .row cs=>decide (AV.ai cs≤n)
 | .map es=>es.all fun e=>decide (e.1.refs≤n)&&decide (e.2.refs≤n)
 | .dead=>false
def kj (h:aa) (n0:Nat):List Nat→Option (List bf)
 | []=>some []
 | id::r=>match h.get id,kj h n0 r with
   | some o,some os=>if mT n0 o then some (o::os) else none
   | _,_=>none
def gi:bf→List AV
 | .row cs=>cs
 | .map es=>es.flatMap fun e=>[e.1,e.2]
 | .dead=>[]
def fZ:List bf→List AV
 | []=>[]
 | o::r=>gi o++fZ r
def lR (n0:Nat) (ks:List Nat):bf→bf
 | .row cs=>.row (cs.map (cN n0 ks))
 | .map es=>.map (es.map fun e=>(cN n0 ks e.1,cN n0 ks e.2))
 | .dead=>.dead
def nv (n0:Nat) (v:AV):Bool:=v.top.isSome||decide (v.refs≤n0)
def fb (n0:Nat) (o:bf):Bool:=(gi o).all fun v=>decide (v.refs≤n0)
def Al (n0:Nat) (fr:List AV) (h:aa):List AV×aa:=
 match kj h n0 (keeps n0 (fZ (h.fi.drop (h.next - n0))) (keeps n0 fr [])) with
 | some os=>if n0≤h.next∧fr.all (nv n0)=true∧(fZ (h.fi.drop (h.next - n0))).all (nv n0)=true∧((h.fi.drop (h.next - n0)).drop (n0 - h.wl)).all (fb n0)=true then
  (fr.map (cN n0 (keeps n0 (fZ (h.fi.drop (h.next - n0))) (keeps n0 fr []))),
   ⟨n0+os.length,os.reverse++(h.fi.drop (h.next - n0)).map (lR n0 (keeps n0 (fZ (h.fi.drop (h.next - n0))) (keeps n0 fr []))),h.wl,min h.md h.wl⟩) else (fr,h)
 | none=>(fr,h)
def Bi (n0:Nat) (fr:List AV) (h:aa):List AV×aa:=
 match kj h n0 (keeps n0 fr []) with
 | some os=>if n0≤h.wl∧n0≤h.next∧(fr.all fun v=>v.top.isSome||decide (v.refs≤n0))=true then
  (fr.map (cN n0 (keeps n0 fr [])),{h with next:=n0+os.length,fi:=os.reverse++h.fi.drop (h.next - n0)}) else (fr,h)
 | none=>(fr,h)
def gc (n0:Nat) (fr:List AV) (h:aa):List AV×aa:=if n0≤h.wl then Bi n0 fr h else Al n0 fr h
def mE (B:List AV→aa→Option (Ex×List AV×aa)) (live:List Bool) (n0:Nat):Nat→List AV→aa→Option (Ex×List AV×aa)
 | 0,_,_=>none
 | n+1,fr,h=>
   match B (gc n0 (clear live fr) h).1 (gc n0 (clear live fr) h).2 with
   | some (.normal,fr',h')=>mE B live n0 n fr' h'
   | r=>r
def aT (C:Nat→List AV→aa→Option (AV×aa)) (n:Nat):bF→List AV→aa→Option (Ex×List AV×aa)
 | .skip,fr,h=>some (.normal,fr,h)
 | .aD ops,fr,h=>(cB C ops fr h).map fun p=>(.normal,p.1,p.2)
 | .nS ops chk,fr,h=>
   match nL C ops fr h with
   | some (fr',h',tr)=>if AS tr chk then some (.normal,fr',h') else none
   | none=>none
 | .seq a b,fr,h=>
   match aT C n a fr h with
   | some (.normal,fr',h')=>aT C n b fr' h'
   | r=>r
 | .cond c a b,fr,h=>
   match c.ev fr with
   | .bool t=>if t then aT C n a fr h else aT C n b fr h
   | _=>none
 | .block id a,fr,h=>
   match aT C n a fr h with
   | some (.exit i,fr',h')=>some (if i=id then .normal else .exit i,fr',h')
   | r=>r
 | .loop live a,fr,h=>(mE (aT C n a) live h.next n fr {h with wl:=h.next}).map fun r=>(r.1,(gc h.next r.2.1 r.2.2).1,{(gc h.next r.2.1 r.2.2).2 with wl:=min h.wl (gc h.next r.2.1 r.2.2).2.wl})
 | .exit id live,fr,h=>some (.exit id,clear live fr,h)
 | .ret live,fr,h=>some (.ret,clear live fr,h)
def pH (fr:List AV) (h:aa):AT→Option AV
 | .tmp t=>some (fr.getD t .undef)
 | .cell t n=>Fg h n (fr.getD t .undef)
def fO (fr:List AV) (h:aa):List AT→Option (List AV)
 | []=>some []
 | r::rs=>match pH fr h r,fO fr h rs with
   | some v,some vs=>some (v::vs)
   | _,_=>none
def chunk (sz:Nat):Nat→List AV→List AV
 | 0,_=>[]
 | n+1,cs=>(if sz=1 then (cs.headD .undef) else .agg (cs.take sz))::chunk sz n (cs.drop sz)
def ik (F:AV→Option (AV×List Nat)):List AV→Option (List AV×List Nat)
 | []=>some ([],[])
 | v::r=>
   match F v,ik F r with
   | some (v',i),some (r',j)=>some (v'::r',i++j)
   | _,_=>none
def hO (h:aa) (n0:Nat):Nat→AV→Option (AV×List Nat)
 | 0,_=>none
 | d+1,v=>
   match v with
   | .vec id off len sz lb=>
     if id < n0 then some (.vec id off len sz lb,[]) else
     match h.row id with
     | some cs=>if off+len*sz≤cs.length∧sz≠0 then
      (match ik (hO h n0 d) ((cs.drop off).take (len*sz)) with
      | some (cs',ids)=>if AV.ai cs'=0∧(cs'.all fun c=>c.cells?.map List.length==some 1) then some (.sl (chunk sz len cs'),id::ids) else none
      | none=>none) else none
     | none=>none
   | .agg cs=>(ik (hO h n0 d) cs).map fun p=>(.agg p.1,p.2)
   | .tuple cs=>(ik (hO h n0 d) cs).map fun p=>(.tuple p.1,p.2)
   | v=>some (v,[])
def kill (h:aa):List Nat→aa
 | []=>h
 | id::r=>kill (h.set id .dead) r
def finish (eI:Bool) (h0:aa) (v:AV) (h:aa):AV×aa:=
 if eI then (v,{h with wl:=min h0.wl h.wl,md:=min h0.md h.md}) else
 match hO h h0.next 8 v with
 | none=>(v,{h with wl:=min h0.wl h.wl,md:=min h0.md h.md})
 | some (v',ids)=>
   if h0.next≤h.wl∧v'.refs≤h0.next then (v',{h.gM h0.next with wl:=h0.wl,md:=if h.md < h0.next then min h0.md h.md else h0.md})
   else (v',{kill h ids with wl:=min h0.wl h.wl,md:=min h0.md h.md})
def oneOf:List AV→AV
 | [v]=>v
 | vs=>.tuple vs
def nG:AV→Bool
 | .bool _ | .int .. | .str _ | .jr | .aw | .iC | .fQ | .jt=>true
 | _=>false
def mc:AV→Bool
 | .tuple vs=>vs.all nG
 | .agg vs=>vs.all nG
 | v=>nG v
def sig (g:Nat→Nat):AV→AV
 | .ptr id off=>.ptr (g id) off
 | .vec id off len sz lb=>.vec (g id) off len sz lb
 | .map id=>.map (g id)
 | v=>v
def eR (g:Nat→Nat):bf→bf
 | .row cs=>.row (cs.map (sig g))
 | .map es=>.map (es.map fun e=>(sig g e.1,sig g e.2))
 | .dead=>.dead
def bf.refs:bf→Nat
 | .row cs=>AV.ai cs
 | .map es=>AV.ai (es.flatMap fun e=>[e.1,e.2])
 | .dead=>0
def s8 (h:aa) (k:Nat) (o:bf):aa:={h.set k o with wl:=if o.refs≤k+1 then h.wl else min h.wl k}
def kZ (g:Nat→Nat):List Nat→List bf→aa→aa
 | k::ks,o::os,h=>kZ g ks os (s8 h k (eR g o))
 | _,_,h=>h
def qZ (g:Nat→Nat):List bf→aa→aa
 | o::os,h=>qZ g os (h.alloc (eR g o))
 | [],h=>h
def j5 (h:aa) (τ:List Nat) (i:Nat):Nat:=if i < τ.length then τ.getD i 0 else h.next+(i - τ.length)
def join (h:aa) (τ:List Nat) (os:List bf):aa:=
 qZ (j5 h τ) (os.drop τ.length) (kZ (j5 h τ) τ (os.take τ.length) h)
def p7:List Nat→Nat→Bool
 | [],_=>false
 | k::r,id=>if k=id then true else p7 r id
def qH:List Nat→Nat→Nat
 | [],_=>0
 | k::r,id=>if k=id then 0 else qH r id+1
def fc:List AV→List Nat→List Nat
 | [],acc=>acc
 | v::r,acc=>match v.top with
   | some j=>if p7 acc j then fc r acc else fc r (acc++[j])
   | none=>fc r acc
def okV (τ:List Nat) (v:AV):Bool:=match v.top with
 | some id=>p7 τ id
 | none=>v.refs==0
def okO (τ:List Nat):bf→Bool
 | .row cs=>cs.all (okV τ)
 | .map es=>es.all fun e=>okV τ e.1&&okV τ e.2
 | .dead=>false
def nA (h:aa) (τ:List Nat):List Nat→Option (List bf)
 | []=>some []
 | id::r=>match h.get id,nA h τ r with
   | some o,some os=>if okO τ o then some (eR (qH τ) o::os) else none
   | _,_=>none
def jB (h:aa) (τ:List Nat):Option (List bf)→aa
 | none=>h
 | some os'=>join h τ os'
def kT (M:List AV→List bf→Option (AV×Option (List bf))) (args:List AV) (h:aa):Option (AV×aa):=
 match args with
 | .ptr k 0::rest=>match h.get k with
   | some (.row cs)=>match nA h (fc cs [k]) (fc cs [k]) with
     | some os=>if AV.ai rest=0 then (M (.ptr 0 0::rest) os).map fun r=>(r.1,jB h (fc cs [k]) r.2) else none
     | none=>none
   | _=>none
 | _=>none
def au (E:Env):Nat→Nat→List AV→aa→Option (AV×aa)
 | 0,_,_,_=>none
 | n+1,f,args,h=>
   match (ik (hO h 0 8) args).bind fun p=>(E.xG f p.1).map fun v=>(v,if mc v then h else kill h p.2) with
   | some r=>some r
   | none=>
   match kT (E.zb f) args h with
   | some r=>some r
   | none=>
     match E.fn f with
     | none=>none
     | some F=>
       match aT (au E n) n F.code (args++List.replicate (F.ntmps - args.length) .undef) {h with wl:=h.next,md:=h.next} with
       | some (.exit _,_,_)=>none
       | some (_,fr,h')=>(fO fr h' F.results).map fun vs=>finish F.eI h (oneOf vs) h'
       | none=>none
end Sz

/- The compiler: the model's code to the abstract run's. No program is named here. -/
namespace Sz
open Go
def uo:Value→Option AV
 | .bool b=>some (.bool b)
 | .int k n=>some (.int k n)
 | .string s=>some (.str s.data.toList)
 | .pointer none=>some .jr
 | .slice none 0 0=>some .aw
 | .map none=>some .iC
 | .nilFunc=>some .fQ
 | .nilIface=>some .jt
 | .func (.func f) ⟨[]⟩ ⟨[]⟩=>some (.fn f [])
 | _=>none
def dm {α β:Type} (f:α→Option β):List α→Option (List β)
 | []=>some []
 | x::r=>match f x,dm f r with
   | some y,some s=>some (y::s)
   | _,_=>none
def Ap:Value→Option AV
 | .agg cs=>(dm uo cs.toList).map .agg
 | .tuple ⟨[]⟩=>some (.tuple [])
 | v=>uo v
def eD:Operand→Option cI
 | .tmp t=>some (.tmp t)
 | .const v=>(Ap v).map .const
 | .func f=>some (.const (.fn f []))
 | .global _=>none
def jO (xs:Array Operand):Option (List cI):=dm eD xs.toList
def uT:Option Operand→Option (Option cI)
 | none=>some none
 | some x=>(eD x).map some
def za (P:Program) (t:TypeId):Option (Option Nat):=
 match P.underlying t with
 | none=>none
 | some (.struct _)=>(P.info? t).map fun i=>some i.size
 | some (.array ..)=>(P.info? t).map fun i=>some i.size
 | some _=>some none
def kA (P:Program) (t:TypeId):Option (List AV):=((P.info? t).bind (·.zero)).bind fun z=>(Ap z).bind AV.cells?
def zeroV (P:Program) (t:TypeId):Option AV:=((P.info? t).bind (·.zero)).bind Ap
def BE (P:Program) (t:TypeId):Option Nat:=
 match P.underlying t with
 | some .bool=>some 0
 | some (.int _)=>some 1
 | some .string=>some 2
 | _=>none
def ee (P:Program):List Field→Nat→Option (List Nat)
 | [],_=>some []
 | f::r,i=>if f.name≠ "_" ∧f.offset=i then (match BE P f.type,ee P r (i+1) with
   | some k,some ks=>some (k::ks)
   | _,_=>none) else none
def sw:Operand→Bool
 | .const .nilIface | .const (.pointer none) | .const .nilFunc | .const (.map none)=>true
 | _=>false
def placesOf (P:Program) (fs:Array Field):Option (List (Nat×Nat)):=fs.toList.mapM fun f=>(P.info? f.type).map fun i=>(f.offset,i.size)
def kL (places:List (Nat×Nat)):List (Nat×Operand)→Option (List (Nat×Nat×cI))
 | []=>some []
 | (i,x)::r=>
   match places[i]?,eD x,kL places r with
   | some p,some x',some r'=>some ((p.1,p.2,x')::r')
   | _,_,_=>none
def pj (op:BinOp) (k:Nat) (x' y':cI) (y:Operand):Option qR:=
 if sw y then
  (match op with
  | .eql=>some (.NQ k false x' y')
  | .neq=>some (.NQ k true x' y')
  | _=>none) else none
def Fu (P:Program) (op:BinOp) (t:TypeId) (x y:Operand):Option qR:=
 match eD x,eD y with
 | some x',some y'=>
   match P.underlying t with
   | some (.int _) | some .string=>some (.bin op x' y')
   | some .bool=>(match op with
    | .eql=>some (.beq false x' y')
    | .neq=>some (.beq true x' y')
    | _=>none)
   | some (.struct fs)=>(match ee P fs.toList 0 with
     | some ks=>if P.eqGuardType P.depth t=false∧P.stoodInHeld t=false then
       (match op with
       | .eql=>some (.K9 ks false x' y')
       | .neq=>some (.K9 ks true x' y')
       | _=>none) else none
     | none=>none)
   | some (.pointer _)=>pj op 0 x' y' y
   | some (.interface _)=>pj op 1 x' y' y
   | some (.func ..)=>pj op 2 x' y' y
   | some (.map ..)=>pj op 3 x' y' y
   | some (.slice _)=>(match op,y with
     | .eql,.const (.slice none 0 0)=>some (.Ee false x')
     | .neq,.const (.slice none 0 0)=>some (.Ee true x')
     | _,_=>none)
   | _=>none
 | _,_=>none
def Cq (P:Program) (s d:TypeId) (x:Operand):Option qR:=
 match eD x,P.underlying s,P.underlying d with
 | some x',some (.int _),some (.int k)=>some (.K7 k x')
 | some x',some (.int _),some .string=>some (.CN x')
 | some x',some .string,some .string=>some (.J6 x')
 | some x',some .string,some (.slice e)=>(match P.underlying e with | some (.int .u8)=>some (.IU x') | _=>none)
 | some x',some (.slice e),some .string=>(match P.underlying e with | some (.int .u8)=>some (.Jc x') | _=>none)
 | _,_,_=>none
def cR (P:Program):Op→Option qR
 | .move x | .assign x=>(eD x).map .lZ
 | .pick c x y=>match eD c,eD x,eD y with
   | some c',some x',some y'=>some (.pick c' x' y')
   | _,_,_=>none
 | .alloc t=>(kA P t).map fun z=>.box (.const (.agg z))
 | .box _ x=>(eD x).map .box
 | .build t parts=>match P.underlying t,kA P t with
   | some (.struct fs),some z=>match placesOf P fs with
     | some places=>(kL places parts.toList).map fun ps=>.iz z ps
     | none=>none
   | _,_=>none
 | .buildSlice t len parts=>if len=0∧parts.isEmpty then (match P.underlying t with
  | some (.slice e)=>(P.info? e).map fun _=>.NB
  | _=>none) else match P.underlying t with
   | some (.slice e)=>match P.info? e,kA P e,dm (fun p=>(eD p.2).map fun x=>(p.1,x)) parts.toList with
     | some i,some z,some ps=>if len*i.size≤2 ^ 24∧z.length=i.size then some (.tQ i.size len ((List.range (len*i.size)).map fun j=>z.getD (j % i.size) .undef) ps) else none
     | _,_,_=>none
   | _=>none
 | .load t x=>match eD x,za P t with
   | some x',some n=>some (.ld n x')
   | _,_=>none
 | .store t x v=>match eD x,eD v,P.info? t with
   | some x',some v',some i=>some (.st i.size x' v')
   | _,_,_=>none
 | .nilCheck x=>(eD x).map .P2
 | .binOp op t x y _=>Fu P op t x y
 | .unOp op _ x=>(eD x).map (.un op)
 | .convert s d x=>Cq P s d x
 | .makeInterface t x=>match eD x,P.underlying t with
   | some _,some (.interface _)=>none
   | some x',some _=>some (.Ra t x')
   | _,_=>none
 | .makeFunc (.func f) first caps=>if first.isEmpty then (jO caps).map (.I9 f) else none
 | .makeMap _ none=>some .QN
 | .makeSlice t l c=>match P.underlying t,eD l,eD c with
   | some (.slice e),some l',some c'=>match P.info? e,kA P e with
     | some i,some z=>if z.length=i.size then some (.S9 i.bytes z l' c') else none
     | _,_=>none
   | _,_,_=>none
 | .slice t x lo hi mx=>match P.underlying t,eD x,uT lo,uT hi,uT mx with
   | some .string,some x',some lo',some hi',some none=>some (.xt x' lo' hi')
   | some (.slice e),some x',some lo',some hi',some mx'=>(P.info? e).map fun i=>.NS i.size x' lo' hi' mx'
   | _,_,_,_,_=>none
 | .fieldAddr s x f=>match P.underlying s,eD x with
   | some (.struct fs),some x'=>match fs[f]? with
     | some fd=>match P.info? fd.type with
       | some i=>if i.size≠0 then some (.Qn fd.offset x') else none
       | none=>none
     | none=>none
   | _,_=>none
 | .field t x f=>match P.underlying t,eD x with
   | some (.struct fs),some x'=>match fs[f]? with
     | some fd=>(za P fd.type).map fun n=>.P5 fd.offset n x'
     | none=>none
   | _,_=>none
 | .indexAddr t x i=>match P.underlying t,eD x,eD i with
   | some (.slice e),some x',some i'=>(P.info? e).map fun inf=>.Ou inf.size x' i'
   | _,_,_=>none
 | .index t x i=>match P.underlying t,eD x,eD i with
   | some .string,some x',some i'=>some (.LA x' i')
   | _,_,_=>none
 | .lookup t m k ok=>match P.underlying t,eD m,eD k with
   | some (.map kt e),some m',some k'=>(match P.underlying kt,zeroV P e with
     | some (.int _),some z=>some (.S5 1 z ok m' k')
     | _,_=>none)
   | _,_,_=>none
 | .mapUpdate t m k v=>match P.underlying t,eD m,eD k,eD v with
   | some (.map kt _),some m',some k',some v'=>(match P.underlying kt with
     | some (.int _)=>some (.N0 1 m' k' v')
     | _=>none)
   | _,_,_,_=>none
 | .extract x i=>(eD x).map fun x'=>.ext x' i
 | .call {callee:=.builtin b,args,argTypes}=>match b,args.toList,argTypes.toList with
   | .len,[x],[t]=>match P.underlying t with
     | some .string=>(eD x).map .lens
     | some (.slice _)=>(eD x).map .uR
     | some (.map ..)=>(eD x).map .O8
     | _=>none
   | .clear,[x],[t]=>match P.underlying t,eD x with
     | some (.slice e),some x'=>match P.info? e,kA P e with
       | some i,some z=>if z.length=i.size then some (.Rg z x') else none
       | _,_=>none
     | _,_=>none
   | .max,[x,y],_=>match eD x,eD y with
     | some x',some y'=>some (.mx x' y')
     | _,_=>none
   | .min,[x,y],_=>match eD x,eD y with
     | some x',some y'=>some (.mn x' y')
     | _,_=>none
   | .append,[x,y],[t,u]=>match P.underlying t,P.underlying u,eD x,eD y with
     | some (.slice _),some (.int _),_,_=>none
     | some (.slice e),some _,some x',some y'=>match P.info? e,kA P e with
       | some i,some z=>if z.length=i.size∧0 < i.size then some (.app i.size i.bytes x' y') else none
       | _,_=>none
     | _,_,_,_=>none
   | _,_,_=>none
 | _=>none
def lY (P:Program) (op:Op):Option qR:=match cR P op with | some a=>some a | none=>some .die
def zW (P:Program):Op→Option F6
 | .call {callee:=.value f,args,argTypes:=_}=>match eD f,jO args with
   | some (.const (.fn g [])),some as=>some (.call g as)
   | some f',some as=>some (.hU f' as)
   | _,_=>some (.op .die)
 | op=>(lY P op).map .op
def rA (P:Program) (ops:Array Oper) (o:Oper):Option qR:=
 match o.op with
 | .buildSlice t len parts=>match P.underlying t with
   | some (.slice e)=>match P.info? e,kA P e,dm (fun p=>(eD p.2).map fun x=>(p.1,x)) parts.toList with
     | some i,some z,some ps=>if i.size=1∧len≤2 ^ 24∧z.length=1∧(o.dst.isSome&&ops.toList.any fun q=>match q.op with | .convert _ _ x=>(match eD x,o.dst with | some (.tmp u),some t'=>Nat.beq u t' | _,_=>false) | _=>false)=true
      then some (.K6 len ((List.range (len*1)).map fun j=>z.getD (j % 1) .undef) ps) else none
     | _,_,_=>none
   | _=>none
 | .convert s d x=>match eD x,P.underlying s,P.underlying d with
   | some (.tmp u),some (.slice e),some .string=>(match P.underlying e with
     | some (.int .u8)=>if (ops.toList.any fun q=>match q.op,q.dst with | .buildSlice ..,some t'=>Nat.beq u t' | _,_=>false)=true then some (.y9 (.tmp u)) else none
     | _=>none)
   | _,_,_=>none
 | _=>none
def oC (P:Program) (ops:Array Oper) (o:Oper):Option F6:=match rA P ops o with | some a=>some (.op a) | none=>zW P o.op
def fp (P:Program) (ops:Array Oper) (o:Oper):Option aU:=
 match oC P ops o with
 | none=>none
 | some a=>match o.guard with
   | none=>some {dst:=o.dst,op:=a}
   | some (j,want)=>((ops[j]?).bind (·.dst)).map fun t=>{dst:=o.dst,op:=a,guard:=some (t,want)}
def force {α:Type} (n:Nat) (k:Nat→α):α:=match n with | 0=>k 0 | m+1=>k (m+1)
def uB (b:List Nat):List Edge→Nat
 | []=>0
 | e::r=>if Region.binds .any e then (2 ^ e.on|||b.getD e.on 0)|||uB b r else uB b r
def Qa:List Oper→List Nat→List Nat
 | [],acc=>acc
 | o::r,acc=>force (uB acc o.after.toList) fun v=>Qa r (acc++[v])
def bt (b:List Nat) (i j:Nat):Bool:=(b.getD j 0).testBit i
def l9 (b:List Nat) (es:List (aU×Nat)):List (Nat×Nat):=
 es.flatMap fun p=>if p.1.AR then es.filterMap fun q=>if q.1.mL&&!bt b p.2 q.2&&!bt b q.2 p.2 then some (p.2,q.2) else none else []
def tK (b:List Nat) (es:List (aU×Nat)) (s:aU) (i:Nat) (r:aU) (j:Nat):Bool:=
 i==j||
 ((match s.dst,r.dst with | some d,some d'=>d !=d' | _,_=>true)&&
  (!(i < j&&s.mL&&r.mL)||bt b i j||r.jd)&&
  (match r.dst with
   | none=>true
   | some d=>!s.reads.contains d||(if j < i then bt b j i&&(!r.jd||es.all fun q=>!(q.2 < j&&q.1.mL)||bt b q.2 i) else bt b i j))&&
  (!(s.AR&&r.jd&&decide (j < i)&&bt b j i)||es.all fun q=>!(q.2 < j&&q.1.mL)||bt b q.2 i))
def ve (b:List Nat) (p:Oper×Nat):Bool:=b.getD p.2 0==uB b p.1.after.toList&&p.1.after.toList.all fun e=>!Region.binds .any e||decide (e.on < p.2)
def vX (ops:Array Oper) (as:List aU) (b:List Nat):Bool:=
 (ops.toList.zipIdx.all (ve b))&&(as.zipIdx.all fun p=>as.zipIdx.all fun q=>tK b as.zipIdx p.1 p.2 q.1 q.2)
def Dg (as:List aU) (b:List Nat):bF:=
 match l9 b as.zipIdx with
 | []=>.aD as
 | chk=>.nS as chk
def sj:aU:=⟨none,.op .die,none⟩
def bV (P:Program):Code→Option bF
 | .skip=>some .skip
 | .region _ ops draw=>match dm (fp P ops) ops.toList with
   | some as=>if draw then (if vX ops as (Qa ops.toList []) then some (Dg as (Qa ops.toList [])) else some (.aD [sj])) else some (.aD as)
   | none=>some (.aD [sj])
 | .seq a b=>match bV P a,bV P b with
   | some a',some b'=>some (.seq a' b')
   | _,_=>none
 | .cond c a b=>match eD c,bV P a,bV P b with
   | some c',some a',some b'=>some (.cond c' a' b')
   | _,_,_=>none
 | .block id a=>(bV P a).map (.block id)
 | .loop a=>(bV P a).map (.loop [])
 | .exit id=>some (.exit id [])
 | .ret=>some (.ret [])
 | _=>some (.aD [sj])
def r8 (P:Program):ResultVar→Option AT
 | .tmp t=>some (.tmp t)
 | .cell t ty=>(za P ty).map fun n=>.cell t n
end Sz

/- What a step does to memory: a new block, a store, an object let go. No program is named here. -/
namespace Sz
open Go
theorem fe {h:aa} {o:bf} {id:Nat} (hl:live (h.alloc o) id):id=h.next∨(live h id∧id < h.next):=by
 obtain⟨x,hg,hx⟩:=hl;have hlt:=aa.di hg;simp only[aa.iD] at hlt;rcases Nat.lt_or_ge id h.next with hid | hid
 ·exact .inr ⟨⟨x,by rw[←aa.cQ (o:=o) hid];exact hg,hx⟩,hid⟩
 ·exact .inl (by omega)
theorem rE {h:aa} {o:bf} {id i:Nat} (hl:live (h.set i o) id) (hi:live h i):live h id:=by
 by_cases e:i=id
 ·exact e ▸ hi
 ·obtain⟨x,hg,hx⟩:=hl;rw[aa.get_set_other e] at hg;exact⟨x,hg,hx⟩
theorem aa.kb {h:aa} (o:bf) (hw:h.wf):(h.alloc o).wf:=by simpa[aa.wf,aa.alloc] using hw
theorem aa.wf_set {h:aa} (id:Nat) (o:bf) (hw:h.wf):(h.set id o).wf:=by unfold aa.set;split<;>simpa[aa.wf] using hw
theorem aa.uZ {h:aa} (id:Nat) (v:AV) (hw:h.wf):(h.mark id v).wf:=by unfold aa.mark;split<;>simpa[aa.wf] using hw
theorem aa.BX {h:aa} (n:Nat) (hw:h.wf):(h.gM n).wf:=by
 unfold aa.wf at *;simp only[aa.gM,List.length_drop,hw];omega
def dy (φ:dp) (n:Nat) (e:PE):dp:={φ with at_:=fun id=>if id=n then e else φ id}
theorem getElem?_push_lt {α:Type} {a:Array α} {x:α} {i:Nat} (h:i < a.size):(a.push x)[i]? =a[i]?:=by
 rw[Array.getElem?_push];rw[if_neg (by omega)]
section
variable {φ:dp} {h:aa} {w:World}
theorem HR.dW (hr:HR φ h w) {id:Nat} (hl:live h id):(φ id).eM < w.heap.size:=by
 obtain⟨o,hg,ho⟩:=hl;have key:∀x,w.heap[(φ id).eM]? =some x→(φ id).eM < w.heap.size:=fun x hx=>(Array.getElem?_eq_some_iff.1 hx).1
 cases o with
 | row cs=>
   obtain⟨c,el,fr,hb,_⟩:=hr.rows id cs hg;exact key _ hb
 | map es=>
   obtain⟨e,k,hb,_⟩:=hr.maps id es hg;exact key _ hb
 | dead=>exact (ho rfl).elim
theorem FP {w':World} {o:bf} {x:Obj} {e:PE} (hr:HR φ h w) (hh:w'.heap=w.heap.push x) (ho:w'.os=w.os) (ht:w'.tape=w.tape) (hout:w'.output=w.output)
 (he:e.eM=w.heap.size):Ext φ h w (dy φ h.next e) (h.alloc o) w':=by
 refine⟨ho,ht,hout,by rw[hh];simp,by simp,fun id hid=>by simp[dy,Nat.ne_of_lt hid],fun b hb=>⟨⟨by rw[hh];simp;have:=hb.1;omega,fun id hl=>?_,hb.2.2⟩,by rw[hh];exact getElem?_push_lt hb.1⟩,
  rfl,fun b hb=>by rw[hh];exact getElem?_push_lt (hr.gh b hb).1⟩
 rcases fe hl with rfl | ⟨hl,hlt⟩
 ·simp only[dy,if_true,he];have:=hb.1;omega
 ·simp only[dy,Nat.ne_of_lt hlt,if_false];exact hb.2.1 id hl
theorem KV {w':World} {o:bf} {x:Obj} {e:PE} (hr:HR φ h w) (hh:w'.heap=w.heap.push x) (he:e.eM=w.heap.size):
 ∀b,(dy φ h.next e).gh b→b < w'.heap.size∧∀id,live (h.alloc o) id→((dy φ h.next e) id).eM≠b:=fun b hb=>by
 obtain⟨g1,g2⟩:=hr.gh b hb;refine⟨by rw[hh];simp;omega,fun id hl=>?_⟩;rcases fe hl with rfl | ⟨hl,hlt⟩
 ·simp only[dy,if_true,he];omega
 ·simp only[dy,Nat.ne_of_lt hlt,if_false];exact g2 id hl
theorem ov.ext {φ':dp} {h':aa} {w':World} {id:Nat} {cs:List AV} (hk:ov φ h w id cs) (e:Ext φ h w φ' h' w') (hid:id < h.next)
 (hb:w'.heap[(φ id).eM]? =w.heap[(φ id).eM]?):ov φ' h' w' id cs:=by
 obtain⟨c,el,fr,h1,h2,h3,h4,h5,h6⟩:=hk;have hp:=e.uJ id hid;refine⟨c,el,fr,by rw[hp,hb];exact h1,by rw[hp];exact h2,by rw[hp];exact h3,h4,by rw[hp];exact h5,fun j hj=>?_⟩;rw[hp];exact (h6 j hj).ext e
theorem rP.ext {φ':dp} {h':aa} {w':World} {id:Nat} {es:List (AV×AV)} (hk:rP φ h w id es) (e:Ext φ h w φ' h' w') (hid:id < h.next)
 (hb:w'.heap[(φ id).eM]? =w.heap[(φ id).eM]?):rP φ' h' w' id es:=by
 obtain⟨c,k,h1,h2,h3⟩:=hk;have hp:=e.uJ id hid;exact⟨c,k,by rw[hp,hb];exact h1,h2,fun j hj=>⟨(h3 j hj).1.ext e,(h3 j hj).2.ext e⟩⟩
theorem vy {w':World} {c:Array Value} {el:TypeId} {fz:Nat×Nat} {cs:List AV} (hr:HR φ h w) (hh:w'.heap=w.heap.push (.cells c el fz))
 (ho:w'.os=w.os) (ht:w'.tape=w.tape) (hout:w'.output=w.output) (hfz:∀o,o < c.size→¬ (fz.1≤o∧o < fz.2))
 (h1:∀j,j < c.size→(c.getD j default).oneCell'=true) (hl:cs.length≤c.size) (hv:∀j (hj:j < cs.length),dK φ h w cs[j] (c.getD j default)):
 HR (dy φ h.next ⟨w.heap.size,0,c.size⟩) (h.alloc (.row cs)) w'∧Ext φ h w (dy φ h.next ⟨w.heap.size,0,c.size⟩) (h.alloc (.row cs)) w':=by
 have e:Ext φ h w (dy φ h.next ⟨w.heap.size,0,c.size⟩) (h.alloc (.row cs)) w':=FP (o:=.row cs) hr hh ho ht hout rfl;refine⟨⟨aa.kb _ hr.wf,fun id cs' hg=>?_,fun id es hg=>?_,fun i j hi hj hij=>?_,KV hr hh rfl⟩,e⟩
 ·have hlt:=aa.di hg;simp only[aa.iD] at hlt;rcases Nat.lt_or_ge id h.next with hid | hid
  ·rw[aa.cQ hid] at hg;have hb:=hr.dW ⟨_,hg,fun e=>by cases e⟩;exact (hr.rows id cs' hg).ext e hid (by rw[hh];exact getElem?_push_lt hb)
  ·obtain rfl:id=h.next:=by omega
   rw[aa.dM] at hg;cases hg;refine⟨c,el,fz,?_,?_,?_,hfz,?_,fun j hj=>?_⟩
   ·simp[dy,hh]
   ·simp[dy]
   ·simpa[dy] using hl
   ·simpa[dy] using h1
   ·have:=(hv j hj).ext e;simpa[dy] using this
 ·have hlt:=aa.di hg;simp only[aa.iD] at hlt;rcases Nat.lt_or_ge id h.next with hid | hid
  ·rw[aa.cQ hid] at hg;have hb:=hr.dW ⟨_,hg,fun e=>by cases e⟩;exact (hr.maps id es hg).ext e hid (by rw[hh];exact getElem?_push_lt hb)
  ·obtain rfl:id=h.next:=by omega
   rw[aa.dM] at hg;cases hg
 ·rcases fe hi with rfl | ⟨hi,hil⟩<;>rcases fe hj with rfl | ⟨hj,hjl⟩
  ·rfl
  ·have:=hr.dW hj;simp only[dy,if_true,Nat.ne_of_lt hjl,if_false] at hij;omega
  ·have:=hr.dW hi;simp only[dy,if_true,Nat.ne_of_lt hil,if_false] at hij;omega
  ·simp only[dy,Nat.ne_of_lt hil,Nat.ne_of_lt hjl,if_false] at hij;exact hr.inj i j hi hj hij
theorem Ls {w':World} {clk:Nat} (hr:HR φ h w) (hh:w'.heap=w.heap.push (.map #[] clk)) (ho:w'.os=w.os) (ht:w'.tape=w.tape) (hout:w'.output=w.output):
 HR (dy φ h.next ⟨w.heap.size,0,0⟩) (h.alloc (.map [])) w'∧Ext φ h w (dy φ h.next ⟨w.heap.size,0,0⟩) (h.alloc (.map [])) w':=by
 have e:Ext φ h w (dy φ h.next ⟨w.heap.size,0,0⟩) (h.alloc (.map [])) w':=FP (o:=.map []) hr hh ho ht hout rfl;refine⟨⟨aa.kb _ hr.wf,fun id cs' hg=>?_,fun id es hg=>?_,fun i j hi hj hij=>?_,KV hr hh rfl⟩,e⟩
 ·have hlt:=aa.di hg;simp only[aa.iD] at hlt;rcases Nat.lt_or_ge id h.next with hid | hid
  ·rw[aa.cQ hid] at hg;have hb:=hr.dW ⟨_,hg,fun e=>by cases e⟩;exact (hr.rows id cs' hg).ext e hid (by rw[hh];exact getElem?_push_lt hb)
  ·obtain rfl:id=h.next:=by omega
   rw[aa.dM] at hg;cases hg
 ·have hlt:=aa.di hg;simp only[aa.iD] at hlt;rcases Nat.lt_or_ge id h.next with hid | hid
  ·rw[aa.cQ hid] at hg;have hb:=hr.dW ⟨_,hg,fun e=>by cases e⟩;exact (hr.maps id es hg).ext e hid (by rw[hh];exact getElem?_push_lt hb)
  ·obtain rfl:id=h.next:=by omega
   rw[aa.dM] at hg;cases hg;exact⟨#[],clk,by simp[dy,hh],rfl,fun j hj=>by simp at hj⟩
 ·rcases fe hi with rfl | ⟨hi,hil⟩<;>rcases fe hj with rfl | ⟨hj,hjl⟩
  ·rfl
  ·have:=hr.dW hj;simp only[dy,if_true,Nat.ne_of_lt hjl,if_false] at hij;omega
  ·have:=hr.dW hi;simp only[dy,if_true,Nat.ne_of_lt hil,if_false] at hij;omega
  ·simp only[dy,Nat.ne_of_lt hil,Nat.ne_of_lt hjl,if_false] at hij;exact hr.inj i j hi hj hij
theorem AL {w':World} {id:Nat} {o o':bf} (hr:HR φ h w) (hg:h.get id=some o) (hno:∀_:o=.dead,False)
 (hsz:w'.heap.size=w.heap.size) (hh:∀b,b≠(φ id).eM→w'.heap[b]? =w.heap[b]?)
 (ho:w'.os=w.os) (ht:w'.tape=w.tape) (hout:w'.output=w.output):
 Ext φ h w φ (h.set id o') w'∧((∀cs,o'=.row cs→ov φ (h.set id o') w' id cs)→(∀es,o'=.map es→rP φ (h.set id o') w' id es)→HR φ (h.set id o') w'):=by
 have hlive:live h id:=⟨o,hg,hno⟩
 have e:Ext φ h w φ (h.set id o') w':=by
  refine⟨ho,ht,hout,by omega,by simp,fun _ _=>rfl,fun b hb=>⟨⟨by rw[hsz];exact hb.1,fun i hi=>hb.2.1 i (rE hi hlive),hb.2.2⟩,hh b fun eq=>hb.2.1 id hlive eq.symm⟩,
   rfl,fun b hb=>hh b fun eq=>(hr.gh b hb).2 id hlive eq.symm⟩
 refine⟨e,fun hrow hmap=>⟨aa.wf_set _ _ hr.wf,fun i cs hi=>?_,fun i es hi=>?_,fun i j hi hj hij=>hr.inj i j (rE hi hlive) (rE hj hlive) hij,
  fun b hb=>⟨by rw[hsz];exact (hr.gh b hb).1,fun i hi=>(hr.gh b hb).2 i (rE hi hlive)⟩⟩⟩
 ·by_cases eq:id=i
  ·subst eq;rw[aa.get_set_same hg] at hi;exact hrow cs (by simpa using hi)
  ·have hi0:=hi;rw[aa.get_set_other eq] at hi;refine (hr.rows i cs hi).ext e (aa.di hi) (hh _ fun hb=>eq (hr.inj id i hlive ⟨_,hi,fun e=>by cases e⟩ hb.symm))
 ·by_cases eq:id=i
  ·subst eq;rw[aa.get_set_same hg] at hi;exact hmap es (by simpa using hi)
  ·rw[aa.get_set_other eq] at hi;refine (hr.maps i es hi).ext e (aa.di hi) (hh _ fun hb=>eq (hr.inj id i hlive ⟨_,hi,fun e=>by cases e⟩ hb.symm))
theorem gF {id i:Nat} (hl:live (h.set id .dead) i):live h i∧i≠id:=by
 obtain⟨o,hg,hno⟩:=hl;by_cases eq:id=i
 ·subst eq;have hlt:=aa.di hg;simp only[aa.Ie] at hlt
  cases hx:h.get id with
  | none=>
    unfold aa.set at hg;rw[if_pos hlt] at hg;unfold aa.get at hg hx;simp only[hlt,if_true] at hg hx;rw[List.getElem?_eq_none_iff] at hx;rw[List.getElem?_eq_none (by simpa using hx)] at hg;cases hg
  | some x=>
    rw[aa.get_set_same hx] at hg;cases hg;exact (hno rfl).elim
 ·rw[aa.get_set_other eq] at hg;exact⟨⟨o,hg,hno⟩,fun e=>eq e.symm⟩
theorem NG (hr:HR φ h w) (id:Nat):HR φ (h.set id .dead) w∧Ext φ h w φ (h.set id .dead) w:=by
 have e:Ext φ h w φ (h.set id .dead) w:=
  ⟨rfl,rfl,rfl,Nat.le_refl _,by simp,fun _ _=>rfl,fun b hb=>⟨⟨hb.1,fun i hi=>hb.2.1 i (gF hi).1,hb.2.2⟩,rfl⟩,rfl,fun _ _=>rfl⟩
 refine⟨⟨aa.wf_set _ _ hr.wf,fun i cs hi=>?_,fun i es hi=>?_,fun i j hi hj hij=>hr.inj i j (gF hi).1 (gF hj).1 hij,fun b hb=>⟨(hr.gh b hb).1,fun i hi=>(hr.gh b hb).2 i (gF hi).1⟩⟩,e⟩
 ·have hne:=(gF ⟨_,hi,fun e=>by cases e⟩).2;rw[aa.get_set_other (Ne.symm hne)] at hi;exact (hr.rows i cs hi).ext e (aa.di hi) rfl
 ·have hne:=(gF ⟨_,hi,fun e=>by cases e⟩).2;rw[aa.get_set_other (Ne.symm hne)] at hi;exact (hr.maps i es hi).ext e (aa.di hi) rfl
theorem EE (ids:List Nat):∀{h:aa},HR φ h w→HR φ (kill h ids) w∧Ext φ h w φ (kill h ids) w:=by
 induction ids with
 | nil=>exact fun hr=>⟨hr,.refl _ _ _⟩
 | cons id r ih=>
   intro h hr;obtain⟨h1,e1⟩:=NG hr id;obtain⟨h2,e2⟩:=ih h1;exact⟨h2,e1.trans e2⟩
theorem GD:∀(ids:List Nat) {h:aa} {i:Nat},live (kill h ids) i→live h i∧i ∉ ids:=by
 intro ids
 induction ids with
 | nil=>exact fun hl=>⟨hl,by simp⟩
 | cons id r ih=>
   intro h i hl;obtain⟨h1,h2⟩:=ih hl;obtain⟨h3,h4⟩:=gF h1;exact⟨h3,by simp[h2,h4]⟩
theorem HR.mark (hr:HR φ h w) (id:Nat) (v:AV):HR φ (h.mark id v) w∧Ext φ h w φ (h.mark id v) w:=by
 have hlv:∀i,live (h.mark id v) i↔live h i:=fun i=>by unfold live;simp only[aa.ir]
 have e:Ext φ h w φ (h.mark id v) w:=⟨rfl,rfl,rfl,Nat.le_refl _,by simp,fun _ _=>rfl,fun b hb=>⟨⟨hb.1,fun i hi=>hb.2.1 i ((hlv i).1 hi),hb.2.2⟩,rfl⟩,rfl,fun _ _=>rfl⟩
 refine⟨⟨aa.uZ _ _ hr.wf,fun i cs hi=>?_,fun i es hi=>?_,fun i j hi hj=>hr.inj i j ((hlv i).1 hi) ((hlv j).1 hj),fun b hb=>⟨(hr.gh b hb).1,fun i hi=>(hr.gh b hb).2 i ((hlv i).1 hi)⟩⟩,e⟩
 ·rw[aa.ir] at hi;exact (hr.rows i cs hi).ext e (aa.di hi) rfl
 ·rw[aa.ir] at hi;exact (hr.maps i es hi).ext e (aa.di hi) rfl
theorem HR.nD (hr:HR φ h w) (x y:Nat):HR φ {h with wl:=x,md:=y} w∧Ext φ h w φ {h with wl:=x,md:=y} w:=by
 have e:Ext φ h w φ {h with wl:=x,md:=y} w:=⟨rfl,rfl,rfl,Nat.le_refl _,Nat.le_refl _,fun _ _=>rfl,fun b hb=>⟨hb,rfl⟩,rfl,fun _ _=>rfl⟩
 refine⟨⟨hr.wf,fun i cs hi=>?_,fun i es hi=>?_,fun i j hi hj=>hr.inj i j hi hj,hr.gh⟩,e⟩
 ·exact (hr.rows i cs hi).ext e (aa.di hi) rfl
 ·exact (hr.maps i es hi).ext e (aa.di hi) rfl
end
theorem HR.world {φ:dp} {h:aa} {w w':World} (hr:HR φ h w) (hh:w'.heap=w.heap) (ho:w'.os=w.os) (ht:w'.tape=w.tape) (hout:w'.output=w.output):
 HR φ h w'∧Ext φ h w φ h w':=by
 have e:Ext φ h w φ h w':=⟨ho,ht,hout,by rw[hh];exact Nat.le_refl _,Nat.le_refl _,fun _ _=>rfl,fun b hb=>⟨⟨by rw[hh];exact hb.1,hb.2⟩,by rw[hh]⟩,rfl,fun _ _=>by rw[hh]⟩
 refine⟨⟨hr.wf,fun i cs hi=>?_,fun i es hi=>?_,fun i j hi hj=>hr.inj i j hi hj,fun b hb=>by rw[hh];exact hr.gh b hb⟩,e⟩
 ·exact (hr.rows i cs hi).ext e (aa.di hi) (by rw[hh])
 ·exact (hr.maps i es hi).ext e (aa.di hi) (by rw[hh])
end Sz

/- Each operation of the model does what the abstract run says. No program is named here. -/
namespace Sz
open Go
def dV (P:Program) (s:Sem Next) (φ:dp) (h:aa) (w:World) (v:AV) (h':aa):Prop:=
 ∃cv w' φ',(s.run P w=.ok (.value cv) w'∨(s.run P w=.ok .skip w'∧cv=undef))∧dK φ' h' w' v cv∧HR φ' h' w'∧Ext φ h w φ' h' w'
theorem dV.pure {P:Program} {s:Sem Next} {φ:dp} {h:aa} {w:World} {v:AV} {cv:Value} (hr:HR φ h w) (hs:s.run P w=.ok (.value cv) w) (hv:dK φ h w v cv):
 dV P s φ h w v h:=⟨cv,w,φ,.inl hs,hv,hr,.refl _ _ _⟩
section consts
variable {φ:dp} {nx:Nat} {pr:Nat→Prop} {w:World}
theorem yq {v:Value} {av:AV} (he:uo v=some av):RV φ nx pr w av v:=by
 unfold uo at he;split at he<;>cases he
 ·exact .bool _
 ·exact .int _ _
 ·exact .str _
 ·exact .jr
 ·exact .aw _
 ·exact .iC
 ·exact .fQ
 ·exact .jt
 ·exact .fn _ [] #[] rfl fun j hj=>by simp at hj
theorem Af {v:Value} {av:AV} (he:uo v=some av):v.oneCell'=true∧av.cells? =some [av]:=by
 unfold uo at he;split at he<;>cases he<;>simp[Value.oneCell',AV.cells?]
theorem jY {α β:Type} {f:α→Option β}:∀{l:List α} {m:List β},dm f l=some m→m.length=l.length
 | [],m,he=>by simp[dm] at he;subst he;rfl
 | x::r,m,he=>by
   unfold dm at he;split at he
   ·rename_i y s h1 h2;cases he;simp[jY h2]
   ·cases he
theorem iM {α β:Type} {f:α→Option β}:∀{l:List α} {m:List β},dm f l=some m→∀i (hi:i < l.length) (hi':i < m.length),f l[i]=some m[i]
 | [],m,he=>by intro i hi;simp at hi
 | x::r,m,he=>by
   unfold dm at he;split at he
   ·rename_i y s h1 h2;cases he;intro i hi hi'
    cases i with
    | zero=>simpa using h1
    | succ i=>simpa using iM h2 i (by simpa using hi) (by simpa using hi')
   ·cases he
theorem wA {v:Value} {av:AV} (he:Ap v=some av):RV φ nx pr w av v:=by
 unfold Ap at he;split at he
 ·rename_i cs;obtain⟨l,hl,rfl⟩:=Option.map_eq_some_iff.1 he;have hlen:=jY hl;refine .agg l cs (by simpa using hlen.symm) (fun j=>?_) fun j hj=>?_
  ·by_cases hj:j < cs.size
   ·have hj':j < cs.toList.length:=by simpa using hj
    have:=(Af (iM hl j hj' (by omega))).1;simpa[Array.getD,hj] using this
   ·simp[Array.getD,hj];rfl
  have hj':j < cs.toList.length:=by omega
  have:=yq (φ:=φ) (nx:=nx) (pr:=pr) (w:=w) (iM hl j hj' hj);have hj2:j < cs.size:=by simpa using hj'
  simpa[Array.getD,hj2] using this
 ·cases he;exact .tuple [] #[] rfl fun j hj=>by simp at hj
 ·exact yq he
end consts
section
variable {P:Program} {φ:dp} {h:aa} {w:World} {fr:List AV} {a:Act}
theorem bO {x:Operand} {x':cI} (he:eD x=some x') (hf:FR φ h w fr a.tmps):dK φ h w (x'.ev fr) (a.eval x):=by
 unfold eD at he;split at he
 ·cases he;exact hf.2 _
 ·obtain⟨v',hv,rfl⟩:=Option.map_eq_some_iff.1 he;exact wA hv
 ·cases he;exact .fn _ [] #[] rfl fun j hj=>by simp at hj
 ·cases he
theorem RV.cells {nx:Nat} {pr:Nat→Prop} {v:AV} {cv:Value} {cs:List AV} (hv:RV φ nx pr w v cv) (hc:v.cells? =some cs):
 cv.cells.size=cs.length∧(∀j,(cv.cells.getD j default).oneCell'=true)∧∀j (hj:j < cs.length),RV φ nx pr w cs[j] (cv.cells.getD j default):=by
 cases hv with
 | agg l cvs hl h1 hv=>
   simp only[AV.cells?,Option.some.injEq] at hc;subst hc;exact⟨hl,h1,hv⟩
 | undef=>simp[AV.cells?] at hc
 | tuple=>simp[AV.cells?] at hc
 | _=>
   simp only[AV.cells?,Option.some.injEq] at hc;subst hc;refine⟨rfl,fun j=>by cases j<;>rfl,fun j hj=>?_⟩;obtain rfl:j=0:=by simpa using hj
   first
    | exact .bool _
    | exact .int _ _
    | exact .str _
    | exact .jr
    | exact .ptr _ _ ‹_›
    | exact .ip _ _ _ _ ‹_› ‹_› ‹_› ‹_› ‹_›
    | exact .ip _ _ _ _ ‹_› ‹_› ‹_› ‹_› (by assumption)
    | exact .aw _
    | exact .slnil _ _
    | exact .sl _ _ _ _ _ _ ‹_› ‹_› ‹_› ‹_› ‹_› ‹_› ‹_›
    | exact .vec _ _ _ _ _ _ _ ‹_› ‹_› ‹_› ‹_› ‹_›
    | exact .iC
    | exact .map _ ‹_›
    | exact .fQ
    | exact .fn _ _ _ ‹_› ‹_›
    | exact .jt
    | exact .iface _ _ _ ‹_›
theorem IZ {x:Operand} {o:Oper} (ho:o.op=.move x∨o.op=.assign x) {x':cI} (hx:eD x=some x') (hf:FR φ h w fr a.tmps) (hr:HR φ h w):
 dV P (execOp a.eval o) φ h w (x'.ev fr) h:=
 .pure hr (by unfold execOp;rcases ho with ho | ho<;>simp[ho]) (bO hx hf)
theorem RV.eX {nx:Nat} {pr:Nat→Prop} {b:Bool} {cv:Value} (hv:RV φ nx pr w (.bool b) cv):cv=.bool b:=by cases hv;rfl
theorem RV.dh {nx:Nat} {pr:Nat→Prop} {k:IntKind} {n:Int} {cv:Value} (hv:RV φ nx pr w (.int k n) cv):cv=.int k n:=by cases hv;rfl
theorem RV.eO {nx:Nat} {pr:Nat→Prop} {s:List UInt8} {cv:Value} (hv:RV φ nx pr w (.str s) cv):∃b:ByteArray,cv=.string b∧b.data.toList=s:=by cases hv;exact⟨_,rfl,rfl⟩
theorem RV.qI {nx:Nat} {pr:Nat→Prop} {s:List UInt8} {b:ByteArray} (hb:b.data.toList=s):RV φ nx pr w (.str s) (.string b):=hb ▸ .str b
theorem Lj {c x y:Operand} {o:Oper} (ho:o.op=.pick c x y) {c' x' y':cI} (hc:eD c=some c') (hx:eD x=some x') (hy:eD y=some y') {b:Bool} (hb:c'.ev fr=.bool b)
 (hf:FR φ h w fr a.tmps) (hr:HR φ h w):dV P (execOp a.eval o) φ h w (if b then x'.ev fr else y'.ev fr) h:=by
 have h0:=bO hc hf;rw[hb] at h0;have h0:=h0.eX;refine .pure (cv:=if b then a.eval x else a.eval y) hr (by unfold execOp;simp[ho,h0,asBool]) ?_;cases b
 ·exact bO hy hf
 ·exact bO hx hf
theorem Mq (o:bf) (b r:Nat) {w':World}:dK (dy φ h.next ⟨b,0,r⟩) (h.alloc o) w' (.ptr h.next 0) (.pointer (some ⟨b,0,none⟩)):=by
 have:=RV.ptr (φ:=dy φ h.next ⟨b,0,r⟩) (nx:=(h.alloc o).next) (pr:=Pr (dy φ h.next ⟨b,0,r⟩) (h.alloc o) w') (w:=w') h.next 0 (by simp)
 have e:dy φ h.next ⟨b,0,r⟩ h.next=⟨b,0,r⟩:=by simp[dy]
 rw[e] at this;exact this
theorem z7 (o:bf) (b r n sz lb cap:Nat) {w':World} (hn:n≤cap) (hb:lb≤cap) (hr:cap*sz≤r):dK (dy φ h.next ⟨b,0,r⟩) (h.alloc o) w' (.vec h.next 0 n sz lb) (.slice (some ⟨b,0,none⟩) n cap):=
 .vec _ _ _ _ _ _ _ (by simp) hn hb (by simpa[dy] using hr) fun _=>by simp[dy]
theorem vL {s:Sem Next} {c:Array Value} {el:TypeId} {cs:List AV} (hr:HR φ h w)
 (hs:s.run P w=.ok (.value (.pointer (some ⟨w.heap.size,0,none⟩))) (w.alloc (.cells c el)))
 (h1:∀j,(c.getD j default).oneCell'=true) (hl:cs.length≤c.size) (hv:∀j (hj:j < cs.length),dK φ h w cs[j] (c.getD j default)):
 dV P s φ h w (.ptr h.next 0) (h.alloc (.row cs)):=by
 obtain⟨g1,g2⟩:=vy (w':=w.alloc (.cells c el)) hr rfl rfl rfl rfl (by simp) (fun j _=>h1 j) hl hv;refine⟨_,_,_,.inl hs,?_,g1,g2⟩;exact Mq _ _ _
theorem N6 {t:TypeId} {x:Operand} {o:Oper} (ho:o.op=.box t x) {x':cI} (hx:eD x=some x') {cs:List AV} (hc:(x'.ev fr).cells? =some cs)
 (hf:FR φ h w fr a.tmps) (hr:HR φ h w):dV P (execOp a.eval o) φ h w (.ptr h.next 0) (h.alloc (.row cs)):=by
 obtain⟨g1,g2,g3⟩:=(bO hx hf).cells hc;refine vL (c:=(a.eval x).cells) (el:=t) hr ?_ g2 (by omega) g3;unfold execOp;simp[ho,Instr.box,newVar,newRow]
theorem kW {t:TypeId} {cs:List AV} (hz:kA P t=some cs):∃i z,P.info? t=some i∧i.zero=some z∧z.cells.size=cs.length∧(∀j,(z.cells.getD j default).oneCell'=true)∧
 ∀nx pr (w:World),∀j (hj:j < cs.length),RV φ nx pr w cs[j] (z.cells.getD j default):=by
 unfold kA at hz;obtain⟨z,hz1,hz2⟩:=Option.bind_eq_some_iff.1 hz;obtain⟨v,hv1,hv2⟩:=Option.bind_eq_some_iff.1 hz2;obtain⟨i,hi,hzi⟩:=Option.bind_eq_some_iff.1 hz1;have key:=fun nx pr (w:World)=>(wA (φ:=φ) (nx:=nx) (pr:=pr) (w:=w) hv1).cells hv2
 obtain⟨k1,k2,_⟩:=key 0 (fun _=>False) default;exact⟨i,z,hi,hzi,k1,k2,fun nx pr w=>(key nx pr w).2.2⟩
theorem I8 {t:TypeId} {o:Oper} (ho:o.op=.alloc t) {cs:List AV} (hz:kA P t=some cs) (hr:HR φ h w):
 dV P (execOp a.eval o) φ h w (.ptr h.next 0) (h.alloc (.row cs)):=by
 obtain⟨i,z,hi,hzi,k1,k2,k3⟩:=kW (φ:=φ) hz;refine vL (c:=z.cells) (el:=t) hr ?_ k2 (by omega) (k3 _ _ _);unfold execOp;simp[ho,Instr.alloc,zeroValue,typeInfo,hi,hzi,newVar,newRow]
def mM (φ:dp) (nx:Nat) (pr:Nat→Prop) (w:World) (l:List AV) (c:Array Value):Prop:=
 c.size=l.length∧(∀j,(c.getD j default).oneCell'=true)∧∀j (hj:j < l.length),RV φ nx pr w l[j] (c.getD j default)
theorem mM.set {nx:Nat} {pr:Nat→Prop} {l:List AV} {c:Array Value} (hc:mM φ nx pr w l c) {v:AV} {cv:Value} (hv:RV φ nx pr w v cv) (h1:cv.oneCell'=true) (i:Nat):
 mM φ nx pr w (l.set i v) (c.setIfInBounds i cv):=by
 obtain⟨k1,k2,k3⟩:=hc;refine⟨by simpa using k1,fun j=>?_,fun j hj=>?_⟩
 ·have:=k2 j;rw[Array.getD_eq_getD_getElem?] at this ⊢;rw[Array.getElem?_setIfInBounds];by_cases e:i=j
  ·subst e;by_cases hl:i < c.size
   ·simpa[hl] using h1
   ·simp[hl];rfl
  ·simpa[e] using this
 ·have hj':j < l.length:=by simpa using hj
  have:=k3 j hj';rw[Array.getD_eq_getD_getElem?] at this ⊢;rw[Array.getElem?_setIfInBounds,List.getElem_set];by_cases e:i=j
  ·subst e;simpa[k1,hj'] using hv
  ·simpa[e] using this
theorem Cf {nx:Nat} {pr:Nat→Prop}:∀(vs:List AV) (cvs:List Value) (k off:Nat) (l:List AV) (c:Array Value),mM φ nx pr w l c→
 vs.length=cvs.length→(∀j (h:j < vs.length) (h':j < cvs.length),RV φ nx pr w vs[j] cvs[j]∧cvs[j].oneCell'=true)→
 mM φ nx pr w (putAt l (off+k) vs) ((cvs.zipIdx k).foldl (fun cs p=>cs.setIfInBounds (off+p.2) p.1) c)
 | [],[],_,_,_,_,hc,_,_=>hc
 | v::vs,cv::cvs,k,off,l,c,hc,hl,hv=>by
   obtain⟨h1,h2⟩:=hv 0 (by simp) (by simp);have:=Cf vs cvs (k+1) off _ _ (hc.set (by simpa using h1) (by simpa using h2) (off+k)) (by simpa using hl) fun j h h'=>hv (j+1) (Nat.succ_lt_succ h) (Nat.succ_lt_succ h')
   simpa[putAt,List.zipIdx_cons,Nat.add_assoc] using this
 | [],_::_,_,_,_,_,_,hl,_=>by simp at hl
 | _::_,[],_,_,_,_,_,hl,_=>by simp at hl
theorem qW (vs:List AV):∀(l:List AV) (off:Nat),(putAt l off vs).length=l.length:=by
 induction vs with
 | nil=>intro l off;rfl
 | cons v r ih=>intro l off;simp[putAt,ih]
theorem vi {nx:Nat} {pr:Nat→Prop} (place:Nat→Option (Nat×Nat)):∀(ps:List (Nat×Nat×AV)) (cps:List (Nat×Value)) (l:List AV) (c:Array Value) (l':List AV),
 mM φ nx pr w l c→ps.length=cps.length→(∀j (h:j < ps.length) (h':j < cps.length),place cps[j].1=some (ps[j].1,ps[j].2.1)∧RV φ nx pr w ps[j].2.2 cps[j].2)→
 iW l ps=some l'→∃c',Instr.fill place c cps=some c'∧mM φ nx pr w l' c'
 | [],[],l,c,l',hc,_,_,hf=>by
   simp only[iW,Option.some.injEq] at hf;subst hf;exact⟨c,rfl,hc⟩
 | (off,sz,v)::ps,(i,cv)::cps,l,c,l',hc,hl,hp,hf=>by
   obtain⟨hpl,hv⟩:=hp 0 (by simp) (by simp);simp only[List.getElem_cons_zero] at hpl hv;unfold iW at hf;split at hf
   ·rename_i cs hcs;split at hf
    ·rename_i hsz;obtain⟨g1,g2,g3⟩:=hv.cells hcs
     have step:=Cf (φ:=φ) (nx:=nx) (pr:=pr) (w:=w) cs cv.cells.toList 0 off l c hc (by simpa using g1.symm) fun j h h'=>by
      have e1:=g3 j h;have e2:=g2 j;have hj:j < cv.cells.size:=by omega
      simp only[Array.getD,hj,dif_pos] at e1 e2;exact⟨by simpa using e1,by simpa using e2⟩
     obtain⟨c',e1,e2⟩:=vi place ps cps _ _ l' step (by simpa using hl) (fun j h h'=>hp (j+1) (Nat.succ_lt_succ h) (Nat.succ_lt_succ h')) (by simpa using hf);refine⟨c',?_,e2⟩;unfold Instr.fill;simp only[hpl]
     have hcs1:(cv.cells.size≠sz||off+cv.cells.size > c.size)=false:=by
      have:=hc.1;simp;omega
     rw[if_neg (by rw[hcs1];simp)];rw[←e1];congr 1;rw[←Array.foldl_toList,Array.toList_zipIdx]
    ·cases hf
   ·cases hf
 | [],_::_,_,_,_,_,hl,_,_=>by simp at hl
 | _::_,[],_,_,_,_,hl,_,_=>by simp at hl
theorem Fi {xs:Array Operand} {xs':List cI} (he:jO xs=some xs') (hf:FR φ h w fr a.tmps):
 (xs.map a.eval).size=xs'.length∧∀j,j < xs'.length→dK φ h w ((xs'.map (·.ev fr)).getD j .undef) ((xs.map a.eval).getD j default):=by
 have hlen:=jY he;simp only[Array.length_toList] at hlen;refine⟨by simpa using hlen.symm,fun j hj=>?_⟩;have hj':j < xs.toList.length:=by simpa[←hlen] using hj
 have:=bO (iM he j hj' hj) hf;have hj2:j < xs.size:=by simpa using hj'
 simpa[Array.getD,hj2,List.getD,hj] using this
theorem rK {places:List (Nat×Nat)}:∀{parts:List (Nat×Operand)} {ps:List (Nat×Nat×cI)},kL places parts=some ps→
 ps.length=parts.length∧∀j (h:j < ps.length) (h':j < parts.length),places[parts[j].1]? =some (ps[j].1,ps[j].2.1)∧eD parts[j].2=some ps[j].2.2
 | [],ps,he=>by simp[kL] at he;subst he;simp
 | (i,x)::r,ps,he=>by
   unfold kL at he;split at he
   ·rename_i p x' r' h1 h2 h3;cases he;obtain⟨g1,g2⟩:=rK h3;refine⟨by simp[g1],fun j hj hj'=>?_⟩
    cases j with
    | zero=>simpa using ⟨h1,h2⟩
    | succ j=>simpa using g2 j (by simpa using hj) (by simpa using hj')
   ·cases he
theorem oy (off:Nat):∀(l:List (Value×Nat)) (c:Array Value),(l.foldl (fun cs (x:Value×Nat)=>match x with | (c,j)=>cs.setIfInBounds (off+j) c) c).size=c.size
 | [],_=>rfl
 | x::l,c=>by rw[List.foldl_cons,oy off l];simp
theorem iA (place:Nat→Option (Nat×Nat)):∀(ps:List (Nat×Value)) (c c':Array Value),Instr.fill place c ps=some c'→c'.size=c.size
 | [],c,c',he=>by simp[Instr.fill] at he;rw[he]
 | (i,v)::r,c,c',he=>by
   unfold Instr.fill at he;split at he
   ·cases he
   ·split at he
    ·cases he
    ·rw[iA place r _ c' he,←Array.foldl_toList];exact oy _ _ _
theorem On {t:TypeId} {parts:Array (Nat×Operand)} {o:Oper} (ho:o.op=.build t parts) {fs:Array Field} (ht:P.underlying t=some (.struct fs)) {z:List AV} (hz:kA P t=some z)
 {places:List (Nat×Nat)} (hp:placesOf P fs=some places) {ps:List (Nat×Nat×cI)} (hps:kL places parts.toList=some ps) {cs:List AV}
 (he:iW z (ps.map fun p=>(p.1,p.2.1,p.2.2.ev fr))=some cs) (hf:FR φ h w fr a.tmps) (hr:HR φ h w):dV P (execOp a.eval o) φ h w (.agg cs) h:=by
 obtain⟨i,zv,hi,hzi,k1,k2,k3⟩:=kW (φ:=φ) hz;obtain⟨g1,g2⟩:=rK hps
 obtain⟨c',e1,e2,e3,e4⟩:=vi (φ:=φ) (nx:=h.next) (pr:=Pr φ h w) (w:=w) (places.toArray[·]?) (ps.map fun p=>(p.1,p.2.1,p.2.2.ev fr)) ((parts.map fun (i,x)=>(i,a.eval x)).toList) z zv.cells cs ⟨k1,k2,k3 _ _ _⟩
  (by simp[g1]) (fun j hj hj'=>by
   obtain⟨q1,q2⟩:=g2 j (by simpa using hj) (by simpa using hj');exact⟨by simpa using q1,by simpa using bO q2 hf⟩) he
 refine .pure (cv:=.agg c') hr ?_ (.agg cs c' e2 e3 e4)
 have hb:P.built t (parts.map fun (i,x)=>(i,a.eval x)).toList=some c':=by
  unfold Program.built;simp only[hi,ht,hzi];unfold placesOf at hp;rw[hp];exact e1
 unfold execOp;simp[ho,run_build w t _ c' hb]
theorem gr {t:TypeId} {i:TypeInfo} (hi:P.info? t=some i) (w:World):(Go.sizeOf t).run P w=.ok i.size w:=by simp[Go.sizeOf,typeInfo,hi]
theorem OP {t e:TypeId} {len:Nat} {parts:Array (Nat×Operand)} {o:Oper} (ho:o.op=.buildSlice t len parts) (ht:P.underlying t=some (.slice e)) {i:TypeInfo} (hi:P.info? e=some i)
 {z:List AV} (hz:kA P e=some z) {ps:List (Nat×cI)} (hps:dm (fun p:Nat×Operand=>(eD p.2).map fun x=>(p.1,x)) parts.toList=some ps) (hlen:len*i.size≤2 ^ 24) (hzl:z.length=i.size) {cs:List AV}
 (he:iW ((List.range (len*i.size)).map fun j=>z.getD (j % i.size) .undef) (ps.map fun p=>(p.1*i.size,i.size,p.2.ev fr))=some cs) (hf:FR φ h w fr a.tmps) (hr:HR φ h w):
 dV P (execOp a.eval o) φ h w (.vec h.next 0 len i.size len) (h.alloc (.row cs)):=by
 obtain⟨i',zv,hi',hzi,k1,k2,k3⟩:=kW (φ:=φ) hz;obtain rfl:i=i':=by rw[hi] at hi';exact Option.some.inj hi'
 have g1:=jY hps
 let zz:Array Value:=if len*i.size=0 then #[] else zv.cells
 have hinit:mM φ h.next (Pr φ h w) w ((List.range (len*i.size)).map fun j=>z.getD (j % i.size) .undef) ((Array.range (len*i.size)).map (zz[· % zz.size]!)):=by
  refine⟨by simp,fun j=>?_,fun j hj=>?_⟩
  ·by_cases hj:j < len*i.size
   ·have hpos:0 < i.size:=Nat.pos_of_ne_zero fun e=>by simp[e] at hj
    have hzz:zz=zv.cells:=if_neg (by omega);have hm:j % i.size < i.size:=Nat.mod_lt _ hpos;have:=k2 (j % i.size);simp only[hzz,k1,hzl];simpa[Array.getD,hj,k1,hzl,hm] using this
   ·simp[Array.getD,hj];rfl
  ·have hj':j < len*i.size:=by simpa using hj
   have hpos:0 < i.size:=Nat.pos_of_ne_zero fun e=>by simp[e] at hj'
   have hzz:zz=zv.cells:=if_neg (by omega);have hm:j % i.size < z.length:=by rw[hzl];exact Nat.mod_lt _ hpos
   have:=k3 h.next (Pr φ h w) w (j % i.size) hm
   simp only[hzz,k1,hzl];have hm':j % i.size < i.size:=by omega
   simpa[Array.getD,hj',k1,hzl,hm,hm',List.getD] using this
 obtain⟨c',e1,e2,e3,e4⟩:=vi (φ:=φ) (nx:=h.next) (pr:=Pr φ h w) (w:=w) (fun k=>some (k*i.size,i.size)) (ps.map fun p=>(p.1*i.size,i.size,p.2.ev fr)) ((parts.map fun (i,x)=>(i,a.eval x)).toList) _ _ cs hinit
  (by simp[g1]) (fun j hj hj'=>by
   have hj1:j < ps.length:=by simpa using hj
   have hj2:j < parts.toList.length:=by simpa using hj'
   have q:=iM hps j hj2 hj1;obtain⟨x',q1,q2⟩:=Option.map_eq_some_iff.1 q;have q3:=bO q1 hf;have q4:ps[j]=((parts.toList[j]).1,x'):=q2.symm;exact⟨by simp[q4],by simpa[q4] using q3⟩) he
 obtain⟨n1,n2⟩:=vy (w':=w.alloc (.cells c' e)) hr rfl rfl rfl rfl (by simp) (fun j _=>e3 j) (by omega) e4
 have hcl:cs.length=len*i.size:=by
  have:c'.size=len*i.size:=by
   have:=iA _ _ _ _ e1;simpa using this
  omega
 refine⟨_,_,_,.inl ?_,z7 (.row cs) w.heap.size c'.size len i.size len len (Nat.le_refl _) (Nat.le_refl _) (by omega),n1,n2⟩;unfold execOp;have hbig:¬ (len*i.size > 2 ^ 24):=by omega
 by_cases h0:len*i.size=0
 ·simp only[zz,h0,if_true] at e1;have hlen':¬ (16777216 < len*i.size):=by omega
  simp[Array.range_zero'] at e1;simp[ho,Instr.buildSlice,run_underlying ht,gr hi,h0,newRow,Array.range_zero',e1]
 ·simp only[zz,h0,if_false] at e1;have hlen':¬ (16777216 < len*i.size):=by omega
  simp at e1;simp[ho,Instr.buildSlice,run_underlying ht,gr hi,zeroValue,typeInfo,hi,hzi,hlen',h0,newRow,e1]
end
end Sz

/- Loads, stores, places, numbers, strings: each operation of the model does what the abstract run says. No program is named here. -/
namespace Sz
open Go
section
variable {P:Program} {φ:dp} {h:aa} {w:World} {fr:List AV} {a:Act}
theorem mr {id:Nat} {cs:List AV} (he:h.row id=some cs):h.get id=some (.row cs):=by
 unfold aa.row at he;split at he
 ·rename_i g;cases he;exact g
 ·cases he
theorem Em {id:Nat} {es:List (AV×AV)} (he:h.lN id=some es):h.get id=some (.map es):=by
 unfold aa.lN at he;split at he
 ·rename_i g;cases he;exact g
 ·cases he
theorem rq (hr:HR φ h w) {id:Nat} {cs:List AV} (hg:h.get id=some (.row cs)) (j:Nat) (hj:j < cs.length):
 ∃v,w.cell? ⟨(φ id).eM,(φ id).base+j,none⟩=some v∧dK φ h w cs[j] v∧v.oneCell'=true:=by
 obtain⟨c,el,fz,h1,h2,h3,h4,h5,h6⟩:=hr.rows id cs hg;have hlt:(φ id).base+j < c.size:=by omega
 have e:c.getD ((φ id).base+j) default=c[(φ id).base+j]:=by simp[Array.getD,hlt]
 refine⟨c.getD ((φ id).base+j) default,?_,h6 j hj,h5 j (by omega)⟩;unfold World.cell?;simp[h1,e,hlt]
theorem mz {t:TypeId} {n:Option Nat} (he:za P t=some n) (w:World):
 (isAgg t).run P w=.ok n.isSome w∧∀m,n=some m→∃i,P.info? t=some i∧i.size=m:=by
 unfold za at he
 cases hu:P.underlying t with
 | none=>simp[hu] at he
 | some d=>
   rw[hu] at he
   cases d<;>first
    | (simp only[Option.map_eq_some_iff] at he
       obtain⟨i,hi,rfl⟩:=he;exact⟨by simp[isAgg,run_underlying hu],fun m hm=>⟨i,hi,by simpa using hm⟩⟩)
    | (simp only[Option.some.injEq] at he
       subst he;exact⟨by simp[isAgg,run_underlying hu],fun m hm=>by cases hm⟩)
theorem Jf {t:TypeId} {n:Option Nat} (ht:za P t=some n) {x v:AV} {cx:Value} (hx:dK φ h w x cx) (hr:HR φ h w) (he:Fg h n x=some v):
 ∃ad cv,cx=.pointer (some ad)∧(loadVar t ad).run P w=.ok cv w∧dK φ h w v cv:=by
 obtain⟨hag,hsz⟩:=mz ht w
 cases hx with
 | ptr id off hid=>
   unfold Fg at he;dsimp only at he;split at he
   ·rename_i cs n hrow;have hg:=mr hrow;obtain⟨hoff,hv⟩:=List.getElem?_eq_some_iff.1 he;obtain⟨cv,c1,c2,c3⟩:=rq hr hg off hoff;refine⟨_,cv,rfl,?_,hv ▸ c2⟩;simp[loadVar,hag,c1]
   ·rename_i cs n hrow;have hg:=mr hrow;split at he
    ·rename_i hle;cases he;obtain⟨i,hi,hin⟩:=hsz n rfl
     have hcells:∀j,j < n→∃cv,w.cell? ⟨(φ id).eM,(φ id).base+off+j,none⟩=some cv∧dK φ h w (cs.getD (off+j) .undef) cv∧cv.oneCell'=true:=by
      intro j hj;obtain⟨cv,c1,c2,c3⟩:=rq hr hg (off+j) (by omega);have hlt:off+j < cs.length:=by omega
      exact⟨cv,by rw[Nat.add_assoc];exact c1,by simpa[List.getD,hlt] using c2,c3⟩
     let f:Nat→Value:=fun j=>(w.cell? ⟨(φ id).eM,(φ id).base+off+j,none⟩).getD default
     have hf:∀j,j < n→w.cell? ((⟨(φ id).eM,(φ id).base+off,none⟩:Addr).add j)=some (f j):=fun j hj=>by
      obtain⟨cv,c1,_⟩:=hcells j hj;rw[Addr.add_lit];simp[f,c1]
     have hrun:=run_loadCells (P:=P) w ⟨(φ id).eM,(φ id).base+off,none⟩ n f hf;refine⟨_,.agg ((List.range n).map f).toArray,rfl,?_,.agg _ _ (by simp;omega) (fun j=>?_) fun j hj=>?_⟩
     ·simp[loadVar,hag,gr hi,hin,hrun]
     ·by_cases hj:j < n
      ·obtain⟨cv,c1,c2,c3⟩:=hcells j hj;simpa[Array.getD,hj,f,c1] using c3
      ·simp[Array.getD,hj];rfl
     ·have hj':j < n:=by simp at hj;omega
      obtain⟨cv,c1,c2,c3⟩:=hcells j hj';have hlt:off+j < cs.length:=by omega
      simp[List.getD,hlt] at c2;simpa[Array.getD,hj',f,c1] using c2
    ·cases he
   ·cases he
 | ip cs b o vs hp hrf h1 hc hv=>
   unfold Fg at he;dsimp only at he
   cases n with
   | none=>
     dsimp only at he;obtain⟨h0,rfl⟩:=List.getElem?_eq_some_iff.1 he;have:=hc 0 h0;refine⟨_,vs 0,rfl,?_,hv 0 h0⟩;simp at this;simp[loadVar,hag,this]
   | some n=>
     dsimp only at he;split at he
     ·rename_i hle;cases he;obtain⟨i,hi,hin⟩:=hsz n rfl
      have hf:∀j,j < n→w.cell? ((⟨b,o,none⟩:Addr).add j)=some (vs j):=fun j hj=>by
       rw[Addr.add_lit];exact hc j (by omega)
      have hrun:=run_loadCells (P:=P) w ⟨b,o,none⟩ n vs hf;refine⟨_,.agg ((List.range n).map vs).toArray,rfl,?_,.agg _ _ (by simp;omega) (fun j=>?_) fun j hj=>?_⟩
      ·simp[loadVar,hag,gr hi,hin,hrun]
      ·by_cases hj:j < n
       ·simpa[Array.getD,hj] using h1 j
       ·simp[Array.getD,hj];rfl
      ·have hj':j < n:=by simp at hj;omega
       have:=hv j (by omega);simpa[Array.getD,hj'] using this
     ·cases he
 | _=>simp[Fg] at he
theorem R1 {t:TypeId} {x:Operand} {o:Oper} (ho:o.op=.load t x) {x':cI} (hx:eD x=some x') {n:Option Nat} (ht:za P t=some n) {v:AV}
 (he:Fg h n (x'.ev fr)=some v) (hf:FR φ h w fr a.tmps) (hr:HR φ h w):dV P (execOp a.eval o) φ h w v h:=by
 obtain⟨ad,cv,e1,e2,e3⟩:=Jf ht (bO hx hf) hr he;refine .pure hr ?_ e3;unfold execOp;simp[ho,Instr.loadAt,Instr.sureAddr,e1,e2]
def nw (c:Array Value) (k:Nat):List Value→Array Value
 | []=>c
 | v::r=>nw (c.setIfInBounds k v) (k+1) r
theorem iK:∀(vs:List Value) (c:Array Value) (k:Nat),(nw c k vs).size=c.size
 | [],_,_=>rfl
 | v::r,c,k=>by simp[nw,iK r]
theorem jD:∀(vs:List Value) (c:Array Value) (k j:Nat),k+vs.length≤c.size→
 (nw c k vs).getD j default=if k≤j∧j < k+vs.length then vs.getD (j - k) default else c.getD j default
 | [],c,k,j,_=>by
   simp only[nw,List.length_nil];rw[if_neg (by omega)]
 | v::r,c,k,j,hl=>by
   simp only[List.length_cons] at hl;rw[nw,jD r _ _ _ (by simp;omega)];simp only[List.length_cons];by_cases h1:k+1≤j∧j < k+1+r.length
   ·rw[if_pos h1,if_pos (by omega)];rw[show j - k=(j - (k+1))+1 by omega,List.getD_cons_succ]
   ·rw[if_neg h1];by_cases h2:j=k
    ·subst h2;rw[if_pos (by omega)];have:j < c.size:=by omega
     simp[Array.getD,this]
    ·rw[if_neg (by omega)];have hne:k≠j:=fun e=>h2 e.symm
     rw[Array.getD_eq_getD_getElem?,Array.getD_eq_getD_getElem?,Array.getElem?_setIfInBounds];simp[hne]
theorem iU {b:Nat} {el:TypeId} {fz:Nat×Nat}:∀(vs:List Value) (c:Array Value) (o i:Nat) (w:World),w.heap[b]? =some (.cells c el fz)→o+i+vs.length≤c.size→
 (∀x,x < c.size→¬ (fz.1≤x∧x < fz.2))→(∀v ∈ vs,v.oneCell'=true)→
 ∃w',(storeCells ⟨b,o,none⟩ vs i).run P w=.ok () w'∧w'.heap[b]? =some (.cells (nw c (o+i) vs) el fz)∧w'.heap.size=w.heap.size∧(∀x,x≠b→w'.heap[x]? =w.heap[x]?)∧
   w'.os=w.os∧w'.tape=w.tape∧w'.output=w.output
 | [],c,o,i,w,hb,_,_,_=>⟨w,by simp[storeCells],by simpa[nw] using hb,rfl,fun _ _=>rfl,rfl,rfl,rfl⟩
 | v::r,c,o,i,w,hb,hl,hfz,h1=>by
   simp only[List.length_cons] at hl;have hlt:o+i < c.size:=by omega
   have hcell:w.cell? ⟨b,o+i,none⟩=some c[o+i]:=by unfold World.cell?;simp[hb,hlt]
   have hfr:w.frozen? ⟨b,o+i,none⟩=false:=by
    have:=hfz (o+i) hlt;unfold World.frozen?;simp only[hb];simpa using this
   have hb':(w.setCell ⟨b,o+i,none⟩ v).heap[b]? =some (.cells (c.setIfInBounds (o+i) v) el fz):=by
    simp[World.setCell,Array.getElem?_modify,hb]
   obtain⟨w',e1,e2,e3,e4,e5,e6,e7⟩:=iU r (c.setIfInBounds (o+i) v) o (i+1) (w.setCell ⟨b,o+i,none⟩ v) hb' (by simp;omega) (by simpa using hfz) (fun v hv=>h1 v (by simp[hv]));refine⟨w',?_,by rw[nw,Nat.add_assoc];exact e2,by rw[e3];simp,fun x hx=>(e4 x hx).trans ?_,e5,e6,e7⟩
   ·unfold storeCells;rw[Sem.run_bind,Addr.add_lit,run_store P w _ v _ (h1 v (by simp))];simp[hcell,hfr,e1]
   ·simp[World.setCell,Array.getElem?_modify,Ne.symm hx]
end
end Sz

/- Stores, tests, numbers, strings, places: each operation of the model does what the abstract run says. No program is named here. -/
namespace Sz
open Go
section
variable {P:Program} {φ:dp} {h:aa} {w:World} {fr:List AV} {a:Act}
theorem yJ:∀(vs:List AV) (l:List AV) (k j:Nat),k+vs.length≤l.length→
 (putAt l k vs).getD j .undef=if k≤j∧j < k+vs.length then vs.getD (j - k) .undef else l.getD j .undef
 | [],l,k,j,_=>by
   simp only[putAt,List.length_nil];rw[if_neg (by omega)]
 | v::r,l,k,j,hl=>by
   simp only[List.length_cons] at hl;rw[putAt,yJ r _ _ _ (by simp;omega)];simp only[List.length_cons];by_cases h1:k+1≤j∧j < k+1+r.length
   ·rw[if_pos h1,if_pos (by omega)];rw[show j - k=(j - (k+1))+1 by omega,List.getD_cons_succ]
   ·rw[if_neg h1];by_cases h2:j=k
    ·subst h2;rw[if_pos (by omega)];have:j < l.length:=by omega
     simp[List.getD,this]
    ·rw[if_neg (by omega)];have hne:k≠j:=fun e=>h2 e.symm
     simp[List.getD,hne]
theorem td (hr:HR φ h w) {id off:Nat} {cs vs:List AV} {cvs:List Value} (hg:h.get id=some (.row cs)) (hle:off+vs.length≤cs.length) (hlen:vs.length=cvs.length)
 (hv:∀j (h1:j < vs.length) (h2:j < cvs.length),dK φ h w vs[j] cvs[j]∧cvs[j].oneCell'=true):
 ∃w',(storeCells ⟨(φ id).eM,(φ id).base+off,none⟩ cvs).run P w=.ok () w'∧HR φ (h.set id (.row (putAt cs off vs))) w'∧Ext φ h w φ (h.set id (.row (putAt cs off vs))) w':=by
 obtain⟨c,el,fz,h1,h2,h3,h4,h5,h6⟩:=hr.rows id cs hg
 obtain⟨w',e1,e2,e3,e4,e5,e6,e7⟩:=iU (P:=P) cvs c ((φ id).base+off) 0 w h1 (by omega) h4 (fun v hvm=>by
  obtain⟨j,hj,rfl⟩:=List.getElem_of_mem hvm;exact (hv j (by omega) hj).2)
 obtain⟨t1,t2⟩:=AL (w':=w') (o':=.row (putAt cs off vs)) hr hg (fun e=>by cases e) e3 e4 e5 e6 e7;refine⟨w',e1,t2 (fun cs' hcs'=>?_) (fun es hes=>by cases hes),t1⟩;cases hcs';refine⟨_,el,fz,e2,by rw[iK];exact h2,by rw[qW];exact h3,by rw[iK];exact h4,fun j hj=>?_,fun j hj=>?_⟩
 ·rw[jD _ _ _ _ (by omega)];split
  ·rename_i hin;have hlt:(φ id).base+j - ((φ id).base+off+0) < cvs.length:=by omega
   have:=(hv _ (by omega) hlt).2;rw[List.getD_eq_getElem?_getD,List.getElem?_eq_getElem hlt];exact this
  ·exact h5 j hj
 ·have hj':j < cs.length:=by rw[qW] at hj;exact hj
  have hp:=yJ vs cs off j hle;rw[List.getD_eq_getElem?_getD,List.getElem?_eq_getElem hj,Option.getD_some] at hp;rw[hp,jD _ _ _ _ (by omega)];by_cases hin:off≤j∧j < off+vs.length
  ·rw[if_pos hin,if_pos (by omega)];have q1:j - off < vs.length:=by omega
   have q2:(φ id).base+j - ((φ id).base+off+0)=j - off:=by omega
   have q3:j - off < cvs.length:=by omega
   have:=((hv _ q1 q3).1).ext t1;rw[q2];simpa[List.getD,q1,q3] using this
  ·rw[if_neg hin,if_neg (by omega)];have:=(h6 j hj').ext t1;simpa[List.getD,hj'] using this
theorem QP {t:TypeId} {x v:Operand} {o:Oper} (ho:o.op=.store t x v) {x' v':cI} (hx:eD x=some x') (hv:eD v=some v') {i:TypeInfo} (hi:P.info? t=some i)
 {id off:Nat} (hp:x'.ev fr=.ptr id off) {vs cs:List AV} (hvs:(v'.ev fr).cells? =some vs) (hrow:h.row id=some cs) (hlen:vs.length=i.size) (hle:off+i.size≤cs.length)
 (hf:FR φ h w fr a.tmps) (hr:HR φ h w):dV P (execOp a.eval o) φ h w .undef ((h.set id (.row (putAt cs off vs))).mark id (v'.ev fr)):=by
 have hg:=mr hrow;have g1:=bO hx hf;rw[hp] at g1;obtain⟨k1,k2,k3⟩:=(bO hv hf).cells hvs
 obtain⟨w',e1,e2,e3⟩:=td (P:=P) (cvs:=(a.eval v).cells.toList) hr hg (by omega:off+vs.length≤cs.length) (by simpa using k1.symm) fun j q1 q2=>by
  have r1:=k3 j q1;have r2:=k2 j;have hj:j < (a.eval v).cells.size:=by omega
  simp only[Array.getD,hj,dif_pos] at r1 r2;exact⟨by simpa using r1,by simpa using r2⟩
 obtain⟨m1,m2⟩:=e2.mark id (v'.ev fr);refine⟨undef,w',φ,.inr ⟨?_,rfl⟩,.undef _,m1,e3.trans m2⟩
 have hc:a.eval x=.pointer (some ⟨(φ id).eM,(φ id).base+off,none⟩):=by
  cases hq:a.eval x<;>rw[hq] at g1<;>cases g1;rfl
 unfold execOp;have hsz:(a.eval v).cells.size=i.size:=by omega
 simp[ho,Instr.storeAt,Instr.sureAddr,hc,storeVar,gr hi,hsz,e1]
theorem Du {x:AV} {cx:Value} (hn:Gh x=some false) (hx:dK φ h w x cx):
 (∃ad,cx=.pointer (some ad))∨(∃t v,cx=.iface t v)∨(∃f c,cx=.func (.func f) #[] c)∨(∃r,cx=.map (some r)):=by
 cases hx<;>simp[Gh] at hn
 ·exact .inl ⟨_,rfl⟩
 ·exact .inl ⟨_,rfl⟩
 ·exact .inr (.inr (.inr ⟨_,rfl⟩))
 ·exact .inr (.inr (.inl ⟨_,_,rfl⟩))
 ·exact .inr (.inl ⟨_,_,rfl⟩)
theorem Qx {x:Operand} {o:Oper} (ho:o.op=.nilCheck x) {x':cI} (hx:eD x=some x') (hn:Gh (x'.ev fr)=some false)
 (hf:FR φ h w fr a.tmps) (hr:HR φ h w):dV P (execOp a.eval o) φ h w (x'.ev fr) h:=by
 have g:=bO hx hf;refine .pure hr ?_ g;unfold execOp;rcases Du hn g with⟨ad,e⟩ | ⟨t,v,e⟩ | ⟨f,c,e⟩ | ⟨r,e⟩<;>simp[ho,e]
theorem lU (op:BinOp) (t:TypeId) (x y:Operand) {u v:Value} (hu:(∃k n,u=.int k n)∨(∃s,u=.string s)∨(∃b,u=.bool b)):eqGuard op t x y u v=Pure.pure ():=by
 rcases hu with⟨k,n,rfl⟩ | ⟨s,rfl⟩ | ⟨b,rfl⟩<;>cases op<;>rfl
theorem xy (w:World) (op:BinOp) (t:TypeId) (k:IntKind) (x y:Int) (v:AV) (hv:qJ op (.int k x) (.int k y)=some v) (hs:op≠.shl∧op≠.shr):
 ∃cv,(binOp op t (.int k x) (.int k y)).run P w=.ok cv w∧∀nx pr,RV φ nx pr w v cv:=by
 cases op<;>simp at hs<;>simp only[qJ,if_true] at hv<;>simp only[binOp,ne_eq,not_true,if_false]
 case quo | rem=>
  split at hv
  ·cases hv
  ·rename_i h0;cases hv;exact⟨_,by simp[Op.intDiv,h0],fun _ _=>.int _ _⟩
 case add | sub | mul=>cases hv;exact⟨_,by simp[Op.intArith],fun _ _=>.int _ _⟩
 case and | or | xor | andNot=>cases hv;exact⟨_,rfl,fun _ _=>.int _ _⟩
 case eql=>cases hv;exact⟨_,rfl,fun _ _=>RV.bool (x==y)⟩
 case neq=>cases hv;exact⟨_,rfl,fun _ _=>RV.bool (!(x==y))⟩
 case lss | leq | gtr | geq=>cases hv;exact⟨_,by simp only[Op.intCmp];rfl,fun _ _=>.bool _⟩
 all_goals (cases hv)
theorem Ch (w:World) (op:BinOp) (t:TypeId) (k k':IntKind) (x y:Int) (v:AV) (hs:op=.shl∨op=.shr) (hv:qJ op (.int k x) (.int k' y)=some v):
 ∃cv,(binOp op t (.int k x) (.int k' y)).run P w=.ok cv w∧∀nx pr,RV φ nx pr w v cv:=by
 rcases hs with rfl | rfl<;>simp only[qJ] at hv<;>split at hv<;>cases hv
 ·rename_i h0;refine⟨.int k (k.wrap (x*2 ^ min y.toNat k.bits)),?_,fun _ _=>.int _ _⟩;show (Op.shift .shl k x k' y).run P w=_;unfold Op.shift;rw[if_neg h0];rfl
 ·rename_i h0;refine⟨.int k (x.fdiv (2 ^ min y.toNat k.bits)),?_,fun _ _=>.int _ _⟩;show (Op.shift .shr k x k' y).run P w=_;unfold Op.shift;rw[if_neg h0];rfl
theorem HG (w:World) (op:BinOp) (t:TypeId) (x y:ByteArray) (v:AV) (hv:qJ op (.str x.data.toList) (.str y.data.toList)=some v):
 ∃cv,(binOp op t (.string x) (.string y)).run P w=.ok cv w∧∀nx pr,RV φ nx pr w v cv:=by
 have e:(x.toList==y.toList)=(x.data.toList==y.data.toList):=by rw[ByteArray.toList_eq,ByteArray.toList_eq]
 cases op<;>simp only[qJ] at hv
 case add=>
  split at hv
  ·rename_i hl;cases hv;refine⟨.string (x++y),?_,fun _ _=>.qI (by simp[ByteArray.data_append])⟩
   have hsz:((x.size+y.size:Nat):Int)≤9223372036854775807:=by
    have h1:x.data.toList.length=x.size:=Array.length_toList;have h2:y.data.toList.length=y.size:=Array.length_toList;rw[h1,h2] at hl;omega
   have:¬ (((x.size+y.size:Nat):Int) > IntKind.i64.max):=by rw[IntKind.max_i64];omega
   show (Op.stringOp .add x y).run P w=_;unfold Op.stringOp;dsimp only;rw[if_neg this];rfl
  ·cases hv
 case eql=>cases hv;exact⟨.bool (x.toList==y.toList),rfl,fun _ _=>e ▸ .bool _⟩
 case neq=>cases hv;exact⟨.bool (!(x.toList==y.toList)),rfl,fun _ _=>e ▸ .bool _⟩
 case lss=>cases hv;exact⟨.bool (Op.bytesLess x.toList y.toList),rfl,fun _ _=>by rw[ByteArray.toList_eq,ByteArray.toList_eq];exact .bool _⟩
 case leq=>cases hv;exact⟨.bool (Op.bytesLess x.toList y.toList||x.toList==y.toList),rfl,fun _ _=>by rw[ByteArray.toList_eq,ByteArray.toList_eq];exact .bool _⟩
 case gtr=>cases hv;exact⟨.bool (!(Op.bytesLess x.toList y.toList||x.toList==y.toList)),rfl,fun _ _=>by rw[ByteArray.toList_eq,ByteArray.toList_eq];exact .bool _⟩
 case geq=>cases hv;exact⟨.bool (!(Op.bytesLess x.toList y.toList)),rfl,fun _ _=>by rw[ByteArray.toList_eq,ByteArray.toList_eq];exact .bool _⟩
 all_goals (cases hv)
theorem Qi {neg:Bool} {t ty:TypeId} {x y:Operand} {o:Oper} (ho:o.op=.binOp (if neg then .neq else .eql) t x y ty) {x' y':cI} (hx:eD x=some x') (hy:eD y=some y')
 (ht:P.underlying t=some .bool) {u v:Bool} (hu:x'.ev fr=.bool u) (hv:y'.ev fr=.bool v) (hf:FR φ h w fr a.tmps) (hr:HR φ h w):
 dV P (execOp a.eval o) φ h w (.bool (if neg then !(u==v) else u==v)) h:=by
 have g1:=bO hx hf;have g2:=bO hy hf;rw[hu] at g1;rw[hv] at g2;have hq0:∀d,(Op.equalIn (d+1) t (.bool u) (.bool v)).run P w=.ok (u==v) w:=fun d=>by simp[Op.equalIn,run_underlying ht]
 have hq:(Op.equal t (.bool u) (.bool v)).run P w=.ok (u==v) w:=hq0 9999;refine .pure (cv:=.bool (if neg then !(u==v) else u==v)) hr ?_ (.bool _);unfold execOp;cases neg
 ·simp only[Bool.false_eq_true,if_false] at ho ⊢;simp[ho,g1.eX,g2.eX,lU .eql t x y (u:=.bool u) (v:=.bool v) (.inr (.inr ⟨_,rfl⟩)),binOp,hq]
 ·simp only[if_true] at ho ⊢;simp[ho,g1.eX,g2.eX,lU .neq t x y (u:=.bool u) (v:=.bool v) (.inr (.inr ⟨_,rfl⟩)),binOp,hq]
theorem KB {op:BinOp} {t ty:TypeId} {x y:Operand} {o:Oper} (ho:o.op=.binOp op t x y ty) {x' y':cI} (hx:eD x=some x') (hy:eD y=some y') {v:AV} (hv:qJ op (x'.ev fr) (y'.ev fr)=some v)
 (hf:FR φ h w fr a.tmps) (hr:HR φ h w):dV P (execOp a.eval o) φ h w v h:=by
 have g1:=bO hx hf;have g2:=bO hy hf
 have key:∃cv,(binOp op t (a.eval x) (a.eval y)).run P w=.ok cv w∧(∀nx pr,RV φ nx pr w v cv)∧((∃k n,a.eval x=.int k n)∨(∃s,a.eval x=.string s)∨(∃b,a.eval x=.bool b)):=by
  cases hx':x'.ev fr with
  | int k n=>
    cases hy':y'.ev fr with
    | int k' n'=>
      rw[hx'] at g1;rw[hy'] at g2;rw[g1.dh,g2.dh];rw[hx',hy'] at hv;by_cases hs:op=.shl∨op=.shr
      ·obtain⟨cv,e1,e2⟩:=Ch (P:=P) (φ:=φ) w op t k k' n n' v hs hv;exact⟨cv,e1,e2,.inl ⟨_,_,rfl⟩⟩
      ·have hkk:k=k':=by
        cases op<;>simp at hs<;>simp only[qJ] at hv<;>split at hv<;>first | assumption | cases hv
       subst hkk;obtain⟨cv,e1,e2⟩:=xy (P:=P) (φ:=φ) w op t k n n' v hv ⟨fun e=>hs (.inl e),fun e=>hs (.inr e)⟩;exact⟨cv,e1,e2,.inl ⟨_,_,rfl⟩⟩
    | _=>rw[hx',hy'] at hv;simp[qJ] at hv
  | str s=>
    cases hy':y'.ev fr with
    | str s'=>
      rw[hx'] at g1;rw[hy'] at g2;obtain⟨b1,q1,q2⟩:=g1.eO;obtain⟨b2,q3,q4⟩:=g2.eO;rw[q1,q3];rw[hx',hy',←q2,←q4] at hv;obtain⟨cv,e1,e2⟩:=HG (P:=P) (φ:=φ) w op t b1 b2 v hv;exact⟨cv,e1,e2,.inr (.inl ⟨_,rfl⟩)⟩
    | _=>rw[hx',hy'] at hv;simp[qJ] at hv
  | _=>rw[hx'] at hv;simp[qJ] at hv
 obtain⟨cv,e1,e2,e3⟩:=key;refine .pure hr ?_ (e2 _ _);unfold execOp;simp[ho,lU op t x y e3,e1]
theorem Su {op:UnOp} {t:TypeId} {x:Operand} {o:Oper} (ho:o.op=.unOp op t x) {x':cI} (hx:eD x=some x') {v:AV}
 (hv:(match (generalizing:=false) op,x'.ev fr with
 | .not,.bool b=>some (AV.bool (!b))
 | .neg,.int k n=>some (.int k (k.wrap (0 - n)))
 | .xor,.int k n=>some (.int k (yV .xor k (if k.signed then -1 else k.max) n))
 | _,_=>none)=some v) (hf:FR φ h w fr a.tmps) (hr:HR φ h w):dV P (execOp a.eval o) φ h w v h:=by
 have g:=bO hx hf;split at hv
 ·rename_i b hb;cases hv;rw[hb] at g;exact .pure (cv:=.bool (!b)) hr (by unfold execOp;simp[ho,g.eX,Op.unary]) (.bool _)
 ·rename_i k n hb;cases hv;rw[hb] at g;exact .pure (cv:=.int k (k.wrap (0 - n))) hr (by unfold execOp;simp[ho,g.dh,Op.unary,Op.intArith]) (.int _ _)
 ·rename_i k n hb;cases hv;rw[hb] at g;refine .pure (cv:=.int k (yV .xor k (if k.signed then -1 else k.max) n)) hr ?_ (.int _ _);unfold execOp;simp only[ho,g.dh,Op.unary];rfl
 ·cases hv
theorem PU {s d:TypeId} {x:Operand} {o:Oper} (ho:o.op=.convert s d x) {x':cI} (hx:eD x=some x') {k0 k:IntKind} (hs:P.underlying s=some (.int k0)) (hd:P.underlying d=some (.int k))
 {k':IntKind} {n:Int} (hv:x'.ev fr=.int k' n) (hf:FR φ h w fr a.tmps) (hr:HR φ h w):dV P (execOp a.eval o) φ h w (.int k (k.wrap n)) h:=by
 have g:=bO hx hf;rw[hv] at g;exact .pure (cv:=.int k (k.wrap n)) hr (by unfold execOp;simp[ho,g.dh,convert,run_underlying hs,run_underlying hd,Conv.intToInt]) (.int _ _)
theorem L3 {s d:TypeId} {x:Operand} {o:Oper} (ho:o.op=.convert s d x) {x':cI} (hx:eD x=some x') (hs:P.underlying s=some .string) (hd:P.underlying d=some .string)
 {b:List UInt8} (hv:x'.ev fr=.str b) (hf:FR φ h w fr a.tmps) (hr:HR φ h w):dV P (execOp a.eval o) φ h w (.str b) h:=by
 have g:=bO hx hf;rw[hv] at g;obtain⟨c,q1,q2⟩:=g.eO;exact .pure (cv:=.string c) hr (by unfold execOp;simp[ho,q1,convert,run_underlying hs,run_underlying hd]) (.qI q2)
theorem Pp {t:TypeId} {x:Operand} {o:Oper} (ho:o.op=.makeInterface t x) {x':cI} (hx:eD x=some x') {d:TypeDesc} (ht:P.underlying t=some d) (hd:∀ms,d≠.interface ms)
 (hf:FR φ h w fr a.tmps) (hr:HR φ h w):dV P (execOp a.eval o) φ h w (.iface t (x'.ev fr)) h:=by
 refine .pure (cv:=.iface t (a.eval x)) hr ?_ (.iface _ _ _ (bO hx hf));unfold execOp
 cases d<;>first
  | (rename_i ms;exact absurd rfl (hd ms))
  | simp[ho,Instr.makeInterface,run_underlying ht]
theorem Pd {f:Nat} {caps:Array Operand} {first:Array Operand} {o:Oper} (ho:o.op=.makeFunc (.func f) first caps) (h0:first.isEmpty=true) {caps':List cI} (hc:jO caps=some caps')
 (hf:FR φ h w fr a.tmps) (hr:HR φ h w):dV P (execOp a.eval o) φ h w (.fn f (caps'.map (·.ev fr))) h:=by
 obtain⟨g1,g2⟩:=Fi hc hf;have h0':first=#[]:=by simpa using h0
 refine .pure (cv:=.func (.func f) #[] (caps.map a.eval)) hr (by unfold execOp;simp[ho,Instr.makeFunc,h0']) (.fn _ _ _ (by simpa using g1) fun j hj=>?_);have:=g2 j (by simpa using hj);have hj':j < caps'.length:=by simpa using hj
 simpa[List.getD,hj'] using this
theorem OE {t:TypeId} {o:Oper} (ho:o.op=.makeMap t none) (hr:HR φ h w):dV P (execOp a.eval o) φ h w (.map h.next) (h.alloc (.map [])):=by
 obtain⟨g1,g2⟩:=Ls (w':=w.alloc (.map #[] 0)) hr rfl rfl rfl rfl;refine⟨.map (some w.heap.size),_,_,.inl ?_,?_,g1,g2⟩
 ·unfold execOp;simp[ho,Instr.makeMap]
 ·have:=RV.map (φ:=dy φ h.next ⟨w.heap.size,0,0⟩) (nx:=(h.alloc (.map [])).next) (pr:=Pr (dy φ h.next ⟨w.heap.size,0,0⟩) (h.alloc (.map [])) (w.alloc (.map #[] 0))) (w:=w.alloc (.map #[] 0)) h.next (by simp)
  have e:dy φ h.next ⟨w.heap.size,0,0⟩ h.next=⟨w.heap.size,0,0⟩:=by simp[dy]
  rw[e] at this;exact this
theorem PM {s:TypeId} {x:Operand} {k:Nat} {o:Oper} (ho:o.op=.fieldAddr s x k) {x':cI} (hx:eD x=some x') {fs:Array Field} (hs:P.underlying s=some (.struct fs)) {fd:Field} (hfd:fs[k]? =some fd)
 {i:TypeInfo} (hi:P.info? fd.type=some i) (h0:i.size≠0) {v:AV} (hv:(match x'.ev fr with | .ptr id o=>some (AV.ptr id (o+fd.offset)) | .ip cs=>some (.ip (cs.drop fd.offset)) | _=>none)=some v)
 (hf:FR φ h w fr a.tmps) (hr:HR φ h w):dV P (execOp a.eval o) φ h w v h:=by
 have g:=bO hx hf
 have key:∀ad:Addr,a.eval x=.pointer (some ad)→(execOp a.eval o).run P w=.ok (.value (.pointer (some (ad.add fd.offset)))) w:=fun ad he=>by
  unfold execOp;simp[ho,Instr.fieldAt,run_underlying hs,hfd,Instr.sureAddr,he,fieldPlace,gr hi,h0]
 split at hv
 ·rename_i id off he;cases hv;rw[he] at g;obtain⟨hq,hid⟩:=g.oU;refine .pure hr (key _ hq) ?_;rw[Addr.add_lit,Nat.add_assoc];exact .ptr _ _ hid
 ·rename_i cs he;cases hv;rw[he] at g;obtain⟨b,o,vs,hq,hp,hrf,h1,hc,hv⟩:=g.Ej;refine .pure hr (key _ hq) ?_;rw[Addr.add_lit];refine .ip _ _ _ (fun j=>vs (fd.offset+j)) hp ?_ (fun j=>h1 _) (fun j hj=>?_) fun j hj=>?_
  ·have:AV.ai (cs.drop fd.offset)≤0:=AV.gE fun v hv=>by
    have:=AV.cA (List.mem_of_mem_drop hv);omega
   omega
  ·have:=hc (fd.offset+j) (by simp at hj;omega);rw[Nat.add_assoc];exact this
  ·have:=hv (fd.offset+j) (by simp at hj;omega);simpa using this
 ·cases hv
theorem O7 {x:Operand} {k:Nat} {o:Oper} (ho:o.op=.extract x k) {x':cI} (hx:eD x=some x') {vs:List AV} (hv:x'.ev fr=.tuple vs) {v:AV} (hk:vs[k]? =some v)
 (hf:FR φ h w fr a.tmps) (hr:HR φ h w):dV P (execOp a.eval o) φ h w v h:=by
 have g:=bO hx hf;rw[hv] at g;obtain⟨hlt,rfl⟩:=List.getElem?_eq_some_iff.1 hk;obtain⟨cvs,hq,hl,hv'⟩:=g.l8;have hlt':k < cvs.size:=by omega
 have:=hv' k hlt;simp only[Array.getD,hlt',dif_pos] at this;refine .pure (cv:=cvs[k]) hr ?_ (by simpa using this);unfold execOp;simp[ho,hq,Instr.extract,hlt']
end
end Sz

/- Places in slices and strings, slices of slices, lengths: each operation of the model does what the abstract run says. No program is named here. -/
namespace Sz
open Go
section
variable {P:Program} {φ:dp} {h:aa} {w:World} {fr:List AV} {a:Act}
theorem Ji {t:TypeId} {n:Option Nat} (ht:za P t=some n) (cs:Array Value) (off:Nat) (w:World):
 (n=none→∀v,cs[off]? =some v→(part t cs off).run P w=.ok v w)∧(∀m,n=some m→(part t cs off).run P w=.ok (.agg (cs.extract off (off+m))) w):=by
 obtain⟨hag,hsz⟩:=mz ht w;refine⟨fun e v hv=>?_,fun m e=>?_⟩
 ·subst e;simp[part,hag,hv]
 ·subst e;obtain⟨i,hi,him⟩:=hsz m rfl;simp[part,hag,gr hi,him]
theorem IS {t:TypeId} {x:Operand} {k:Nat} {o:Oper} (ho:o.op=.field t x k) {x':cI} (hx:eD x=some x') {fs:Array Field} (hs:P.underlying t=some (.struct fs)) {fd:Field} (hfd:fs[k]? =some fd)
 {n:Option Nat} (hn:za P fd.type=some n) {cs:List AV} (hv:x'.ev fr=.agg cs) {v:AV}
 (he:(match (generalizing:=false) n with | none=>cs[fd.offset]? | some n=>if fd.offset+n≤cs.length then some (.agg ((cs.drop fd.offset).take n)) else none)=some v)
 (hf:FR φ h w fr a.tmps) (hr:HR φ h w):dV P (execOp a.eval o) φ h w v h:=by
 have g:=bO hx hf;rw[hv] at g;obtain⟨cvs,hq,hl,h1,hv'⟩:=g.lO;obtain⟨p1,p2⟩:=Ji hn cvs fd.offset w;split at he
 ·obtain⟨hlt,rfl⟩:=List.getElem?_eq_some_iff.1 he;have hlt':fd.offset < cvs.size:=by omega
  have:=hv' fd.offset hlt;simp only[Array.getD,hlt',dif_pos] at this;refine .pure (cv:=cvs[fd.offset]) hr ?_ (by simpa using this);unfold execOp;simp[ho,hq,Instr.field,run_underlying hs,hfd,asAgg,p1 rfl _ (Array.getElem?_eq_getElem hlt')]
 ·rename_i n;split at he
  ·rename_i hle;cases he;refine .pure (cv:=.agg (cvs.extract fd.offset (fd.offset+n))) hr ?_ (.agg _ _ (by simp;omega) (fun j=>?_) fun j hj=>?_)
   ·unfold execOp;simp[ho,hq,Instr.field,run_underlying hs,hfd,asAgg,p2 n rfl]
   ·have:=h1 (fd.offset+j);by_cases hj:j < n
    ·have q:fd.offset+j < cvs.size:=by omega
     have q2:j < min (fd.offset+n) cvs.size - fd.offset:=by omega
     simpa[Array.getD,q,q2] using this
    ·have q2:¬ j < min (fd.offset+n) cvs.size - fd.offset:=by omega
     simp[Array.getD,q2];rfl
   ·have hj':j < n:=by simp at hj;omega
    have:=hv' (fd.offset+j) (by omega);have q:fd.offset+j < cvs.size:=by omega
    have q2:j < min (fd.offset+n) cvs.size - fd.offset:=by omega
    simpa[Array.getD,q,q2] using this
  ·cases he
theorem Of {t:TypeId} {x i:Operand} {o:Oper} (ho:o.op=.index t x i) {x' i':cI} (hx:eD x=some x') (hi:eD i=some i') (ht:P.underlying t=some .string)
 {s:List UInt8} {k:IntKind} {n:Int} (hs:x'.ev fr=.str s) (hn:i'.ev fr=.int k n) (h0:0≤n) {b:UInt8} (hb:s[n.toNat]? =some b)
 (hf:FR φ h w fr a.tmps) (hr:HR φ h w):dV P (execOp a.eval o) φ h w (.int .u8 b.toNat) h:=by
 have g1:=bO hx hf;have g2:=bO hi hf;rw[hs] at g1;rw[hn] at g2;obtain⟨c,q1,q2⟩:=g1.eO;refine .pure (cv:=.int .u8 b.toNat) hr ?_ (.int _ _)
 have hcb:c[n.toNat]? =some b:=by
  rw[←q2] at hb;obtain⟨hl,e⟩:=List.getElem?_eq_some_iff.1 hb;have hl':n.toNat < c.size:=by rw[Array.length_toList] at hl;exact hl
  rw[getElem?_pos c n.toNat hl'];rw[←e];rfl
 unfold execOp;simp[ho,q1,g2.dh,Instr.index,asIntOf,run_underlying ht,h0,hcb]
theorem N3 {t e:TypeId} {x i:Operand} {o:Oper} (ho:o.op=.indexAddr t x i) {x' i':cI} (hx:eD x=some x') (hi:eD i=some i') (ht:P.underlying t=some (.slice e)) {inf:TypeInfo} (hinf:P.info? e=some inf)
 {v:AV} {h':aa} (he:(match x'.ev fr,i'.ev fr with
 | .sl xs,.int _ i=>if 0≤i then (match xs[i.toNat]? with
  | some v=>(match v.cells? with
    | some cs=>if cs.length=inf.size then some (.ip cs,h) else none
    | none=>none)
  | none=>none) else none
 | .vec id off len s _,.int _ i=>if 0≤i∧i < len∧s=inf.size then some (.ptr id (off+i.toNat*inf.size),h) else none
 | _,_=>none)=some (v,h'))
 (hf:FR φ h w fr a.tmps) (hr:HR φ h w):dV P (execOp a.eval o) φ h w v h':=by
 have g1:=bO hx hf;have g2:=bO hi hf
 have hagg:∀k n,a.eval i=.int k n→∀ad len cap,a.eval x=.slice (some ad) len cap→0≤n→n < (len:Int)→
  (execOp a.eval o).run P w=.ok (.value (.pointer (some (ad.add (n.toNat*inf.size))))) w:=fun k n e1 ad len cap e2 h0 hlt=>by
  unfold execOp;simp[ho,e1,e2,Instr.indexAt,asIntOf,run_underlying ht,h0,hlt,gr hinf]
 split at he
 ·rename_i xs k n e1 e2;rw[e1] at g1;rw[e2] at g2;split at he
  ·rename_i h0;split at he
   ·rename_i y hy;split at he
    ·rename_i cs hcs;split at he
     ·rename_i hsz;cases he;obtain⟨hlt,hyx⟩:=List.getElem?_eq_some_iff.1 hy;rcases g1.nU with⟨_,_,rfl,_⟩ | ⟨b,o,cap,sz,vs,hq,hp,hcap,hrf,h1,hsz',hc,hv⟩
      ·simp at hlt
      ·refine .pure hr (hagg k n g2.dh _ _ _ hq h0 (by omega)) ?_;have hs1:=hsz' n.toNat hlt;rw[hyx,hcs] at hs1;simp only[Option.map_some,Option.some.injEq] at hs1
       have hcc:y.cells=cs:=by
        cases y<;>simp[AV.cells?] at hcs<;>simp[AV.cells,hcs]
       rw[Addr.add_lit];refine .ip _ _ _ (fun j=>vs n.toNat j) hp ?_ (fun j=>h1 _ _) (fun j hj=>?_) fun j hj=>?_
       ·have h2:AV.ai cs=y.refs:=by cases y<;>simp[AV.cells?] at hcs<;>subst hcs<;>simp[AV.refs,AV.ai]
        have h3:=AV.cA (List.getElem_mem hlt);rw[hyx] at h3;omega
       ·have:=hc n.toNat j hlt (by omega);rw[←hsz,hs1];exact this
       ·have:=hv n.toNat hlt j (by rw[hyx,hcc];exact hj);simpa[hyx,hcc] using this
     ·cases he
    ·cases he
   ·cases he
  ·cases he
 ·rename_i id off len s lb k n e1 e2;rw[e1] at g1;rw[e2] at g2;split at he
  ·rename_i hh;obtain⟨h0,hlt,hs⟩:=hh;cases he;obtain⟨cap,ad,hq,hid,hl,_,hroom,ha⟩:=g1.gW;have hcap:0 < cap:=by omega
   have had:=ha hcap;subst had;refine .pure hr (hagg k n g2.dh _ _ _ hq h0 hlt) ?_;rw[Addr.add_lit,Nat.add_assoc];exact .ptr _ _ hid
  ·cases he
 ·cases he
theorem tT {n cap:Nat} {lo hi:Option AV} {l u:Nat} (he:sliceB n lo hi=some (l,u)) (hnc:n≤cap) (isSl:Bool) {uB chi:Option Value}
 (hlo:(lo=none∧uB=none)∨∃x cx,lo=some x∧uB=some cx∧dK φ h w x cx) (hhi:(hi=none∧chi=none)∨∃x cx,hi=some x∧chi=some cx∧dK φ h w x cx) (w':World):
 (Instr.sliceBounds isSl n cap uB chi none).run P w'=.ok (l,u,cap) w'∧l≤u∧u≤n:=by
 unfold sliceB at he;split at he
 ·cases he
 ·rename_i u' hu';split at he
  ·cases he
  ·rename_i l' hl';cases he
   have hu:u≤n∧((chi=none∧u=n)∨∃v,chi=some v∧(Instr.sliceBound v cap (if isSl then .sliceAcap else .sliceAlen)).run P w'=.ok u w'):=by
    rcases hhi with⟨rfl,rfl⟩ | ⟨x,cx,rfl,rfl,hx⟩
    ·simp at hu';exact⟨by omega,.inl ⟨rfl,hu'.symm⟩⟩
    ·split at hu'
     ·rename_i e;cases e
     ·rename_i k i e;cases e;split at hu'
      ·rename_i hc;cases hu';refine⟨by omega,.inr ⟨cx,rfl,?_⟩⟩;rw[hx.dh];have h2:i≤(cap:Int):=by omega
       simp[Instr.sliceBound,asIntOf,hc.1,h2]
      ·cases hu'
     ·cases hu'
   have hl:l≤u∧((uB=none∧l=0)∨∃v,uB=some v∧(Instr.sliceBound v u .sliceB).run P w'=.ok l w'):=by
    rcases hlo with⟨rfl,rfl⟩ | ⟨x,cx,rfl,rfl,hx⟩
    ·simp at hl';exact⟨by omega,.inl ⟨rfl,hl'.symm⟩⟩
    ·split at hl'
     ·rename_i e;cases e
     ·rename_i k i e;cases e;split at hl'
      ·rename_i hc;cases hl';refine⟨by omega,.inr ⟨cx,rfl,?_⟩⟩;rw[hx.dh];simp[Instr.sliceBound,asIntOf,hc.1,hc.2]
      ·cases hl'
     ·cases hl'
   refine⟨?_,hl.1,hu.1⟩;rcases hu.2 with⟨rfl,rfl⟩ | ⟨v,rfl,h1⟩<;>rcases hl.2 with⟨rfl,rfl⟩ | ⟨v2,rfl,h2⟩
   ·simp[Instr.sliceBounds]
   ·simp[Instr.sliceBounds,h2]
   ·simp[Instr.sliceBounds,h1]
   ·simp[Instr.sliceBounds,h1,h2]
theorem gD {x:Option Operand} {x':Option cI} (he:uT x=some x') (hf:FR φ h w fr a.tmps):
 (x'.map (·.ev fr)=none∧x.map a.eval=none)∨∃y cy,x'.map (·.ev fr)=some y∧x.map a.eval=some cy∧dK φ h w y cy:=by
 cases x with
 | none=>simp[uT] at he;subst he;exact .inl ⟨rfl,rfl⟩
 | some x=>
   simp only[uT,Option.map_eq_some_iff] at he;obtain⟨y,hy,rfl⟩:=he;exact .inr ⟨_,_,rfl,rfl,bO hy hf⟩
theorem PK {t:TypeId} {x:Operand} {lo hi:Option Operand} {o:Oper} (ho:o.op=.slice t x lo hi none) {x':cI} {lo' hi':Option cI} (hx:eD x=some x') (hlo:uT lo=some lo') (hhi:uT hi=some hi')
 (ht:P.underlying t=some .string) {s:List UInt8} (hs:x'.ev fr=.str s) {l u:Nat} (he:sliceB s.length (lo'.map (·.ev fr)) (hi'.map (·.ev fr))=some (l,u))
 (hf:FR φ h w fr a.tmps) (hr:HR φ h w):dV P (execOp a.eval o) φ h w (.str ((s.take u).drop l)) h:=by
 have g:=bO hx hf;rw[hs] at g;obtain⟨c,q1,q2⟩:=g.eO;have hlen:s.length=c.size:=by rw[←q2,Array.length_toList];rfl
 obtain⟨e1,e2,e3⟩:=tT (P:=P) (cap:=s.length) he (Nat.le_refl _) false (gD hlo hf) (gD hhi hf) w;rw[hlen] at e1;refine .pure (cv:=.string (c.extract l u)) hr ?_ (.qI ?_)
 ·unfold execOp;simp[ho,q1,Instr.sliceAt,run_underlying ht,Instr.slice,e1]
 ·rw[ByteArray.data_extract,←q2,Array.toList_extract,List.extract_eq_take_drop,List.drop_take]
theorem My {t:TypeId} {x:Operand} {o:Oper} (ho:o.op=.call {callee:=.builtin .len,args:=#[x],argTypes:=#[t]}) {x':cI} (hx:eD x=some x') (ht:P.underlying t=some .string)
 {s:List UInt8} (hs:x'.ev fr=.str s) (hf:FR φ h w fr a.tmps) (hr:HR φ h w):dV P (execOp a.eval o) φ h w (.int .i64 s.length) h:=by
 have g:=bO hx hf;rw[hs] at g;obtain⟨c,q1,q2⟩:=g.eO;have hlen:s.length=c.size:=by rw[←q2,Array.length_toList];rfl
 refine .pure (cv:=.int .i64 c.size) hr ?_ (by rw[hlen];exact .int _ _);unfold execOp;simp[ho,resolve,invoke,builtin,q1,Builtin.len_,run_underlying ht,goInt]
theorem MT {t e:TypeId} {x:Operand} {o:Oper} (ho:o.op=.call {callee:=.builtin .len,args:=#[x],argTypes:=#[t]}) {x':cI} (hx:eD x=some x') (ht:P.underlying t=some (.slice e))
 {v:AV} {h':aa} (he:(match x'.ev fr with
 | .aw=>some (AV.int .i64 0,h)
 | .sl xs=>some (.int .i64 xs.length,h)
 | .vec _ _ n _ _=>some (.int .i64 n,h)
 | _=>none)=some (v,h')) (hf:FR φ h w fr a.tmps) (hr:HR φ h w):dV P (execOp a.eval o) φ h w v h':=by
 have g:=bO hx hf
 have key:∀ad n c,a.eval x=.slice ad n c→(execOp a.eval o).run P w=.ok (.value (.int .i64 n)) w:=fun ad n c hq=>by
  unfold execOp;simp[ho,resolve,invoke,builtin,hq,Builtin.len_,run_underlying ht,goInt]
 split at he
 ·rename_i e1;cases he;rw[e1] at g;obtain⟨ad,hq⟩:=g.jX;exact .pure hr (key _ _ _ hq) (.int _ _)
 ·rename_i xs e1;cases he;rw[e1] at g;rcases g.nU with⟨ad,cap,rfl,hq⟩ | ⟨b,o,cap,sz,vs,hq,_⟩
  ·exact .pure hr (key _ _ _ hq) (.int _ _)
  ·exact .pure hr (key _ _ _ hq) (.int _ _)
 ·rename_i e1;cases he;rw[e1] at g;obtain⟨cap,ad,hq,_⟩:=g.gW;exact .pure hr (key _ _ _ hq) (.int _ _)
 ·cases he
theorem LK {t k e:TypeId} {x:Operand} {o:Oper} (ho:o.op=.call {callee:=.builtin .len,args:=#[x],argTypes:=#[t]}) {x':cI} (hx:eD x=some x') (ht:P.underlying t=some (.map k e))
 {v:AV} {h':aa} (he:(match x'.ev fr with
 | .iC=>some (AV.int .i64 0,h)
 | .map id=>(h.lN id).map fun es=>(.int .i64 es.length,h)
 | _=>none)=some (v,h')) (hf:FR φ h w fr a.tmps) (hr:HR φ h w):dV P (execOp a.eval o) φ h w v h':=by
 have g:=bO hx hf;split at he
 ·rename_i e1;cases he;rw[e1] at g;refine .pure (cv:=.int .i64 0) hr ?_ (.int _ _);unfold execOp;simp[ho,resolve,invoke,builtin,g.re,Builtin.len_,run_underlying ht,goInt]
 ·rename_i id e1;rw[e1] at g;obtain⟨es,hes,e2⟩:=Option.map_eq_some_iff.1 he;cases e2;obtain⟨hq,hid⟩:=g.nt;obtain⟨ents,clk,m1,m2,m3⟩:=hr.maps id es (Em hes);refine .pure (cv:=.int .i64 ents.size) hr ?_ (by rw[m2];exact .int _ _);unfold execOp;have hg:(getObj (φ id).eM).run P w=.ok (.map ents clk) w:=by simp[getObj,Sem.run,m1]
  simp[ho,resolve,invoke,builtin,hq,Builtin.len_,run_underlying ht,goInt,hg]
 ·cases he
theorem Rl {ts:Array TypeId} {x y:Operand} {o:Oper} (ho:o.op=.call {callee:=.builtin .max,args:=#[x,y],argTypes:=ts}) {x' y':cI} (hx:eD x=some x') (hy:eD y=some y')
 {k k':IntKind} {m n:Int} (h1:x'.ev fr=.int k m) (h2:y'.ev fr=.int k' n) (hf:FR φ h w fr a.tmps) (hr:HR φ h w):dV P (execOp a.eval o) φ h w (.int k (if m < n then n else m)) h:=by
 have g1:=bO hx hf;have g2:=bO hy hf;rw[h1] at g1;rw[h2] at g2;refine .pure (cv:=.int k (if m < n then n else m)) hr ?_ (.int _ _);unfold execOp;simp[ho,resolve,invoke,builtin,g1.dh,g2.dh,Builtin.max_,Builtin.max2]
theorem Ry {ts:Array TypeId} {x y:Operand} {o:Oper} (ho:o.op=.call {callee:=.builtin .min,args:=#[x,y],argTypes:=ts}) {x' y':cI} (hx:eD x=some x') (hy:eD y=some y')
 {k k':IntKind} {m n:Int} (h1:x'.ev fr=.int k m) (h2:y'.ev fr=.int k' n) (hf:FR φ h w fr a.tmps) (hr:HR φ h w):dV P (execOp a.eval o) φ h w (.int k (if n < m then n else m)) h:=by
 have g1:=bO hx hf;have g2:=bO hy hf;rw[h1] at g1;rw[h2] at g2;refine .pure (cv:=.int k (if n < m then n else m)) hr ?_ (.int _ _);unfold execOp;simp[ho,resolve,invoke,builtin,g1.dh,g2.dh,Builtin.min_,Builtin.min2]
end
end Sz

/- Slices of slices, tests for nil, structs held against each other, append. No program is named here. -/
namespace Sz
open Go
section
variable {P:Program} {φ:dp} {h:aa} {w:World} {fr:List AV} {a:Act}
abbrev MC (φ:dp) (h:aa) (w:World) (x:Option AV) (cx:Option Value):Prop:=(x=none∧cx=none)∨∃y cy,x=some y∧cx=some cy∧dK φ h w y cy
theorem Da {n cap:Nat} {lo:Option AV} {hi:AV} {l u:Nat} (he:sliceB n lo (some hi)=some (l,u)) {uB:Option Value} {chi:Value} {mk:IntKind} (hnc:n≤cap)
 (hlo:MC φ h w lo uB) (hhi:dK φ h w hi chi) (w':World):
 (Instr.sliceBounds true cap cap uB (some chi) (some (.int mk n))).run P w'=.ok (l,u,n) w'∧l≤u∧u≤n:=by
 unfold sliceB at he;split at he
 ·cases he
 ·rename_i u' hu';split at he
  ·cases he
  ·rename_i l' hl';cases he
   have hm:(Instr.sliceBound (.int mk n) cap .slice3Acap).run P w'=.ok n w':=by
    have:(n:Int)≤cap:=by omega
    simp[Instr.sliceBound,asIntOf,this]
   have hu:u≤n∧(Instr.sliceBound chi n .slice3B).run P w'=.ok u w':=by
    split at hu'
    ·rename_i e;cases e
    ·rename_i k i e;cases e;split at hu'
     ·rename_i hc;cases hu';refine⟨by omega,?_⟩;rw[hhi.dh];simp[Instr.sliceBound,asIntOf,hc.1,hc.2]
     ·cases hu'
    ·cases hu'
   have hl:l≤u∧((uB=none∧l=0)∨∃v,uB=some v∧(Instr.sliceBound v u .slice3C).run P w'=.ok l w'):=by
    rcases hlo with⟨rfl,rfl⟩ | ⟨x,cx,rfl,rfl,hx⟩
    ·simp at hl';exact⟨by omega,.inl ⟨rfl,hl'.symm⟩⟩
    ·split at hl'
     ·rename_i e;cases e
     ·rename_i k i e;cases e;split at hl'
      ·rename_i hc;cases hl';refine⟨by omega,.inr ⟨cx,rfl,?_⟩⟩;rw[hx.dh];simp[Instr.sliceBound,asIntOf,hc.1,hc.2]
      ·cases hl'
     ·cases hl'
   refine⟨?_,hl.1,hu.1⟩;have h1:=hu.2;rcases hl.2 with⟨rfl,rfl⟩ | ⟨v2,rfl,h2⟩
   ·simp[Instr.sliceBounds,hm,h1]
   ·simp[Instr.sliceBounds,hm,h1,h2]
theorem oW {n lb cap:Nat} {lo hi mx:Option AV} {l u:Nat} {m:Option Nat} (he:fP n lb lo hi mx=some (l,u,m)) (hn:n≤cap) (hlb:lb≤cap) {uB chi cmx:Option Value}
 (hlo:MC φ h w lo uB) (hhi:MC φ h w hi chi) (hmx:MC φ h w mx cmx) (w':World):
 (Instr.sliceBounds true n cap uB chi cmx).run P w'=.ok (l,u,m.getD cap) w'∧l≤u∧u≤m.getD cap∧m.getD cap≤cap∧u≤max n lb∧∀k,m=some k→u≤k∧k≤max n lb:=by
 unfold fP at he;split at he
 ·rename_i k i;split at he
  ·rename_i hc;split at he
   ·rename_i hv;obtain⟨p,hp,e⟩:=Option.map_eq_some_iff.1 he;obtain⟨p1,p2⟩:=p;cases e;rcases hmx with⟨e,_⟩ | ⟨y,cy,e,rfl,hy⟩
    ·cases e
    ·cases e;rcases hhi with⟨e,_⟩ | ⟨z,cz,e,rfl,hz⟩
     ·cases e
     ·cases e;obtain⟨e1,e2,e3⟩:=Da (P:=P) (mk:=k) (cap:=cap) hp (by omega) hlo hz w';have hcy:=hy.dh;have hi':((i.toNat:Nat):Int)=i:=Int.toNat_of_nonneg hc.1;rw[hi'] at e1;refine⟨?_,e2,e3,by simp;omega,by omega,fun k hk=>by cases hk;omega⟩;rw[hcy];simp only[Instr.sliceBounds] at e1 ⊢;exact e1
   ·cases he
  ·cases he
 ·cases he
 ·rename_i hmn;rcases hmx with⟨_,rfl⟩ | ⟨y,cy,e,_⟩
  ·split at he
   ·obtain⟨p,hp,e⟩:=Option.map_eq_some_iff.1 he;obtain⟨p1,p2⟩:=p;cases e;rcases hhi with⟨_,rfl⟩ | ⟨z,cz,e,_⟩
    ·obtain⟨e1,e2,e3⟩:=tT (P:=P) (φ:=φ) (h:=h) (w:=w) (cap:=cap) (uB:=uB) (chi:=none) hp hn true hlo (.inl ⟨rfl,rfl⟩) w';exact⟨e1,e2,by simp;omega,by simp,by omega,fun k hk=>by cases hk⟩
    ·cases e
   ·rename_i hv;obtain⟨p,hp,e⟩:=Option.map_eq_some_iff.1 he;obtain⟨p1,p2⟩:=p;cases e;rcases hhi with⟨e,_⟩ | ⟨z,cz,e,rfl,hz⟩
    ·cases e
    ·cases e;obtain⟨e1,e2,e3⟩:=tT (P:=P) (φ:=φ) (h:=h) (w:=w) (cap:=cap) (uB:=uB) (chi:=some cz) hp (by omega) true hlo (.inr ⟨_,_,rfl,rfl,hz⟩) w';refine⟨?_,e2,by simp;omega,by simp,by omega,fun k hk=>by cases hk⟩;simp only[Instr.sliceBounds] at e1 ⊢;exact e1
  ·cases e
theorem PF {t e:TypeId} {x:Operand} {lo hi mx:Option Operand} {o:Oper} (ho:o.op=.slice t x lo hi mx) {x':cI} {lo' hi' mx':Option cI} (hx:eD x=some x') (hlo:uT lo=some lo') (hhi:uT hi=some hi') (hmx:uT mx=some mx')
 (ht:P.underlying t=some (.slice e)) {i:TypeInfo} (hinf:P.info? e=some i) {v:AV} {h':aa}
 (he:(match x'.ev fr with
  | .aw=>(fP 0 0 (lo'.map (·.ev fr)) (hi'.map (·.ev fr)) (mx'.map (·.ev fr))).map fun _=>(AV.aw,h)
  | .sl xs=>if (xs.all fun x=>(x.cells?.map List.length)==some i.size) then
   (fP xs.length xs.length (lo'.map (·.ev fr)) (hi'.map (·.ev fr)) (mx'.map (·.ev fr))).map fun p=>(if p.2.2=some p.1 then .aw else .sl ((xs.take p.2.1).drop p.1),h) else none
  | .vec id off len s lb=>if s=i.size then
   (fP len lb (lo'.map (·.ev fr)) (hi'.map (·.ev fr)) (mx'.map (·.ev fr))).map fun p=>
    (if p.2.2=some p.1 then .aw else .vec id (off+p.1*i.size) (p.2.1 - p.1) i.size (p.2.2.getD lb - p.1),h) else none
  | _=>none)=some (v,h')) (hf:FR φ h w fr a.tmps) (hr:HR φ h w):dV P (execOp a.eval o) φ h w v h':=by
 have g:=bO hx hf
 have key:∀ad n c l u m,a.eval x=.slice ad n c→(Instr.sliceBounds true n c (lo.map a.eval) (hi.map a.eval) (mx.map a.eval)).run P w=.ok (l,u,m) w→
  (execOp a.eval o).run P w=.ok (.value (.slice (if m=l then ad else ad.map (·.add (l*i.size))) (u - l) (m - l))) w:=fun ad n c l u m hq hb=>by
  unfold execOp;simp[ho,Instr.sliceAt,run_underlying ht,Instr.slice,hq,hb,gr hinf]
 split at he
 ·rename_i e1;rw[e1] at g;obtain⟨ad,hq⟩:=g.jX;obtain⟨⟨l,u,m⟩,hp,e2⟩:=Option.map_eq_some_iff.1 he;cases e2;obtain⟨b1,b2,b3,b4,_⟩:=oW (P:=P) (cap:=0) hp (Nat.le_refl _) (Nat.le_refl _) (gD hlo hf) (gD hhi hf) (gD hmx hf) w;have hk:=key _ _ _ _ _ _ hq b1;have:m.getD 0 - l=0∧u - l=0:=by omega
  rw[this.1,this.2] at hk;exact .pure hr hk (.aw _)
 ·rename_i xs e1;rw[e1] at g;split at he
  ·rename_i hall;obtain⟨⟨l,u,m⟩,hp,e2⟩:=Option.map_eq_some_iff.1 he;simp only[Prod.mk.injEq] at e2;obtain⟨e3,rfl⟩:=e2;rcases g.nU with⟨ad,cap,rfl,hq⟩ | ⟨b,o',cap,sz,vs,hq,hpr,hcap,hrf,h1,hsz,hc,hv⟩
   ·obtain⟨b1,b2,b3,b4,b5,b6⟩:=oW (P:=P) (cap:=cap) hp (Nat.zero_le _) (Nat.zero_le _) (gD hlo hf) (gD hhi hf) (gD hmx hf) w;have hk:=key _ _ _ _ _ _ hq b1;simp only[List.length_nil,Nat.max_self,Nat.le_zero] at b5;subst b5;obtain rfl:l=0:=by omega
    split at e3
    ·rename_i hm;subst e3;rw[hm] at hk;simp at hk;exact .pure hr hk (.aw _)
    ·subst e3;simp only[List.take_nil,List.drop_nil];rw[Nat.sub_self] at hk;exact .pure hr hk (.slnil _ _)
   ·obtain⟨b1,b2,b3,b4,b5,b6⟩:=oW (P:=P) (cap:=cap) hp hcap hcap (gD hlo hf) (gD hhi hf) (gD hmx hf) w;have hk:=key _ _ _ _ _ _ hq b1;rw[Nat.max_self] at b5;split at e3
    ·rename_i hm;subst e3;have b7:=b6 l hm;rw[hm] at hk;have:u - l=0:=by omega
     simp[this] at hk;exact .pure hr hk (.aw _)
    ·rename_i hm;subst e3;by_cases h0:u=l
     ·have hnil:(xs.take u).drop l=[]:=by rw[List.drop_eq_nil_iff];simp;omega
      rw[hnil];rw[h0,Nat.sub_self] at hk;exact .pure hr hk (.slnil _ _)
     ·have hlen:((xs.take u).drop l).length=u - l:=by simp;omega
      have hget:∀j (hj:j < ((xs.take u).drop l).length),((xs.take u).drop l)[j]=xs[l+j]'(by omega):=fun j hj=>by simp
      have hne:m.getD cap≠l:=fun e=>h0 (by omega)
      rw[if_neg hne] at hk;simp only[Option.map_some,Addr.add_lit] at hk;rw[←hlen] at hk;have hxs:0 < xs.length:=by omega
      have hszi:sz=i.size:=by
       have q1:=hsz 0 hxs;have q2:=List.all_eq_true.1 hall xs[0] (List.getElem_mem hxs);rw[q1] at q2;simpa using q2
      subst hszi;refine .pure hr hk (.sl _ b _ _ i.size (fun k j=>vs (l+k) j) hpr (by omega) ?_ (fun k j=>h1 _ _) (fun k hk'=>?_) (fun k j hk' hj=>?_) fun k hk' j hj=>?_)
      ·have:AV.ai ((xs.take u).drop l)≤0:=AV.gE fun y hy=>by
        have:=AV.cA (List.mem_of_mem_take (List.mem_of_mem_drop hy));omega
       omega
      ·rw[hget k hk'];exact hsz _ _
      ·have:=hc (l+k) j (by omega) hj;rw[←this];congr 2;rw[Nat.add_mul];omega
      ·have e4:=hget k hk';have hj':j < (xs[l+k]'(by omega)).cells.length:=by rw[←e4];exact hj
       have:=hv (l+k) (by omega) j hj';simpa[e4] using this
  ·cases he
 ·rename_i id off len s lb e1;rw[e1] at g;split at he
  ·rename_i hs;subst hs;obtain⟨⟨l,u,m⟩,hp,e2⟩:=Option.map_eq_some_iff.1 he;simp only[Prod.mk.injEq] at e2;obtain⟨e3,rfl⟩:=e2;obtain⟨cap,ad,hq,hid,hl,hlb,hroom,ha⟩:=g.gW;obtain⟨b1,b2,b3,b4,b5,b6⟩:=oW (P:=P) (cap:=cap) hp hl hlb (gD hlo hf) (gD hhi hf) (gD hmx hf) w;have hk:=key _ _ _ _ _ _ hq b1;split at e3
   ·rename_i hm;subst e3;have b7:=b6 l hm;rw[hm] at hk;have:u - l=0:=by omega
    simp[this] at hk;exact .pure hr hk (.aw _)
   ·rename_i hm;subst e3;refine .pure hr hk (.vec _ _ _ _ _ _ _ hid (by omega) ?_ ?_ fun hpos=>?_)
    ·cases m with
     | none=>simp;omega
     | some k=>simp
    ·have hle:l≤m.getD cap:=by omega
     have:l*i.size+(m.getD cap - l)*i.size=m.getD cap*i.size:=by rw[←Nat.add_mul];congr 1;omega
     have h2:m.getD cap*i.size≤cap*i.size:=Nat.mul_le_mul_right _ b4;omega
    ·rw[if_neg (by omega),ha (by omega)];simp[Addr.add_lit,Nat.add_assoc]
  ·cases he
 ·cases he
end
end Sz

/- Tests for nil, structs held against each other, append, clear, make. No program is named here. -/
namespace Sz
open Go
section
variable {P:Program} {φ:dp} {h:aa} {w:World} {fr:List AV} {a:Act}
theorem AI {y:Operand} (hy:sw y=true):y=.const .nilIface∨y=.const (.pointer none)∨y=.const .nilFunc∨y=.const (.map none):=by
 unfold sw at hy;split at hy<;>first | simp_all | cases hy
theorem P6 {kind:Nat} {neg:Bool} {t ty:TypeId} {x y:Operand} {o:Oper} (ho:o.op=.binOp (if neg then .neq else .eql) t x y ty) {x' y':cI} (hx:eD x=some x') (hy:eD y=some y') (hc:sw y=true)
 (ht:(kind=0∧∃e,P.underlying t=some (.pointer e))∨(kind=1∧∃ms,P.underlying t=some (.interface ms))∨(kind=2∧∃ps rs v,P.underlying t=some (.func ps rs v))∨(kind=3∧∃k e,P.underlying t=some (.map k e)))
 {p:Bool} (hp:qF kind (x'.ev fr)=some p) (hq:qF kind (y'.ev fr)=some true) (hf:FR φ h w fr a.tmps) (hr:HR φ h w):
 dV P (execOp a.eval o) φ h w (.bool (if neg then !p else p)) h:=by
 have g1:=bO hx hf;have g2:=bO hy hf;generalize x'.ev fr=u at g1 hp;generalize y'.ev fr=v at g2 hq;have hcy:=AI hc
 have key:(Op.equal t (a.eval x) (a.eval y)).run P w=.ok p w∧eqGuard (if neg then .neq else .eql) t x y (a.eval x) (a.eval y)=Pure.pure ()∧
  (∀op,op=.eql∨op=.neq→(binOp op t (a.eval x) (a.eval y))=if op=.eql then (do pure (.bool (←Op.equal t (a.eval x) (a.eval y)))) else (do pure (.bool (!(←Op.equal t (a.eval x) (a.eval y)))))):=by
  have eqd:∀A B r,(∀d,(Op.equalIn (d+1) t A B).run P w=.ok r w)→(Op.equal t A B).run P w=.ok r w:=fun A B r hh=>hh 9999
  rcases ht with⟨rfl,e,ht⟩ | ⟨rfl,ms,ht⟩ | ⟨rfl,ps,rs,vv,ht⟩ | ⟨rfl,k,e,ht⟩
  ·have hv:v=.jr:=by cases v<;>simp[qF] at hq;rfl
   subst hv;rw[g2.A1];cases u<;>simp[qF] at hp<;>subst hp
   ·rw[g1.A1];exact⟨eqd _ _ _ fun d=>by simp[Op.equalIn,run_underlying ht],by cases neg<;>rfl,fun op hop=>by rcases hop with rfl | rfl<;>rfl⟩
   ·rw[g1.oU.1];exact⟨eqd _ _ _ fun d=>by simp[Op.equalIn,run_underlying ht],by cases neg<;>rfl,fun op hop=>by rcases hop with rfl | rfl<;>rfl⟩
   ·obtain⟨b,o',vs,e1,_⟩:=g1.Ej;rw[e1];exact⟨eqd _ _ _ fun d=>by simp[Op.equalIn,run_underlying ht],by cases neg<;>rfl,fun op hop=>by rcases hop with rfl | rfl<;>rfl⟩
  ·have hv:v=.jt:=by cases v<;>simp[qF] at hq;rfl
   subst hv;have e2:=g2.B9
   have hyc:y=.const .nilIface:=by
    rcases hcy with rfl | rfl | rfl | rfl
    ·rfl
    ·simp[Act.eval] at e2
    ·simp[Act.eval] at e2
    ·simp[Act.eval] at e2
   subst hyc;rw[e2];cases u<;>simp[qF] at hp<;>subst hp
   ·rw[g1.B9];refine⟨eqd _ _ _ fun d=>by simp[Op.equalIn,run_underlying ht],?_,fun op hop=>by rcases hop with rfl | rfl<;>rfl⟩;cases neg
    ·exact eqGuard_nil_constR .eql t x _
    ·exact eqGuard_nil_constR .neq t x _
   ·obtain⟨c,e1,_⟩:=g1.HP;rw[e1];exact⟨eqd _ _ _ fun d=>by simp[Op.equalIn,run_underlying ht],by cases neg<;>rfl,fun op hop=>by rcases hop with rfl | rfl<;>rfl⟩
  ·have hv:v=.fQ:=by cases v<;>simp[qF] at hq;rfl
   subst hv;rw[g2.xY];cases u<;>simp[qF] at hp<;>subst hp
   ·rw[g1.xY];exact⟨eqd _ _ _ fun d=>by simp[Op.equalIn,run_underlying ht],by cases neg<;>rfl,fun op hop=>by rcases hop with rfl | rfl<;>rfl⟩
   ·obtain⟨c,e1,_⟩:=g1.w8;rw[e1];exact⟨eqd _ _ _ fun d=>by simp[Op.equalIn,run_underlying ht],by cases neg<;>rfl,fun op hop=>by rcases hop with rfl | rfl<;>rfl⟩
  ·have hv:v=.iC:=by cases v<;>simp[qF] at hq;rfl
   subst hv;rw[g2.re];cases u<;>simp[qF] at hp<;>subst hp
   ·rw[g1.re];exact⟨eqd _ _ _ fun d=>by simp[Op.equalIn,run_underlying ht],by cases neg<;>rfl,fun op hop=>by rcases hop with rfl | rfl<;>rfl⟩
   ·rw[g1.nt.1];exact⟨eqd _ _ _ fun d=>by simp[Op.equalIn,run_underlying ht],by cases neg<;>rfl,fun op hop=>by rcases hop with rfl | rfl<;>rfl⟩
 obtain⟨k1,k2,k3⟩:=key;refine .pure (cv:=.bool (if neg then !p else p)) hr ?_ (.bool _);unfold execOp;cases neg
 ·simp only[Bool.false_eq_true,if_false] at ho k2 ⊢;simp[ho,k2,k3 .eql (.inl rfl),k1]
 ·simp only[if_true] at ho k2 ⊢;have h3:=k3 .neq (.inr rfl);simp[ho,k2,h3,k1]
theorem yn {t:TypeId} {k:Nat} (hk:BE P t=some k) (w:World):(isAgg t).run P w=.ok false w:=by
 unfold BE at hk
 split at hk<;>first
  | (rename_i hd;simp[isAgg,run_underlying hd];done)
  | cases hk
theorem CZ {t:TypeId} {k:Nat} (hk:BE P t=some k) {x y:AV} {cx cy:Value} {r:Bool} (he:ij k x y=some r) {nx:Nat} {pr:Nat→Prop} (hx:RV φ nx pr w x cx) (hy:RV φ nx pr w y cy) (d:Nat):
 (Op.equalIn (d+1) t cx cy).run P w=.ok r w:=by
 unfold BE at hk;unfold ij at he;split at he
 ·cases he;split at hk<;>cases hk;rename_i ht;rw[hx.eX,hy.eX];exact run_equalIn_bool' w d t _ _ ht
 ·split at he
  ·rename_i e;subst e;cases he;split at hk<;>cases hk;rename_i ht;rw[hx.dh,hy.dh];exact run_equalIn_int w d t _ _ _ _ ht
  ·cases he
 ·cases he;split at hk<;>cases hk;rename_i ht;obtain⟨s,q1,q2⟩:=hx.eO;obtain⟨s',q3,q4⟩:=hy.eO;rw[q1,q3,run_equalIn_string w d t s s' ht,ByteArray.toList_eq,ByteArray.toList_eq,q2,q4]
 ·cases he
theorem uG {d:Nat} {xs ys:Array Value} {l m:List AV} (hl:xs.size=l.length) (hm:ys.size=m.length) {nx:Nat} {pr:Nat→Prop}
 (hx:∀j (hj:j < l.length),RV φ nx pr w l[j] (xs.getD j default)) (hy:∀j (hj:j < m.length),RV φ nx pr w m[j] (ys.getD j default)):
 ∀(fs:List Field) (ks:List Nat) (k:Nat) (r:Bool),ee P fs k=some ks→gz ks (l.drop k) (m.drop k)=some r→(Op.eqFields (d+1) xs ys fs).run P w=.ok r w
 | [],ks,k,r,hf,he=>by
   simp only[ee,Option.some.injEq] at hf;subst hf;cases h1:l.drop k<;>cases h2:m.drop k<;>rw[h1,h2] at he<;>simp[gz] at he;subst he;simp[Op.eqFields]
 | f::fs,ks,k,r,hf,he=>by
   unfold ee at hf;split at hf
   ·rename_i hc;split at hf
    ·rename_i kd ks' hkd hks';cases hf
     cases h1:l.drop k with
     | nil=>rw[h1] at he;simp[gz] at he
     | cons x xr=>
       cases h2:m.drop k with
       | nil=>rw[h1,h2] at he;simp[gz] at he
       | cons y yr=>
         rw[h1,h2] at he;simp only[gz] at he;split at he
         ·rename_i ra rb e1 e2;cases he
          have hkl:k < l.length:=by
           rcases Nat.lt_or_ge k l.length with q | q
           ·exact q
           ·rw[List.drop_eq_nil_iff.2 q] at h1;cases h1
          have hkm:k < m.length:=by
           rcases Nat.lt_or_ge k m.length with q | q
           ·exact q
           ·rw[List.drop_eq_nil_iff.2 q] at h2;cases h2
          have q1:=List.drop_eq_getElem_cons hkl;have q2:=List.drop_eq_getElem_cons hkm;rw[q1] at h1;rw[q2] at h2;cases h1;cases h2;have hxs:k < xs.size:=by omega
          have hys:k < ys.size:=by omega
          have g1:=hx k hkl;have g2:=hy k hkm;simp only[Array.getD,hxs,hys,dif_pos] at g1 g2;have hrun:=CZ (P:=P) hkd e1 g1 g2 d;have ih:=uG (d:=d) hl hm hx hy fs ks' (k+1) rb hks' e2
          have hp1:(part f.type xs f.offset).run P w=.ok xs[k] w:=by
           rw[hc.2];simp[part,yn hkd,hxs]
          have hp2:(part f.type ys f.offset).run P w=.ok ys[k] w:=by
           rw[hc.2];simp[part,yn hkd,hys]
          simp only[Op.eqFields,ne_eq,hc.1,not_false_iff,if_true,Sem.run_bind,hp1,hp2,Result.andThen_ok];have hrun':Sem.run P (Op.equalIn (d+1) f.type xs[k] ys[k]) w=.ok ra w:=by simpa using hrun
          rw[hrun'];cases ra
          ·simp
          ·simpa using ih
         ·cases he
    ·cases hf
   ·cases hf
theorem PA {ks:List Nat} {neg:Bool} {t ty:TypeId} {x y:Operand} {o:Oper} (ho:o.op=.binOp (if neg then .neq else .eql) t x y ty) {x' y':cI} (hx:eD x=some x') (hy:eD y=some y')
 {fs:Array Field} (ht:P.underlying t=some (.struct fs)) (hk:ee P fs.toList 0=some ks) (hg:P.eqGuardType P.depth t=false) (hs:P.stoodInHeld t=false) {l m:List AV} (hl:x'.ev fr=.agg l) (hm:y'.ev fr=.agg m)
 {r:Bool} (he:gz ks l m=some r) (hf:FR φ h w fr a.tmps) (hr:HR φ h w):dV P (execOp a.eval o) φ h w (.bool (if neg then !r else r)) h:=by
 have g1:=bO hx hf;have g2:=bO hy hf;rw[hl] at g1;rw[hm] at g2;obtain⟨xs,q1,q2,_,q3⟩:=g1.lO;obtain⟨ys,q4,q5,_,q6⟩:=g2.lO;have hfo:P.fieldsOf t=fs:=by simp[Program.fieldsOf,ht]
 have hrun:(Op.equalIn 10000 t (.agg xs) (.agg ys)).run P w=.ok r w:=by
  rw[run_equalIn_struct w 9999 t xs ys (by rw[hfo];exact ht) hs,hfo];exact uG (d:=9998) q2 q5 q3 q6 fs.toList ks 0 r hk (by simpa using he)
 refine .pure (cv:=.bool (if neg then !r else r)) hr ?_ (.bool _);unfold execOp;cases neg
 ·simp only[Bool.false_eq_true,if_false] at ho ⊢;simp[ho,q1,q4,run_eqGuard_agg w .eql t x y xs ys hg,run_eql_struct,hrun]
 ·simp only[if_true] at ho ⊢;simp[ho,q1,q4,run_eqGuard_agg w .neq t x y xs ys hg,run_neq_struct,hrun]
end
end Sz

/- append, clear, make. No program is named here. -/
namespace Sz
open Go
section
variable {P:Program} {φ:dp} {h:aa} {w:World} {fr:List AV} {a:Act}
theorem Br {α β:Type} (f:α→List β) (sz:Nat):∀(xs:List α),(∀x ∈ xs,(f x).length=sz)→(xs.flatMap f).length=xs.length*sz∧
 ∀i j (hi:i < xs.length),j < sz→(xs.flatMap f)[i*sz+j]? =(f xs[i])[j]?
 | [],_=>⟨by simp,fun i j hi=>by simp at hi⟩
 | x::xs,hx=>by
   have h1:=hx x (by simp);obtain⟨g1,g2⟩:=Br f sz xs fun y hy=>hx y (by simp[hy])
   refine⟨by simp[g1,h1,Nat.add_mul];omega,fun i j hi hj=>?_⟩;rw[List.flatMap_cons]
   cases i with
   | zero=>
     rw[List.getElem?_append_left (by omega)];simp
   | succ i=>
     rw[List.getElem?_append_right (by rw[Nat.add_mul];omega)];have:=g2 i j (by simpa using hi) hj;rw[show (i+1)*sz+j - (f x).length=i*sz+j by rw[Nat.add_mul];omega,this];simp
theorem yR {sz n:Nat} {y:AV} {cy:Value} {news:List AV} (he:aS h sz y=some (n,news)) (hy:dK φ h w y cy) (hr:HR φ h w) (hpos:0 < sz):
 news.length=n*sz∧∃f:Nat→Value,(∀j,j < n*sz→dK φ h w (news.getD j .undef) (f j)∧(f j).oneCell'=true)∧(∀w',(Builtin.lenOf cy).run P w'=.ok n w')∧
  ∀w':World,w'.heap=w.heap→(Builtin.firstCells sz n cy).run P w'=.ok ((List.range (n*sz)).map f).toArray w':=by
 have nilcase:∀ad cap,(Builtin.firstCells sz 0 (.slice ad 0 cap)).run P w=.ok #[] w:=fun ad cap=>by
  cases ad<;>simp[Builtin.firstCells,loadCells,loadCellsFrom]
 have nilcase':∀ad cap (w':World),(Builtin.firstCells sz 0 (.slice ad 0 cap)).run P w'=.ok #[] w':=fun ad cap w'=>by
  cases ad<;>simp[Builtin.firstCells,loadCells,loadCellsFrom]
 unfold aS at he;split at he
 ·cases he;obtain⟨ad,rfl⟩:=hy.jX;exact⟨by simp,fun _=>default,fun j hj=>by simp at hj,fun w'=>by simp[Builtin.lenOf],fun w' _=>by simpa using nilcase' ad 0 w'⟩
 ·rename_i xs;split at he
  ·rename_i hall;cases he
   have hlen:∀x ∈ xs,x.cells.length=sz:=fun x hx=>by
    have:=List.all_eq_true.1 hall x hx;cases x<;>simp[AV.cells?] at this<;>simp[AV.cells,this]
   obtain⟨g1,g2⟩:=Br AV.cells sz xs hlen;refine⟨g1,?_⟩;rcases hy.nU with⟨ad,cap,rfl,rfl⟩ | ⟨b,o,cap,sz',vs,rfl,hpr,hcap,hrf,h1,hsz,hc,hv⟩
   ·exact⟨fun _=>default,fun j hj=>by simp at hj,fun w'=>by simp[Builtin.lenOf],fun w' _=>by simpa using nilcase' ad cap w'⟩
   ·rcases Nat.eq_zero_or_pos xs.length with h0 | h0
    ·have hn:xs=[]:=List.eq_nil_of_length_eq_zero h0;subst hn;exact⟨fun _=>default,fun j hj=>by simp at hj,fun w'=>by simp[Builtin.lenOf],fun w' _=>by simpa using nilcase' _ cap w'⟩
    ·have hss:sz'=sz:=by
      have q1:=hsz 0 h0;have q2:=List.all_eq_true.1 hall xs[0] (List.getElem_mem h0);rw[q1] at q2;simpa using q2
     subst hss
     have hdm:∀j,j < xs.length*sz'→j / sz' < xs.length∧j % sz' < sz'∧j / sz'*sz'+j % sz'=j:=fun j hj=>by
      refine⟨Nat.div_lt_of_lt_mul (by rw[Nat.mul_comm];exact hj),Nat.mod_lt _ hpos,?_⟩;rw[Nat.mul_comm];exact Nat.div_add_mod j sz'
     refine⟨fun j=>vs (j / sz') (j % sz'),fun j hj=>⟨?_,h1 _ _⟩,fun w'=>by simp[Builtin.lenOf],fun w' hw'=>?_⟩
     ·obtain⟨d1,d2,d3⟩:=hdm j hj;have e1:=g2 (j / sz') (j % sz') d1 d2;rw[d3] at e1;have d4:j % sz' < (xs[j / sz']).cells.length:=by rw[hlen _ (List.getElem_mem d1)];exact d2
      rw[List.getElem?_eq_getElem d4] at e1;rw[List.getD_eq_getElem?_getD,e1];exact hv _ d1 _ d4
     ·simp only[Builtin.firstCells];refine run_loadCells w' _ _ _ fun j hj=>?_
      obtain⟨d1,d2,d3⟩:=hdm j hj;have:=hc _ _ d1 d2;rw[Nat.add_assoc,d3] at this;rw[Addr.add_lit,←this];unfold World.cell?;rw[hw']
  ·cases he
 ·rename_i id off len s lb;split at he
  ·rename_i cs hrow;have hg:=mr hrow;split at he
   ·rename_i hc;obtain⟨rfl,hle⟩:=hc;cases he;obtain⟨cap,ad,rfl,hid,hl,hlb,hroom,ha⟩:=hy.gW;refine⟨by simp;omega,?_⟩;rcases Nat.eq_zero_or_pos n with h0 | h0
    ·subst h0;exact⟨fun _=>default,fun j hj=>by simp at hj,fun w'=>by simp[Builtin.lenOf],fun w' _=>by simpa using nilcase' ad cap w'⟩
    ·rw[ha (by omega)]
     have hcell:∀j,j < n*s→∃v,w.cell? ⟨(φ id).eM,(φ id).base+(off+j),none⟩=some v∧dK φ h w (cs.getD (off+j) .undef) v∧v.oneCell'=true:=fun j hj=>by
      obtain⟨v,c1,c2,c3⟩:=rq hr hg (off+j) (by omega);have hlt:off+j < cs.length:=by omega
      exact⟨v,c1,by simpa[List.getD,hlt] using c2,c3⟩
     refine⟨fun j=>(w.cell? ⟨(φ id).eM,(φ id).base+(off+j),none⟩).getD default,fun j hj=>?_,fun w'=>by simp[Builtin.lenOf],fun w' hw'=>?_⟩
     ·obtain⟨v,c1,c2,c3⟩:=hcell j hj;dsimp only;rw[c1];have hlt:off+j < cs.length:=by omega
      have hlt':j < ((cs.drop off).take (n*s)).length:=by simp;omega
      refine⟨?_,c3⟩;rw[List.getD_eq_getElem?_getD,List.getElem?_take,if_pos hj,List.getElem?_drop];rw[List.getD_eq_getElem?_getD] at c2;exact c2
     ·simp only[Builtin.firstCells];refine run_loadCells w' _ _ _ fun j hj=>?_
      obtain⟨v,c1,c2,c3⟩:=hcell j hj;have e:w'.cell? ⟨(φ id).eM,(φ id).base+(off+j),none⟩=w.cell? ⟨(φ id).eM,(φ id).base+(off+j),none⟩:=by unfold World.cell?;rw[hw']
      rw[Addr.add_lit,Nat.add_assoc,e,c1];rfl
   ·cases he
  ·cases he
 ·rename_i s;split at he
  ·rename_i hs;subst hs;cases he;obtain⟨b,rfl,rfl⟩:=hy.eO;have hbl:b.data.toList.length=b.size:=Array.length_toList;refine⟨by simp,fun j=>.int .u8 ((b.data.toList.getD j 0).toNat),fun j hj=>⟨?_,rfl⟩,fun w'=>by rw[hbl];rfl,fun w' _=>?_⟩
   ·have hj':j < b.data.toList.length:=by omega
    simp only[List.getD_eq_getElem?_getD,List.getElem?_map,List.getElem?_eq_getElem hj',Option.map_some,Option.getD_some];exact .int _ _
   ·simp only[Builtin.firstCells,Sem.run_pure,Nat.mul_one];congr 1;apply Array.ext';rw[hbl];have:(b.extract 0 b.size)=b:=by simp
    rw[this];apply List.ext_getElem?;intro j;by_cases hj:j < b.data.toList.length
    ·have hj2:j < b.data.size:=by simpa using hj
     have hj3:j < b.size:=hj2;simp[hj3]
    ·have hj2:¬ j < b.data.size:=by simpa using hj
     have hj3:¬ j < b.size:=hj2;simp[hj3]
  ·cases he
 ·cases he
theorem Aw {z:Array Value} {n:Nat}:(Builtin.zeroCells z n).size=n*z.size:=by simp[Builtin.zeroCells]
theorem pZ {z:Array Value} (hz:∀j,(z.getD j default).oneCell'=true) (n j:Nat):((Builtin.zeroCells z n).getD j default).oneCell'=true:=by
 unfold Builtin.zeroCells;by_cases hj:j < n*z.size
 ·have hpos:0 < z.size:=Nat.pos_of_ne_zero fun e=>by simp[e] at hj
  have hm:j % z.size < z.size:=Nat.mod_lt _ hpos;have:=hz (j % z.size);simpa[Array.getD,hj,hm] using this
 ·simp[Array.getD,hj];rfl
theorem vQ {s:Sem Next} {h1:aa} {φ1:dp} (hr1:HR φ1 h1 w) (hx1:Ext φ h w φ1 h1 w) {el:TypeId} {m n cap sz:Nat} {cs:List AV} (f:Nat→Value) {rest:Array Value} {w':World}
 (hcs:cs.length=m) (hf:∀j,j < m→dK φ1 h1 w (cs.getD j .undef) (f j)∧(f j).oneCell'=true) (hrest:∀j,(rest.getD j default).oneCell'=true)
 (hh:w'.heap=w.heap.push (.cells (((List.range m).map f).toArray++rest) el)) (ho:w'.os=w.os) (ht:w'.tape=w.tape) (hout:w'.output=w.output)
 (hs:s.run P w=.ok (.value (.slice (some ⟨w.heap.size,0,none⟩) n cap)) w') (hn:n≤cap) (hroom:cap*sz≤m+rest.size):
 dV P s φ h w (.vec h1.next 0 n sz n) (h1.alloc (.row cs)):=by
 have hsz:(((List.range m).map f).toArray++rest).size=m+rest.size:=by simp
 have hget:∀j,j < m→(((List.range m).map f).toArray++rest).getD j default=f j:=fun j hj=>by
  have:j < m+rest.size:=by omega
  simp[Array.getD,this,hj]
 have k1:∀j,j < (((List.range m).map f).toArray++rest).size→((((List.range m).map f).toArray++rest).getD j default).oneCell'=true:=fun j hj=>by
  by_cases hjm:j < m
  ·rw[hget j hjm];exact (hf j hjm).2
  ·have:=hrest (j - m);rw[hsz] at hj;have h3:j - m < rest.size:=by omega
   simp only[Array.getD,h3,dif_pos] at this;have h4:j < m+rest.size:=hj;simpa[Array.getD,h4,Array.getElem_append,hjm] using this
 have k2:∀j (hj:j < cs.length),dK φ1 h1 w cs[j] ((((List.range m).map f).toArray++rest).getD j default):=fun j hj=>by
  have hjm:j < m:=by omega
  rw[hget j hjm];have:=(hf j hjm).1;simpa[List.getD,hj] using this
 obtain⟨g1,g2⟩:=vy (w':=w') (c:=((List.range m).map f).toArray++rest) (el:=el) (fz:=(0,0)) (cs:=cs) hr1 hh ho ht hout (by simp) k1 (by rw[hsz];omega) k2;exact⟨_,w',_,.inl hs,z7 (.row cs) w.heap.size _ n sz n cap hn hn (by rw[hsz];exact hroom),g1,hx1.trans g2⟩
theorem run_append_room {t u e:TypeId} {ty:TypeId} {i:TypeInfo} (ht:P.underlying t=some (.slice e)) {du:TypeDesc} (hu:P.underlying u=some du) (hdu:∀k,du≠.int k) (hi:P.info? e=some i)
 {ad:Option Addr} {sLen sCap n:Nat} {y:Value} {news:Array Value} {w1:World} (hl:(Builtin.lenOf y).run P w=.ok n w) (hfit:sLen+n≤sCap) (hn:(Builtin.firstCells i.size n y).run P w=.ok news w)
 (hst:(match ad with | some a=>storeCells (a.add (sLen*i.size)) news.toList | none=>Pure.pure ()).run P w=.ok () w1):
 (Builtin.append_ #[t,u] ty #[.slice ad sLen sCap,y]).run P w=.ok (.slice ad (sLen+n) sCap) w1:=by
 cases ad with
 | none=>
   simp only[Sem.run_pure,Result.ok.injEq,true_and] at hst;subst hst;simp[Builtin.append_,run_underlying ht,run_underlying hu,gr hi,hl,hfit,hn]
 | some ad=>
   simp at hst;simp[Builtin.append_,run_underlying ht,run_underlying hu,gr hi,hl,hfit,hn,hst]
theorem nH {t u e:TypeId} {ty:TypeId} {i:TypeInfo} {z:Value} (ht:P.underlying t=some (.slice e)) {du:TypeDesc} (hu:P.underlying u=some du) (hdu:∀k,du≠.int k) (hi:P.info? e=some i) (hz0:i.zero=some z)
 {ad:Option Addr} {sLen sCap n:Nat} {y:Value} {olds news:Array Value} (hl:(Builtin.lenOf y).run P w=.ok n w) (hover:sCap < sLen+n) (h63:sLen+n < 2 ^ 63) (hbytes:(sLen+n)*i.bytes≤140737488355328)
 (ho:(Builtin.firstCells i.size sLen (.slice ad sLen sCap)).run P w.drew=.ok olds w.drew) (hn:(Builtin.firstCells i.size n y).run P w.drew=.ok news w.drew):
 (Builtin.append_ #[t,u] ty #[.slice ad sLen sCap,y]).run P w=.ok (.slice (some ⟨w.heap.size,0,none⟩) (sLen+n) (grownCap w (sLen+n) sCap e))
  (w.drew.alloc (.cells (olds++news++Builtin.zeroCells z.cells (grownCap w (sLen+n) sCap e - (sLen+n))) e)):=by
 have h1:¬ (sLen+n≤sCap):=by omega
 have h2:¬ (9223372036854775807 < (sLen:Int)+(n:Int)):=by omega
 have h3:¬ (281474976710656 < Builtin.nextslicecap (sLen+n) sCap*i.bytes):=by
  have:=growslice_fits hover hbytes;omega
 simp[Builtin.append_,run_underlying ht,run_underlying hu,gr hi,hl,h1,h2,h3,typeInfo,hi,zeroValue,hz0,Question.forced,ho,hn,newRow,grownCap]
theorem zp {f g:Nat→Value} (m n:Nat):((List.range m).map f).toArray++((List.range n).map g).toArray=((List.range (m+n)).map fun j=>if j < m then f j else g (j - m)).toArray:=by
 apply Array.ext';simp only[Array.toList_append];rw[List.range_add,List.map_append];congr 1
 ·apply List.map_congr_left;intro j hj;rw[if_pos (by simpa using hj)]
 ·rw[List.map_map];apply List.map_congr_left;intro j _;simp only[Function.comp];rw[if_neg (by omega),Nat.add_sub_cancel_left]
theorem oz (w:World) (need old:Nat) (e:TypeId):need≤grownCap w need old e:=Nat.le_add_right _ _
theorem xB (hr:HR φ h w) {id off k:Nat} {cs news:List AV} {cvs:List Value} (hg:h.get id=some (.row cs)) (hle:off+k≤cs.length) (room:Nat) (hroom:off+room≤(φ id).room) (hfit:k+news.length≤room)
 (hlen:news.length=cvs.length) (hv:∀j (h1:j < news.length) (h2:j < cvs.length),dK φ h w news[j] cvs[j]∧cvs[j].oneCell'=true):
 ∃w',(storeCells ⟨(φ id).eM,(φ id).base+off+k,none⟩ cvs).run P w=.ok () w'∧
   HR (dy φ h.next ⟨(φ id).eM,(φ id).base+off,room⟩) ((h.set id .dead).alloc (.row ((cs.drop off).take k++news))) w'∧
   Ext φ h w (dy φ h.next ⟨(φ id).eM,(φ id).base+off,room⟩) ((h.set id .dead).alloc (.row ((cs.drop off).take k++news))) w':=by
 obtain⟨c,el,fz,h1,h2,h3,h4,h5,h6⟩:=hr.rows id cs hg;have hlive:live h id:=⟨_,hg,fun e=>by cases e⟩
 obtain⟨w',e1,e2,e3,e4,e5,e6,e7⟩:=iU (P:=P) cvs c ((φ id).base+off+k) 0 w h1 (by omega) h4 (fun v hvm=>by
  obtain⟨j,hj,rfl⟩:=List.getElem_of_mem hvm;exact (hv j (by omega) hj).2)
 have hnx:(h.set id .dead).next=h.next:=by simp
 have lv:∀i,live ((h.set id .dead).alloc (.row ((cs.drop off).take k++news))) i→i=h.next∨(live h i∧i≠id∧i < h.next):=fun i hi=>by
  rcases fe hi with e | ⟨hl,hlt⟩
  ·exact .inl (by rw[e,hnx])
  ·obtain⟨q1,q2⟩:=gF hl;exact .inr ⟨q1,q2,by rw[←hnx];exact hlt⟩
 have hφn:∀i,i < h.next→dy φ h.next ⟨(φ id).eM,(φ id).base+off,room⟩ i=φ i:=fun i hi=>by simp[dy,Nat.ne_of_lt hi]
 have hφe:dy φ h.next ⟨(φ id).eM,(φ id).base+off,room⟩ h.next=⟨(φ id).eM,(φ id).base+off,room⟩:=by simp[dy]
 have ext:Ext φ h w (dy φ h.next ⟨(φ id).eM,(φ id).base+off,room⟩) ((h.set id .dead).alloc (.row ((cs.drop off).take k++news))) w':=by
  refine⟨e5,e6,e7,by omega,by simp,hφn,fun b hb=>?_,rfl,fun b hb=>e4 b fun e=>(hr.gh b hb).2 id hlive e.symm⟩;have hne:b≠(φ id).eM:=fun e=>hb.2.1 id hlive e.symm
  refine⟨⟨by rw[e3];exact hb.1,fun i hi=>?_,hb.2.2⟩,e4 b hne⟩;rcases lv i hi with rfl | ⟨q1,q2,q3⟩
  ·rw[hφe];exact Ne.symm hne
  ·rw[hφn i q3];exact hb.2.1 i q1
 refine⟨w',e1,⟨aa.kb _ (aa.wf_set _ _ hr.wf),fun i cs' hi=>?_,fun i es hi=>?_,fun i j hi hj hij=>?_,fun b hb=>⟨by rw[e3];exact (hr.gh b hb).1,fun i hi=>?_⟩⟩,ext⟩
 ·rcases lv i ⟨_,hi,fun e=>by cases e⟩ with rfl | ⟨q1,q2,q3⟩
  ·rw[←hnx,aa.dM] at hi;cases hi;have hlen2:((cs.drop off).take k++news).length=k+news.length:=by simp;omega
   refine⟨_,el,fz,by rw[hφe];exact e2,by rw[hφe,iK];dsimp only;omega,by rw[hφe,hlen2];exact hfit,by rw[iK];exact h4,fun j hj=>?_,fun j hj=>?_⟩
   ·rw[hφe] at hj ⊢;dsimp only at hj ⊢;rw[jD _ _ _ _ (by omega)];split
    ·rename_i hin;have hlt:(φ id).base+off+j - ((φ id).base+off+k+0) < cvs.length:=by omega
     have:=(hv _ (by omega) hlt).2;rw[List.getD_eq_getElem?_getD,List.getElem?_eq_getElem hlt];exact this
    ·have:=h5 (off+j) (by omega);rw[Nat.add_assoc];exact this
   ·rw[hφe];dsimp only;rw[jD _ _ _ _ (by omega)];by_cases hjk:j < k
    ·rw[if_neg (by omega)];have q:off+j < cs.length:=by omega
     have:=(h6 (off+j) q).ext ext;rw[Nat.add_assoc];have hjt:j < ((cs.drop off).take k).length:=by simp;omega
     rw[List.getElem_append_left hjt];simpa using this
    ·rw[if_pos (by omega)];have q1:j - k < news.length:=by omega
     have q2:(φ id).base+off+j - ((φ id).base+off+k+0)=j - k:=by omega
     have q3:j - k < cvs.length:=by omega
     have:=((hv _ q1 q3).1).ext ext;rw[q2,List.getD_eq_getElem?_getD,List.getElem?_eq_getElem q3];have hjt:((cs.drop off).take k).length=k:=by simp;omega
     rw[List.getElem_append_right (by omega)];simpa[hjt] using this
  ·rw[aa.cQ (by rw[hnx];exact q3),aa.get_set_other (Ne.symm q2)] at hi;exact (hr.rows i cs' hi).ext ext q3 (e4 _ fun e=>q2 (hr.inj i id q1 hlive e))
 ·rcases lv i ⟨_,hi,fun e=>by cases e⟩ with rfl | ⟨q1,q2,q3⟩
  ·rw[←hnx,aa.dM] at hi;cases hi
  ·rw[aa.cQ (by rw[hnx];exact q3),aa.get_set_other (Ne.symm q2)] at hi;exact (hr.maps i es hi).ext ext q3 (e4 _ fun e=>q2 (hr.inj i id q1 hlive e))
 ·rcases lv i hi with rfl | ⟨q1,q2,q3⟩<;>rcases lv j hj with rfl | ⟨r1,r2,r3⟩
  ·rfl
  ·rw[hφe,hφn j r3] at hij;exact absurd (hr.inj id j hlive r1 hij).symm r2
  ·rw[hφe,hφn i q3] at hij;exact absurd (hr.inj i id q1 hlive hij) q2
  ·rw[hφn i q3,hφn j r3] at hij;exact hr.inj i j q1 r1 hij
 ·rcases lv i hi with rfl | ⟨q1,q2,q3⟩
  ·rw[hφe];exact (hr.gh b hb).2 id hlive
  ·rw[hφn i q3];exact (hr.gh b hb).2 i q1
theorem Ol {t u e:TypeId} {x y:Operand} {o:Oper} (ho:o.op=.call {callee:=.builtin .append,args:=#[x,y],argTypes:=#[t,u]}) {x' y':cI} (hx:eD x=some x') (hy:eD y=some y')
 (ht:P.underlying t=some (.slice e)) {du:TypeDesc} (hu:P.underlying u=some du) (hdu:∀k,du≠.int k) {i:TypeInfo} (hi:P.info? e=some i) {z:List AV} (hz:kA P e=some z) (hzl:z.length=i.size) (hpos:0 < i.size)
 {n:Nat} {news:List AV} (hn:aS h i.size (y'.ev fr)=some (n,news)) {v:AV} {h':aa}
 (he:(match x'.ev fr with
  | .aw=>if n=0 then some (AV.aw,h) else
    if n*i.bytes≤140737488355328∧n < 2 ^ 63 then some (.vec h.next 0 n i.size n,h.alloc (.row news)) else none
  | .vec id off len s lb=>match h.row id with
    | some cs=>if s=i.size∧off+len*i.size≤cs.length then
     if n=0 then some (.vec id off len s lb,h) else
     if len+n≤lb∧off+(len+n)*i.size≤cs.length then some (.vec id off (len+n) i.size lb,(h.set id (.row (putAt cs (off+len*i.size) news))).mark id (.agg news)) else
     if (len+n)*i.bytes≤140737488355328∧len+n < 2 ^ 63 then
      some (.vec h.next 0 (len+n) i.size (len+n),(h.set id .dead).alloc (.row ((cs.drop off).take (len*i.size)++news))) else none
      else none
    | none=>none
  | _=>none)=some (v,h')) (hf:FR φ h w fr a.tmps) (hr:HR φ h w):dV P (execOp a.eval o) φ h w v h':=by
 have g1:=bO hx hf;have g2:=bO hy hf;obtain⟨n1,f,n2,n3,n4⟩:=yR (P:=P) hn g2 hr hpos;obtain⟨i',zv,hi',hzi,k1,k2,k3⟩:=kW (φ:=φ) hz;obtain rfl:i=i':=by rw[hi] at hi';exact Option.some.inj hi'
 have hex:∀r w1,(Builtin.append_ #[t,u] o.type #[a.eval x,a.eval y]).run P w=.ok r w1→(execOp a.eval o).run P w=.ok (.value r) w1:=fun r w1 hrun=>by
  unfold execOp;simp[ho,resolve,invoke,builtin,hrun]
 have hzs:∀m,(Builtin.zeroCells zv.cells m).size=m*i.size:=fun m=>by rw[Aw];rw[k1,hzl]
 split at he
 ·rename_i e1;rw[e1] at g1;obtain⟨ad,hq⟩:=g1.jX;split at he
  ·rename_i h0;cases he;subst h0;have:=run_append_room (P:=P) (ty:=o.type) (ad:=ad) (sLen:=0) (sCap:=0) (w1:=w) ht hu hdu hi (n3 w) (Nat.le_refl _) (n4 w rfl) (by cases ad<;>simp[storeCells]);rw[←hq] at this;exact .pure hr (hex _ _ this) g1
  ·rename_i h0;split at he
   ·rename_i hc;cases he;have hold:(Builtin.firstCells i.size 0 (.slice ad 0 0)).run P w.drew=.ok #[] w.drew:=by cases ad<;>simp[Builtin.firstCells,loadCells,loadCellsFrom]
    have:=nH (P:=P) (ty:=o.type) ht hu hdu hi hzi (ad:=ad) (sLen:=0) (sCap:=0) (n3 w) (by omega) (by omega) (by simpa using hc.1) hold (n4 w.drew rfl);rw[←hq,Nat.zero_add,Array.empty_append] at this;have hcap:=oz w n 0 e;refine vQ (P:=P) hr (.refl _ _ _) (el:=e) (m:=n*i.size) (cap:=grownCap w n 0 e) (rest:=Builtin.zeroCells zv.cells (grownCap w n 0 e - n)) f n1 n2 (pZ k2 _) (w':=w.drew.alloc _) rfl rfl rfl rfl (hex _ _ this) hcap ?_
    ·rw[hzs,←Nat.add_mul];exact Nat.mul_le_mul_right _ (by omega)
   ·cases he
 ·rename_i id off len s lb e1;rw[e1] at g1;obtain⟨cap,ad,hq,hid,hl,hlb,hroom,ha⟩:=g1.gW;split at he
  ·rename_i cs hrow;have hg:=mr hrow;split at he
   ·rename_i hc;obtain⟨rfl,hle⟩:=hc;split at he
    ·rename_i h0;cases he;subst h0;have:=run_append_room (P:=P) (ty:=o.type) (ad:=ad) (sLen:=len) (sCap:=cap) (w1:=w) ht hu hdu hi (n3 w) (by omega) (n4 w rfl) (by cases ad<;>simp[storeCells]);rw[←hq] at this;rw[Nat.add_zero,←hq] at this;exact .pure hr (hex _ _ this) g1
    ·rename_i h0
     have hinplace:len+n≤cap→off+(len+n)*i.size≤cs.length→∃w',(Builtin.append_ #[t,u] o.type #[a.eval x,a.eval y]).run P w=.ok (.slice ad (len+n) cap) w'∧
      HR φ (h.set id (.row (putAt cs (off+len*i.size) news))) w'∧Ext φ h w φ (h.set id (.row (putAt cs (off+len*i.size) news))) w':=fun hfit hcl=>by
      have had:=ha (by omega);have hcells:(off+len*i.size)+news.length≤cs.length:=by rw[n1];rw[Nat.add_mul] at hcl;omega
      obtain⟨w',q1,q2,q3⟩:=td (P:=P) (cvs:=(List.range (n*i.size)).map f) hr hg hcells (by simp[n1]) fun j q1 q2=>by
       have hj:j < n*i.size:=by omega
       have:=n2 j hj;rw[List.getD_eq_getElem?_getD,List.getElem?_eq_getElem q1] at this;simpa using this
      refine⟨w',?_,q2,q3⟩
      have:=run_append_room (P:=P) (ty:=o.type) (ad:=ad) (sLen:=len) (sCap:=cap) (w1:=w') ht hu hdu hi (n3 w) hfit (n4 w rfl) (by
       rw[had];simp only[Addr.add_lit];rw[Nat.add_assoc];simpa using q1)
      rw[hq];exact this
     split at he
     ·rename_i hc2;cases he;obtain⟨w',q1,q2,q3⟩:=hinplace (by omega) hc2.2;obtain⟨m1,m2⟩:=q2.mark id (.agg news);refine⟨_,w',φ,.inl (hex _ _ q1),?_,m1,q3.trans m2⟩;exact .vec _ _ _ _ _ _ _ (by simpa using hid) (by omega) hlb hroom ha
     ·rename_i hc2;split at he
      ·rename_i hc3;cases he;by_cases hfit:len+n≤cap
       ·have had:=ha (by omega)
        obtain⟨w',q1,q2,q3⟩:=xB (P:=P) (cvs:=(List.range (n*i.size)).map f) hr hg hle (cap*i.size) hroom (by rw[n1,←Nat.add_mul];exact Nat.mul_le_mul_right _ hfit) (by simp[n1]) fun j q1 q2=>by
         have hj:j < n*i.size:=by omega
         have:=n2 j hj;rw[List.getD_eq_getElem?_getD,List.getElem?_eq_getElem q1] at this;simpa using this
        have:=run_append_room (P:=P) (ty:=o.type) (ad:=ad) (sLen:=len) (sCap:=cap) (w1:=w') ht hu hdu hi (n3 w) hfit (n4 w rfl) (by
         rw[had];simp only[Addr.add_lit];simpa using q1)
        rw[←hq] at this;refine⟨_,w',_,.inl (hex _ _ this),.vec _ _ _ _ _ _ _ (by simp) hfit hfit ?_ ?_,q2,q3⟩
        ·simp[dy]
        ·intro _;rw[had];simp[dy]
       ·have hover:cap < len+n:=by omega
        obtain⟨kr,kx⟩:=NG hr id
        have hcell:∀j,j < len*i.size→∃v,w.cell? ⟨(φ id).eM,(φ id).base+(off+j),none⟩=some v∧dK φ h w (cs.getD (off+j) .undef) v∧v.oneCell'=true:=fun j hj=>by
         obtain⟨v,c1,c2,c3⟩:=rq hr hg (off+j) (by omega);have hlt:off+j < cs.length:=by omega
         exact⟨v,c1,by simpa[List.getD,hlt] using c2,c3⟩
        let g:Nat→Value:=fun j=>(w.cell? ⟨(φ id).eM,(φ id).base+(off+j),none⟩).getD default
        have hold:(Builtin.firstCells i.size len (.slice ad len cap)).run P w.drew=.ok ((List.range (len*i.size)).map g).toArray w.drew:=by
         rcases Nat.eq_zero_or_pos len with h00 | h00
         ·subst h00;cases ad<;>simp[Builtin.firstCells,loadCells,loadCellsFrom]
         ·rw[ha (by omega)];simp only[Builtin.firstCells];refine run_loadCells w.drew _ _ _ fun j hj=>?_
          obtain⟨v,c1,c2,c3⟩:=hcell j hj;rw[Addr.add_lit,Nat.add_assoc,World.cell?_drew,c1];simp[g,c1]
        have:=nH (P:=P) (ty:=o.type) ht hu hdu hi hzi (n3 w) hover hc3.2 hc3.1 hold (n4 w.drew rfl);rw[←hq,zp] at this;have hcap:=oz w (len+n) cap e;rw[show h.next=(h.set id .dead).next by simp];refine vQ (P:=P) (h1:=h.set id .dead) kr kx (el:=e) (m:=len*i.size+n*i.size) (cap:=grownCap w (len+n) cap e) (rest:=Builtin.zeroCells zv.cells (grownCap w (len+n) cap e - (len+n))) _ ?_ (fun j hj=>?_) (pZ k2 _) (w':=w.drew.alloc _) rfl rfl rfl rfl (hex _ _ this) hcap ?_
        ·simp[n1];omega
        ·by_cases hjk:j < len*i.size
         ·obtain⟨v,c1,c2,c3⟩:=hcell j hjk;rw[if_pos hjk];have hg1:g j=v:=by simp[g,c1]
          rw[hg1];refine⟨?_,c3⟩;have hjt:j < ((cs.drop off).take (len*i.size)).length:=by simp;omega
          have:=c2.ext kx;rw[List.getD_eq_getElem?_getD,List.getElem?_append_left hjt,List.getElem?_take,if_pos hjk,List.getElem?_drop];rw[List.getD_eq_getElem?_getD] at this;exact this
         ·rw[if_neg hjk];have hjn:j - len*i.size < n*i.size:=by omega
          obtain⟨r1,r2⟩:=n2 _ hjn;refine⟨?_,r2⟩;have hjt:((cs.drop off).take (len*i.size)).length=len*i.size:=by simp;omega
          have:=r1.ext kx;rw[List.getD_eq_getElem?_getD,List.getElem?_append_right (by omega),hjt];rw[List.getD_eq_getElem?_getD] at this;exact this
        ·rw[hzs,←Nat.add_mul,←Nat.add_mul];exact Nat.mul_le_mul_right _ (by omega)
      ·cases he
   ·cases he
  ·cases he
 ·cases he
theorem oI (z:List AV) (n:Nat):(List.replicate n z).flatten.length=n*z.length∧∀j,j < n*z.length→(List.replicate n z).flatten.getD j .undef=z.getD (j % z.length) .undef:=by
 induction n with
 | zero=>simp
 | succ n ih=>
   refine⟨by simp,fun j hj=>?_⟩;rw[List.replicate_succ,List.flatten_cons];by_cases hjz:j < z.length
   ·rw[List.getD_eq_getElem?_getD,List.getElem?_append_left hjz,Nat.mod_eq_of_lt hjz,List.getD_eq_getElem?_getD]
   ·rw[List.getD_eq_getElem?_getD,List.getElem?_append_right (by omega)];have h2:=ih.2 (j - z.length) (by rw[Nat.add_mul,Nat.one_mul] at hj;omega);rw[List.getD_eq_getElem?_getD] at h2;have e:=Nat.mod_eq_sub_mod (a:=j) (b:=z.length) (by omega);rw[h2,e]
theorem N5 {t e:TypeId} {l c:Operand} {o:Oper} (ho:o.op=.makeSlice t l c) {l' c':cI} (hl:eD l=some l') (hc:eD c=some c') (ht:P.underlying t=some (.slice e)) {i:TypeInfo} (hi:P.info? e=some i)
 {z:List AV} (hz:kA P e=some z) (hzl:z.length=i.size) {m n:Int} (h1:l'.ev fr=.int .i64 m) (h2:c'.ev fr=.int .i64 n) (hb:0≤m∧m≤n∧n*i.bytes≤140737488355328∧n < 2 ^ 63)
 (hf:FR φ h w fr a.tmps) (hr:HR φ h w):dV P (execOp a.eval o) φ h w (.vec h.next 0 m.toNat z.length n.toNat) (h.alloc (.row (List.replicate n.toNat z).flatten)):=by
 obtain⟨i',zv,hi',hzi,k1,k2,k3⟩:=kW (φ:=φ) hz;obtain rfl:i=i':=by rw[hi] at hi';exact Option.some.inj hi'
 have g1:=bO hl hf;have g2:=bO hc hf;rw[h1] at g1;rw[h2] at g2;obtain⟨b0,b1,b2,b3⟩:=hb;obtain⟨n',rfl⟩:=Int.eq_ofNat_of_zero_le (by omega:0≤n);obtain⟨m',rfl⟩:=Int.eq_ofNat_of_zero_le b0
 have hbn:n'*i.bytes≤140737488355328:=by
  have:((n'*i.bytes:Nat):Int)≤140737488355328:=by rw[Int.natCast_mul];exact b2
  omega
 simp only[Int.toNat_natCast];obtain⟨r1,r2⟩:=oI z n'
 let zz:Array Value:=if n'*i.size=0 then #[] else zv.cells
 let cells:Array Value:=(Array.range (n'*i.size)).map (zz[· % zz.size]!)
 have hzz:n'*i.size≠0→zz=zv.cells:=fun h0=>if_neg h0
 have hcs:cells.size=n'*i.size:=by simp[cells]
 have q1:∀j,j < cells.size→(cells.getD j default).oneCell'=true:=fun j hj=>by
  rw[hcs] at hj;have hpos:0 < i.size:=Nat.pos_of_ne_zero fun e=>by simp[e] at hj
  have hm:j % i.size < i.size:=Nat.mod_lt _ hpos;have:=k2 (j % i.size);have hz':=hzz (by omega);simp only[cells,hz',k1,hzl];simpa[Array.getD,hj,k1,hzl,hm] using this
 have q2:∀j (hj:j < (List.replicate n' z).flatten.length),dK φ h w (List.replicate n' z).flatten[j] (cells.getD j default):=fun j hj=>by
  have hj':j < n'*i.size:=by rw[r1,hzl] at hj;exact hj
  have hpos:0 < i.size:=Nat.pos_of_ne_zero fun e=>by simp[e] at hj'
  have hm:j % i.size < i.size:=Nat.mod_lt _ hpos;have hm':j % i.size < z.length:=by omega
  have:=k3 h.next (Pr φ h w) w (j % i.size) hm'
  have hz':=hzz (by omega);have e:=r2 j (by rw[hzl];exact hj');rw[List.getD_eq_getElem?_getD,List.getElem?_eq_getElem hj,Option.getD_some] at e;rw[e,hzl];simp only[cells,hz',k1,hzl];simpa[Array.getD,hj',k1,hzl,hm,hm',List.getD] using this
 obtain⟨n1,n2⟩:=vy (w':=w.alloc (.cells cells e)) hr rfl rfl rfl rfl (by simp) q1 (by rw[hcs,r1,hzl];exact Nat.le_refl _) q2;refine⟨_,_,_,.inl ?_,z7 _ w.heap.size cells.size m' z.length n' n' (by omega) (Nat.le_refl _) (by rw[hcs,hzl];exact Nat.le_refl _),n1,n2⟩;unfold execOp;have w1:IntKind.i64.wrap (m':Int)=m':=by rw[IntKind.wrap_i64];omega
 have w2:IntKind.i64.wrap (n':Int)=n':=by rw[IntKind.wrap_i64];omega
 have t1:¬ ((n':Int) < 0):=by omega
 have t2:¬ (281474976710656 < (i.bytes:Int)*(n':Int)):=by
  rw[Int.mul_comm];omega
 have t3:¬ ((m':Int) < 0):=by omega
 have t4:¬ (n' < m'):=by omega
 by_cases h0:n'*i.size=0
 ·have hc0:cells=#[]:=by apply Array.eq_empty_of_size_eq_zero;rw[hcs];exact h0
  rw[hc0];simp[ho,g1.dh,g2.dh,Instr.makeSlice,run_underlying ht,asInt,asIntOf,typeInfo,hi,w1,w2,t1,t2,t3,t4,gr hi,h0,newRow,Array.range_zero']
 ·have hc0:cells=(Array.range (n'*i.size)).map (zv.cells[· % zv.cells.size]!):=by simp only[cells,hzz h0]
  rw[hc0];simp[ho,g1.dh,g2.dh,Instr.makeSlice,run_underlying ht,asInt,asIntOf,typeInfo,hi,w1,w2,t1,t2,t3,t4,gr hi,h0,newRow,zeroValue,hzi]
theorem N2 {t e:TypeId} {x:Operand} {o:Oper} (ho:o.op=.call {callee:=.builtin .clear,args:=#[x],argTypes:=#[t]}) {x':cI} (hx:eD x=some x') (ht:P.underlying t=some (.slice e)) {i:TypeInfo} (hi:P.info? e=some i)
 {z:List AV} (hz:kA P e=some z) (hzl:z.length=i.size) {v:AV} {h':aa}
 (he:(match x'.ev fr with
 | .aw=>some (AV.tuple [],h)
 | .vec id off len s _=>match h.row id with
   | some cs=>if s=z.length∧off+len*s≤cs.length then some (.tuple [],(h.set id (.row (putAt cs off (List.replicate len z).flatten))).mark id (.agg z)) else none
   | none=>none
 | _=>none)=some (v,h')) (hf:FR φ h w fr a.tmps) (hr:HR φ h w):dV P (execOp a.eval o) φ h w v h':=by
 obtain⟨i',zv,hi',hzi,k1,k2,k3⟩:=kW (φ:=φ) hz;obtain rfl:i=i':=by rw[hi] at hi';exact Option.some.inj hi'
 have g:=bO hx hf;have htup:∀φ h w,dK φ h w (.tuple []) (.tuple #[]):=fun φ h w=>.tuple [] #[] rfl fun j hj=>by simp at hj
 split at he
 ·rename_i e1;cases he;rw[e1] at g;obtain⟨ad,hq⟩:=g.jX;refine .pure (cv:=.tuple #[]) hr ?_ (htup _ _ _);unfold execOp;cases ad<;>simp[ho,resolve,invoke,builtin,hq,Builtin.clear_,run_underlying ht]
 ·rename_i id off len s lb e1;rw[e1] at g;obtain⟨cap,ad,hq,hid,hl,hlb,hroom,ha⟩:=g.gW;split at he
  ·rename_i cs hrow;have hg:=mr hrow;split at he
   ·rename_i hc;obtain⟨rfl,hle⟩:=hc;cases he;obtain⟨r1,r2⟩:=oI z len;rcases Nat.eq_zero_or_pos len with h0 | h0
    ·subst h0
     have e2:(h.set id (.row (putAt cs off (List.replicate 0 z).flatten)))={h with wl:=h.wl,md:=min h.md id}:=by
      simp only[List.replicate_zero,List.flatten_nil,putAt];unfold aa.set;have hlt:=aa.di hg;rw[if_pos hlt];have hgg:=hg;unfold aa.get at hgg;rw[if_pos hlt] at hgg;obtain⟨q1,q2⟩:=List.getElem?_eq_some_iff.1 hgg;rw[←q2,List.set_getElem_self]
     rw[e2];obtain⟨s1,s2⟩:=hr.nD h.wl (min h.md id);obtain⟨m1,m2⟩:=s1.mark id (.agg z);refine⟨.tuple #[],w,φ,.inl ?_,htup _ _ _,m1,s2.trans m2⟩;unfold execOp;cases ad<;>simp[ho,resolve,invoke,builtin,hq,Builtin.clear_,run_underlying ht]
    ·have had:=ha (by omega)
     let cvs:=(Builtin.zeroCells zv.cells len).toList
     have hcl:cvs.length=len*z.length:=by simp only[cvs,Array.length_toList];rw[Aw,k1]
     obtain⟨w',e1,e2,e3⟩:=td (P:=P) (cvs:=cvs) (vs:=(List.replicate len z).flatten) hr hg (by rw[r1];exact hle) (by rw[r1,hcl]) fun j q1 q2=>by
      have hj:j < len*z.length:=by omega
      have hpos:0 < z.length:=Nat.pos_of_ne_zero fun e=>by simp[e] at hj
      have hm:j % z.length < z.length:=Nat.mod_lt _ hpos;have t1:=k3 h.next (Pr φ h w) w _ hm
      have t2:=k2 (j % z.length);have e:=r2 j hj;rw[List.getD_eq_getElem?_getD,List.getElem?_eq_getElem q1,Option.getD_some] at e;have hm2:j % z.length < zv.cells.size:=by omega
      have e4:cvs[j]=zv.cells.getD (j % z.length) default:=by
       simp only[cvs,Builtin.zeroCells,Array.getElem_toList,Array.getElem_map,Array.getElem_range,k1];simp[Array.getD,hm2]
      rw[e,e4];exact⟨by simpa[List.getD,hm] using t1,t2⟩
     obtain⟨m1,m2⟩:=e2.mark id (.agg z);refine⟨.tuple #[],w',φ,.inl ?_,htup _ _ _,m1,e3.trans m2⟩;unfold execOp;obtain⟨len',rfl⟩:∃l',len=l'+1:=⟨len - 1,by omega⟩
     simp[ho,resolve,invoke,builtin,hq,had,Builtin.clear_,run_underlying ht,zeroValue,typeInfo,hi,hzi];rw[show (Builtin.zeroCells zv.cells (len'+1)).toList=cvs from rfl,e1];rfl
   ·cases he
  ·cases he
 ·cases he
end
end Sz
