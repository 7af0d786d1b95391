import Derived.Test.YtjmeonoabiliiaaGreatDoorSz3
import Derived.Test.YtjmeonoabiliiaaGreatDoorArg
import Derived.Lib.LaidTab
import Derived.Sort.Grow
import Derived.Deep.Draws
set_option linter.unusedVariables false
set_option linter.unusedSimpArgs false
set_option linter.unusedSectionVars false
set_option maxHeartbeats 16000000
set_option maxRecDepth 100000

/- The same rules, what follows kept shut until what is ahead is known: a run that stands still ends the working out there. No program is named here. -/
namespace Sz
open Go
section
variable (C:Nat→List AV→aa→Option (AV×aa)) (n:Nat)
def Rv (b:bb):Option (Ex×List AV×aa)→Option (Ex×List AV×aa)
 | some (.normal,fr,h)=>ak C n b fr h
 | r=>r
def ND (a b:bb) (fr:List AV) (h:aa):AV→Option (Ex×List AV×aa)
 | .bool true=>ak C n a fr h
 | .bool false=>ak C n b fr h
 | _=>none
def UE (d:Option Nat) (r:List aA) (fr:List AV):Option (AV×aa)→Option (List AV×aa)
 | some (v,h')=>ca C r (ew fr d v) h'
 | none=>none
def WI (s:aA) (r:List aA) (fr:List AV) (h:aa):Option Bool→Option (List AV×aa)
 | some true=>ca C r (ew fr s.dst (.tuple [])) h
 | some false=>ca C ({s with guard:=none}::r) fr h
 | none=>none
def XK (d:Option Nat) (args:List AV) (r:List aA) (fr:List AV) (h:aa):AV→Option (List AV×aa)
 | .fn f caps=>UE C d r fr (C f (args++caps) h)
 | _=>none
def Ug (tr:Nat×aa×aa):Option (List AV×aa×List (Nat×aa×aa))→Option (List AV×aa×List (Nat×aa×aa))
 | some (fr2,h2,t)=>some (fr2,h2,tr::t)
 | none=>none
def WO (s:aA) (r:List aA) (fr:List AV) (h:aa):Option (List AV×aa)→Option (List AV×aa×List (Nat×aa×aa))
 | some (fr',h')=>Ug (wU s fr,h,h') (ou C r fr' ⟨h'.next,h'.eg,h'.wl,min h.md h'.md⟩)
 | none=>none
def Ma (d:Option Nat) (fr:List AV):Option (AV×aa)→Option (List AV×aa)
 | some (v,h')=>some (ew fr d v,h')
 | none=>none
def Rr (s:aA) (fr:List AV) (h:aa):Option Bool→Option (List AV×aa)
 | some true=>some (ew fr s.dst (.tuple []),h)
 | some false=>bG C {s with guard:=none} fr h
 | none=>none
def Sg (d:Option Nat) (args:List AV) (fr:List AV) (h:aa):AV→Option (List AV×aa)
 | .fn f caps=>Ma d fr (C f (args++caps) h)
 | _=>none
variable (fr:List AV) (h:aa)
theorem SR (b:bb):Rv C n b (some (.normal,fr,h))=ak C n b fr h:=rfl
theorem TF (b:bb) (i:Nat):Rv C n b (some (.exit i,fr,h))=some (.exit i,fr,h):=rfl
theorem TC (b:bb):Rv C n b (some (.ret,fr,h))=some (.ret,fr,h):=rfl
theorem Qz (a b:bb):ND C n a b fr h (.bool true)=ak C n a fr h:=rfl
theorem PX (a b:bb):ND C n a b fr h (.bool false)=ak C n b fr h:=rfl
theorem Vc (d:Option Nat) (r:List aA) (v:AV):UE C d r fr (some (v,h))=ca C r (ew fr d v) h:=rfl
theorem We (s:aA) (r:List aA):WI C s r fr h (some true)=ca C r (ew fr s.dst (.tuple [])) h:=rfl
theorem Wm (d:Option Nat) (o:Lf) (g:Option (Nat×Bool)) (r:List aA):WI C ⟨d,o,g⟩ r fr h (some false)=ca C (⟨d,o,none⟩::r) fr h:=rfl
theorem Wl (d:Option Nat) (args:List AV) (r:List aA) (f:Nat) (caps:List AV):XK C d args r fr h (.fn f caps)=UE C d r fr (C f (args++caps) h):=rfl
theorem VV (s:aA) (r:List aA) (fr':List AV) (nx:Nat) (os:List aC) (wl md':Nat):WO C s r fr h (some (fr',⟨nx,os,wl,md'⟩))=Ug (wU s fr,h,⟨nx,os,wl,md'⟩) (ou C r fr' ⟨nx,os,wl,min h.md md'⟩):=rfl
theorem Su (tr:Nat×aa×aa) (t:List (Nat×aa×aa)):Ug tr (some (fr,h,t))=some (fr,h,tr::t):=rfl
theorem Sj (d:Option Nat) (v:AV):Ma d fr (some (v,h))=some (ew fr d v,h):=rfl
theorem Tu (s:aA):Rr C s fr h (some true)=some (ew fr s.dst (.tuple []),h):=rfl
theorem Ua (d:Option Nat) (o:Lf) (g:Option (Nat×Bool)):Rr C ⟨d,o,g⟩ fr h (some false)=bG C ⟨d,o,none⟩ fr h:=rfl
theorem SK (d:Option Nat) (args:List AV) (f:Nat) (caps:List AV):Sg C d args fr h (.fn f caps)=Ma d fr (C f (args++caps) h):=rfl
theorem Xt (a b:bb):ak C n (.seq a b) fr h=Rv C n b (ak C n a fr h):=by
 rw[Gu];rcases ak C n a fr h with _ | ⟨ex,fr',h'⟩
 ·rfl
 ·cases ex<;>rfl
theorem Wo (c:bW) (a b:bb):ak C n (.cond c a b) fr h=ND C n a b fr h (c.ev fr):=by
 rw[E5]
 cases c.ev fr with
 | bool t=>cases t<;>rfl
 | _=>rfl
theorem U8 (d:Option Nat) (o:uy) (r:List aA):ca C (⟨d,.op o,none⟩::r) fr h=UE C d r fr (aW fr h o):=by
 rw[GQ];rcases aW fr h o with _ | ⟨v,h'⟩<;>rfl
theorem VC (d:Option Nat) (f:Nat) (args:List bW) (r:List aA):ca C (⟨d,.call f args,none⟩::r) fr h=UE C d r fr (C f (args.map (·.ev fr)) h):=by
 rw[B5];rcases C f (args.map (·.ev fr)) h with _ | ⟨v,h'⟩<;>rfl
theorem SI (d:Option Nat) (x:bW) (args:List bW) (r:List aA):ca C (⟨d,.iT x args,none⟩::r) fr h=XK C d (args.map (·.ev fr)) r fr h (x.ev fr):=by
 rw[Ai]
 cases x.ev fr with
 | fn f caps=>
   dsimp only[XK];rcases C f (args.map (·.ev fr)++caps) h with _ | ⟨v,h'⟩<;>rfl
 | _=>rfl
theorem Tw (d:Option Nat) (o:Lf) (g:Nat×Bool) (r:List aA):ca C (⟨d,o,some g⟩::r) fr h=WI C ⟨d,o,some g⟩ r fr h (cD fr (some g)):=by
 simp only[ca,bG]
 cases cD fr (some g) with
 | none=>rfl
 | some b=>
   cases b with
   | true=>rfl
   | false=>
     dsimp only[WI];simp only[ca,bG,cD]
theorem X7 (s:aA) (r:List aA):ou C (s::r) fr h=WO C s r fr h (bG C s fr ⟨h.next,h.eg,h.wl,h.next⟩):=by
 rw[J6];rcases bG C s fr ⟨h.next,h.eg,h.wl,h.next⟩ with _ | ⟨fr',h'⟩
 ·rfl
 ·dsimp only[WO];rcases ou C r fr' ⟨h'.next,h'.eg,h'.wl,min h.md h'.md⟩ with _ | ⟨a,b,c⟩<;>rfl
theorem TL (d:Option Nat) (o:uy):bG C ⟨d,.op o,none⟩ fr h=Ma d fr (aW fr h o):=by
 rw[LG];rcases aW fr h o with _ | ⟨v,h'⟩<;>rfl
theorem TY (d:Option Nat) (f:Nat) (args:List bW):bG C ⟨d,.call f args,none⟩ fr h=Ma d fr (C f (args.map (·.ev fr)) h):=by
 rw[DF];rcases C f (args.map (·.ev fr)) h with _ | ⟨v,h'⟩<;>rfl
theorem QP (d:Option Nat) (x:bW) (args:List bW):bG C ⟨d,.iT x args,none⟩ fr h=Sg C d (args.map (·.ev fr)) fr h (x.ev fr):=by
 rw[Cf]
 cases x.ev fr with
 | fn f caps=>
   dsimp only[Sg];rcases C f (args.map (·.ev fr)++caps) h with _ | ⟨v,h'⟩<;>rfl
 | _=>rfl
theorem Q9 (d:Option Nat) (o:Lf) (g:Nat×Bool):bG C ⟨d,o,some g⟩ fr h=Rr C ⟨d,o,some g⟩ fr h (cD fr (some g)):=by
 simp only[bG]
 cases cD fr (some g) with
 | none=>rfl
 | some b=>
   cases b with
   | true=>rfl
   | false=>
     dsimp only[Rr];simp only[bG,cD]
end
theorem wQ (a b c:Nat) (os0 os:List aC) (nx wl md:Nat) (v:AV):finish true ⟨a,os0,b,c⟩ v ⟨nx,os,wl,md⟩=(v,⟨nx,os,min b wl,min c md⟩):=rfl
end Sz

/- A table that a run's first world holds. No program is named here. -/
namespace Sz
open Go Go.RowKit
variable {X:World→Prop}
theorem gZ.Xq {P:Program} {φ:dj} {h:aa} {w:World} (g:gZ P X φ h w) {name:String} {k:IntKind} {zs:List Int} (hX:∀w,X w→Lib.TabIs P w name k zs):Lib.TabIs P w name k zs:=by
 obtain⟨w1,h1,h2⟩:=g;have ht:=hX _ h1.2;unfold Lib.TabIs World.var? at ht ⊢;rw[Option.bind_eq_some_iff] at ht ⊢;obtain⟨b,hb,ht⟩:=ht;refine⟨b,hb,?_⟩
 have hlt:b < w1.heap.size:=by
  cases hq:w1.heap[b]? with
  | none=>rw[hq] at ht;cases ht
  | some o=>exact (Array.getElem?_eq_some_iff.1 hq).1
 rw[(h2 b hlt).2.2];exact ht
theorem Hq (w:World) (k:Nat) (os:Array Obj):Below w.heap.size w (Sort.grow (w.drewN k) os):=
 ⟨rfl,rfl,rfl,by show w.heap.size≤(w.heap++os).size;simp,fun i hi=>by
  show (w.heap++os)[i]? =w.heap[i]?;exact Array.getElem?_append_left hi⟩
theorem int_eq {φ:dj} {nx:Nat} {pr:Nat→Prop} {w:World} {k:IntKind} {n:Int} {cv:Value} (h:RV φ nx pr w (.int k n) cv):cv=.int k n:=RV.cL h
end Sz

/- Known calls as tables. No program is named here. -/
namespace Sz
open Go
mutual
def AV.beq:AV→AV→Bool
 | .undef,.undef=>true
 | .bool a,.bool b=>a==b
 | .int k n,.int k' n'=>decide (k=k')&&decide (n=n')
 | .str a,.str b=>decide (a=b)
 | .kF,.kF=>true
 | .ip a,.ip b=>AV.F2 a b
 | .ax,.ax=>true
 | .sl a,.sl b=>AV.F2 a b
 | .gP,.gP=>true
 | .gj,.gj=>true
 | .fn f a,.fn g b=>f==g&&AV.F2 a b
 | .jI,.jI=>true
 | .iface t a,.iface u b=>t==u&&a.beq b
 | .agg a,.agg b=>AV.F2 a b
 | .tuple a,.tuple b=>AV.F2 a b
 | _,_=>false
def AV.F2:List AV→List AV→Bool
 | [],[]=>true
 | a::r,b::s=>a.beq b&&AV.F2 r s
 | _,_=>false
end
def MM:List (List AV×AV)→List AV→Option AV
 | [],_=>none
 | e::r,args=>if AV.F2 e.1 args then some e.2 else MM r args
def ai.Xq (f:Nat) (l:List (List AV×AV)):ai:=⟨f,MM l⟩
variable {X:World→Prop}
def ai.Xj (f:Nat) (a:AV) (l:List (List AV×AV)):ai:=⟨f,fun | b::r=>if a.beq b then MM l r else none | []=>none⟩
@[simp] theorem ai.X0 {f:Nat} {a:AV} {l:List (List AV×AV)}:(ai.Xj f a l).f=f:=(rfl)
@[simp] theorem ai.X4 {f:Nat} {l:List (List AV×AV)}:(ai.Xq f l).f=f:=(rfl)
end Sz
