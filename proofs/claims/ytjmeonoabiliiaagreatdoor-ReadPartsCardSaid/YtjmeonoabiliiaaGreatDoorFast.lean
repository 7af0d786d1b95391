import Derived.Test.YtjmeonoabiliiaaGreatDoorSz3
import Derived.Test.YtjmeonoabiliiaaGreatDoorArg
import Derived.Lib.LaidTab
import Derived.Sort.Grow
import Derived.Deep.Draws
set_option linter.unusedVariables false
set_option linter.unusedSimpArgs false
set_option linter.unusedSectionVars false
set_option maxHeartbeats 16000000
set_option maxRecDepth 100000

/- The same rules, what follows kept shut until what is ahead is known: a run that stands still ends the working out there. No program is named here. -/
namespace Sz
open Go
section
variable (C:Nat→List AV→aa→Option (AV×aa)) (n:Nat)
def L7 (b:bH):Option (Ex×List AV×aa)→Option (Ex×List AV×aa)
 | some (.normal,fr,h)=>aT C n b fr h
 | r=>r
def Jh (a b:bH) (fr:List AV) (h:aa):AV→Option (Ex×List AV×aa)
 | .bool true=>aT C n a fr h
 | .bool false=>aT C n b fr h
 | _=>none
def R8 (d:Option Nat) (r:List aV) (fr:List AV):Option (AV×aa)→Option (List AV×aa)
 | some (v,h')=>cJ C r (eT fr d v) h'
 | none=>none
def Tp (s:aV) (r:List aV) (fr:List AV) (h:aa):Option Bool→Option (List AV×aa)
 | some true=>cJ C r (eT fr s.dst (.tuple [])) h
 | some false=>cJ C ({s with guard:=none}::r) fr h
 | none=>none
def Ua (d:Option Nat) (args:List AV) (r:List aV) (fr:List AV) (h:aa):AV→Option (List AV×aa)
 | .fn f caps=>R8 C d r fr (C f (args++caps) h)
 | _=>none
def P8 (tr:Nat×aa×aa):Option (List AV×aa×List (Nat×aa×aa))→Option (List AV×aa×List (Nat×aa×aa))
 | some (fr2,h2,t)=>some (fr2,h2,tr::t)
 | none=>none
def UA (s:aV) (r:List aV) (fr:List AV) (h:aa):Option (List AV×aa)→Option (List AV×aa×List (Nat×aa×aa))
 | some (fr',h')=>P8 (u5 s fr,h,h') (n9 C r fr' ⟨h'.next,h'.fv,h'.wl,min h.md h'.md⟩)
 | none=>none
def IM (d:Option Nat) (fr:List AV):Option (AV×aa)→Option (List AV×aa)
 | some (v,h')=>some (eT fr d v,h')
 | none=>none
def MK (s:aV) (fr:List AV) (h:aa):Option Bool→Option (List AV×aa)
 | some true=>some (eT fr s.dst (.tuple []),h)
 | some false=>cn C {s with guard:=none} fr h
 | none=>none
def PT (d:Option Nat) (args:List AV) (fr:List AV) (h:aa):AV→Option (List AV×aa)
 | .fn f caps=>IM d fr (C f (args++caps) h)
 | _=>none
variable (fr:List AV) (h:aa)
theorem QC (b:bH):L7 C n b (some (.normal,fr,h))=aT C n b fr h:=rfl
theorem QM (b:bH) (i:Nat):L7 C n b (some (.exit i,fr,h))=some (.exit i,fr,h):=rfl
theorem O9 (b:bH):L7 C n b (some (.ret,fr,h))=some (.ret,fr,h):=rfl
theorem ML (a b:bH):Jh C n a b fr h (.bool true)=aT C n a fr h:=rfl
theorem MA (a b:bH):Jh C n a b fr h (.bool false)=aT C n b fr h:=rfl
theorem SX (d:Option Nat) (r:List aV) (v:AV):R8 C d r fr (some (v,h))=cJ C r (eT fr d v) h:=rfl
theorem Ra (s:aV) (r:List aV):Tp C s r fr h (some true)=cJ C r (eT fr s.dst (.tuple [])) h:=rfl
theorem R1 (d:Option Nat) (o:Fm) (g:Option (Nat×Bool)) (r:List aV):Tp C ⟨d,o,g⟩ r fr h (some false)=cJ C (⟨d,o,none⟩::r) fr h:=rfl
theorem Rg (d:Option Nat) (args:List AV) (r:List aV) (f:Nat) (caps:List AV):Ua C d args r fr h (.fn f caps)=R8 C d r fr (C f (args++caps) h):=rfl
theorem Sp (s:aV) (r:List aV) (fr':List AV) (nx:Nat) (os:List bj) (wl md':Nat):UA C s r fr h (some (fr',⟨nx,os,wl,md'⟩))=P8 (u5 s fr,h,⟨nx,os,wl,md'⟩) (n9 C r fr' ⟨nx,os,wl,min h.md md'⟩):=rfl
theorem OM (tr:Nat×aa×aa) (t:List (Nat×aa×aa)):P8 tr (some (fr,h,t))=some (fr,h,tr::t):=rfl
theorem OF (d:Option Nat) (v:AV):IM d fr (some (v,h))=some (eT fr d v,h):=rfl
theorem Qq (s:aV):MK C s fr h (some true)=some (eT fr s.dst (.tuple []),h):=rfl
theorem QA (d:Option Nat) (o:Fm) (g:Option (Nat×Bool)):MK C ⟨d,o,g⟩ fr h (some false)=cn C ⟨d,o,none⟩ fr h:=rfl
theorem O1 (d:Option Nat) (args:List AV) (f:Nat) (caps:List AV):PT C d args fr h (.fn f caps)=IM d fr (C f (args++caps) h):=rfl
theorem Ut (a b:bH):aT C n (.seq a b) fr h=L7 C n b (aT C n a fr h):=by
 rw[EX];rcases aT C n a fr h with _ | ⟨ex,fr',h'⟩
 ·rfl
 ·cases ex<;>rfl
theorem Sj (c:cY) (a b:bH):aT C n (.cond c a b) fr h=Jh C n a b fr h (c.ev fr):=by
 rw[Bq]
 cases c.ev fr with
 | bool t=>cases t<;>rfl
 | _=>rfl
theorem Rq (d:Option Nat) (o:qZ) (r:List aV):cJ C (⟨d,.op o,none⟩::r) fr h=R8 C d r fr (bF fr h o):=by
 rw[Df];rcases bF fr h o with _ | ⟨v,h'⟩<;>rfl
theorem Ta (d:Option Nat) (f:Nat) (args:List cY) (r:List aV):cJ C (⟨d,.call f args,none⟩::r) fr h=R8 C d r fr (C f (args.map (·.ev fr)) h):=by
 rw[As];rcases C f (args.map (·.ev fr)) h with _ | ⟨v,h'⟩<;>rfl
theorem Pa (d:Option Nat) (x:cY) (args:List cY) (r:List aV):cJ C (⟨d,.ic x args,none⟩::r) fr h=Ua C d (args.map (·.ev fr)) r fr h (x.ev fr):=by
 rw[xU]
 cases x.ev fr with
 | fn f caps=>
   dsimp only[Ua];rcases C f (args.map (·.ev fr)++caps) h with _ | ⟨v,h'⟩<;>rfl
 | _=>rfl
theorem PI (d:Option Nat) (o:Fm) (g:Nat×Bool) (r:List aV):cJ C (⟨d,o,some g⟩::r) fr h=Tp C ⟨d,o,some g⟩ r fr h (cP fr (some g)):=by
 simp only[cJ,cn]
 cases cP fr (some g) with
 | none=>rfl
 | some b=>
   cases b with
   | true=>rfl
   | false=>
     dsimp only[Tp];simp only[cJ,cn,cP]
theorem U0 (s:aV) (r:List aV):n9 C (s::r) fr h=UA C s r fr h (cn C s fr ⟨h.next,h.fv,h.wl,h.next⟩):=by
 rw[G8];rcases cn C s fr ⟨h.next,h.fv,h.wl,h.next⟩ with _ | ⟨fr',h'⟩
 ·rfl
 ·dsimp only[UA];rcases n9 C r fr' ⟨h'.next,h'.fv,h'.wl,min h.md h'.md⟩ with _ | ⟨a,b,c⟩<;>rfl
theorem Ps (d:Option Nat) (o:qZ):cn C ⟨d,.op o,none⟩ fr h=IM d fr (bF fr h o):=by
 rw[Iv];rcases bF fr h o with _ | ⟨v,h'⟩<;>rfl
theorem OY (d:Option Nat) (f:Nat) (args:List cY):cn C ⟨d,.call f args,none⟩ fr h=IM d fr (C f (args.map (·.ev fr)) h):=by
 rw[Bj];rcases C f (args.map (·.ev fr)) h with _ | ⟨v,h'⟩<;>rfl
theorem Ny (d:Option Nat) (x:cY) (args:List cY):cn C ⟨d,.ic x args,none⟩ fr h=PT C d (args.map (·.ev fr)) fr h (x.ev fr):=by
 rw[AB]
 cases x.ev fr with
 | fn f caps=>
   dsimp only[PT];rcases C f (args.map (·.ev fr)++caps) h with _ | ⟨v,h'⟩<;>rfl
 | _=>rfl
theorem MI (d:Option Nat) (o:Fm) (g:Nat×Bool):cn C ⟨d,o,some g⟩ fr h=MK C ⟨d,o,some g⟩ fr h (cP fr (some g)):=by
 simp only[cn]
 cases cP fr (some g) with
 | none=>rfl
 | some b=>
   cases b with
   | true=>rfl
   | false=>
     dsimp only[MK];simp only[cn,cP]
end
theorem uC (a b c:Nat) (os0 os:List bj) (nx wl md:Nat) (v:AV):finish true ⟨a,os0,b,c⟩ v ⟨nx,os,wl,md⟩=(v,⟨nx,os,min b wl,min c md⟩):=rfl
end Sz

/- A table that a run's first world holds. No program is named here. -/
namespace Sz
open Go Go.RowKit
variable {X:World→Prop}
theorem fC.UL {P:Program} {φ:dA} {h:aa} {w:World} (g:fC P X φ h w) {name:String} {k:IntKind} {zs:List Int} (hX:∀w,X w→Lib.TabIs P w name k zs):Lib.TabIs P w name k zs:=by
 obtain⟨w1,h1,h2⟩:=g;have ht:=hX _ h1.2;unfold Lib.TabIs World.var? at ht ⊢;rw[Option.bind_eq_some_iff] at ht ⊢;obtain⟨b,hb,ht⟩:=ht;refine⟨b,hb,?_⟩
 have hlt:b < w1.heap.size:=by
  cases hq:w1.heap[b]? with
  | none=>rw[hq] at ht;cases ht
  | some o=>exact (Array.getElem?_eq_some_iff.1 hq).1
 rw[(h2 b hlt).2.2];exact ht
theorem int_eq {φ:dA} {nx:Nat} {pr:Nat→Prop} {w:World} {k:IntKind} {n:Int} {cv:Value} (h:RV φ nx pr w (.int k n) cv):cv=.int k n:=RV.dw h
end Sz

/- Known calls as tables. No program is named here. -/
namespace Sz
open Go
mutual
def AV.beq:AV→AV→Bool
 | .undef,.undef=>true
 | .bool a,.bool b=>a==b
 | .int k n,.int k' n'=>decide (k=k')&&decide (n=n')
 | .str a,.str b=>decide (a=b)
 | .jB,.jB=>true
 | .ip a,.ip b=>AV.D8 a b
 | .aA,.aA=>true
 | .sl a,.sl b=>AV.D8 a b
 | .iM,.iM=>true
 | .fW,.fW=>true
 | .fn f a,.fn g b=>f==g&&AV.D8 a b
 | .jC,.jC=>true
 | .iface t a,.iface u b=>t==u&&a.beq b
 | .agg a,.agg b=>AV.D8 a b
 | .tuple a,.tuple b=>AV.D8 a b
 | _,_=>false
def AV.D8:List AV→List AV→Bool
 | [],[]=>true
 | a::r,b::s=>a.beq b&&AV.D8 r s
 | _,_=>false
end
def JK:List (List AV×AV)→List AV→Option AV
 | [],_=>none
 | e::r,args=>if AV.D8 e.1 args then some e.2 else JK r args
def aS.UL (f:Nat) (l:List (List AV×AV)):aS:=⟨f,JK l⟩
variable {X:World→Prop}
def aS.TQ (f:Nat) (a:AV) (l:List (List AV×AV)):aS:=⟨f,fun | b::r=>if a.beq b then JK l r else none | []=>none⟩
@[simp] theorem aS.Ul {f:Nat} {a:AV} {l:List (List AV×AV)}:(aS.TQ f a l).f=f:=(rfl)
@[simp] theorem aS.UX {f:Nat} {l:List (List AV×AV)}:(aS.UL f l).f=f:=(rfl)
end Sz
