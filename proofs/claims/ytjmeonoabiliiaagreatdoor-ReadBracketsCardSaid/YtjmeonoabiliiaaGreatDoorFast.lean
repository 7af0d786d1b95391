import Derived.Test.YtjmeonoabiliiaaGreatDoorSz3
import Derived.Test.YtjmeonoabiliiaaGreatDoorArg
import Derived.Lib.LaidTab
import Derived.Sort.Grow
import Derived.Deep.Draws
set_option linter.unusedVariables false
set_option linter.unusedSimpArgs false
set_option linter.unusedSectionVars false
set_option maxHeartbeats 16000000
set_option maxRecDepth 100000

/- The same rules, what follows kept shut until what is ahead is known: a run that stands still ends the working out there. No program is named here. -/
namespace Sz
open Go
section
variable (C:Nat→List AV→aa→Option (AV×aa)) (n:Nat)
def MA (b:bF):Option (Ex×List AV×aa)→Option (Ex×List AV×aa)
 | some (.normal,fr,h)=>aT C n b fr h
 | r=>r
def ID (a b:bF) (fr:List AV) (h:aa):AV→Option (Ex×List AV×aa)
 | .bool true=>aT C n a fr h
 | .bool false=>aT C n b fr h
 | _=>none
def Rk (d:Option Nat) (r:List aU) (fr:List AV):Option (AV×aa)→Option (List AV×aa)
 | some (v,h')=>cB C r (eG fr d v) h'
 | none=>none
def SY (s:aU) (r:List aU) (fr:List AV) (h:aa):Option Bool→Option (List AV×aa)
 | some true=>cB C r (eG fr s.dst (.tuple [])) h
 | some false=>cB C ({s with guard:=none}::r) fr h
 | none=>none
def Tu (d:Option Nat) (args:List AV) (r:List aU) (fr:List AV) (h:aa):AV→Option (List AV×aa)
 | .fn f caps=>Rk C d r fr (C f (args++caps) h)
 | _=>none
def Og (tr:Nat×aa×aa):Option (List AV×aa×List (Nat×aa×aa))→Option (List AV×aa×List (Nat×aa×aa))
 | some (fr2,h2,t)=>some (fr2,h2,tr::t)
 | none=>none
def Uq (s:aU) (r:List aU) (fr:List AV) (h:aa):Option (List AV×aa)→Option (List AV×aa×List (Nat×aa×aa))
 | some (fr',h')=>Og (uV s fr,h,h') (nL C r fr' ⟨h'.next,h'.fi,h'.wl,min h.md h'.md⟩)
 | none=>none
def KE (d:Option Nat) (fr:List AV):Option (AV×aa)→Option (List AV×aa)
 | some (v,h')=>some (eG fr d v,h')
 | none=>none
def Lh (s:aU) (fr:List AV) (h:aa):Option Bool→Option (List AV×aa)
 | some true=>some (eG fr s.dst (.tuple []),h)
 | some false=>cd C {s with guard:=none} fr h
 | none=>none
def OX (d:Option Nat) (args:List AV) (fr:List AV) (h:aa):AV→Option (List AV×aa)
 | .fn f caps=>KE d fr (C f (args++caps) h)
 | _=>none
variable (fr:List AV) (h:aa)
theorem Qc (b:bF):MA C n b (some (.normal,fr,h))=aT C n b fr h:=rfl
theorem PO (b:bF) (i:Nat):MA C n b (some (.exit i,fr,h))=some (.exit i,fr,h):=rfl
theorem Pe (b:bF):MA C n b (some (.ret,fr,h))=some (.ret,fr,h):=rfl
theorem LM (a b:bF):ID C n a b fr h (.bool true)=aT C n a fr h:=rfl
theorem LF (a b:bF):ID C n a b fr h (.bool false)=aT C n b fr h:=rfl
theorem RO (d:Option Nat) (r:List aU) (v:AV):Rk C d r fr (some (v,h))=cB C r (eG fr d v) h:=rfl
theorem Rm (s:aU) (r:List aU):SY C s r fr h (some true)=cB C r (eG fr s.dst (.tuple [])) h:=rfl
theorem SA (d:Option Nat) (o:F6) (g:Option (Nat×Bool)) (r:List aU):SY C ⟨d,o,g⟩ r fr h (some false)=cB C (⟨d,o,none⟩::r) fr h:=rfl
theorem SN (d:Option Nat) (args:List AV) (r:List aU) (f:Nat) (caps:List AV):Tu C d args r fr h (.fn f caps)=Rk C d r fr (C f (args++caps) h):=rfl
theorem QL (s:aU) (r:List aU) (fr':List AV) (nx:Nat) (os:List bf) (wl md':Nat):Uq C s r fr h (some (fr',⟨nx,os,wl,md'⟩))=Og (uV s fr,h,⟨nx,os,wl,md'⟩) (nL C r fr' ⟨nx,os,wl,min h.md md'⟩):=rfl
theorem OV (tr:Nat×aa×aa) (t:List (Nat×aa×aa)):Og tr (some (fr,h,t))=some (fr,h,tr::t):=rfl
theorem PG (d:Option Nat) (v:AV):KE d fr (some (v,h))=some (eG fr d v,h):=rfl
theorem O5 (s:aU):Lh C s fr h (some true)=some (eG fr s.dst (.tuple []),h):=rfl
theorem Ow (d:Option Nat) (o:F6) (g:Option (Nat×Bool)):Lh C ⟨d,o,g⟩ fr h (some false)=cd C ⟨d,o,none⟩ fr h:=rfl
theorem Oo (d:Option Nat) (args:List AV) (f:Nat) (caps:List AV):OX C d args fr h (.fn f caps)=KE d fr (C f (args++caps) h):=rfl
theorem TO (a b:bF):aT C n (.seq a b) fr h=MA C n b (aT C n a fr h):=by
 rw[Eh];rcases aT C n a fr h with _ | ⟨ex,fr',h'⟩
 ·rfl
 ·cases ex<;>rfl
theorem R3 (c:cI) (a b:bF):aT C n (.cond c a b) fr h=ID C n a b fr h (c.ev fr):=by
 rw[Bc]
 cases c.ev fr with
 | bool t=>cases t<;>rfl
 | _=>rfl
theorem Se (d:Option Nat) (o:qR) (r:List aU):cB C (⟨d,.op o,none⟩::r) fr h=Rk C d r fr (bE fr h o):=by
 rw[CJ];rcases bE fr h o with _ | ⟨v,h'⟩<;>rfl
theorem QY (d:Option Nat) (f:Nat) (args:List cI) (r:List aU):cB C (⟨d,.call f args,none⟩::r) fr h=Rk C d r fr (C f (args.map (·.ev fr)) h):=by
 rw[zF];rcases C f (args.map (·.ev fr)) h with _ | ⟨v,h'⟩<;>rfl
theorem OD (d:Option Nat) (x:cI) (args:List cI) (r:List aU):cB C (⟨d,.hU x args,none⟩::r) fr h=Tu C d (args.map (·.ev fr)) r fr h (x.ev fr):=by
 rw[xA]
 cases x.ev fr with
 | fn f caps=>
   dsimp only[Tu];rcases C f (args.map (·.ev fr)++caps) h with _ | ⟨v,h'⟩<;>rfl
 | _=>rfl
theorem OK (d:Option Nat) (o:F6) (g:Nat×Bool) (r:List aU):cB C (⟨d,o,some g⟩::r) fr h=SY C ⟨d,o,some g⟩ r fr h (cG fr (some g)):=by
 simp only[cB,cd]
 cases cG fr (some g) with
 | none=>rfl
 | some b=>
   cases b with
   | true=>rfl
   | false=>
     dsimp only[SY];simp only[cB,cd,cG]
theorem UH (s:aU) (r:List aU):nL C (s::r) fr h=Uq C s r fr h (cd C s fr ⟨h.next,h.fi,h.wl,h.next⟩):=by
 rw[Hn];rcases cd C s fr ⟨h.next,h.fi,h.wl,h.next⟩ with _ | ⟨fr',h'⟩
 ·rfl
 ·dsimp only[Uq];rcases nL C r fr' ⟨h'.next,h'.fi,h'.wl,min h.md h'.md⟩ with _ | ⟨a,b,c⟩<;>rfl
theorem PD (d:Option Nat) (o:qR):cd C ⟨d,.op o,none⟩ fr h=KE d fr (bE fr h o):=by
 rw[GK];rcases bE fr h o with _ | ⟨v,h'⟩<;>rfl
theorem Pu (d:Option Nat) (f:Nat) (args:List cI):cd C ⟨d,.call f args,none⟩ fr h=KE d fr (C f (args.map (·.ev fr)) h):=by
 rw[B7];rcases C f (args.map (·.ev fr)) h with _ | ⟨v,h'⟩<;>rfl
theorem Lq (d:Option Nat) (x:cI) (args:List cI):cd C ⟨d,.hU x args,none⟩ fr h=OX C d (args.map (·.ev fr)) fr h (x.ev fr):=by
 rw[zZ]
 cases x.ev fr with
 | fn f caps=>
   dsimp only[OX];rcases C f (args.map (·.ev fr)++caps) h with _ | ⟨v,h'⟩<;>rfl
 | _=>rfl
theorem Nr (d:Option Nat) (o:F6) (g:Nat×Bool):cd C ⟨d,o,some g⟩ fr h=Lh C ⟨d,o,some g⟩ fr h (cG fr (some g)):=by
 simp only[cd]
 cases cG fr (some g) with
 | none=>rfl
 | some b=>
   cases b with
   | true=>rfl
   | false=>
     dsimp only[Lh];simp only[cd,cG]
end
theorem uC (a b c:Nat) (os0 os:List bf) (nx wl md:Nat) (v:AV):finish true ⟨a,os0,b,c⟩ v ⟨nx,os,wl,md⟩=(v,⟨nx,os,min b wl,min c md⟩):=rfl
end Sz

/- A table that a run's first world holds. No program is named here. -/
namespace Sz
open Go Go.RowKit
variable {X:World→Prop}
theorem fv.UC {P:Program} {φ:dp} {h:aa} {w:World} (g:fv P X φ h w) {name:String} {k:IntKind} {zs:List Int} (hX:∀w,X w→Lib.TabIs P w name k zs):Lib.TabIs P w name k zs:=by
 obtain⟨w1,h1,h2⟩:=g;have ht:=hX _ h1.2;unfold Lib.TabIs World.var? at ht ⊢;rw[Option.bind_eq_some_iff] at ht ⊢;obtain⟨b,hb,ht⟩:=ht;refine⟨b,hb,?_⟩
 have hlt:b < w1.heap.size:=by
  cases hq:w1.heap[b]? with
  | none=>rw[hq] at ht;cases ht
  | some o=>exact (Array.getElem?_eq_some_iff.1 hq).1
 rw[(h2 b hlt).2.2];exact ht
theorem int_eq {φ:dp} {nx:Nat} {pr:Nat→Prop} {w:World} {k:IntKind} {n:Int} {cv:Value} (h:RV φ nx pr w (.int k n) cv):cv=.int k n:=RV.dh h
end Sz

/- Known calls as tables. No program is named here. -/
namespace Sz
open Go
mutual
def AV.beq:AV→AV→Bool
 | .undef,.undef=>true
 | .bool a,.bool b=>a==b
 | .int k n,.int k' n'=>decide (k=k')&&decide (n=n')
 | .str a,.str b=>decide (a=b)
 | .jr,.jr=>true
 | .ip a,.ip b=>AV.CE a b
 | .aw,.aw=>true
 | .sl a,.sl b=>AV.CE a b
 | .iC,.iC=>true
 | .fQ,.fQ=>true
 | .fn f a,.fn g b=>f==g&&AV.CE a b
 | .jt,.jt=>true
 | .iface t a,.iface u b=>t==u&&a.beq b
 | .agg a,.agg b=>AV.CE a b
 | .tuple a,.tuple b=>AV.CE a b
 | _,_=>false
def AV.CE:List AV→List AV→Bool
 | [],[]=>true
 | a::r,b::s=>a.beq b&&AV.CE r s
 | _,_=>false
end
def IC:List (List AV×AV)→List AV→Option AV
 | [],_=>none
 | e::r,args=>if AV.CE e.1 args then some e.2 else IC r args
def aR.UC (f:Nat) (l:List (List AV×AV)):aR:=⟨f,IC l⟩
variable {X:World→Prop}
def aR.Tv (f:Nat) (a:AV) (l:List (List AV×AV)):aR:=⟨f,fun | b::r=>if a.beq b then IC l r else none | []=>none⟩
@[simp] theorem aR.T7 {f:Nat} {a:AV} {l:List (List AV×AV)}:(aR.Tv f a l).f=f:=(rfl)
@[simp] theorem aR.Uv {f:Nat} {l:List (List AV×AV)}:(aR.UC f l).f=f:=(rfl)
end Sz
