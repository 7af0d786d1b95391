import Derived.Test.YtjmeonoabiliiaaGreatDoorSz3
import Derived.Test.YtjmeonoabiliiaaGreatDoorArg
import Derived.Lib.LaidTab
import Derived.Sort.Grow
import Derived.Deep.Draws
set_option linter.all false
set_option maxHeartbeats 16000000
set_option maxRecDepth 100000
namespace Sz
open Go
section
section
variable (C:Nat->List AV->af->Option (AV×af))(n:Nat)
def Zh(b:cw):Option (Ex×List AV×af)->Option (Ex×List AV×af)
 |some (.normal,fr,h)=>aF C n b fr h
 |r=>r
def TT(a b:cw)(fr:List AV)(h:af):AV->Option (Ex×List AV×af)
 |.bool true=>aF C n a fr h
 |.bool false=>aF C n b fr h
 |_=>none
def stK(d:Option Nat)(r:List aO)(fr:List AV):Option (AV×af)->Option (List AV×af)
 |some (v,h')=>c7 C r (gx fr d v) h'
 |none=>none
def gdK(s:aO)(r:List aO)(fr:List AV)(h:af):Option Bool->Option (List AV×af)
 |some true=>c7 C r (gx fr s.dst (.tuple [])) h
 |some false=>c7 C ({s with guard:=none}::r) fr h
 |none=>none
def cvK(d:Option Nat)(args:List AV)(r:List aO)(fr:List AV)(h:af):AV->Option (List AV×af)
 |.fn f aN=>stK C d r fr (C f (args++aN) h)
 |_=>none
def aco(tr:Nat×af×af):Option (List AV×af×List (Nat×af×af))->Option (List AV×af×List (Nat×af×af))
 |some (fr2,h2,t)=>some (fr2,h2,tr::t)
 |none=>none
def trK(s:aO)(r:List aO)(fr:List AV)(h:af):Option (List AV×af)->Option (List AV×af×List (Nat×af×af))
 |some (dT,h')=>aco (B7 s fr,h,h') (ue C r dT ⟨h'.next,h'.gS,h'.wl,min h.md h'.md⟩)
 |none=>none
def Xb(d:Option Nat)(fr:List AV):Option (AV×af)->Option (List AV×af)
 |some (v,h')=>some (gx fr d v,h')
 |none=>none
def Zo(s:aO)(fr:List AV)(h:af):Option Bool->Option (List AV×af)
 |some true=>some (gx fr s.dst (.tuple []),h)
 |some false=>cJ C {s with guard:=none} fr h
 |none=>none
def adC(d:Option Nat)(args:List AV)(fr:List AV)(h:af):AV->Option (List AV×af)
 |.fn f aN=>Xb d fr (C f (args++aN) h)
 |_=>none
variable (fr:List AV)(h:af)
theorem adb(b:cw):Zh C n b (some (.normal,fr,h))=aF C n b fr h:=rfl
theorem adF(b:cw)(i:Nat):Zh C n b (some (.exit i,fr,h))=some (.exit i,fr,h):=rfl
theorem adq(b:cw):Zh C n b (some (.ret,fr,h))=some (.ret,fr,h):=rfl
theorem Yw(a b:cw):TT C n a b fr h (.bool true)=aF C n a fr h:=rfl
theorem Zw(a b:cw):TT C n a b fr h (.bool false)=aF C n b fr h:=rfl
theorem agw(d:Option Nat)(r:List aO)(v:AV):stK C d r fr (some (v,h))=c7 C r (gx fr d v) h:=rfl
theorem afK(s:aO)(r:List aO):gdK C s r fr h (some true)=c7 C r (gx fr s.dst (.tuple [])) h:=rfl
theorem agx(d:Option Nat)(o:SX)(g:Option (Nat×Bool))(r:List aO):gdK C ⟨d,o,g⟩ r fr h (some false)=c7 C (⟨d,o,none⟩::r) fr h:=rfl
theorem agW(d:Option Nat)(args:List AV)(r:List aO)(f:Nat)(aN:List AV):cvK C d args r fr h (.fn f aN)=stK C d r fr (C f (args++aN) h):=rfl
theorem ag5(s:aO)(r:List aO)(dT:List AV)(nx:Nat)(os:List aS)(wl cS:Nat):trK C s r fr h (some (dT,⟨nx,os,wl,cS⟩))=aco (B7 s fr,h,⟨nx,os,wl,cS⟩) (ue C r dT ⟨nx,os,wl,min h.md cS⟩):=rfl
theorem abH(tr:Nat×af×af)(t:List (Nat×af×af)):aco tr (some (fr,h,t))=some (fr,h,tr::t):=rfl
theorem ab3(d:Option Nat)(v:AV):Xb d fr (some (v,h))=some (gx fr d v,h):=rfl
theorem acA(s:aO):Zo C s fr h (some true)=some (gx fr s.dst (.tuple []),h):=rfl
theorem acC(d:Option Nat)(o:SX)(g:Option (Nat×Bool)):Zo C ⟨d,o,g⟩ fr h (some false)=cJ C ⟨d,o,none⟩ fr h:=rfl
theorem adJ(d:Option Nat)(args:List AV)(f:Nat)(aN:List AV):adC C d args fr h (.fn f aN)=Xb d fr (C f (args++aN) h):=rfl
theorem ajp(a b:cw):aF C n (.seq a b) fr h=Zh C n b (aF C n a fr h):=by
 rw[N1];rcases aF C n a fr h with _|⟨ex,dT,h'⟩
 .rfl
 .cases ex<;>rfl
theorem ag3(c:cX)(a b:cw):aF C n (.cond c a b) fr h=TT C n a b fr h (c.ev fr):=by
 rw[Mb]
 cases c.ev fr with
 |bool t=>cases t<;>rfl
 |_=>rfl
theorem agr(d:Option Nat)(o:ye)(r:List aO):c7 C (⟨d,.op o,none⟩::r) fr h=stK C d r fr (bC fr h o):=by rw[Ob];rcases bC fr h o with _|⟨v,h'⟩<;>rfl
theorem af5(d:Option Nat)(f:Nat)(args:List cX)(r:List aO):c7 C (⟨d,.call f args,none⟩::r) fr h=stK C d r fr (C f (args.map (·.ev fr)) h):=by rw[IT];rcases C f (args.map (·.ev fr)) h with _|⟨v,h'⟩<;>rfl
theorem acs(d:Option Nat)(x:cX)(args:List cX)(r:List aO):c7 C (⟨d,.lg x args,none⟩::r) fr h=cvK C d (args.map (·.ev fr)) r fr h (x.ev fr):=by
 rw[FV]
 cases x.ev fr with
 |fn f aN=>dsimp only[cvK];rcases C f (args.map (·.ev fr)++aN) h with _|⟨v,h'⟩<;>rfl
 |_=>rfl
theorem ad5(d:Option Nat)(o:SX)(g:Nat×Bool)(r:List aO):c7 C (⟨d,o,some g⟩::r) fr h=gdK C ⟨d,o,some g⟩ r fr h (dA fr (some g)):=by
 simp only[c7,cJ]
 cases dA fr (some g) with
 |none=>rfl
 |some b=>
   cases b with
   |true=>rfl
   |false=>dsimp only[gdK];simp only[c7,cJ,dA]
theorem trF(s:aO)(r:List aO):ue C (s::r) fr h=trK C s r fr h (cJ C s fr ⟨h.next,h.gS,h.wl,h.next⟩):=by
 rw[Ts];rcases cJ C s fr ⟨h.next,h.gS,h.wl,h.next⟩ with _|⟨dT,h'⟩
 .rfl
 .dsimp only[trK];rcases ue C r dT ⟨h'.next,h'.gS,h'.wl,min h.md h'.md⟩ with _|⟨a,b,c⟩<;>rfl
theorem acL(d:Option Nat)(o:ye):cJ C ⟨d,.op o,none⟩ fr h=Xb d fr (bC fr h o):=by rw[Sm];rcases bC fr h o with _|⟨v,h'⟩<;>rfl
theorem adQ(d:Option Nat)(f:Nat)(args:List cX):cJ C ⟨d,.call f args,none⟩ fr h=Xb d fr (C f (args.map (·.ev fr)) h):=by rw[JG];rcases C f (args.map (·.ev fr)) h with _|⟨v,h'⟩<;>rfl
theorem Zu(d:Option Nat)(x:cX)(args:List cX):cJ C ⟨d,.lg x args,none⟩ fr h=adC C d (args.map (·.ev fr)) fr h (x.ev fr):=by
 rw[Iv]
 cases x.ev fr with
 |fn f aN=>dsimp only[adC];rcases C f (args.map (·.ev fr)++aN) h with _|⟨v,h'⟩<;>rfl
 |_=>rfl
theorem ZL(d:Option Nat)(o:SX)(g:Nat×Bool):cJ C ⟨d,o,some g⟩ fr h=Zo C ⟨d,o,some g⟩ fr h (dA fr (some g)):=by
 simp only[cJ]
 cases dA fr (some g) with
 |none=>rfl
 |some b=>
   cases b with
   |true=>rfl
   |false=>dsimp only[Zo];simp only[cJ,dA]
end
theorem K0(a b c:Nat)(os0 os:List aS)(nx wl md:Nat)(v:AV):finish true ⟨a,os0,b,c⟩ v ⟨nx,os,wl,md⟩=(v,⟨nx,os,min b wl,min c md⟩):=rfl
end
section
open Go.RowKit
variable {X:World->Prop}
theorem je.tab{P:Program}{φ:eh}{h:af}{w:World}(g:je P X φ h w){name:String}{k:IntKind}{zs:List Int}(hX:∀w,X w->Lib.TabIs P w name k zs):Lib.TabIs P w name k zs:=by
 obtain⟨w1,h1,h2⟩:=g;have ht:=hX _ h1.2;unfold Lib.TabIs World.var? at ht|-;rw[Option.bind_eq_some_iff] at ht|-;obtain⟨b,hb,ht⟩:=ht;refine⟨b,hb,?_⟩
 have de:b<w1.heap.size:=by
  cases hq:w1.heap[b]? with
  |none=>rw[hq] at ht;cases ht
  |some o=>exact (Array.getElem?_eq_some_iff.1 hq).1
 rw[(h2 b de).2.2];exact ht
theorem N3(w:World)(k:Nat)(os:Array Obj):Below w.heap.size w (Sort.grow (w.drewN k) os):=
 ⟨rfl,rfl,rfl,by show w.heap.size<=(w.heap++os).size;simp,λi hi=>by show (w.heap++os)[i]? =w.heap[i]?;exact Array.getElem?_append_left hi⟩
theorem int_eq{φ:eh}{nx:Nat}{pr:Nat->Prop}{w:World}{k:IntKind}{n:Int}{cv:Value}(h:RV φ nx pr w (.int k n) cv):cv=.int k n:=RV.dP h
end
section
mutual
def AV.beq:AV->AV->Bool
 |.undef,.undef=>true
 |.bool a,.bool b=>a==b
 |.int k n,.int k' n'=>decide (k=k')&&decide (n=n')
 |.str a,.str b=>decide (a=b)
 |.mO,.mO=>true
 |.ip a,.ip b=>AV.Ow a b
 |.aD,.aD=>true
 |.sl a,.sl b=>AV.Ow a b
 |.jV,.jV=>true
 |.iU,.iU=>true
 |.fn f a,.fn g b=>f==g&&AV.Ow a b
 |.mM,.mM=>true
 |.iface t a,.iface u b=>t==u&&a.beq b
 |.agg a,.agg b=>AV.Ow a b
 |.tuple a,.tuple b=>AV.Ow a b
 |_,_=>false
def AV.Ow:List AV->List AV->Bool
 |[],[]=>true
 |a::r,b::s=>a.beq b&&AV.Ow r s
 |_,_=>false
end
def V7:List (List AV×AV)->List AV->Option AV
 |[],_=>none
 |e::r,args=>if AV.Ow e.1 args then some e.2 else V7 r args
def aZ.tab(f:Nat)(l:List (List AV×AV)):aZ:=⟨f,V7 l⟩
variable {X:World->Prop}
def aZ.ajw(f:Nat)(a:AV)(l:List (List AV×AV)):aZ:=⟨f,λ|b::r=>if a.beq b then V7 l r else none|[]=>none⟩
@[simp] theorem aZ.ajM{f:Nat}{a:AV}{l:List (List AV×AV)}:(aZ.ajw f a l).f=f:=(rfl)
@[simp] theorem aZ.al7{f:Nat}{l:List (List AV×AV)}:(aZ.tab f l).f=f:=(rfl)
end
end Sz
