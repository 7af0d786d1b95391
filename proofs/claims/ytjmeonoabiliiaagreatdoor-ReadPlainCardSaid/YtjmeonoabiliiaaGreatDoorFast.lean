import Derived.Test.YtjmeonoabiliiaaGreatDoorSz3
import Derived.Test.YtjmeonoabiliiaaGreatDoorArg
import Derived.Lib.LaidTab
import Derived.Sort.Grow
import Derived.Deep.Draws
set_option linter.all false
set_option maxHeartbeats 16000000
set_option maxRecDepth 100000
namespace Sz
open Go
section
section
variable (C:Nat->List AV->ai->Option (AV×ai))(n:Nat)
def YB(b:bW):Option (Ex×List AV×ai)->Option (Ex×List AV×ai)
 |some (.normal,fr,h)=>aH C n b fr h
 |r=>r
def SW(a b:bW)(fr:List AV)(h:ai):AV->Option (Ex×List AV×ai)
 |.bool true=>aH C n a fr h
 |.bool false=>aH C n b fr h
 |_=>none
def stK(d:Option Nat)(r:List aW)(fr:List AV):Option (AV×ai)->Option (List AV×ai)
 |some (v,h')=>dz C r (gP fr d v) h'
 |none=>none
def gdK(s:aW)(r:List aW)(fr:List AV)(h:ai):Option Bool->Option (List AV×ai)
 |some true=>dz C r (gP fr s.dst (.tuple [])) h
 |some false=>dz C ({s with guard:=none}::r) fr h
 |none=>none
def cvK(d:Option Nat)(args:List AV)(r:List aW)(fr:List AV)(h:ai):AV->Option (List AV×ai)
 |.fn f bC=>stK C d r fr (C f (args++bC) h)
 |_=>none
def ab1(tr:Nat×ai×ai):Option (List AV×ai×List (Nat×ai×ai))->Option (List AV×ai×List (Nat×ai×ai))
 |some (fr2,h2,t)=>some (fr2,h2,tr::t)
 |none=>none
def trK(s:aW)(r:List aW)(fr:List AV)(h:ai):Option (List AV×ai)->Option (List AV×ai×List (Nat×ai×ai))
 |some (eD,h')=>ab1 (BJ s fr,h,h') (tL C r eD ⟨h'.next,h'.iF,h'.wl,min h.md h'.md⟩)
 |none=>none
def VX(d:Option Nat)(fr:List AV):Option (AV×ai)->Option (List AV×ai)
 |some (v,h')=>some (gP fr d v,h')
 |none=>none
def YN(s:aW)(fr:List AV)(h:ai):Option Bool->Option (List AV×ai)
 |some true=>some (gP fr s.dst (.tuple []),h)
 |some false=>dd C {s with guard:=none} fr h
 |none=>none
def adn(d:Option Nat)(args:List AV)(fr:List AV)(h:ai):AV->Option (List AV×ai)
 |.fn f bC=>VX d fr (C f (args++bC) h)
 |_=>none
variable (fr:List AV)(h:ai)
theorem acS(b:bW):YB C n b (some (.normal,fr,h))=aH C n b fr h:=rfl
theorem adq(b:bW)(i:Nat):YB C n b (some (.exit i,fr,h))=some (.exit i,fr,h):=rfl
theorem ac6(b:bW):YB C n b (some (.ret,fr,h))=some (.ret,fr,h):=rfl
theorem XC(a b:bW):SW C n a b fr h (.bool true)=aH C n a fr h:=rfl
theorem YW(a b:bW):SW C n a b fr h (.bool false)=aH C n b fr h:=rfl
theorem af5(d:Option Nat)(r:List aW)(v:AV):stK C d r fr (some (v,h))=dz C r (gP fr d v) h:=rfl
theorem afi(s:aW)(r:List aW):gdK C s r fr h (some true)=dz C r (gP fr s.dst (.tuple [])) h:=rfl
theorem af6(d:Option Nat)(o:R5)(g:Option (Nat×Bool))(r:List aW):gdK C ⟨d,o,g⟩ r fr h (some false)=dz C (⟨d,o,none⟩::r) fr h:=rfl
theorem agz(d:Option Nat)(args:List AV)(r:List aW)(f:Nat)(bC:List AV):cvK C d args r fr h (.fn f bC)=stK C d r fr (C f (args++bC) h):=rfl
theorem agL(s:aW)(r:List aW)(eD:List AV)(nx:Nat)(os:List bp)(wl cq:Nat):trK C s r fr h (some (eD,⟨nx,os,wl,cq⟩))=ab1 (BJ s fr,h,⟨nx,os,wl,cq⟩) (tL C r eD ⟨nx,os,wl,min h.md cq⟩):=rfl
theorem abl(tr:Nat×ai×ai)(t:List (Nat×ai×ai)):ab1 tr (some (fr,h,t))=some (fr,h,tr::t):=rfl
theorem abI(d:Option Nat)(v:AV):VX d fr (some (v,h))=some (gP fr d v,h):=rfl
theorem acd(s:aW):YN C s fr h (some true)=some (gP fr s.dst (.tuple []),h):=rfl
theorem ace(d:Option Nat)(o:R5)(g:Option (Nat×Bool)):YN C ⟨d,o,g⟩ fr h (some false)=dd C ⟨d,o,none⟩ fr h:=rfl
theorem ads(d:Option Nat)(args:List AV)(f:Nat)(bC:List AV):adn C d args fr h (.fn f bC)=VX d fr (C f (args++bC) h):=rfl
theorem ai1(a b:bW):aH C n (.seq a b) fr h=YB C n b (aH C n a fr h):=by
 rw[Nn];rcases aH C n a fr h with _|⟨ex,eD,h'⟩
 .rfl
 .cases ex<;>rfl
theorem agI(c:dU)(a b:bW):aH C n (.cond c a b) fr h=SW C n a b fr h (c.ev fr):=by
 rw[Lq]
 cases c.ev fr with
 |bool t=>cases t<;>rfl
 |_=>rfl
theorem af2(d:Option Nat)(o:xJ)(r:List aW):dz C (⟨d,.op o,none⟩::r) fr h=stK C d r fr (cf fr h o):=by rw[Ns];rcases cf fr h o with _|⟨v,h'⟩<;>rfl
theorem afD(d:Option Nat)(f:Nat)(args:List dU)(r:List aW):dz C (⟨d,.call f args,none⟩::r) fr h=stK C d r fr (C f (args.map (·.ev fr)) h):=by rw[Iq];rcases C f (args.map (·.ev fr)) h with _|⟨v,h'⟩<;>rfl
theorem ab7(d:Option Nat)(x:dU)(args:List dU)(r:List aW):dz C (⟨d,.ml x args,none⟩::r) fr h=cvK C d (args.map (·.ev fr)) r fr h (x.ev fr):=by
 rw[Fo]
 cases x.ev fr with
 |fn f bC=>dsimp only[cvK];rcases C f (args.map (·.ev fr)++bC) h with _|⟨v,h'⟩<;>rfl
 |_=>rfl
theorem adW(d:Option Nat)(o:R5)(g:Nat×Bool)(r:List aW):dz C (⟨d,o,some g⟩::r) fr h=gdK C ⟨d,o,some g⟩ r fr h (dR fr (some g)):=by
 simp only[dz,dd]
 cases dR fr (some g) with
 |none=>rfl
 |some b=>
   cases b with
   |true=>rfl
   |false=>dsimp only[gdK];simp only[dz,dd,dR]
theorem trF(s:aW)(r:List aW):tL C (s::r) fr h=trK C s r fr h (dd C s fr ⟨h.next,h.iF,h.wl,h.next⟩):=by
 rw[Sy];rcases dd C s fr ⟨h.next,h.iF,h.wl,h.next⟩ with _|⟨eD,h'⟩
 .rfl
 .dsimp only[trK];rcases tL C r eD ⟨h'.next,h'.iF,h'.wl,min h.md h'.md⟩ with _|⟨a,b,c⟩<;>rfl
theorem acn(d:Option Nat)(o:xJ):dd C ⟨d,.op o,none⟩ fr h=VX d fr (cf fr h o):=by rw[RB];rcases cf fr h o with _|⟨v,h'⟩<;>rfl
theorem adF(d:Option Nat)(f:Nat)(args:List dU):dd C ⟨d,.call f args,none⟩ fr h=VX d fr (C f (args.map (·.ev fr)) h):=by rw[Jb];rcases C f (args.map (·.ev fr)) h with _|⟨v,h'⟩<;>rfl
theorem YT(d:Option Nat)(x:dU)(args:List dU):dd C ⟨d,.ml x args,none⟩ fr h=adn C d (args.map (·.ev fr)) fr h (x.ev fr):=by
 rw[HM]
 cases x.ev fr with
 |fn f bC=>dsimp only[adn];rcases C f (args.map (·.ev fr)++bC) h with _|⟨v,h'⟩<;>rfl
 |_=>rfl
theorem Zb(d:Option Nat)(o:R5)(g:Nat×Bool):dd C ⟨d,o,some g⟩ fr h=YN C ⟨d,o,some g⟩ fr h (dR fr (some g)):=by
 simp only[dd]
 cases dR fr (some g) with
 |none=>rfl
 |some b=>
   cases b with
   |true=>rfl
   |false=>dsimp only[YN];simp only[dd,dR]
end
theorem Bl(a b c:Nat)(os0 os:List bp)(nx wl md:Nat)(v:AV):finish true ⟨a,os0,b,c⟩ v ⟨nx,os,wl,md⟩=(v,⟨nx,os,min b wl,min c md⟩):=rfl
end
section
open Go.RowKit
variable {X:World->Prop}
theorem jM.tab{P:Program}{φ:eL}{h:ai}{w:World}(g:jM P X φ h w){name:String}{k:IntKind}{zs:List Int}(hX:∀w,X w->Lib.TabIs P w name k zs):Lib.TabIs P w name k zs:=by
 obtain⟨w1,h1,h2⟩:=g;have ht:=hX _ h1.2;unfold Lib.TabIs World.var? at ht|-;rw[Option.bind_eq_some_iff] at ht|-;obtain⟨b,hb,ht⟩:=ht;refine⟨b,hb,?_⟩
 have cR:b<w1.heap.size:=by
  cases hq:w1.heap[b]? with
  |none=>rw[hq] at ht;cases ht
  |some o=>exact (Array.getElem?_eq_some_iff.1 hq).1
 rw[(h2 b cR).2.2];exact ht
theorem int_eq{φ:eL}{nx:Nat}{pr:Nat->Prop}{w:World}{k:IntKind}{n:Int}{cv:Value}(h:RV φ nx pr w (.int k n) cv):cv=.int k n:=RV.fG h
end
section
mutual
def AV.beq:AV->AV->Bool
 |.undef,.undef=>true
 |.bool a,.bool b=>a==b
 |.int k n,.int k' n'=>decide (k=k')&&decide (n=n')
 |.str a,.str b=>decide (a=b)
 |.mV,.mV=>true
 |.ip a,.ip b=>AV.NF a b
 |.aJ,.aJ=>true
 |.sl a,.sl b=>AV.NF a b
 |.om,.om=>true
 |.jv,.jv=>true
 |.fn f a,.fn g b=>f==g&&AV.NF a b
 |.mR,.mR=>true
 |.iface t a,.iface u b=>t==u&&a.beq b
 |.agg a,.agg b=>AV.NF a b
 |.tuple a,.tuple b=>AV.NF a b
 |_,_=>false
def AV.NF:List AV->List AV->Bool
 |[],[]=>true
 |a::r,b::s=>a.beq b&&AV.NF r s
 |_,_=>false
end
def U4:List (List AV×AV)->List AV->Option AV
 |[],_=>none
 |e::r,args=>if AV.NF e.1 args then some e.2 else U4 r args
def aX.tab(f:Nat)(l:List (List AV×AV)):aX:=⟨f,U4 l⟩
variable {X:World->Prop}
def aX.ajb(f:Nat)(a:AV)(l:List (List AV×AV)):aX:=⟨f,λ|b::r=>if a.beq b then U4 l r else none|[]=>none⟩
@[simp] theorem aX.ajr{f:Nat}{a:AV}{l:List (List AV×AV)}:(aX.ajb f a l).f=f:=(rfl)
@[simp] theorem aX.alF{f:Nat}{l:List (List AV×AV)}:(aX.tab f l).f=f:=(rfl)
end
end Sz
