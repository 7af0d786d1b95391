import Derived.Test.YtjmeonoabiliiaaGreatDoorSz3
import Derived.Test.YtjmeonoabiliiaaGreatDoorArg
import Derived.Lib.LaidTab
import Derived.Sort.Grow
import Derived.Deep.Draws
set_option linter.all false
set_option maxHeartbeats 16000000
set_option maxRecDepth 100000
namespace Sz
open Go
section
variable (a:bZ)(s:aQ)(b:bZ)
section
variable (C:Nat->List AV->af->Option (AV×af))(n:Nat)
def aba(b:bZ):Option (Ex×List AV×af)->Option (Ex×List AV×af)
 |some (.normal,fr,h)=>aC C n b fr h
 |r=>r
def VW(a b:bZ)(fr:List AV)(h:af):AV->Option (Ex×List AV×af)
 |.bool true=>aC C n a fr h
 |.bool false=>aC C n b fr h
 |_=>none
def stK(d:Option Nat)(r:List aQ)(fr:List AV):Option (AV×af)->Option (List AV×af)
 |some (v,h')=>cS C r (gw fr d v) h'
 |none=>none
def gdK(s:aQ)(r:List aQ)(fr:List AV)(h:af):Option Bool->Option (List AV×af)
 |some true=>cS C r (gw fr s.dst (.tuple [])) h
 |some false=>cS C ({s with guard:=none}::r) fr h
 |none=>none
def cvK(d:Option Nat)(args:List AV)(r:List aQ)(fr:List AV)(h:af):AV->Option (List AV×af)
 |.fn f aO=>stK C d r fr (C f (args++aO) h)
 |_=>none
def aez(tr:Nat×af×af):Option (List AV×af×List (Nat×af×af))->Option (List AV×af×List (Nat×af×af))
 |some (fr2,h2,t)=>some (fr2,h2,tr::t)
 |none=>none
def trK(s:aQ)(r:List aQ)(fr:List AV)(h:af):Option (List AV×af)->Option (List AV×af×List (Nat×af×af))
 |some (de,h')=>aez (C1 s fr,h,h') (uS C r de ⟨h'.next,h'.gm,h'.wl,min h.md h'.md⟩)
 |none=>none
def Y6(d:Option Nat)(fr:List AV):Option (AV×af)->Option (List AV×af)
 |some (v,h')=>some (gw fr d v,h')
 |none=>none
def abj(s:aQ)(fr:List AV)(h:af):Option Bool->Option (List AV×af)
 |some true=>some (gw fr s.dst (.tuple []),h)
 |some false=>cK C {s with guard:=none} fr h
 |none=>none
def afN(d:Option Nat)(args:List AV)(fr:List AV)(h:af):AV->Option (List AV×af)
 |.fn f aO=>Y6 d fr (C f (args++aO) h)
 |_=>none
variable (fr:List AV)(h:af)
theorem afp:aba C n b (some (.normal,fr,h))=aC C n b fr h:=rfl
theorem afR(i:Nat):aba C n b (some (.exit i,fr,h))=some (.exit i,fr,h):=rfl
theorem afC:aba C n b (some (.ret,fr,h))=some (.ret,fr,h):=rfl
theorem aao:VW C n a b fr h (.bool true)=aC C n a fr h:=rfl
theorem abu:VW C n a b fr h (.bool false)=aC C n b fr h:=rfl
theorem aiS(d:Option Nat)(r:List aQ)(v:AV):stK C d r fr (some (v,h))=cS C r (gw fr d v) h:=rfl
theorem ah7(r:List aQ):gdK C s r fr h (some true)=cS C r (gw fr s.dst (.tuple [])) h:=rfl
theorem aiT(d:Option Nat)(o:Sd)(g:Option (Nat×Bool))(r:List aQ):gdK C ⟨d,o,g⟩ r fr h (some false)=cS C (⟨d,o,none⟩::r) fr h:=rfl
theorem ajj(d:Option Nat)(args:List AV)(r:List aQ)(f:Nat)(aO:List AV):cvK C d args r fr h (.fn f aO)=stK C d r fr (C f (args++aO) h):=rfl
theorem ajr(r:List aQ)(de:List AV)(nx:Nat)(os:List aT)(wl cH:Nat):trK C s r fr h (some (de,⟨nx,os,wl,cH⟩))=aez (C1 s fr,h,⟨nx,os,wl,cH⟩) (uS C r de ⟨nx,os,wl,min h.md cH⟩):=rfl
theorem adY(tr:Nat×af×af)(t:List (Nat×af×af)):aez tr (some (fr,h,t))=some (fr,h,tr::t):=rfl
theorem aej(d:Option Nat)(v:AV):Y6 d fr (some (v,h))=some (gw fr d v,h):=rfl
theorem aeK:abj C s fr h (some true)=some (gw fr s.dst (.tuple []),h):=rfl
theorem aeM(d:Option Nat)(o:Sd)(g:Option (Nat×Bool)):abj C ⟨d,o,g⟩ fr h (some false)=cK C ⟨d,o,none⟩ fr h:=rfl
theorem afW(d:Option Nat)(args:List AV)(f:Nat)(aO:List AV):afN C d args fr h (.fn f aO)=Y6 d fr (C f (args++aO) h):=rfl
theorem alN:aC C n (.seq a b) fr h=aba C n b (aC C n a fr h):=by
 rw[PK];rcases aC C n a fr h with _|⟨ex,de,h'⟩
 .rfl
 .cases ex<;>rfl
theorem ajp(c:dY)(a b:bZ):aC C n (.cond c a b) fr h=VW C n a b fr h (c.ev fr):=by
 rw[NJ]
 cases c.ev fr with
 |bool t=>cases t<;>rfl
 |_=>rfl
theorem aiP(d:Option Nat)(o:B6)(r:List aQ):cS C (⟨d,.op o,none⟩::r) fr h=stK C d r fr (bG fr h o):=by rw[PV];rcases bG fr h o with _|⟨v,h'⟩<;>rfl
theorem aiu(d:Option Nat)(f:Nat)(args:List dY)(r:List aQ):cS C (⟨d,.call f args,none⟩::r) fr h=stK C d r fr (C f (args.map (·.ev fr)) h):=by rw[J8];rcases C f (args.map (·.ev fr)) h with _|⟨v,h'⟩<;>rfl
theorem aeE(d:Option Nat)(x:dY)(args:List dY)(r:List aQ):cS C (⟨d,.lM x args,none⟩::r) fr h=cvK C d (args.map (·.ev fr)) r fr h (x.ev fr):=by
 rw[GZ]
 cases x.ev fr with
 |fn f aO=>dsimp only[cvK];rcases C f (args.map (·.ev fr)++aO) h with _|⟨v,h'⟩<;>rfl
 |_=>rfl
theorem agn(d:Option Nat)(o:Sd)(g:Nat×Bool)(r:List aQ):cS C (⟨d,o,some g⟩::r) fr h=gdK C ⟨d,o,some g⟩ r fr h (cW fr (some g)):=by
 simp only[cS,cK]
 cases cW fr (some g) with
 |none=>rfl
 |some b=>
   cases b with
   |true=>rfl
   |false=>dsimp only[gdK];simp only[cS,cK,cW]
theorem trF(r:List aQ):uS C (s::r) fr h=trK C s r fr h (cK C s fr ⟨h.next,h.gm,h.wl,h.next⟩):=by
 rw[Vv];rcases cK C s fr ⟨h.next,h.gm,h.wl,h.next⟩ with _|⟨de,h'⟩
 .rfl
 .dsimp only[trK];rcases uS C r de ⟨h'.next,h'.gm,h'.wl,min h.md h'.md⟩ with _|⟨a,b,c⟩<;>rfl
theorem aeW(d:Option Nat)(o:B6):cK C ⟨d,.op o,none⟩ fr h=Y6 d fr (bG fr h o):=by rw[Ur];rcases bG fr h o with _|⟨v,h'⟩<;>rfl
theorem af6(d:Option Nat)(f:Nat)(args:List dY):cK C ⟨d,.call f args,none⟩ fr h=Y6 d fr (C f (args.map (·.ev fr)) h):=by rw[KR];rcases C f (args.map (·.ev fr)) h with _|⟨v,h'⟩<;>rfl
theorem abq(d:Option Nat)(x:dY)(args:List dY):cK C ⟨d,.lM x args,none⟩ fr h=afN C d (args.map (·.ev fr)) fr h (x.ev fr):=by
 rw[JL]
 cases x.ev fr with
 |fn f aO=>dsimp only[afN];rcases C f (args.map (·.ev fr)++aO) h with _|⟨v,h'⟩<;>rfl
 |_=>rfl
theorem abJ(d:Option Nat)(o:Sd)(g:Nat×Bool):cK C ⟨d,o,some g⟩ fr h=abj C ⟨d,o,some g⟩ fr h (cW fr (some g)):=by
 simp only[cK]
 cases cW fr (some g) with
 |none=>rfl
 |some b=>
   cases b with
   |true=>rfl
   |false=>dsimp only[abj];simp only[cK,cW]
end
theorem Cr(a b c:Nat)(os0 os:List aT)(nx wl md:Nat)(v:AV):finish true ⟨a,os0,b,c⟩ v ⟨nx,os,wl,md⟩=(v,⟨nx,os,min b wl,min c md⟩):=rfl
end
section
open Go.RowKit
variable {X:World->Prop}
variable {φ:eJ}{k:IntKind}
theorem ir.tab{P:Program}{h:af}{w:World}(g:ir P X φ h w){name:String}{zs:List Int}(hX:∀w,X w->Lib.TabIs P w name k zs):Lib.TabIs P w name k zs:=by
 obtain⟨w1,h1,h2⟩:=g;have ht:=hX _ h1.2;unfold Lib.TabIs World.var? at ht|-;rw[Option.bind_eq_some_iff] at ht|-;obtain⟨b,hb,ht⟩:=ht;refine⟨b,hb,?_⟩
 have cY:b<w1.heap.size:=by
  cases hq:w1.heap[b]? with
  |none=>rw[hq] at ht;cases ht
  |some o=>exact (Array.getElem?_eq_some_iff.1 hq).1
 rw[(h2 b cY).2.2];exact ht
theorem PM(w:World)(k:Nat)(os:Array Obj):Below w.heap.size w (Sort.grow (w.drewN k) os):=
 ⟨rfl,rfl,rfl,by show w.heap.size<=(w.heap++os).size;simp,λi hi=>by show (w.heap++os)[i]? =w.heap[i]?;exact Array.getElem?_append_left hi⟩
theorem int_eq{nx:Nat}{pr:Nat->Prop}{w:World}{n:Int}{cv:Value}(h:RV φ nx pr w (.int k n) cv):cv=.int k n:=RV.dS h
end
section
mutual
def AV.beq:AV->AV->Bool
 |.undef,.undef=>true
 |.bool a,.bool b=>a==b
 |.int k n,.int k' n'=>decide (k=k')&&decide (n=n')
 |.str a,.str b=>decide (a=b)
 |.nw,.nw=>true
 |.ip a,.ip b=>AV.Qd a b
 |.aF,.aF=>true
 |.sl a,.sl b=>AV.Qd a b
 |.kq,.kq=>true
 |.ji,.ji=>true
 |.fn f a,.fn g b=>f==g&&AV.Qd a b
 |.nu,.nu=>true
 |.iface t a,.iface u b=>t==u&&a.beq b
 |.agg a,.agg b=>AV.Qd a b
 |.tuple a,.tuple b=>AV.Qd a b
 |_,_=>false
def AV.Qd:List AV->List AV->Bool
 |[],[]=>true
 |a::r,b::s=>a.beq b&&AV.Qd r s
 |_,_=>false
end
def Yh:List (List AV×AV)->List AV->Option AV
 |[],_=>none
 |e::r,args=>if AV.Qd e.1 args then some e.2 else Yh r args
def aW.tab(f:Nat)(l:List (List AV×AV)):aW:=⟨f,Yh l⟩
variable {X:World->Prop}
def aW.alT(f:Nat)(a:AV)(l:List (List AV×AV)):aW:=⟨f,λ|b::r=>if a.beq b then Yh l r else none|[]=>none⟩
variable {f:Nat}{a:AV}{l:List (List AV×AV)}
@[simp] theorem aW.amb:(aW.alT f a l).f=f:=(rfl)
variable {P:Program}
@[simp] theorem aW.aoC:(aW.tab f l).f=f:=(rfl)
end
end Sz
