import Derived.Test.YtjmeonoabiliiaaGreatDoorAt
import Derived.Test.YtjmeonoabiliiaaGreatDoorBd3
import Derived.Test.YtjmeonoabiliiaaGreatDoorBd2
import Derived.Test.YtjmeonoabiliiaaGreatDoorBd1
import Derived.Test.YtjmeonoabiliiaaGreatDoorArg
import Derived.Test.YtjmeonoabiliiaaGreatDoorRows
import Derived.ProofKit
set_option linter.all false
set_option maxHeartbeats 16000000
set_option maxRecDepth 100000
namespace Go.Proofs.YtjmeonoabiliiaaGreatDoor
open Go Sz
section
section
variable {X:World->Prop}{P:Program}{E:Env}(hE:bY P X E){n f:Nat}{ak:List AV}{x y v:AV}{st dv:St}(hx:Laid x)(hy:Laid y)
include hE hx hy
theorem Cr(h0:st.ae≠[])(h1:dv.ae=[])(he:(aH E n f (.ptr 0 0::ak) ⟨2,[.row (bm st.ae),.row [x,y,.int .i64 st.bM,.int .i64 st.next,.vec 1 0 st.ae.length 2 st.ae.length]],2,2⟩).map (λp=>(p.1,p.2.get 0))=
 some (v,some (.row [x,y,.int .i64 dv.bM,.int .i64 dv.next,.aD])))
 (hv:v.aK=0) (hr:AV.aj ak=0):ck P X f (.ptr 0 0::ak) (dz x y st) v (some [.row [x,y,.int .i64 dv.bM,.int .i64 dv.next,.aD],.dead]):=by
 have e1:dz x y st=[.row [x,y,.int .i64 st.bM,.int .i64 st.next,.vec 1 0 st.ae.length 2 st.ae.length],.row (bm st.ae)]:=by
  unfold dz nY yH
  cases hn:st.ae with
  |nil=>exact absurd hn h0
  |cons p r=>rfl
 rw[e1];obtain⟨⟨v1,h⟩,g1,g2⟩:=Option.map_eq_some_iff.1 he;simp only[Prod.mk.injEq] at g2;obtain⟨rfl,g3⟩:=g2;refine CC (qs:=[]) hE g1 hv hr (by simp) (by simp) ⟨λi o ho hd=>?_,λi j o o' hi hj hdi hdj e=>?_⟩
 .match i,ho with
  |0,ho=>simp only[List.getElem?_cons_zero,Option.some.injEq] at ho;subst ho;rw[vI hx hy];exact⟨g3,zk hx hy _ _ (by rfl)⟩
  |1,ho=>simp only[List.getElem?_cons_succ,List.getElem?_cons_zero,Option.some.injEq] at ho;exact absurd ho.symm hd
  |i+2,ho=>simp at ho
 .have pick:∀(i:Nat) (o:aS),([.row [x,y,.int .i64 dv.bM,.int .i64 dv.next,.aD],.dead]:List aS)[i]? =some o->(∀_:o=.dead,False)->i=0:=λi o ho hd=>by
   match i,ho with
   |0,_=>rfl
   |1,ho=>simp only[List.getElem?_cons_succ,List.getElem?_cons_zero,Option.some.injEq] at ho;exact absurd ho.symm hd
   |i+2,ho=>simp at ho
  rw[pick i o hi hdi,pick j o' hj hdj]
end
noncomputable def tS(x y:AV)(l:List (List UInt8×Int))(dv:St):List aS:=open Classical in if l=[] then dE x y l dv else if dv.ae=[] then [.row [x,y,.int .i64 dv.bM,.int .i64 dv.next,.aD],.dead] else dE x y l dv
theorem yI{x y:AV}{st:St}:tS x y [] st=dE x y [] st:=if_pos rfl
theorem CG{x y:AV}{l:List (List UInt8×Int)}{st:St}(h0:l≠[])(h:st.ae≠[]):tS x y l st=dE x y l st:=by unfold tS;rw[if_neg h0,if_neg h]
theorem zq{x y:AV}{l:List (List UInt8×Int)}{st:St}(h0:l≠[])(h:st.ae=[]):tS x y l st=[.row [x,y,.int .i64 st.bM,.int .i64 st.next,.aD],.dead]:=by unfold tS;rw[if_neg h0,if_pos h]
noncomputable def OJ:List aZ:=[eE]
noncomputable def OO(N:Nat):List cq:=[wE,iF N]
def cR(st:St):St:=⟨st.bM,st.ak,0,[]⟩
theorem ZD{T:List aY}{L:List Tok}{st:St}(h:RC T L st):RC T L (cR st):=⟨h.ak,h.le,Nat.zero_le _,Nat.le_refl _,h.lb,h.tb,h.tk,λp hp=>(List.not_mem_nil hp).elim,rfl,h.Jt⟩
theorem Xf{T:List aY}{L:List Tok}{st:St}(h:RC T L st):qK (cR st):=by
 refine⟨?_,λp hp=>(List.not_mem_nil hp).elim,?_⟩
 .show st.ak.all xS=true;rw[h.ak];exact List.all_eq_true.mpr λx hx=>List.all_eq_true.mp h.tk x (List.mem_of_mem_drop hx)
 .show 0+st.ak.length<=_;rw[h.ak,List.length_drop,gG];have:=h.lb;omega
attribute [local simp] jz jx jA jt gJ gI jr ju jw gK gL js kR kN kT kO kL kK iq iw Laid.aK fa fc bO aE acb c43 OJ OO aV fK eQ
theorem ac8(N:Nat){x y:AV}{T:List aY}{L:List Tok}{st:St}(hx:a8 x=some T)(hy:bA y=some L)(hc:RC T L st)(hN:st.ak.length<N)(hE:bY Tryz.prog bV (cg OJ (OO N)))(cK:(ag T 1200 (cR st)).1.2.2=false):
 ck Tryz.prog bV 43 [.ptr 0 0] (dz x y st) (.tuple [CR.aR,.int .i64 2]) (some (tS x y st.ae (ag T 1200 (cR st)).2)):=by
 have bW:=bK hx;have bX:=bu hy;have QT:=ZD hc;have q:=dF N hx hy QT 1200 hN;rw[cK,a7 (st:=cR st) rfl,show (cR st).ae=[] from rfl,show (cR st).bM=st.bM from rfl,show (((cR st).next:Nat):Int)=0 from rfl,au] at q;have ur:=ar (ag T 1200 (cR st)).1.1;have uc:=dy (ag T 1200 (cR st)).1.1;have zc:CR.aR=.agg [.int .i64 0,.int .i64 0,.str [],.aD]:=rfl;generalize (ag T 1200 (cR st)).2=s1 at *;generalize (ag T 1200 (cR st)).1.1=u at *;generalize (ag T 1200 (cR st)).1.2.1=lv at *;by_cases h0:st.ae=[];rw[h0,yI,<-h0];by_cases h1:s1.ae=[];rw[c8 h1] at q;refine dw (n:=8) hE bW bX h0 h1 ?_ rfl rfl
 rotate_left
 rw[cH h1] at q;refine dZ (n:=8) hE bW bX 2 (by decide) h0 h1 ?_ rfl rfl
 rotate_left
 by_cases h1:s1.ae=[];rw[zq h0 h1];rw[c8 h1] at q;refine Cr (n:=8) hE bW bX h0 h1 ?_ rfl rfl
 rotate_left
 rw[CG h0 h1];rw[cH h1] at q;refine da (n:=8) hE bW bX 3 (by decide) h0 h1 ?_ rfl rfl
 rotate_left
 all_goals
  rw[zc];simp[q,ur,uc,-an,-aL,-az,-aQ,-fA,bW,bX]
theorem ZH(N:Nat){x y:AV}{T:List aY}{L:List Tok}{st:St}(hx:a8 x=some T)(hy:bA y=some L)(hc:RC T L st)(hN:st.ak.length<N)(hE:bY Tryz.prog bV (cg OJ (OO N)))(cK:(ag T 1200 (cR st)).1.2.2=true)(hk:¬(aB (ag T 1200 (cR st)).2).ah=6):
 ck Tryz.prog bV 43 [.ptr 0 0] (dz x y st) (.tuple [CR.aR,.int .i64 2]) (some (tS x y st.ae (ag T 1200 (cR st)).2)):=by
 have bW:=bK hx;have bX:=bu hy;have QT:=ZD hc;have q:=dF N hx hy QT 1200 hN;rw[cK,a7 (st:=cR st) rfl,show (cR st).ae=[] from rfl,show (cR st).bM=st.bM from rfl,show (((cR st).next:Nat):Int)=0 from rfl,au] at q;have ur:=ar (ag T 1200 (cR st)).1.1;have uc:=dy (ag T 1200 (cR st)).1.1;have ho:=(bQ T).ok 1200 (cR st) cK;obtain⟨c1,aaS⟩:=QT.ok ho;have q1:=dH hx hy c1;have ks:(aB (ag T 1200 (cR st)).2).ah=(bb L (ag T 1200 (cR st)).2).ah:=by rw[br c1]
 rw[ks] at hk;rw[cG] at q1;have zc:CR.aR=.agg [.int .i64 0,.int .i64 0,.str [],.aD]:=rfl;generalize (ag T 1200 (cR st)).2=s1 at *;generalize (ag T 1200 (cR st)).1.1=u at *;generalize (ag T 1200 (cR st)).1.2.1=lv at *;by_cases h0:st.ae=[];rw[h0,yI,<-h0];by_cases h1:s1.ae=[];rw[c8 h1] at q;rw[a7 h1] at q1;refine dw (n:=8) hE bW bX h0 h1 ?_ rfl rfl
 rotate_left
 rw[cH h1] at q;rw[a6 h1] at q1;refine dZ (n:=8) hE bW bX 2 (by decide) h0 h1 ?_ rfl rfl
 rotate_left
 by_cases h1:s1.ae=[];rw[zq h0 h1];rw[c8 h1] at q;rw[a7 h1] at q1;refine Cr (n:=8) hE bW bX h0 h1 ?_ rfl rfl
 rotate_left
 rw[CG h0 h1];rw[cH h1] at q;rw[a6 h1] at q1;refine da (n:=8) hE bW bX 3 (by decide) h0 h1 ?_ rfl rfl
 rotate_left
 all_goals
  rw[zc];simp[q,ur,uc,q1,hk,-an,-aL,-az,-aQ,-fA,bW,bX]
theorem Z1(N:Nat){x y:AV}{T:List aY}{L:List Tok}{st:St}(hx:a8 x=some T)(hy:bA y=some L)(hc:RC T L st)(hN:st.ak.length<N)(hE:bY Tryz.prog bV (cg OJ (OO N)))(cK:(ag T 1200 (cR st)).1.2.2=true)(hk:(aB (ag T 1200 (cR st)).2).ah=6)(hg:dt (ag T 1200 (cR st)).1.1=false):
 ck Tryz.prog bV 43 [.ptr 0 0] (dz x y st) (.tuple [CR.aR,.int .i64 3]) (some (tS x y st.ae (aq (ag T 1200 (cR st)).2))):=by
 have bW:=bK hx;have bX:=bu hy;have QT:=ZD hc;have q:=dF N hx hy QT 1200 hN;rw[cK,a7 (st:=cR st) rfl,show (cR st).ae=[] from rfl,show (cR st).bM=st.bM from rfl,show (((cR st).next:Nat):Int)=0 from rfl,au] at q;have ur:=ar (ag T 1200 (cR st)).1.1;have uc:=dy (ag T 1200 (cR st)).1.1;have ho:=(bQ T).ok 1200 (cR st) cK;obtain⟨c1,aaS⟩:=QT.ok ho;have q1:=dH hx hy c1;have ks:(aB (ag T 1200 (cR st)).2).ah=(bb L (ag T 1200 (cR st)).2).ah:=by rw[br c1]
 rw[ks] at hk;rw[cG] at q1;rw[hk] at q1;have w1:=wrap_i64 (n:=((ag T 1200 (cR st)).2.bM:Int)+1) (by omega) (by have:=c1.lb;omega);have hB:=(HN T ((cR st).ak.length+1)).b 1200 (cR st) (Xf hc) cK;have hbk:=hB.1;have nV:st.ak.length<=100000:=by rw[hc.ak,List.length_drop,gG];have:=hc.lb;omega
 have alJ:(cR st).ak.length=st.ak.length:=rfl;have q2:=kE (ag T 1200 (cR st)).1.1 (by change Tm.gr (ag T 1200 (cR st)).1.1<=_ at hbk;omega);rw[hg,au] at q2;generalize (ag T 1200 (cR st)).2=s1 at *;generalize (ag T 1200 (cR st)).1.1=u at *;generalize (ag T 1200 (cR st)).1.2.1=lv at *;by_cases h0:st.ae=[];rw[h0,yI,<-h0];by_cases h1:s1.ae=[];rw[c8 h1] at q;rw[a7 h1] at q1;refine dw (n:=8) hE bW bX h0 h1 ?_ rfl rfl
 rotate_left
 rw[cH h1] at q;rw[a6 h1] at q1;refine dZ (n:=8) hE bW bX 2 (by decide) h0 h1 ?_ rfl rfl
 rotate_left
 by_cases h1:s1.ae=[];rw[zq (st:=aq s1) h0 h1];rw[c8 h1] at q;rw[a7 h1] at q1;refine Cr (n:=8) hE bW bX h0 h1 ?_ rfl rfl
 rotate_left
 rw[CG (st:=aq s1) h0 h1];rw[cH h1] at q;rw[a6 h1] at q1;refine da (n:=8) hE bW bX 3 (by decide) h0 h1 ?_ rfl rfl
 rotate_left
 all_goals
  rw[z7];simp only[AI,Ax,A8];simp[q,ur,uc,q1,q2,w1,-an,-aL,-az,-aQ,-fA,bW,bX]
theorem adk(N:Nat){x y:AV}{T:List aY}{L:List Tok}{st:St}(hx:a8 x=some T)(hy:bA y=some L)(hc:RC T L st)(hN:st.ak.length<N)(hE:bY Tryz.prog bV (cg OJ (OO N)))(cK:(ag T 1200 (cR st)).1.2.2=true)(hk:(aB (ag T 1200 (cR st)).2).ah=6)(hg:dt (ag T 1200 (cR st)).1.1=true):
 ck Tryz.prog bV 43 [.ptr 0 0] (dz x y st) (.tuple [(ag T 1200 (cR st)).1.1.aR,.int .i64 0]) (some (tS x y st.ae (aq (ag T 1200 (cR st)).2))):=by
 have bW:=bK hx;have bX:=bu hy;have QT:=ZD hc;have q:=dF N hx hy QT 1200 hN;rw[cK,a7 (st:=cR st) rfl,show (cR st).ae=[] from rfl,show (cR st).bM=st.bM from rfl,show (((cR st).next:Nat):Int)=0 from rfl,au] at q;have ur:=ar (ag T 1200 (cR st)).1.1;have uc:=dy (ag T 1200 (cR st)).1.1;have ho:=(bQ T).ok 1200 (cR st) cK;obtain⟨c1,aaS⟩:=QT.ok ho;have q1:=dH hx hy c1;have ks:(aB (ag T 1200 (cR st)).2).ah=(bb L (ag T 1200 (cR st)).2).ah:=by rw[br c1]
 rw[ks] at hk;rw[cG] at q1;rw[hk] at q1;have w1:=wrap_i64 (n:=((ag T 1200 (cR st)).2.bM:Int)+1) (by omega) (by have:=c1.lb;omega);have hB:=(HN T ((cR st).ak.length+1)).b 1200 (cR st) (Xf hc) cK;have hbk:=hB.1;have nV:st.ak.length<=100000:=by rw[hc.ak,List.length_drop,gG];have:=hc.lb;omega
 have alJ:(cR st).ak.length=st.ak.length:=rfl;have q2:=kE (ag T 1200 (cR st)).1.1 (by change Tm.gr (ag T 1200 (cR st)).1.1<=_ at hbk;omega);rw[hg,au] at q2;generalize (ag T 1200 (cR st)).2=s1 at *;generalize (ag T 1200 (cR st)).1.1=u at *;generalize (ag T 1200 (cR st)).1.2.1=lv at *;by_cases h0:st.ae=[];rw[h0,yI,<-h0];by_cases h1:s1.ae=[];rw[c8 h1] at q;rw[a7 h1] at q1;refine dw (n:=8) hE bW bX h0 h1 ?_ (by simp[AV.aK,AV.aj,Tm.cm]) rfl
 rotate_left
 rw[cH h1] at q;rw[a6 h1] at q1;refine dZ (n:=8) hE bW bX 2 (by decide) h0 h1 ?_ (by simp[AV.aK,AV.aj,Tm.cm]) rfl
 rotate_left
 by_cases h1:s1.ae=[];rw[zq (st:=aq s1) h0 h1];rw[c8 h1] at q;rw[a7 h1] at q1;refine Cr (n:=8) hE bW bX h0 h1 ?_ (by simp[AV.aK,AV.aj,Tm.cm]) rfl
 rotate_left
 rw[CG (st:=aq s1) h0 h1];rw[cH h1] at q;rw[a6 h1] at q1;refine da (n:=8) hE bW bX 3 (by decide) h0 h1 ?_ (by simp[AV.aK,AV.aj,Tm.cm]) rfl
 rotate_left
 all_goals
  rw[au];simp only[AI,Ax,A8];simp[q,ur,uc,q1,q2,w1,-an,-aL,-az,-aQ,-fA,bW,bX]
end
section
noncomputable def EP:cq:=⟨43,λ
 |[.ptr 0 0],os=>(match xz os with
   |some R=>some (.tuple [(qz R.T R.st).1.1.aR,.int .i64 (qz R.T R.st).1.2],some (tS R.x R.y R.st.ae (qz R.T R.st).2))
   |none=>none)
 |_,_=>none⟩
theorem CN:EP.f=43:=(rfl)
theorem Wp{x y:AV}{T:List aY}{L:List Tok}{st:St}(hx:a8 x=some T)(hy:bA y=some L)(h:RC T L st):
 EP.S [.ptr 0 0] (dz x y st)=some (.tuple [(qz T st).1.1.aR,.int .i64 (qz T st).1.2],some (tS x y st.ae (qz T st).2)):=by
 simp only[EP,lz hx hy h]
theorem WI:cr Tryz.prog bV EP:=λaa os v r hv=>by
 unfold EP at hv;dsimp only at hv;split at hv
 .rename_i os;split at hv
  .rename_i R hR;cases hv;obtain⟨hx,hy,rfl,h⟩:=ke hR;rw[CN];have hE:bY Tryz.prog bV (cg OJ (OO (R.st.ak.length+1))):=dW (by simp[OJ,oM.lift]) (by simp[OO,Ad,DR]);have hn:R.st.ak.length<R.st.ak.length+1:=by omega
   unfold qz;dsimp only;change ck Tryz.prog bV 43 [.ptr 0 0] _ (.tuple [(if (!(ag R.T 1200 (cR R.st)).1.2.2||!decide ((aB (ag R.T 1200 (cR R.st)).2).ah=6))=true then ((CR,(2:Int)),(ag R.T 1200 (cR R.st)).2) else if dt (ag R.T 1200 (cR R.st)).1.1=true then (((ag R.T 1200 (cR R.st)).1.1,0),aq (ag R.T 1200 (cR R.st)).2) else ((CR,3),aq (ag R.T 1200 (cR R.st)).2)).1.1.aR,.int .i64 (if (!(ag R.T 1200 (cR R.st)).1.2.2||!decide ((aB (ag R.T 1200 (cR R.st)).2).ah=6))=true then ((CR,(2:Int)),(ag R.T 1200 (cR R.st)).2) else if dt (ag R.T 1200 (cR R.st)).1.1=true then (((ag R.T 1200 (cR R.st)).1.1,0),aq (ag R.T 1200 (cR R.st)).2) else ((CR,3),aq (ag R.T 1200 (cR R.st)).2)).1.2]) (some (tS R.x R.y R.st.ae (if (!(ag R.T 1200 (cR R.st)).1.2.2||!decide ((aB (ag R.T 1200 (cR R.st)).2).ah=6))=true then ((CR,(2:Int)),(ag R.T 1200 (cR R.st)).2) else if dt (ag R.T 1200 (cR R.st)).1.1=true then (((ag R.T 1200 (cR R.st)).1.1,0),aq (ag R.T 1200 (cR R.st)).2) else ((CR,3),aq (ag R.T 1200 (cR R.st)).2)).2))
   cases cK:(ag R.T 1200 (cR R.st)).1.2.2 with
   |false=>rw[if_pos (by rfl)];exact ac8 _ hx hy h hn hE cK
   |true=>
     by_cases hk:(aB (ag R.T 1200 (cR R.st)).2).ah=6
     .rw[if_neg (by simp[hk])]
      cases hg:dt (ag R.T 1200 (cR R.st)).1.1 with
      |false=>rw[if_neg (by simp)];exact Z1 _ hx hy h hn hE cK hk hg
      |true=>rw[if_pos rfl];exact adk _ hx hy h hn hE cK hk hg
     .rw[if_pos (by simp[hk])];exact ZH _ hx hy h hn hE cK hk
  .cases hv
 .cases hv
def Zt(p:List UInt8×Int):AV:=.agg [.str p.1,.int .i64 p.2]
def fY:List (List UInt8×Int)->AV
 |[]=>.aD
 |p::r=>.sl ((p::r).map Zt)
theorem SN{l:List (List UInt8×Int)}(h:l≠[]):fY l=.sl (l.map Zt):=by
 cases l with
 |nil=>exact absurd rfl h
 |cons p r=>rfl
theorem N7(l:List (List UInt8×Int)):∀x∈l.map Zt,Ce 2 x:=by intro x hx;obtain⟨o,_,rfl⟩:=List.mem_map.1 hx;exact⟨rfl,rfl,(λh=>by cases h),λ_=>rfl,rfl⟩
theorem NT(l:List (List UInt8×Int)):(l.map Zt).flatMap AV.cells=bm l:=by
 induction l with
 |nil=>rfl
 |cons t r ih=>unfold bm at ih|-;rw[List.map_cons,List.flatMap_cons,List.flatMap_cons,ih];rfl
theorem On(l:List (List UInt8×Int)):AV.aj (l.map Zt)=0:=by
 induction l with
 |nil=>rfl
 |cons t r ih=>simp[AV.aj,ih,Zt,AV.aK]
theorem nQ(l:List (List UInt8×Int)):(fY l).aK=0:=by
 cases l with
 |nil=>rfl
 |cons p r=>simp[fY,AV.aK]
theorem afX{h:af}{n0 d id:Nat}{l:List (List UInt8×Int)}(bZ:n0<=id)(hg:h.get id=some (.row (bm l))):
 jH h n0 (d+2) (.vec id 0 l.length 2 l.length)=some (.sl (l.map Zt),[id]):=
 vN bZ hg (by omega) (N7 l) (by simp) (by rw[ri];exact Nat.le_refl _) (by rw[NT,List.take_of_length_le];rw[ri];exact Nat.le_refl _)
theorem acN{x y:AV}(hx:Laid x)(hy:Laid y)(a b:Int)(τ:List Nat):gF [x,y,.int .i64 a,.int .i64 b,.aD] τ=τ:=by simp only[gF,hx.top,hy.top];rfl
def po(T:List aY)(s:List UInt8):(Tm×List (List UInt8×Int))×Int:=
 if dJ T=false then ((CR,[]),1)
 else if (dC s).2.2≠0 then ((CR,[]),(dC s).2.2)
 else if (qz T (uj (dC s).1 0)).1.2=2\/((qz T (uj (dC s).1 0)).2.bM:Int)<(dC s).1.length then ((CR,[]),2)
 else if (qz T (uj (dC s).1 0)).1.2≠0 then ((CR,[]),(qz T (uj (dC s).1 0)).1.2)
 else (((qz T (uj (dC s).1 0)).1.1,(qz T (uj (dC s).1 0)).2.ae),0)
def uE(r:(Tm×List (List UInt8×Int))×Int):AV:=.tuple [r.1.1.aR,fY r.1.2,.int .i64 r.2]
theorem Na(r:(Tm×List (List UInt8×Int))×Int):(uE r).aK=0:=by simp[uE,AV.aK,AV.aj,Tm.cm,nQ]
noncomputable def aaj:List aZ:=[pM,Ns]
noncomputable def YK:List cq:=[EP]
attribute [local simp] jz jx jA jt gJ gI jr ju jw gK gL js kR kN kT kO kL kK iq iw Laid.aK fa fc bO acO T4 c14 c42 aaj YK oQ sa CN uE fY z7
theorem Wc{x:AV}{T:List aY}(hx:a8 x=some T)(hT:T.length<1000000)(s:List UInt8):∃h',aH (cg aaj YK) 30 14 [.agg [x],.str s] h0=some (uE (po T s),h'):=by
 have qg:=EG hx (by omega);have qc:=Px s;have ME:=AH s;have hy:=RY (dC s).1;unfold B3 at qc;unfold po;have bW:=bK hx;have bX:=bu hy;have Ap:=λh=>bW.fr h 0 6
 have gv:=bW.cl2;have u1:=acN bW bX;have xZ:=bX.cl2;have MO:=Hf hy
 cases hg:dJ T with
 |false=>rw[if_pos rfl];rw[hg] at qg;exact⟨_,by simp[u1,qg,qc,gv,xZ,Ap,-an,-aL,-az,-aQ,-fA,bW,bX];with_reducible rfl⟩
 |true=>
   rw[if_neg (by simp)];rw[hg] at qg;by_cases he:(dC s).2.2=0
   .rw[if_neg (λh=>h he)];have hc:=ajS (T:=T) (a:=0) hT ME.1 ME.2 (Nat.zero_le _);have q:=Wp hx hy hc;rw[a7 (st:=uj (dC s).1 0) rfl,show (uj (dC s).1 0).ae=[] from rfl,yI,show (((uj (dC s).1 0).bM:Nat):Int)=0 from rfl,show (((uj (dC s).1 0).next:Nat):Int)=0 from rfl,au] at q;rw[he] at qc;generalize yS (dC s).1=y at *;generalize (dC s).1.length=n at *;generalize (dC s).2.1=pp at *;generalize qz T (uj (dC s).1 0)=r at *;obtain⟨⟨t,e⟩,s1⟩:=r;dsimp only at *;have ur:=ar t;have uc:=dy t;by_cases h1:s1.ae=[]
    .rw[c8 h1] at q;by_cases a1:e=2
     .rw[if_pos (.inl a1)];exact⟨_,by simp[u1,qg,qc,gv,xZ,Ap,-an,-aL,-az,-aQ,-fA,aE,q,MO,ur,uc,jM,a1,bW,bX];with_reducible rfl⟩
     by_cases a2:(s1.bM:Int)<(n:Int)
     .rw[if_pos (.inr a2)];exact⟨_,by simp[u1,qg,qc,gv,xZ,Ap,-an,-aL,-az,-aQ,-fA,aE,q,MO,ur,uc,jM,a1,a2,bW,bX];with_reducible rfl⟩
     rw[if_neg (λh=>h.elim a1 a2)];by_cases a3:e=0
     .rw[if_neg (λh=>h a3)];have tc:=au t;rw[h1];exact⟨_,by simp[u1,qg,qc,gv,xZ,Ap,-an,-aL,-az,-aQ,-fA,aE,q,MO,ur,uc,jM,a1,a2,a3,tc,bW,bX];with_reducible rfl⟩
     .rw[if_pos a3];exact⟨_,by simp[u1,qg,qc,gv,xZ,Ap,-an,-aL,-az,-aQ,-fA,aE,q,MO,ur,uc,jM,a1,a2,a3,bW,bX];with_reducible rfl⟩
    .rw[cH h1] at q;have fk:∀(h:af) (n0 d id:Nat),n0<=id->h.get id=some (.row (bm s1.ae))->jH h n0 (d+2) (.vec id 0 s1.ae.length 2 s1.ae.length)=some (.sl (s1.ae.map Zt),[id]):=λh n0 d id a b=>afX a b
     have nr:=On s1.ae;have nl:=SN h1;by_cases a1:e=2
     .rw[if_pos (.inl a1)];exact⟨_,by simp[u1,qg,qc,gv,xZ,Ap,-an,-aL,-az,-aQ,-fA,aE,q,MO,ur,uc,jM,a1,bW,bX];with_reducible rfl⟩
     by_cases a2:(s1.bM:Int)<(n:Int)
     .rw[if_pos (.inr a2)];exact⟨_,by simp[u1,qg,qc,gv,xZ,Ap,-an,-aL,-az,-aQ,-fA,aE,q,MO,ur,uc,jM,a1,a2,bW,bX];with_reducible rfl⟩
     rw[if_neg (λh=>h.elim a1 a2)];by_cases a3:e=0
     .rw[if_neg (λh=>h a3)];have tc:=au t;unfold uE;dsimp only;rw[nl];generalize s1.ae.map Zt=NL at *;exact⟨_,by simp[u1,qg,qc,gv,xZ,Ap,-an,-aL,-az,-aQ,-fA,aE,q,MO,ur,uc,jM,a1,a2,a3,tc,fk,nr,-mj,bW,bX];with_reducible rfl⟩
     .rw[if_pos a3];exact⟨_,by simp[u1,qg,qc,gv,xZ,Ap,-an,-aL,-az,-aQ,-fA,aE,q,MO,ur,uc,jM,a1,a2,a3,bW,bX];with_reducible rfl⟩
   .rw[if_pos he];exact⟨_,by simp[u1,qg,qc,gv,xZ,Ap,-an,-aL,-az,-aQ,-fA,he,bW,bX];with_reducible rfl⟩
noncomputable def qP:aZ:=⟨14,λ
 |[.agg [x],.str s]=>(match a8 x with|some T=>if T.length<1000000 then some (uE (po T s)) else none|none=>none)
 |_=>none⟩
theorem dM:qP.f=14:=(rfl)
theorem vG{x:AV}{T:List aY}(hx:a8 x=some T)(hT:T.length<1000000)(s:List UInt8):qP.S [.agg [x],.str s]=some (uE (po T s)):=by simp only[qP,hx,if_pos hT]
theorem GF:dX Tryz.prog bV qP:=λaa v hv=>by
 unfold qP at hv|-;dsimp only at hv|-;split at hv
 .rename_i x s;split at hv
  .rename_i T hx;split at hv
   .rename_i hT;cases hv;obtain⟨h',e⟩:=Wc hx hT s;exact cf (dW (ss:=aaj) (ms:=YK) (by simp[aaj,Fe.lift,Pk]) (by simp[YK,WI])) e (Na _) (by simp[AV.aK,AV.aj,fj hx])
   .cases hv
  .cases hv
 .cases hv
end
section
section
variable {T:List aY}{n M:Nat}{aJ:List Tm}{st:St}
end
noncomputable def afz:List aZ:=[pM,Ns]
noncomputable def afs:List cq:=[EP]
attribute [local simp] jz jx jA jt gJ gI jr ju jw gK gL js kR kN kT kO kL kK iq iw Laid.aK fa fc bO aE afz afs oQ sa CN z7
end
section
def adN(r:List Tm×Int):AV:=.tuple [FI r.1,.int .i64 r.2]
attribute [local simp] jz jx jA jt gJ gI jr ju jw gK gL js kR kN kT kO kL kK iq iw Laid.aK fa fc bO T4 c42 afz afs oQ sa CN adN
end
section
theorem C5{t:Tm}(h:t.aa.length=1):∃y,t.aa=[y]/\t.bH=.sl [y.aR]/\qX t=y:=by
 cases t with
 |nl k n s=>simp[Tm.aa] at h
 |mk k n s us=>
   match us,h with
   |[y],_=>exact⟨y,rfl,rfl,rfl⟩
   |[],h=>simp[Tm.aa] at h
   |x::y::r,h=>simp[Tm.aa] at h
theorem Kn{t:Tm}(h:t.aa.length=2):∃y z,t.aa=[y,z]/\t.bH=.sl [y.aR,z.aR]/\qX t=y/\GY t=z:=by
 cases t with
 |nl k n s=>simp[Tm.aa] at h
 |mk k n s us=>
   match us,h with
   |[y,z],_=>exact⟨y,z,rfl,rfl,rfl,rfl⟩
   |[],h=>simp[Tm.aa] at h
   |[y],h=>simp[Tm.aa] at h
   |x::y::z::r,h=>simp[Tm.aa] at h
def qO:cq:=⟨141,λ
 |[.ptr 0 0,v],os=>(match B4 os,il v with
   |some W,some t=>some (.tuple [(iS W.T W.b t).1.aR,.bool (iS W.T W.b t).2],none)
   |_,_=>none)
 |_,_=>none⟩
theorem gd:qO.f=141:=(rfl)
theorem To{x:AV}{T:List aY}(hx:a8 x=some T)(b:Bool)(ps:List (Int×Int))(hT:T.length<1000000)(hp:pC ps=true)(t:Tm):
 qO.S [.ptr 0 0,t.aR] (kQ x b ps)=some (.tuple [(iS T b t).1.aR,.bool (iS T b t).2],none):=by
 simp only[qO,oD hx b ps hT hp,ew]
theorem RL:cr Tryz.prog bV qO:=λaa os v r hv=>by
 unfold qO at hv;dsimp only at hv;split at hv
 .rename_i v0 os;split at hv
  .rename_i W t hW ht;cases hv;obtain⟨x,hx,rfl,hT,hp⟩:=mi hW;obtain⟨T,b,ps⟩:=W;dsimp only at hx hT hp|-;rw[dY ht,gd];have eU:=yg t;have q:=tC hx t.aC (by omega);have q2:=HH t.aC;have di:=fj hx;have tY:=ar t;have e1:=nA t.aC [45];have eR:=Tm.bG t;simp only[aY.aR,aY.cells] at q;refine qu (n:=6) (m:=2) (dW (ss:=[j7,uC]) (ms:=[]) (by simp[ze.lift,HD]) (by simp)) hx ?_ (by simp[AV.aK,AV.aj,aY.aR,aY.cells]) (by simp[AV.aj,Tm.cm]);rw[Tm.bJ,eR];unfold iS
   cases b with
   |false=>simp[oH,c141,dc,eP,eU,tY,aE,aY.aR,aY.cells,fF]
   |true=>
     by_cases h2:t.aa.length=1
     .have Ft:((t.aa.length:Int)=1)=True:=eq_true (by omega);obtain⟨y,ha,X3,hy⟩:=C5 h2;have JB:=Tm.bJ y;have xZ:=Tm.bG y;have rU:=ar y
      have aoi:∀(fr:List AV) (h:af) (o:cX),o.ev fr=.sl [y.aR]->bC fr h (.xn o)=some (.int .i64 1,h):=λfr h o ho=>by rw[lW,ho];rfl
      rw[X3,hy,JB,xZ]
      have fin:∀(c:Bool),((decide (t.aC=[45])&&decide (y.ah=1))=c)->(aH (cg [j7,uC] []) 6 141 [.ptr 0 0,.agg [.int .i64 t.ah,.int .i64 t.bx,.str t.aC,.sl [.agg [.int .i64 y.ah,.int .i64 y.bx,.str y.aC,y.bH]]]] ⟨2,[.map (gR ps),.row [x,.bool true,.map 1]],2,2⟩=
       some (if c||!iN t.aC then .tuple [fF.aR,.bool false] else .tuple [(aM T t.aC true).1.aR,.bool (aM T t.aC true).2],⟨2,[.map (gR ps),.row [x,.bool true,.map 1]],2,2⟩)):=λc hc=>by
       cases c with
       |true=>
         simp only[Bool.and_eq_true,decide_eq_true_eq] at hc;have e2:(t.aC==[45])=true:=by rw[e1];exact decide_eq_true hc.1
         simp[oH,c141,dc,eP,rU,aE,hc.1,hc.2,aY.aR,aY.cells,fF]
       |false=>
         have ak:∀(d:Bool),(t.aC==[45])=d->(d=true->(y.ah=1)=False)->(aH (cg [j7,uC] []) 6 141 [.ptr 0 0,.agg [.int .i64 t.ah,.int .i64 t.bx,.str t.aC,.sl [.agg [.int .i64 y.ah,.int .i64 y.bx,.str y.aC,y.bH]]]] ⟨2,[.map (gR ps),.row [x,.bool true,.map 1]],2,2⟩=
          some (if !iN t.aC then .tuple [fF.aR,.bool false] else .tuple [(aM T t.aC true).1.aR,.bool (aM T t.aC true).2],⟨2,[.map (gR ps),.row [x,.bool true,.map 1]],2,2⟩)):=λd hd hk=>by
          cases d with
          |true=>
            have xY:=hk rfl;have hn:t.aC=[45]:=by simpa using hd
            rw[hn] at q q2|-
            cases Mp:iN [45] with
            |false=>rw[Mp] at q2;simp[oH,c141,dc,eP,rU,aE,xY,q2,aY.aR,aY.cells,fF]
            |true=>
              rw[Mp] at q2;rcases bj hx with⟨rfl,rfl⟩|rfl
              .simp[oH,c141,dc,eP,rU,aE,xY,q,q2,aY.aR,aY.cells]
              .simp[oH,c141,dc,eP,rU,aE,xY,q,q2,aY.aR,aY.cells]
          |false=>
            have hn:¬t.aC=[45]:=by simpa using hd
            cases Mp:iN t.aC with
            |false=>rw[Mp] at q2;simp[oH,c141,dc,eP,rU,aE,hd,hn,q2,aY.aR,aY.cells,fF]
            |true=>
              rw[Mp] at q2;rcases bj hx with⟨rfl,rfl⟩|rfl
              .simp[oH,c141,dc,eP,rU,aE,hd,hn,q,q2,aY.aR,aY.cells]
              .simp[oH,c141,dc,eP,rU,aE,hd,hn,q,q2,aY.aR,aY.cells]
         rw[Bool.false_or];refine ak (t.aC==[45]) rfl λhd=>?_
         have hn:t.aC=[45]:=by simpa using hd
         rw[hn] at hc;simpa using hc
      rw[fin _ rfl];rw[h2];simp only[Bool.not_true,Bool.false_or,decide_true];cases (decide (t.aC=[45])&&decide (y.ah=1))||!iN t.aC<;>rfl
     .have Ft:((t.aa.length:Int)=1)=False:=eq_false (by omega);simp[oH,c141,dc,eP,eU,tY,aE,h2,Ft,aY.aR,aY.cells,fF]
  .cases hv
 .cases hv
def yR:cq:=⟨137,λ
 |[.ptr 0 0,.str s,.int .i64 n,.bool bs],os=>(match B4 os with
   |some W=>if s.length<=64 then some (.str (wV W.T W.b s n bs),none) else none
   |none=>none)
 |_,_=>none⟩
theorem iv:yR.f=137:=(rfl)
theorem Ut{x:AV}{T:List aY}(hx:a8 x=some T)(b:Bool)(ps:List (Int×Int))(hT:T.length<1000000)(hp:pC ps=true)(s:List UInt8)(hs:s.length<=64)(n:Int)(bs:Bool):
 yR.S [.ptr 0 0,.str s,.int .i64 n,.bool bs] (kQ x b ps)=some (.str (wV T b s n bs),none):=by
 simp only[yR,oD hx b ps hT hp];rw[if_pos hs]
theorem VK:cr Tryz.prog bV yR:=λaa os v r hv=>by
 unfold yR at hv;dsimp only at hv;split at hv
 .rename_i os s n bs;split at hv
  .rename_i W hW;split at hv
   .rename_i hs;cases hv;obtain⟨x,hx,rfl,hT,hp⟩:=mi hW;obtain⟨T,b,ps⟩:=W;dsimp only at hx hT hp|-;rw[iv];have q1:=u4 hx s (by omega);have q2:=tC hx s (by omega);have q3:=oP s;have hq:=jL hs;have di:=fj hx;simp only[aY.aR,aY.cells] at q1 q2;unfold wV;generalize aM T s false=I at *;generalize aM T s true=Pr at *;obtain⟨⟨i1,i2,i3⟩,i4⟩:=I;obtain⟨⟨p1,p2,p3⟩,p4⟩:=Pr;dsimp only at q1 q2|-
    have Jh:max i3 p3=if i3<p3 then p3 else i3:=by
     by_cases h:i3<p3
     .rw[if_pos h];omega
     .rw[if_neg h];omega
    rw[Jh];have q4:=λc=>qo (bd s) c (by omega)
    have key:∀c:Bool,((b&&(i4||p4))&&(bs||decide (n<if i3<p3 then p3 else i3)))=c->aH (cg [FB,j7,kS,kY] []) 6 137 [.ptr 0 0,.str s,.int .i64 n,.bool bs] ⟨2,[.map (gR ps),.row [x,.bool b,.map 1]],2,2⟩=
     some (.str (FO (bd s) c),⟨2,[.map (gR ps),.row [x,.bool b,.map 1]],2,2⟩):=λc hc=>by
     rw[<-hc];rcases bj hx with⟨rfl,rfl⟩|rfl
     .cases b<;>cases i4<;>cases p4<;>cases bs<;>simp[P5,Wl,eJ,dc,ca,eD,q1,q2,q3,q4,vC]
     .cases b<;>cases i4<;>cases p4<;>cases bs<;>simp[P5,Wl,eJ,dc,ca,eD,q1,q2,q3,q4,vC]
    exact qu (n:=6) (m:=2) (dW (ss:=[FB,j7,kS,kY]) (ms:=[]) (by simp[Bp.lift,ze.lift,vE,BF.lift]) (by simp)) hx (key _ rfl) (by simp[AV.aK]) (by simp[AV.aj,AV.aK])
   .cases hv
  .cases hv
 .cases hv
theorem CE(T:List aY)(b:Bool)(vr:Int->List UInt8):∀(N M:Nat) (t:Tm) (n:Int) (bs:Bool),vZ t->t.size<=N->t.size<=M->wT T b vr N t n bs=wT T b vr M t n bs
 |0,_,t,_,_,_,h,_=>by have:=bP t;omega
 |_+1,0,t,_,_,_,_,h=>by have:=bP t;omega
 |N+1,M+1,t,n,bs,h,h1,h2=>by
   have hs:=bP t
   have sub:∀y∈t.aa,∀n bs,wT T b vr N y n bs=wT T b vr M y n bs:=λy hy n bs=>by have:=mw hy;exact CE T b vr N M y n bs (gO h hy) (by omega) (by omega)
   unfold wT;by_cases k0:t.ah=0
   .rw[if_pos k0,if_pos k0]
   rw[if_neg k0,if_neg k0];by_cases k1:t.ah=1
   .rw[if_pos k1,if_pos k1]
   rw[if_neg k1,if_neg k1];by_cases k2:t.aa.length=0
   .rw[if_pos k2,if_pos k2]
   rw[if_neg k2,if_neg k2];by_cases k3:((b&&decide (t.aC=[46]))&&decide (t.aa.length=2))=true
   .rw[if_pos k3,if_pos k3];simp only[Bool.and_eq_true,decide_eq_true_eq] at k3
    have Al:gj t=true:=by
     have hk:t.ah=2:=by
      rcases rB h with k|k|k
      .exact absurd k k0
      .exact absurd k k1
      .exact k
     simp[gj,hk,k3.1.2,k3.2]
    obtain⟨i1,i2,i3⟩:=oT t.size t (Nat.le_refl _) h
    have e1:((aX t).1.map λx=>wT T b vr N x 999 false)=(aX t).1.map λx=>wT T b vr M x 999 false:=List.map_congr_left λy hy=>CE T b vr N M y 999 false (i1 y hy).1 (by have:=(i1 y hy).2;omega) (by have:=(i1 y hy).2;omega)
    have e2:wT T b vr N (aX t).2 999 false=wT T b vr M (aX t).2 999 false:=CE T b vr N M _ 999 false i2 (by have:=i3 Al;omega) (by have:=i3 Al;omega);rw[e1,e2]
   rw[if_neg k3,if_neg k3];by_cases k4:((b&&decide (t.aC=[123,125]))&&decide (t.aa.length=1))=true
   .rw[if_pos k4,if_pos k4,sub _ (pg (by omega))]
   rw[if_neg k4,if_neg k4];by_cases k5:(eT T b t).2=true
   .have hl:t.aa.length=2:=by
     unfold eT at k5;split at k5
     .cases k5
     .rename_i hc;simp at hc;exact hc.1.2
    rw[if_pos k5,if_pos k5,sub _ (pg (by omega)),sub _ (OW (by omega))]
   rw[if_neg k5,if_neg k5];by_cases k6:(iS T b t).2=true
   .rw[if_pos k6,if_pos k6,sub _ (pg (by omega))]
   rw[if_neg k6,if_neg k6]
   have e1:(t.aa.map λx=>wT T b vr N x 999 false)=t.aa.map λx=>wT T b vr M x 999 false:=List.map_congr_left λy hy=>sub y hy _ _
   rw[e1]
def wF(T:List aY)(b:Bool)(vr:Int->List UInt8)(t:Tm)(n:Int)(bs:Bool):List UInt8:=wT T b vr t.size t n bs
theorem IB(T:List aY)(b:Bool)(vr:Int->List UInt8){N:Nat}{t:Tm}(h:vZ t)(hn:t.size<=N)(n:Int)(bs:Bool):wT T b vr N t n bs=wF T b vr t n bs:=CE T b vr N t.size t n bs h hn (Nat.le_refl _)
theorem qM(T:List aY)(b:Bool)(vr:Int->List UInt8)(hv:∀n,(vr n).length<=21)(t:Tm)(n:Int)(bs:Bool)(h:vZ t):(wF T b vr t n bs).length+10<=150*t.size:=uH T b vr hv t.size t n bs h
def Qc(T:List aY)(b:Bool)(vr:Int->List UInt8)(t:Tm):List UInt8:=[91]++Lib.join ((aX t).1.map λx=>wF T b vr x 999 false) [44]++(if o4 (aX t).2 then [] else [124]++wF T b vr (aX t).2 999 false)++[93]
def opW(T:List aY)(b:Bool)(vr:Int->List UInt8)(o:aY)(t:Tm):List UInt8:=wF T b vr (qX t) (oh T b o t) true++uv t.aC++wF T b vr (GY t) (ax o).2 true
theorem afW(T:List aY)(b:Bool)(vr:Int->List UInt8)(t:Tm)(n:Int)(bs:Bool)(h:vZ t):wF T b vr t n bs=
 if t.ah=0 then vr t.bx
 else if t.ah=1 then FO (bz t.bx) (bs&&decide (t.bx<0))
 else if t.aa.length=0 then wV T b t.aC n bs
 else if (b&&decide (t.aC=[46]))&&decide (t.aa.length=2) then Qc T b vr t
 else if (b&&decide (t.aC=[123,125]))&&decide (t.aa.length=1) then [123]++wF T b vr (qX t) 1200 false++[125]
 else if (eT T b t).2 then FO (opW T b vr (eT T b t).1 t) (decide (n<(eT T b t).1.l))
 else if (iS T b t).2 then FO (bd t.aC++[32]++wF T b vr (qX t) (ax (iS T b t).1).2 true) (decide (n<(iS T b t).1.l))
 else bd t.aC++[40]++Lib.join (t.aa.map λx=>wF T b vr x 999 false) [44]++[41]:=by
 have hs:=bP t;obtain⟨N,hN⟩:∃N,t.size=N+1:=⟨t.size-1,by omega⟩
 have sub:∀y∈t.aa,∀n bs,wT T b vr N y n bs=wF T b vr y n bs:=λy hy n bs=>by have:=mw hy;exact IB T b vr (gO h hy) (by omega) n bs
 conv=>lhs;unfold wF
 rw[hN];conv=>lhs;unfold wT
 by_cases k0:t.ah=0
 .rw[if_pos k0,if_pos k0]
 rw[if_neg k0,if_neg k0];by_cases k1:t.ah=1
 .rw[if_pos k1,if_pos k1]
 rw[if_neg k1,if_neg k1];by_cases k2:t.aa.length=0
 .rw[if_pos k2,if_pos k2]
 rw[if_neg k2,if_neg k2];by_cases k3:((b&&decide (t.aC=[46]))&&decide (t.aa.length=2))=true
 .rw[if_pos k3,if_pos k3];simp only[Bool.and_eq_true,decide_eq_true_eq] at k3
  have Al:gj t=true:=by
   have hk:t.ah=2:=by
    rcases rB h with k|k|k
    .exact absurd k k0
    .exact absurd k k1
    .exact k
   simp[gj,hk,k3.1.2,k3.2]
  obtain⟨i1,i2,i3⟩:=oT t.size t (Nat.le_refl _) h
  have e1:((aX t).1.map λx=>wT T b vr N x 999 false)=(aX t).1.map λx=>wF T b vr x 999 false:=List.map_congr_left λy hy=>IB T b vr (i1 y hy).1 (by have:=(i1 y hy).2;omega) 999 false
  have e2:wT T b vr N (aX t).2 999 false=wF T b vr (aX t).2 999 false:=IB T b vr i2 (by have:=i3 Al;omega) 999 false;rw[e1,e2];rfl
 rw[if_neg k3,if_neg k3];by_cases k4:((b&&decide (t.aC=[123,125]))&&decide (t.aa.length=1))=true
 .rw[if_pos k4,if_pos k4,sub _ (pg (by omega))]
 rw[if_neg k4,if_neg k4];by_cases k5:(eT T b t).2=true
 .have hl:t.aa.length=2:=by
   unfold eT at k5;split at k5
   .cases k5
   .rename_i hc;simp at hc;exact hc.1.2
  rw[if_pos k5,if_pos k5,sub _ (pg (by omega)),sub _ (OW (by omega))];rfl
 rw[if_neg k5,if_neg k5];by_cases k6:(iS T b t).2=true
 .rw[if_pos k6,if_pos k6,sub _ (pg (by omega))]
 rw[if_neg k6,if_neg k6]
 have e1:(t.aa.map λx=>wT T b vr N x 999 false)=t.aa.map λx=>wF T b vr x 999 false:=List.map_congr_left λy hy=>sub y hy _ _
 rw[e1]
instance (t:Tm):Decidable (vZ t):=by unfold vZ;infer_instance
theorem Ff{x:AV}{T:List aY}(h:a8 x=some T):x.top=none:=by rcases bj h with⟨rfl,_⟩|rfl<;>rfl
theorem Fb{x:AV}{T:List aY}(h:a8 x=some T)(g:Nat->Nat):sig g x=x:=by rcases bj h with⟨rfl,_⟩|rfl<;>rfl
noncomputable def gC(N:Nat):cq:=⟨98,λ
 |[.ptr 0 0,v,.int .i64 n,.bool bs],os=>(match B4 os,il v with
   |some W,some t=>if vZ t/\t.size<N then some (.str (wF W.T W.b (iZ W.ps) t n bs),none) else none
   |_,_=>none)
 |_,_=>none⟩
theorem cp(N:Nat):(gC N).f=98:=(rfl)
theorem kv(N:Nat){x:AV}{T:List aY}(hx:a8 x=some T)(b:Bool)(ps:List (Int×Int))(hT:T.length<1000000)(hp:pC ps=true)(t:Tm)(h:vZ t/\t.size<N)(n:Int)(bs:Bool):
 (gC N).S [.ptr 0 0,t.aR,.int .i64 n,.bool bs] (kQ x b ps)=some (.str (wF T b (iZ ps) t n bs),none):=by
 simp only[gC,oD hx b ps hT hp,ew];rw[if_pos h]
def xv:List aZ:=[Hp]
noncomputable def xI(N:Nat):List cq:=[gC N]
theorem F4(n N:Nat)(us:List Tm)(hl:us.length<100000)(hus:∀y∈us,vZ y/\y.size<N)(x:AV)(T:List aY)(hx:a8 x=some T)(b:Bool)(ps:List (Int×Int))(hT:T.length<1000000)(hp:pC ps=true):∀(post pre:List Tm) (aJ:List (List UInt8)) (m md:Nat),us=pre++post->aJ≠[]->aJ.length=pre.length->post.length<m->
 ∃cS,iV 2 2 (cb (aF (aH (cg xv (xI N)) (n+1)) (n+1) pY) mI 2 m (Je (.ptr 0 0) (.vec 2 0 aJ.length 1 aJ.length) (.sl (us.map Tm.aR)) (.int .i64 us.length) (.int .i64 pre.length)) ⟨3,[.row (aJ.map .str),.map (gR ps),.row [x,.bool b,.map 1]],2,md⟩)=
   some (.exit 0,FM 23 [(5,.vec 2 0 us.length 1 us.length)],⟨3,[.row ((aJ++post.map λy=>wF T b (iZ ps) y 999 false).map .str),.map (gR ps),.row [x,.bool b,.map 1]],2,cS⟩)
 |_,_,_,0,_,_,_,_,h=>by omega
 |[],pre,aJ,m+1,md,hs,fB,hac,hm=>by rw[ai];have hf:=km aJ;rw[List.append_nil] at hs;subst hs;have di:=fj hx;refine⟨md,?_⟩;simp[xv,xI,pY,mI,r7,cp,hf,hac]
 |y::r,pre,aJ,m+1,md,hs,fB,hac,hm=>by
   rw[ai];have BZ:pre.length+r.length+1=us.length:=by rw[hs];simp;omega
   have hf:=km aJ;have h8:(aJ.length+1)*16<=140737488355328:=by omega
   have h9:aJ.length+1<9223372036854775808:=by omega
   have kj:(aJ.map AV.str).take aJ.length=aJ.map AV.str:=by rw[List.take_of_length_le];simp
   have h6:((pre.length:Int)<(us.length:Int))=True:=eq_true (by omega);have hc:us[pre.length]? =some y:=by rw[hs];simp
   have h3:IntKind.i64.wrap ((pre.length:Int)+1)=(pre.length:Int)+1:=wrap_i64 (by omega) (by omega);have hy:=hus y (by rw[hs];simp);obtain⟨cS,ih⟩:=F4 n N us hl hus x T hx b ps hT hp r (pre++[y]) (aJ++[wF T b (iZ ps) y 999 false]) m (min md 2) (by rw[hs];simp) (by simp) (by simp;omega) (by simp at hm;omega);refine⟨cS,?_⟩;have di:=fj hx;have hxt:=Ff hx;have hsg:=λg=>Fb hx g
   have JB:=Tm.bJ y;have xZ:=Tm.bG y;have rU:=ar y;have q1:=kv N hx b ps hT hp y hy 999 false;have TQ:=cE us;simp only[List.map_cons];generalize wF T b (iZ ps) y 999 false=w at *;simp only[kQ] at q1;rw[JB,xZ] at q1;rw[show aJ++(w::r.map λy=>wF T b (iZ ps) y 999 false)=aJ++[w]++r.map λy=>wF T b (iZ ps) y 999 false by simp];simp only[List.length_append,List.length_cons,List.length_nil,Nat.zero_add,Int.natCast_add,Int.natCast_one,xv,xI,List.map_append,List.map_cons,List.map_nil] at ih;have jc:AV.aj (aJ.map AV.str++[.str w])=0:=by have:=km (aJ++[w]);rwa[List.map_append] at this
   have hue:us.map Tm.aR=us.map Tm.aR:=rfl;have jI:=dN T;rcases bj hx with⟨rfl,rfl⟩|rfl
   all_goals
    simp[xv,xI,pY,mI,r7,cp,di,jI,dI,cP,-dp,-cF,aI,hf,h8,h9,kj,h6,hc,h3,JB,xZ,rU,q1,TQ,jc];simp only[List.append_assoc,List.cons_append,List.nil_append,List.map_append,List.map_cons,List.map_map] at ih;exact ih
theorem OR(n N:Nat)(us:List Tm)(hl:us.length<100000)(hus:∀y∈us,vZ y/\y.size<N)(x:AV)(T:List aY)(hx:a8 x=some T)(b:Bool)(ps:List (Int×Int))(hT:T.length<1000000)(hp:pC ps=true):∀(y:Tm) (post:List Tm) (m md:Nat),us=y::post->post.length+1<m->
 ∃cS,iV 2 2 (cb (aF (aH (cg xv (xI N)) (n+1)) (n+1) pY) mI 2 m (Je (.ptr 0 0) .aD (.sl (us.map Tm.aR)) (.int .i64 us.length) (.int .i64 0)) ⟨2,[.map (gR ps),.row [x,.bool b,.map 1]],2,md⟩)=
   some (.exit 0,FM 23 [(5,.vec 2 0 us.length 1 us.length)],⟨3,[.row (([]++(y::post).map λy=>wF T b (iZ ps) y 999 false).map .str),.map (gR ps),.row [x,.bool b,.map 1]],2,cS⟩)
 |y,r,0,md,hs,hm=>by omega
 |y,r,m+1,md,hs,hm=>by
   subst hs;rw[ai];simp only[List.length_cons] at hl;have h6:True:=trivial;have hc:True:=trivial;have h3:IntKind.i64.wrap 1=1:=rfl;have hy:=hus y (by simp);obtain⟨cS,ih⟩:=F4 n N (y::r) (by simp;omega) hus x T hx b ps hT hp r [y] [wF T b (iZ ps) y 999 false] m (min md 2) rfl (by simp) rfl (by omega);refine⟨cS,?_⟩;have di:=fj hx;have hxt:=Ff hx;have hsg:=λg=>Fb hx g
   have JB:=Tm.bJ y;have xZ:=Tm.bG y;have rU:=ar y;have q1:=kv N hx b ps hT hp y hy 999 false;have TQ:=cE r;simp only[List.map_cons];generalize wF T b (iZ ps) y 999 false=w at *;simp only[kQ] at q1;rw[JB,xZ] at q1;simp only[JB,xZ,List.length_cons,List.length_nil,Nat.zero_add,Int.natCast_add,Int.natCast_one,xv,xI,List.map_cons,List.map_nil,List.nil_append,List.cons_append] at ih|-;have jI:=dN T;rcases bj hx with⟨rfl,rfl⟩|rfl
   all_goals
    simp[xv,xI,pY,mI,r7,cp,di,jI,dI,cP,-dp,-cF,aI,h6,hc,h3,JB,xZ,rU,q1,TQ];simp only[List.append_assoc,List.cons_append,List.nil_append,List.map_append,List.map_cons,List.map_map] at ih;exact ih
def si(v:AV):Option (List Tm):=match v with
 |.aD=>some []
 |.sl xs=>lE xs
 |_=>none
theorem Ml{v:AV}{us:List Tm}(h:si v=some us):(v=.aD/\us=[])\/v=.sl (us.map Tm.aR):=by
 cases v<;>simp[si] at h
 .exact .inl ⟨rfl,h⟩
 .exact .inr (by rw[rQ h])
noncomputable def nC(N:Nat):cq:=⟨142,λ
 |[.ptr 0 0,v],os=>(match B4 os,si v with
   |some W,some us=>if (∀y∈us,vZ y/\y.size<N)/\Tm.bE us<100000 then some (.str (Lib.join (us.map λy=>wF W.T W.b (iZ W.ps) y 999 false) [44]),none) else none
   |_,_=>none)
 |_,_=>none⟩
theorem ez(N:Nat):(nC N).f=142:=(rfl)
theorem Da(N:Nat){x:AV}{T:List aY}(hx:a8 x=some T)(b:Bool)(ps:List (Int×Int))(hT:T.length<1000000)(hp:pC ps=true){v:AV}{us:List Tm}(hv:si v=some us)(h:(∀y∈us,vZ y/\y.size<N)/\Tm.bE us<100000):
 (nC N).S [.ptr 0 0,v] (kQ x b ps)=some (.str (Lib.join (us.map λy=>wF T b (iZ ps) y 999 false) [44]),none):=by
 simp only[nC,oD hx b ps hT hp,hv];rw[if_pos h]
theorem Tv(l:List (List UInt8)):∀x∈l.map AV.str,Ce 1 x:=by intro x hx;obtain⟨o,_,rfl⟩:=List.mem_map.1 hx;exact⟨rfl,rfl,(λ_=>rfl),(λh=>absurd rfl h),rfl⟩
theorem Rt(l:List (List UInt8)):(l.map AV.str).flatMap AV.cells=l.map AV.str:=by
 induction l with
 |nil=>rfl
 |cons v r ih=>rw[List.map_cons,List.flatMap_cons,ih];rfl
theorem af9{h:af}{n0 d id k:Nat}(l:List (List UInt8))(hk:l.length=k+1)(bZ:n0<=id)(hg:h.get id=some (.row (l.map .str))):
 jH h n0 (d+2) (.vec id 0 (k+1) 1 (k+1))=some (.sl (l.map .str),[id]):=by
 have hl:(l.map AV.str).length=k+1:=by simp[hk]
 exact vN bZ hg (by omega) (Tv l) (by rw[hl]) (by rw[hl];omega) (by rw[Rt,List.take_of_length_le];omega)
theorem DX(N:Nat)(hN:cr Tryz.prog bV (gC N)):cr Tryz.prog bV (nC N):=λaa os v r hv=>by
 unfold nC at hv;dsimp only at hv;split at hv
 .rename_i v0 os;split at hv
  .rename_i W us hW hu;split at hv
   .rename_i hc;cases hv;obtain⟨x,hx,rfl,hT,hp⟩:=mi hW;obtain⟨T,b,ps⟩:=W;dsimp only at hx hT hp|-;rw[ez];have hE:bY Tryz.prog bV (cg xv (xI N)):=dW (ss:=xv) (ms:=xI N) (by simp[xv,UR.lift]) (by simp[xI,hN]);have di:=fj hx;have hul:=iJ us;have iz:=hc.2;rcases Ml hu with⟨rfl,rfl⟩|rfl
    .have q:=EF .aD [] [44] rfl (by simp[Lib.join,List.intercalate]);refine qu (n:=6) (m:=2) hE hx ?_ (by simp[AV.aK]) (by simp[AV.aj,AV.aK]);simp[xv,xI,CH,NC,mI,pY,ai,r7,cp,q,di]
    .cases us with
     |nil=>have q:=EF .aD [] [44] rfl (by simp[Lib.join,List.intercalate]);refine qu (n:=6) (m:=2) hE hx ?_ (by simp[AV.aK]) (by simp[AV.aj,AV.aK]);simp[xv,xI,CH,NC,mI,pY,ai,r7,cp,q,di]
     |cons y us=>
       obtain⟨md,lp⟩:=OR (us.length+4) N (y::us) (by omega) hc.1 x T hx b ps hT hp y us (us.length+5) 2 rfl (by omega);have cT:∀z∈y::us,(wF T b (iZ ps) z 999 false).length+10<=150*z.size:=λz hz=>qM T b (iZ ps) (nz hp) z 999 false (hc.1 z hz).1
       have k1:=rk [44] ((y::us).map λx=>wF T b (iZ ps) x 999 false);have k2:=AW (f:=λx=>(wF T b (iZ ps) x 999 false).length) (y::us) cT;rw[List.map_map] at k1;have k4:(Lib.join ((y::us).map λx=>wF T b (iZ ps) x 999 false) [44]).length<=150*Tm.bE (y::us):=Nat.le_trans k1 k2;have hll:((y::us).map λx=>wF T b (iZ ps) x 999 false).length=us.length+1:=by simp
       have TQ:=cE (y::us);rw[List.nil_append] at lp;generalize (y::us).map (λx=>wF T b (iZ ps) x 999 false)=l at *;have q:=EF (.sl (l.map .str)) l [44] (OV l) (by simp only[List.length_cons] at hul;omega);have hlr:=km l;have fk:∀d wl md,jH ⟨3,[.row (l.map .str),.map (gR ps),.row [x,.bool b,.map 1]],wl,md⟩ 0 (d+2) (.vec 2 0 (us.length+1) 1 (us.length+1))=some (.sl (l.map .str),[2]):=λd wl md=>af9 l hll (Nat.zero_le 2) rfl
       refine qu (n:=us.length+6) (m:=if md<2 then min 2 md else 2) hE hx ?_ (by simp[AV.aK]) (by simp[AV.aj,AV.aK,TQ]);simp only[mI,Je,xv,xI,List.length_cons,Int.natCast_add,Int.natCast_one] at lp;have hU:((y::us).map Tm.aR).length=us.length+1:=by simp
       generalize (y::us).map Tm.aR=U at *;have jI:=dN T;rcases bj hx with⟨rfl,rfl⟩|rfl
       .simp[xv,xI,CH,NC,mI,r7,cp,q,TQ,hU,lp,fk,hlr,-mj]
       .simp[xv,xI,CH,NC,mI,r7,cp,q,TQ,hU,jI,lp,fk,hlr,-mj]
   .cases hv
  .cases hv
 .cases hv
noncomputable def sW(N:Nat):cq:=⟨138,λ
 |[.ptr 0 0,v],os=>(match B4 os,il v with
   |some W,some t=>if vZ t/\gj t=true/\t.size<=N then some (.str (Qc W.T W.b (iZ W.ps) t),none) else none
   |_,_=>none)
 |_,_=>none⟩
theorem gg(N:Nat):(sW N).f=138:=(rfl)
theorem SD(N:Nat){x:AV}{T:List aY}(hx:a8 x=some T)(b:Bool)(ps:List (Int×Int))(hT:T.length<1000000)(hp:pC ps=true)(t:Tm)(h:vZ t/\gj t=true/\t.size<=N):
 (sW N).S [.ptr 0 0,t.aR] (kQ x b ps)=some (.str (Qc T b (iZ ps) t),none):=by
 simp only[sW,oD hx b ps hT hp,ew];rw[if_pos h]
theorem Tb(N:Nat)(hN:cr Tryz.prog bV (gC N)):cr Tryz.prog bV (sW N):=λaa os v r hv=>by
 unfold sW at hv;dsimp only at hv;split at hv
 .rename_i v0 os;split at hv
  .rename_i W t hW ht;split at hv
   .rename_i hc;cases hv;obtain⟨x,hx,rfl,hT,hp⟩:=mi hW;obtain⟨T,b,ps⟩:=W;dsimp only at hx hT hp|-;rw[dY ht,gg];obtain⟨cK,Al,hsN⟩:=hc;have hE:bY Tryz.prog bV (cg [qG] [nC N,gC N]):=dW (by simp[GK.lift]) (by simp[hN,DX N hN]);obtain⟨i1,i2,i3⟩:=oT t.size t (Nat.le_refl _) cK;have i3':=i3 Al;have iz:=pK t.size t (Nat.le_refl _);have hg:=cK.1;have hg2:=hg;simp only[dt,Bool.and_eq_true,decide_eq_true_eq] at hg2;have q1:=Gl t (by have:=cK.2.1;omega);have e1:vm t=aX t:=by unfold vm;rw[if_pos hg]
    rw[e1] at q1
    have fB:(aX t).1≠[]:=by obtain⟨a,r,_,e⟩:=jR Al;rw[e];simp
    have q3:=kv N hx b ps hT hp (aX t).2 ⟨i2,by omega⟩ 999 false;have hWl:=qM T b (iZ ps) (nz hp) (aX t).2 999 false i2;have k1:=rk [44] ((aX t).1.map λy=>wF T b (iZ ps) y 999 false);have k2:=AW (f:=λy=>(wF T b (iZ ps) y 999 false).length) (aX t).1 (λy hy=>qM T b (iZ ps) (nz hp) y 999 false (i1 y hy).1);rw[List.map_map] at k1;have k4:(Lib.join ((aX t).1.map λy=>wF T b (iZ ps) y 999 false) [44]).length<=150*Tm.bE (aX t).1:=Nat.le_trans k1 k2;have q2:=Da N hx b ps hT hp (v:=.sl ((aX t).1.map Tm.aR)) (us:=(aX t).1) (by simp[si,<-lq,lJ]) ⟨λy hy=>⟨(i1 y hy).1,by have:=(i1 y hy).2;omega⟩,by omega⟩
    have e2:FI (aX t).1=.sl ((aX t).1.map Tm.aR):=by
     cases hi:(aX t).1 with
     |nil=>exact absurd hi fB
     |cons a r=>rfl
    rw[e2] at q1;have TQ:=cE (aX t).1;refine qu (n:=6) (m:=2) hE hx ?_ (by simp[AV.aK]) (by simp[AV.aj,Tm.cm]);unfold Qc o4;have hjs:(Lib.join ((aX t).1.map λy=>wF T b (iZ ps) y 999 false) [44]).length<1000000:=by omega
    have hws:(wF T b (iZ ps) (aX t).2 999 false).length<1000000:=by omega
    generalize Lib.join ((aX t).1.map λy=>wF T b (iZ ps) y 999 false) [44]=J at *;generalize wF T b (iZ ps) (aX t).2 999 false=V at *;generalize (aX t).1.map Tm.aR=U at *;generalize (aX t).2=u at *;have eU:=yg u;have tY:=ar t;have aaT:=ar u;have eR:=Tm.bG t;have hcu:=Tm.bG u;simp only[kQ] at q2 q3;rw[Tm.bJ,eR] at q1|-;rw[Tm.bJ u,hcu] at q1 q3;have b1:J.length+1<9223372036854775808:=by omega
    have b2:V.length+1<9223372036854775808:=by omega
    have b3:J.length+1+(V.length+1)<9223372036854775808:=by omega
    have b4:J.length+(V.length+1)+1<9223372036854775808:=by omega
    have b5:J.length+(V.length+1)+1+1<9223372036854775808:=by omega
    have b6:J.length+1+(V.length+1)+1<9223372036854775808:=by omega
    have b7:J.length+1+1<9223372036854775808:=by omega
    have b8:1+J.length<9223372036854775808:=by omega
    have b9:1+V.length<9223372036854775808:=by omega
    have jI:=dN T;have e3:=nA u.aC [91,93];by_cases c1:u.ah<2
    .rcases bj hx with⟨rfl,rfl⟩|rfl<;>
     simp[Cn,c138,fb,ez,cp,dI,cP,-dp,-cF,q1,q2,q3,tY,TQ,aaT,aE,eU,jI,b1,b2,b3,b4,b5,b6,b7,b8,b9,c1]
    by_cases c2:u.aC=[91,93]
    .by_cases c3:u.aa.length=0
     .have c3':(0<(u.aa.length:Int))=False:=eq_false (by omega);rcases bj hx with⟨rfl,rfl⟩|rfl<;>
      simp[Cn,c138,fb,ez,cp,dI,cP,-dp,-cF,q1,q2,tY,TQ,aaT,aE,eU,jI,b1,b2,b3,b4,b5,b6,b7,b8,b9,c1,c2,c3]
     .have c3':(0<u.aa.length)=True:=eq_true (by omega);rw[c2] at q1 q3;rcases bj hx with⟨rfl,rfl⟩|rfl<;>
      simp[Cn,c138,fb,ez,cp,dI,cP,-dp,-cF,q1,q2,q3,tY,TQ,aaT,aE,eU,jI,b1,b2,b3,b4,b5,b6,b7,b8,b9,c1,c2,c3,c3']
    .have e4:(u.aC==[91,93])=false:=by rw[e3];exact decide_eq_false c2
     rcases bj hx with⟨rfl,rfl⟩|rfl<;>
     simp[Cn,c138,fb,ez,cp,dI,cP,-dp,-cF,q1,q2,q3,tY,TQ,aaT,aE,eU,jI,b1,b2,b3,b4,b5,b6,b7,b8,b9,c1,c2,e4]
   .cases hv
  .cases hv
 .cases hv
theorem Nw(o:aY)(h:0<=o.l/\o.l<=1200):-1<=(ax o).1/\(ax o).1<=1200/\-1<=(ax o).2/\(ax o).2<=1200:=by
 unfold ax
 repeat' split
 all_goals (dsimp only;omega)
noncomputable def td(N:Nat):cq:=⟨140,λ
 |[.ptr 0 0,w,v],os=>(match B4 os,n9 w,il v with
   |some W,some o,some t=>if vZ t/\t.aa.length=2/\t.size<=N/\0<=o.l/\o.l<=1200 then some (.str (opW W.T W.b (iZ W.ps) o t),none) else none
   |_,_,_=>none)
 |_,_=>none⟩
theorem gk(N:Nat):(td N).f=140:=(rfl)
theorem Sj(N:Nat){x:AV}{T:List aY}(hx:a8 x=some T)(b:Bool)(ps:List (Int×Int))(hT:T.length<1000000)(hp:pC ps=true)(o:aY)(t:Tm)(h:vZ t/\t.aa.length=2/\t.size<=N/\0<=o.l/\o.l<=1200):
 (td N).S [.ptr 0 0,o.aR,t.aR] (kQ x b ps)=some (.str (opW T b (iZ ps) o t),none):=by
 simp only[td,oD hx b ps hT hp,ew,DH];rw[if_pos h]
theorem Sx(N:Nat)(hN:cr Tryz.prog bV (gC N)):cr Tryz.prog bV (td N):=λaa os v r hv=>by
 unfold td at hv;dsimp only at hv;split at hv
 .rename_i w v0 os;split at hv
  .rename_i W o t hW ho ht;split at hv
   .rename_i hc;cases hv;obtain⟨x,hx,rfl,hT,hp⟩:=mi hW;obtain⟨T,b,ps⟩:=W;dsimp only at hx hT hp|-;rw[dY ht,l8 ho,gk];obtain⟨cK,h2,hsN,hl⟩:=hc;have hE:bY Tryz.prog bV (cg [oc,kS] [jg,gC N]):=dW (by simp[wo.lift,vE]) (by simp[hN,BU.lift]);obtain⟨y,z,ha,X3,hy,hz⟩:=Kn h2;have hs:=bP t;rw[ha] at hs;simp only[Tm.bE] at hs;have oky:=gO cK (y:=y) (by rw[ha];simp);have okz:=gO cK (y:=z) (by rw[ha];simp);have q1:=kl o hl;have q2:=BR hx b ps hT hp y;have q3:=oP t.aC;have q4:=kv N hx b ps hT hp y ⟨oky,by omega⟩ (oh T b o t) true;have q5:=kv N hx b ps hT hp z ⟨okz,by omega⟩ (ax o).2 true;have l4:=qM T b (iZ ps) (nz hp) y (oh T b o t) true oky;have l5:=qM T b (iZ ps) (nz hp) z (ax o).2 true okz;have hg:=cK.1;simp only[dt,Bool.and_eq_true,decide_eq_true_eq] at hg;have hq:=jL (EY cK);have hsr:=Nw o hl;refine qu (n:=6) (m:=2) hE hx ?_ (by simp[AV.aK]) (by simp[AV.aj,Tm.cm,AV.aK,aY.aR,aY.cells]);unfold opW uv;rw[hy,hz];have hls:(wF T b (iZ ps) y (oh T b o t) true).length<1000000:=by omega
    have hrs:(wF T b (iZ ps) z (ax o).2 true).length<1000000:=by omega
    generalize wF T b (iZ ps) y (oh T b o t) true=A at *;generalize wF T b (iZ ps) z (ax o).2 true=B at *;unfold oh isLeft at q4;rw[hy] at q4;have w1:IntKind.i64.wrap ((ax o).1-1)=(ax o).1-1:=wrap_i64 (by omega) (by omega);generalize ax o=sd at *;obtain⟨s1,s2⟩:=sd;generalize bd t.aC=Q at *;generalize eT T b y=I at *;obtain⟨⟨i1,i2,i3⟩,i4⟩:=I;dsimp only at q1 q2 q4 q5 w1;have eR:=Tm.bG t;have MM:=Tm.bG y;have hcz:=Tm.bG z;have rU:=ar y;have Yk:=ar z;simp only[kQ,aY.aR,aY.cells] at q2 q4 q5;rw[Tm.bJ t,eR,X3];rw[Tm.bJ y,MM] at q2 q4|-;rw[Tm.bJ z,hcz] at q5|-;obtain⟨on,ok,ol⟩:=o;dsimp only at q1 q4;have b1:Q.length+1<9223372036854775808:=by omega
    have b2:Q.length+1+1<9223372036854775808:=by omega
    have b3:A.length+1<9223372036854775808:=by omega
    have b4:A.length+1+B.length<9223372036854775808:=by omega
    have b5:A.length+(Q.length+1+1)<9223372036854775808:=by omega
    have b6:A.length+(Q.length+1+1)+B.length<9223372036854775808:=by omega
    have b7:1+Q.length<9223372036854775808:=by omega
    have b8:A.length+(1+B.length)<9223372036854775808:=by omega
    have jI:=dN T;have e3:=nA ok [121,102,120];have e4:=nA i2 [121,102,120];have e5:=nA t.aC [44]
    have key:∀(n:List UInt8) (hn:t.aC=n) (sg:List UInt8),sg=(if n=[44] then [44] else [32]++Q++[32])->
     aH (cg [oc,kS] [jg,gC N]) 6 140 [.ptr 0 0,(⟨on,ok,ol⟩:aY).aR,.agg [.int .i64 t.ah,.int .i64 t.bx,.str n,.sl [.agg [.int .i64 y.ah,.int .i64 y.bx,.str y.aC,y.bH],.agg [.int .i64 z.ah,.int .i64 z.bx,.str z.aC,z.bH]]]] ⟨2,[.map (gR ps),.row [x,.bool b,.map 1]],2,2⟩=
      some (.str (A++sg++B),⟨2,[.map (gR ps),.row [x,.bool b,.map 1]],2,2⟩):=λn hn sg hsg=>by
     rw[hn] at q3;have e5':=nA n [44];rw[hsg];by_cases g1:ok=[121,102,120]
     .have g1':(ok==[121,102,120])=true:=by rw[e3];exact decide_eq_true g1
      subst g1
      cases i4 with
      |false=>
        simp only[decide_true,Bool.false_and,Bool.not_false,Bool.and_self,if_true] at q4;by_cases g3:n=[44]
        .subst g3;rcases bj hx with⟨rfl,rfl⟩|rfl<;>
         simp[pV,Dm,dL,ca,cO,cp,dI,cP,-dp,-cF,q1,q2,q4,q5,w1,rU,Yk,aE,jI,b1,b2,b3,b4,b5,b6,b7,b8,aY.aR,aY.cells]
        .have g3':(n==[44])=false:=by rw[e5'];exact decide_eq_false g3
         rcases bj hx with⟨rfl,rfl⟩|rfl<;>
         simp[pV,Dm,dL,ca,cO,cp,dI,cP,-dp,-cF,q1,q2,q3,q4,q5,w1,rU,Yk,aE,jI,b1,b2,b3,b4,b5,b6,b7,b8,g3,g3',aY.aR,aY.cells]
      |true=>
        by_cases g2:i2=[121,102,120]
        .subst g2;simp only[decide_true,Bool.and_self,Bool.not_true,Bool.and_false,Bool.false_eq_true,if_false] at q4;by_cases g3:n=[44]
         .subst g3;rcases bj hx with⟨rfl,rfl⟩|rfl<;>
          simp[pV,Dm,dL,ca,cO,cp,dI,cP,-dp,-cF,q1,q2,q4,q5,rU,Yk,aE,jI,b1,b2,b3,b4,b5,b6,b7,b8,aY.aR,aY.cells]
         .have g3':(n==[44])=false:=by rw[e5'];exact decide_eq_false g3
          rcases bj hx with⟨rfl,rfl⟩|rfl<;>
          simp[pV,Dm,dL,ca,cO,cp,dI,cP,-dp,-cF,q1,q2,q3,q4,q5,rU,Yk,aE,jI,b1,b2,b3,b4,b5,b6,b7,b8,g3,g3',aY.aR,aY.cells]
        .have g2':(i2==[121,102,120])=false:=by rw[e4];exact decide_eq_false g2
         rw[decide_eq_false g2] at q4;simp only[decide_true,Bool.and_false,Bool.not_false,Bool.and_self,if_true] at q4;by_cases g3:n=[44]
         .subst g3;rcases bj hx with⟨rfl,rfl⟩|rfl<;>
          simp[pV,Dm,dL,ca,cO,cp,dI,cP,-dp,-cF,q1,q2,q4,q5,w1,rU,Yk,aE,jI,b1,b2,b3,b4,b5,b6,b7,b8,g2,g2',aY.aR,aY.cells]
         .have g3':(n==[44])=false:=by rw[e5'];exact decide_eq_false g3
          rcases bj hx with⟨rfl,rfl⟩|rfl<;>
          simp[pV,Dm,dL,ca,cO,cp,dI,cP,-dp,-cF,q1,q2,q3,q4,q5,w1,rU,Yk,aE,jI,b1,b2,b3,b4,b5,b6,b7,b8,g2,g2',g3,g3',aY.aR,aY.cells]
     .have g1':(ok==[121,102,120])=false:=by rw[e3];exact decide_eq_false g1
      rw[decide_eq_false g1] at q4;simp only[Bool.false_and,Bool.false_eq_true,if_false] at q4;by_cases g3:n=[44]
      .subst g3;rcases bj hx with⟨rfl,rfl⟩|rfl<;>
       simp[pV,Dm,dL,ca,cO,cp,dI,cP,-dp,-cF,q1,q2,q4,q5,rU,Yk,aE,jI,b1,b2,b3,b4,b5,b6,b7,b8,g1,g1',aY.aR,aY.cells]
      .have g3':(n==[44])=false:=by rw[e5'];exact decide_eq_false g3
       rcases bj hx with⟨rfl,rfl⟩|rfl<;>
       simp[pV,Dm,dL,ca,cO,cp,dI,cP,-dp,-cF,q1,q2,q3,q4,q5,rU,Yk,aE,jI,b1,b2,b3,b4,b5,b6,b7,b8,g1,g1',g3,g3',aY.aR,aY.cells]
    exact key t.aC rfl _ rfl
   .cases hv
  .cases hv
 .cases hv
theorem R4(N:Nat){x:AV}{T:List aY}(hx:a8 x=some T)(b:Bool)(ps:List (Int×Int))(hT:T.length<1000000)(hp:pC ps=true)(t:Tm)(h:N<=t.size)(n:Int)(bs:Bool):
 (gC N).S [.ptr 0 0,t.aR,.int .i64 n,.bool bs] (kQ x b ps)=none:=by
 simp only[gC,oD hx b ps hT hp,ew];rw[if_neg (by omega)]
theorem Ja(t:Tm):si t.bH=some t.aa:=by
 cases t with
 |nl k n s=>rfl
 |mk k n s us=>simp[si,Tm.bH,Tm.aa,<-lq,lJ]
noncomputable def ssT:List aZ:=[Bv,kY,kS,oc]
noncomputable def msT(N:Nat):List cq:=[yR,sW N,jg,qO,td N,nC N,gC N]
theorem Ue(N:Nat)(x:AV)(T:List aY)(b:Bool)(ps:List (Int×Int))(hx:a8 x=some T)(hT:T.length<1000000)(hp:pC ps=true)(t:Tm)(cK:vZ t)(hsN:t.size=N)(n:Int)(bs:Bool):
 aH (cg ssT (msT N)) 6 98 [.ptr 0 0,t.aR,.int .i64 n,.bool bs] ⟨2,[.map (gR ps),.row [x,.bool b,.map 1]],2,2⟩=some (.str (wF T b (iZ ps) t n bs),⟨2,[.map (gR ps),.row [x,.bool b,.map 1]],2,2⟩):=by
 rw[afW T b (iZ ps) t n bs cK];have Cm:=R4 N hx b ps hT hp t (by omega) n bs;have di:=fj hx;have jI:=dN T;have tY:=ar t;have eU:=yg t;have hs:=bP t;have hg:=cK.1;simp only[dt,Bool.and_eq_true,decide_eq_true_eq] at hg;have qq:=EY cK;have hq:=jL qq;have eR:=Tm.bG t;have MF:t.aR=.agg [.int .i64 t.ah,.int .i64 t.bx,.str t.aC,t.bH]:=by rw[Tm.bJ,eR]
 simp only[ssT,msT];simp only[kQ] at Cm;rw[MF] at Cm;by_cases k0:t.ah=0
 .rw[if_pos k0,MF];rw[k0] at Cm|-;have hm:=TX t.bx ps;have hr:=wh hp t.bx;have q1:=KH (vy ps t.bx) (by omega);have wy:=wi (vy ps t.bx) (by omega);unfold iZ;unfold vy at q1 wy|-;have b1:(bz ((Jv t.bx ps).getD 0)).length+1<9223372036854775808:=by omega
  have b2:1+(bz ((Jv t.bx ps).getD 0)).length<9223372036854775808:=by omega
  cases tZ:Jv t.bx ps with
  |none=>
    rw[tZ] at hm q1 b1 b2;simp only[Option.map_none,Option.getD_none] at hm q1 b1 b2;rcases bj hx with⟨rfl,rfl⟩|rfl<;>
    simp[lN,Ju,ja,eD,ca,dL,iv,gg,cO,gd,gk,ez,cp,dI,cP,-dp,-cF,og,Cm,tY,aE,eU,jI,di,hm,q1,b1,b2,af.hP]
  |some i=>
    rw[tZ] at hm q1 b1 b2;simp only[Option.map_some,Option.getD_some] at hm q1 b1 b2;rcases bj hx with⟨rfl,rfl⟩|rfl<;>
    simp[lN,Ju,ja,eD,ca,dL,iv,gg,cO,gd,gk,ez,cp,dI,cP,-dp,-cF,og,Cm,tY,aE,eU,jI,di,hm,q1,b1,b2,af.hP]
 rw[if_neg k0];by_cases k1:t.ah=1
 .rw[if_pos k1,MF];rw[k1] at Cm|-;have hr:=Cq cK;have q1:=KH t.bx hr;have wy:=wi t.bx hr;have q2:=λc=>qo (bz t.bx) c (by omega)
  cases bs with
  |false=>
    rcases bj hx with⟨rfl,rfl⟩|rfl<;>
    simp[lN,Ju,ja,eD,ca,dL,iv,gg,cO,gd,gk,ez,cp,dI,cP,-dp,-cF,og,Cm,tY,aE,eU,jI,di,q1,q2]
  |true=>
    by_cases c1:t.bx<0
    all_goals
     rcases bj hx with⟨rfl,rfl⟩|rfl<;>
     simp[lN,Ju,ja,eD,ca,dL,iv,gg,cO,gd,gk,ez,cp,dI,cP,-dp,-cF,og,Cm,tY,aE,eU,jI,di,q1,q2,c1]
 rw[if_neg k1];by_cases k2:t.aa.length=0
 .rw[if_pos k2,MF];have q1:=Ut hx b ps hT hp t.aC qq n bs;simp only[kQ] at q1;have Cl:((t.aa.length:Int)=0)=True:=eq_true (by omega);rcases bj hx with⟨rfl,rfl⟩|rfl<;>
  simp[lN,Ju,ja,eD,ca,dL,iv,gg,cO,gd,gk,ez,cp,dI,cP,-dp,-cF,og,Cm,tY,aE,eU,jI,di,k0,k1,k2,Cl,q1]
 rw[if_neg k2];have Cl:((t.aa.length:Int)=0)=False:=eq_false (by omega);have e46:=nA t.aC [46];have aon:=nA t.aC [123,125];by_cases k3:((b&&decide (t.aC=[46]))&&decide (t.aa.length=2))=true
 .rw[if_pos k3];have k3c:=k3;simp only[Bool.and_eq_true,decide_eq_true_eq] at k3
  have Al:gj t=true:=by
   have hk:t.ah=2:=by
    rcases rB cK with k|k|k
    .exact absurd k k0
    .exact absurd k k1
    .exact k
   simp[gj,hk,k3.1.2,k3.2]
  have q1:=SD N hx b ps hT hp t ⟨cK,Al,by omega⟩;simp only[kQ] at q1;rw[MF] at q1|-;have c1:b=true:=k3.1.1;have c2:(t.aC==[46])=true:=by rw[e46];exact decide_eq_true k3.1.2
  have c3:((t.aa.length:Int)=2)=True:=eq_true (by omega);subst c1;rcases bj hx with⟨rfl,rfl⟩|rfl<;>
  simp[lN,Ju,ja,eD,ca,dL,iv,gg,cO,gd,gk,ez,cp,dI,cP,-dp,-cF,og,Cm,tY,aE,eU,jI,di,k0,k1,k2,Cl,c2,c3,k3.2,q1]
 rw[if_neg k3]
 -- the two tests,as the run makes them
 have de:∀(fr:List AV) (h:af) (o:cX),o.ev fr=t.bH->bC fr h (.xn o)=some (.int .i64 t.aa.length,h):=eU;by_cases k4:((b&&decide (t.aC=[123,125]))&&decide (t.aa.length=1))=true
 .rw[if_pos k4];simp only[Bool.and_eq_true,decide_eq_true_eq] at k4;obtain⟨y,ha,X3,hy⟩:=C5 k4.2;have oky:=gO cK (y:=y) (by rw[ha];simp);have hsy:y.size<N:=by rw[ha] at hs;simp only[Tm.bE] at hs;omega
  have q1:=kv N hx b ps hT hp y ⟨oky,hsy⟩ 1200 false;have l1:=qM T b (iZ ps) (nz hp) y 1200 false oky;rw[hy];generalize wF T b (iZ ps) y 1200 false=A at *;have b1:A.length+1<9223372036854775808:=by omega
  have b2:A.length+1+1<9223372036854775808:=by omega
  have b3:1+A.length<9223372036854775808:=by omega
  have MM:=Tm.bG y;have rU:=ar y;simp only[kQ] at q1;rw[Tm.bJ y,MM] at q1;rw[X3,Tm.bJ y,MM] at Cm;rw[MF,X3,Tm.bJ y,MM];have c1:b=true:=k4.1.1;have c2:t.aC=[123,125]:=k4.1.2;subst c1;rw[c2] at Cm|-;rcases bj hx with⟨rfl,rfl⟩|rfl<;>
  simp[lN,Ju,ja,eD,ca,dL,iv,gg,cO,gd,gk,ez,cp,dI,cP,-dp,-cF,og,Cm,tY,aE,eU,jI,di,k0,k1,q1,rU,b1,b2,b3]
 rw[if_neg k4];have aoo:∀(R:Option (AV×af)),(∀(c d:Bool),((b&&decide (t.aC=[46]))&&decide (t.aa.length=2))=false->((b&&decide (t.aC=[123,125]))&&decide (t.aa.length=1))=false->True)->True:=λ_ _=>trivial
 -- the name and the number of Args fail the two tests
 have c46:b=true->(t.aC==[46])=true->((t.aa.length:Int)=2)=False:=λh1 h2=>eq_false λh3=>k3 (by rw[h1];simp only[Bool.true_and,Bool.and_eq_true,decide_eq_true_eq];exact⟨by simpa using h2,by omega⟩)
 have aeH:b=true->(t.aC==[123,125])=true->((t.aa.length:Int)=1)=False:=λh1 h2=>eq_false λh3=>k4 (by rw[h1];simp only[Bool.true_and,Bool.and_eq_true,decide_eq_true_eq];exact⟨by simpa using h2,by omega⟩)
 have q2:=BR hx b ps hT hp t;have q3:=To hx b ps hT hp t;by_cases k5:(eT T b t).2=true
 .rw[if_pos k5]
  have hi:b=true/\t.aa.length=2/\¬t.aC=[46]:=by
   unfold eT at k5;split at k5
   .cases k5
   .rename_i hc;simp at hc;exact⟨hc.1.1,hc.1.2,hc.2⟩
  obtain⟨c1,c2,c3⟩:=hi
  have FX:0<=(eT T b t).1.l/\(eT T b t).1.l<=1200:=by
   unfold eT;split
   .exact⟨Int.le_refl 0,by simp[fF]⟩
   .exact kq _ _ _
  have q4:=Sj N hx b ps hT hp (eT T b t).1 t ⟨cK,c2,by omega,FX⟩
  have hol:(opW T b (iZ ps) (eT T b t).1 t).length<1000000:=by obtain⟨y,z,ha,X3,hy,hz⟩:=Kn c2;unfold opW;rw[hy,hz];rw[ha] at hs;simp only[Tm.bE] at hs;have l4:=qM T b (iZ ps) (nz hp) y (oh T b (eT T b t).1 t) true (gO cK (by rw[ha];simp));have l5:=qM T b (iZ ps) (nz hp) z (ax (eT T b t).1).2 true (gO cK (by rw[ha];simp));have:=GZ qq;simp only[List.length_append];omega
  have q5:=λc=>qo (opW T b (iZ ps) (eT T b t).1 t) c (by omega)
  generalize opW T b (iZ ps) (eT T b t).1 t=A at *;generalize eT T b t=I at *;obtain⟨⟨i1,i2,i3⟩,i4⟩:=I;dsimp only at k5 q2 q4 q5;simp only[kQ,aY.aR,aY.cells] at q2 q4;rw[MF] at q2 q4|-;have d1:(t.aC==[46])=false:=by rw[e46];exact decide_eq_false c3
  have d2:((t.aa.length:Int)=2)=True:=eq_true (by omega);have d3:((t.aa.length:Int)=1)=False:=eq_false (by omega);subst c1 k5
  have fin:∀(e:Bool),(t.aC==[123,125])=e->aH (cg [Bv,kY,kS,oc] [yR,sW N,jg,qO,td N,nC N,gC N]) 6 98 [.ptr 0 0,.agg [.int .i64 t.ah,.int .i64 t.bx,.str t.aC,t.bH],.int .i64 n,.bool bs] ⟨2,[.map (gR ps),.row [x,.bool true,.map 1]],2,2⟩=some (.str (FO A (decide (n<i3))),⟨2,[.map (gR ps),.row [x,.bool true,.map 1]],2,2⟩):=λe he=>by
   cases e with
   |false=>
     rcases bj hx with⟨rfl,rfl⟩|rfl<;>
      simp[lN,Ju,ja,eD,ca,dL,iv,gg,cO,gd,gk,ez,cp,dI,cP,-dp,-cF,og,Cm,tY,aE,eU,jI,di,k0,k1,k2,Cl,d1,d2,d3,c2,c3,he,q2,q4,q5]
   |true=>
     have MN:t.aC=[123,125]:=by simpa using he
     rw[MN] at Cm q2 q4 d1|-;rcases bj hx with⟨rfl,rfl⟩|rfl<;>
     simp[lN,Ju,ja,eD,ca,dL,iv,gg,cO,gd,gk,ez,cp,dI,cP,-dp,-cF,og,Cm,tY,aE,eU,jI,di,k0,k1,k2,Cl,d2,d3,c2,q2,q4,q5]
  exact fin _ rfl
 rw[if_neg k5];have O5:(eT T b t).2=false:=by simpa using k5
 have TI:jg.S [.ptr 0 0,t.aR] (kQ x b ps)=some (.tuple [(eT T b t).1.aR,.bool false],none):=by rw[q2,O5]
 clear q2;generalize eT T b t=I at *;obtain⟨⟨i1,i2,i3⟩,i4⟩:=I;dsimp only at TI
 -- what both tests come to,by cases
 have amU:∀(V:List UInt8) (hV:∀(nm:List UInt8),nm=t.aC->∀(c1:b=true->(nm==[46])=true->((t.aa.length:Int)=2)=False) (c2:b=true->(nm==[123,125])=true->((t.aa.length:Int)=1)=False),True),True:=λ_ _=>trivial
 by_cases k6:(iS T b t).2=true
 .rw[if_pos k6]
  have hi:b=true/\t.aa.length=1:=by
   unfold iS at k6;split at k6
   .cases k6
   .rename_i hc;simp at hc;exact⟨hc.1.1.1,hc.1.1.2⟩
  obtain⟨c1,c2⟩:=hi
  have FX:0<=(iS T b t).1.l/\(iS T b t).1.l<=1200:=by
   unfold iS;split
   .exact⟨Int.le_refl 0,by simp[fF]⟩
   .exact kq _ _ _
  obtain⟨y,ha,X3,hy⟩:=C5 c2;have oky:=gO cK (y:=y) (by rw[ha];simp);have hsy:y.size<N:=by rw[ha] at hs;simp only[Tm.bE] at hs;omega
  have q4:=kl (iS T b t).1 FX;have q6:=kv N hx b ps hT hp y ⟨oky,hsy⟩ (ax (iS T b t).1).2 true;have l1:=qM T b (iZ ps) (nz hp) y (ax (iS T b t).1).2 true oky;have q7:=oP t.aC;rw[hy];generalize wF T b (iZ ps) y (ax (iS T b t).1).2 true=A at *;generalize ax (iS T b t).1=sd at *;obtain⟨s1,s2⟩:=sd;dsimp only at q4 q6;have hqs:(bd t.aC++[32]++A).length<1000000:=by simp only[List.length_append,List.length_cons,List.length_nil];omega
  have q8:=λc=>qo (bd t.aC++[32]++A) c (by omega)
  have b1:(bd t.aC).length+1<9223372036854775808:=by omega
  have b2:(bd t.aC).length+1+A.length<9223372036854775808:=by omega
  have b3:(bd t.aC).length+(A.length+1)<9223372036854775808:=by omega
  generalize bd t.aC=Q at *;generalize iS T b t=P at *;obtain⟨⟨p1,p2,p3⟩,p4⟩:=P;dsimp only at k6 q3 q4;have MM:=Tm.bG y;have rU:=ar y;simp only[kQ,aY.aR,aY.cells] at q3 q4 q6 TI;rw[MF,X3,Tm.bJ y,MM] at q3 TI;rw[Tm.bJ y,MM] at q6;rw[X3,Tm.bJ y,MM] at Cm;rw[MF,X3,Tm.bJ y,MM];subst c1 k6
  have d3:(t.aC==[123,125])=false:=by
   cases hb:t.aC==[123,125] with
   |false=>rfl
   |true=>have:=aeH rfl hb;rw[c2] at this;simp at this
  have d4:¬t.aC=[123,125]:=λe=>by rw[e] at d3;simp at d3
  simp only[List.append_assoc,List.cons_append,List.nil_append] at q8
  have fin:∀(e:Bool),(t.aC==[46])=e->aH (cg [Bv,kY,kS,oc] [yR,sW N,jg,qO,td N,nC N,gC N]) 6 98 [.ptr 0 0,.agg [.int .i64 t.ah,.int .i64 t.bx,.str t.aC,.sl [.agg [.int .i64 y.ah,.int .i64 y.bx,.str y.aC,y.bH]]],.int .i64 n,.bool bs] ⟨2,[.map (gR ps),.row [x,.bool true,.map 1]],2,2⟩=some (.str (FO (Q++[32]++A) (decide (n<p3))),⟨2,[.map (gR ps),.row [x,.bool true,.map 1]],2,2⟩):=λe he=>by
   cases e with
   |false=>
     rcases bj hx with⟨rfl,rfl⟩|rfl<;>
      simp[lN,Ju,ja,eD,ca,dL,iv,gg,cO,gd,gk,ez,cp,dI,cP,-dp,-cF,og,Cm,tY,aE,eU,jI,di,k0,k1,d3,d4,he,TI,q3,q4,q6,q7,q8,rU,b1,b2,b3]
   |true=>
     have MN:t.aC=[46]:=by simpa using he
     rw[MN] at Cm q3 TI q7|-;rcases bj hx with⟨rfl,rfl⟩|rfl<;>
     simp[lN,Ju,ja,eD,ca,dL,iv,gg,cO,gd,gk,ez,cp,dI,cP,-dp,-cF,og,Cm,tY,aE,eU,jI,di,k0,k1,TI,q3,q4,q6,q7,q8,rU,b1,b2,b3]
  exact fin _ rfl
 rw[if_neg k6];have k6':(iS T b t).2=false:=by simpa using k6
 have hq6:qO.S [.ptr 0 0,t.aR] (kQ x b ps)=some (.tuple [(iS T b t).1.aR,.bool false],none):=by rw[q3,k6']
 clear q3;generalize iS T b t=P at *;obtain⟨⟨p1,p2,p3⟩,p4⟩:=P;dsimp only at hq6;have q7:=oP t.aC;have ah3:∀y∈t.aa,vZ y/\y.size<N:=λy hy=>⟨gO cK hy,by have:=mw hy;omega⟩
 have q8:=Da N hx b ps hT hp (Ja t) ⟨ah3,by omega⟩;have j1:=rk [44] (t.aa.map λy=>wF T b (iZ ps) y 999 false);have j2:=AW (f:=λy=>(wF T b (iZ ps) y 999 false).length) t.aa (λy hy=>qM T b (iZ ps) (nz hp) y 999 false (ah3 y hy).1);rw[List.map_map] at j1;have j4:(Lib.join (t.aa.map λy=>wF T b (iZ ps) y 999 false) [44]).length<=150*Tm.bE t.aa:=Nat.le_trans j1 j2;generalize Lib.join (t.aa.map λy=>wF T b (iZ ps) y 999 false) [44]=J at *;have b1:(bd t.aC).length+1<9223372036854775808:=by omega
 have b2:(bd t.aC).length+1+J.length<9223372036854775808:=by omega
 have b3:(bd t.aC).length+(J.length+1)<9223372036854775808:=by omega
 have b4:(bd t.aC).length+(J.length+1)+1<9223372036854775808:=by omega
 have b5:(bd t.aC).length+1+J.length+1<9223372036854775808:=by omega
 generalize bd t.aC=Q at *;simp only[kQ,aY.aR,aY.cells] at TI hq6 q8;rw[MF] at TI hq6|-
 have fin:∀(nm:List UInt8),t.aC=nm->∀e1 e2:Bool,(nm==[46])=e1->(nm==[123,125])=e2->aH (cg [Bv,kY,kS,oc] [yR,sW N,jg,qO,td N,nC N,gC N]) 6 98 [.ptr 0 0,.agg [.int .i64 t.ah,.int .i64 t.bx,.str nm,t.bH],.int .i64 n,.bool bs] ⟨2,[.map (gR ps),.row [x,.bool b,.map 1]],2,2⟩=some (.str (Q++[40]++J++[41]),⟨2,[.map (gR ps),.row [x,.bool b,.map 1]],2,2⟩):=λnm qq e1 e2 he1 he2=>by
  rw[qq] at Cm TI hq6 q7 c46 aeH
  cases b with
  |false=>
   rcases bj hx with⟨rfl,rfl⟩|rfl<;>
   simp[lN,Ju,ja,eD,ca,dL,iv,gg,cO,gd,gk,ez,cp,dI,cP,-dp,-cF,og,Cm,tY,aE,eU,jI,di,k0,k1,k2,Cl,TI,hq6,q7,q8,b1,b2,b3,b4,b5]
  |true=>
    cases e1 with
    |true=>
      have d1:=c46 rfl he1;have MN:nm=[46]:=by simpa using he1
      subst MN;rcases bj hx with⟨rfl,rfl⟩|rfl<;>
      simp[lN,Ju,ja,eD,ca,dL,iv,gg,cO,gd,gk,ez,cp,dI,cP,-dp,-cF,og,Cm,tY,aE,eU,jI,di,k0,k1,k2,Cl,d1,TI,hq6,q7,q8,b1,b2,b3,b4,b5]
    |false=>
      have n1:¬nm=[46]:=by simpa using he1
      cases e2 with
      |true=>
        have d1:=aeH rfl he2;have MN:nm=[123,125]:=by simpa using he2
        subst MN;rcases bj hx with⟨rfl,rfl⟩|rfl<;>
        simp[lN,Ju,ja,eD,ca,dL,iv,gg,cO,gd,gk,ez,cp,dI,cP,-dp,-cF,og,Cm,tY,aE,eU,jI,di,k0,k1,k2,Cl,d1,TI,hq6,q7,q8,b1,b2,b3,b4,b5]
      |false=>
        have n2:¬nm=[123,125]:=by simpa using he2
        rcases bj hx with⟨rfl,rfl⟩|rfl<;>
        simp[lN,Ju,ja,eD,ca,dL,iv,gg,cO,gd,gk,ez,cp,dI,cP,-dp,-cF,og,Cm,tY,aE,eU,jI,di,k0,k1,k2,Cl,he1,he2,n1,n2,TI,hq6,q7,q8,b1,b2,b3,b4,b5]
 exact fin t.aC rfl _ _ rfl rfl
theorem LU:cr Tryz.prog bV (gC 0):=λaa os v r hv=>by
 unfold gC at hv;dsimp only at hv;split at hv
 .split at hv
  .split at hv
   .rename_i hc;exact absurd hc.2 (by omega)
   .cases hv
  .cases hv
 .cases hv
theorem J2(N:Nat)(hN:cr Tryz.prog bV (gC N)):cr Tryz.prog bV (gC (N+1)):=λaa os v r hv=>by
 have hv0:=hv;unfold gC at hv;dsimp only at hv;split at hv
 .rename_i v0 n bs os;split at hv
  .rename_i W t hW ht;split at hv
   .rename_i hc;cases hv;by_cases de:t.size<N
    .refine hN _ _ _ _ ?_;obtain⟨x,hx,rfl,hT,hp⟩:=mi hW;rw[dY ht];exact kv N hx W.b W.ps hT hp t ⟨hc.1,de⟩ _ _
    .obtain⟨x,hx,rfl,hT,hp⟩:=mi hW;obtain⟨T,b,ps⟩:=W;dsimp only at hx hT hp|-;rw[dY ht,cp];have hE:bY Tryz.prog bV (cg ssT (msT N)):=dW (by simp[ssT,WD,BF.lift,vE,wo.lift]) (by simp[msT,VK,Tb N hN,BU.lift,RL,Sx N hN,DX N hN,hN]);exact qu hE hx (Ue N x T b ps hx hT hp t hc.1 (by omega) _ _) (by simp[AV.aK]) (by simp[AV.aj,Tm.cm,AV.aK])
   .cases hv
  .cases hv
 .cases hv
theorem Ed:∀N,cr Tryz.prog bV (gC N)
 |0=>LU
 |N+1=>J2 N (Ed N)
theorem jh{fr:List AV}{h:af}(kd:Nat)(m k v:cX):bC fr h (.Yd kd m k v)=match m.ev fr with
 |.map id=>match h.hP id with
   |some es=>(va kd (k.ev fr) (v.ev fr) es).map λum=>(.undef,((h.set id (.map um)).mark id (v.ev fr)).mark id (k.ev fr))
   |none=>none
 |_=>none:=rfl
def mp(vs:List Int):List (AV×AV):=vs.map λv=>(.int .i64 v,.bool true)
theorem yE(v:Int):∀vs:List Int,oj 1 (.int .i64 v) (mp vs)=some (if v∈vs then some (.bool true) else none)
 |[]=>rfl
 |w::r=>by
   have ih:=yE v r;unfold mp at ih|-;simp only[List.map_cons,oj,List.mem_cons];by_cases h:v=w
   .subst h;simp[ij]
   .simp[ij,h,ih]
theorem MP(v:Int):∀vs:List Int,v∉vs->va 1 (.int .i64 v) (.bool true) (mp vs)=some (mp (vs++[v]))
 |[],_=>rfl
 |w::r,h=>by
   have ih:=MP v r (λhh=>h (List.mem_cons_of_mem _ hh));have hw:¬v=w:=λe=>h (by simp[e])
   unfold mp at ih|-;simp only[List.map_cons,List.cons_append,va];simp[ij,hw,ih]
def ints(vs:List Int):List AV:=vs.map λv=>.int .i64 v
theorem eo:∀vs:List Int,AV.aj (ints vs)=0
 |[]=>rfl
 |v::r=>by have:=eo r;unfold ints at this|-;simp[AV.aj,AV.aK,this]
def db(T:Tm)(cv:AV)(vs:List Int):List aS:=[.row T.cells,.row [.map 2],.map (mp vs),.row [cv],.row T.cells]
theorem Ws(n:Nat)(x T:Tm)(R:List AV)(md:Nat)(dh:md<=4)(hx:x.ah=0):
 aH (cV [eE]) (n+1) 127 [x.aR,.ptr 3 0,.ptr 1 0] ⟨7,.row x.cells::.row R::db T .aD [],6,md⟩=
  some (.bool true,⟨10,.row [.int .i64 x.bx]::.row [.int .i64 x.bx]::.row x.cells::.row x.cells::.row R::db T (.vec 9 0 1 1 1) [x.bx],1,min md 1⟩):=by
 have fp:=Tm.bJ x;have eR:=Tm.bG x;have di:=ar x;simp only[db];rw[fp,eR,hx];simp[qN,c127,aV,aV,aV,aE,di,aI,jh,af.hP,mp,oj,va]
theorem VQ(n:Nat)(x T:Tm)(R:List AV)(md:Nat)(dh:md<=4)(hx:x.ah≠0):
 aH (cV [eE]) (n+1) 127 [x.aR,.ptr 3 0,.ptr 1 0] ⟨7,.row x.cells::.row R::db T .aD [],6,md⟩=
  some (.bool true,⟨7,.row x.cells::.row R::db T .aD [],6,md⟩):=by
 have fp:=Tm.bJ x;have eR:=Tm.bG x;have di:=ar x;simp only[db];rw[fp,eR];simp[qN,c127,aV,aV,aV,aE,di,aI,jh,af.hP,hx]
theorem UY(n:Nat)(x T:Tm)(R:List AV)(md:Nat)(dh:md<=4)(hx:x.ah=0):
 aH (cV [eE]) (n+1) 127 [x.aR,.ptr 3 0,.ptr 1 0] ⟨8,.row x.cells::.row R::.dead::db T .aD [],6,md⟩=
  some (.bool true,⟨11,.row [.int .i64 x.bx]::.row [.int .i64 x.bx]::.row x.cells::.row x.cells::.row R::.dead::db T (.vec 10 0 1 1 1) [x.bx],1,min md 1⟩):=by
 have fp:=Tm.bJ x;have eR:=Tm.bG x;have di:=ar x;simp only[db];rw[fp,eR,hx];simp[qN,c127,aV,aV,aV,aE,di,aI,jh,af.hP,mp,oj,va]
theorem Uz(n:Nat)(x T:Tm)(R:List AV)(md:Nat)(dh:md<=4)(hx:x.ah≠0):
 aH (cV [eE]) (n+1) 127 [x.aR,.ptr 3 0,.ptr 1 0] ⟨8,.row x.cells::.row R::.dead::db T .aD [],6,md⟩=
  some (.bool true,⟨8,.row x.cells::.row R::.dead::db T .aD [],6,md⟩):=by
 have fp:=Tm.bJ x;have eR:=Tm.bG x;have di:=ar x;simp only[db];rw[fp,eR];simp[qN,c127,aV,aV,aV,aE,di,aI,jh,af.hP,hx]
theorem Vb(n:Nat)(x T:Tm)(R:List AV)(v:Int)(vs:List Int)(hl:vs.length<100000)(md:Nat)(dh:md<=4)(hx:x.ah=0)(hm:x.bx∉v::vs):
 aH (cV [eE]) (n+1) 127 [x.aR,.ptr 3 0,.ptr 1 0] ⟨8,.row x.cells::.row (ints (v::vs))::.row R::db T (.vec 6 0 (vs.length+1) 1 (vs.length+1)) (v::vs),1,md⟩=
  some (.bool true,⟨11,.row (ints (v::vs++[x.bx]))::.row [.int .i64 x.bx]::.row x.cells::.row x.cells::.dead::.row R::db T (.vec 10 0 (vs.length+2) 1 (vs.length+2)) (v::vs++[x.bx]),1,min md 1⟩):=by
 have fp:=Tm.bJ x;have eR:=Tm.bG x;have di:=ar x;simp only[db];have h1:=yE x.bx (v::vs);have h3:=eo (v::vs);have h4:(ints (v::vs)).take (vs.length+1)=ints (v::vs):=List.take_of_length_le (by simp[ints]);have h5:(ints (v::vs)).length=vs.length+1:=by simp[ints]
 have h6:(vs.length+1+1)*8<=140737488355328:=by omega
 have h7:vs.length+1+1<9223372036854775808:=by omega
 have h2:=MP x.bx (v::vs) hm;have h8:ints (v::vs++[x.bx])=ints (v::vs)++[.int .i64 x.bx]:=by simp[ints]
 have h9:AV.aj (ints (v::vs)++[.int .i64 x.bx])=0:=by rw[<-h8];exact eo _
 rw[if_neg hm] at h1;rw[fp,eR,hx,h8];generalize mp (v::vs++[x.bx])=M' at *;generalize mp (v::vs)=M at *;generalize ints (v::vs)=I at *;simp[qN,c127,aV,aV,aV,aE,di,aI,jh,af.hP,h1,h2,h3,h4,h5,h6,h7,h9]
theorem WG(n:Nat)(x T:Tm)(R:List AV)(v:Int)(vs:List Int)(hl:vs.length<100000)(md:Nat)(dh:md<=4)(hx:x.ah≠0\/x.bx∈v::vs):
 aH (cV [eE]) (n+1) 127 [x.aR,.ptr 3 0,.ptr 1 0] ⟨8,.row x.cells::.row (ints (v::vs))::.row R::db T (.vec 6 0 (vs.length+1) 1 (vs.length+1)) (v::vs),1,md⟩=
  some (.bool true,⟨8,.row x.cells::.row (ints (v::vs))::.row R::db T (.vec 6 0 (vs.length+1) 1 (vs.length+1)) (v::vs),1,md⟩):=by
 have fp:=Tm.bJ x;have eR:=Tm.bG x;have di:=ar x;simp only[db];have h1:=yE x.bx (v::vs);have h3:=eo (v::vs);have h4:(ints (v::vs)).take (vs.length+1)=ints (v::vs):=List.take_of_length_le (by simp[ints]);have h5:(ints (v::vs)).length=vs.length+1:=by simp[ints]
 have h6:(vs.length+1+1)*8<=140737488355328:=by omega
 have h7:vs.length+1+1<9223372036854775808:=by omega
 rw[fp,eR];by_cases h0:x.ah=0
 .have hm:x.bx∈v::vs:=by
   rcases hx with h|h
   .exact absurd h0 h
   .exact h
  rw[if_pos hm] at h1;rw[h0];generalize mp (v::vs)=M at *;generalize ints (v::vs)=I at *;simp[qN,c127,aV,aV,aV,aE,di,aI,jh,af.hP,h1,h3,h4,h5]
 .generalize mp (v::vs)=M at *;generalize ints (v::vs)=I at *;simp[qN,c127,aV,aV,aV,aE,di,aI,jh,af.hP,h0,h3,h4,h5]
theorem WT(n:Nat)(x T:Tm)(R:List AV)(v:Int)(vs:List Int)(hl:vs.length<100000)(md:Nat)(dh:md<=4)(hx:x.ah=0)(hm:x.bx∉v::vs):
 aH (cV [eE]) (n+1) 127 [x.aR,.ptr 3 0,.ptr 1 0] ⟨9,.row x.cells::.row (ints (v::vs))::.row R::.dead::db T (.vec 7 0 (vs.length+1) 1 (vs.length+1)) (v::vs),1,md⟩=
  some (.bool true,⟨12,.row (ints (v::vs++[x.bx]))::.row [.int .i64 x.bx]::.row x.cells::.row x.cells::.dead::.row R::.dead::db T (.vec 11 0 (vs.length+2) 1 (vs.length+2)) (v::vs++[x.bx]),1,min md 1⟩):=by
 have fp:=Tm.bJ x;have eR:=Tm.bG x;have di:=ar x;simp only[db];have h1:=yE x.bx (v::vs);have h3:=eo (v::vs);have h4:(ints (v::vs)).take (vs.length+1)=ints (v::vs):=List.take_of_length_le (by simp[ints]);have h5:(ints (v::vs)).length=vs.length+1:=by simp[ints]
 have h6:(vs.length+1+1)*8<=140737488355328:=by omega
 have h7:vs.length+1+1<9223372036854775808:=by omega
 have h2:=MP x.bx (v::vs) hm;have h8:ints (v::vs++[x.bx])=ints (v::vs)++[.int .i64 x.bx]:=by simp[ints]
 have h9:AV.aj (ints (v::vs)++[.int .i64 x.bx])=0:=by rw[<-h8];exact eo _
 rw[if_neg hm] at h1;rw[fp,eR,hx,h8];generalize mp (v::vs++[x.bx])=M' at *;generalize mp (v::vs)=M at *;generalize ints (v::vs)=I at *;simp[qN,c127,aV,aV,aV,aE,di,aI,jh,af.hP,h1,h2,h3,h4,h5,h6,h7,h9]
theorem V4(n:Nat)(x T:Tm)(R:List AV)(v:Int)(vs:List Int)(hl:vs.length<100000)(md:Nat)(dh:md<=4)(hx:x.ah≠0\/x.bx∈v::vs):
 aH (cV [eE]) (n+1) 127 [x.aR,.ptr 3 0,.ptr 1 0] ⟨9,.row x.cells::.row (ints (v::vs))::.row R::.dead::db T (.vec 7 0 (vs.length+1) 1 (vs.length+1)) (v::vs),1,md⟩=
  some (.bool true,⟨9,.row x.cells::.row (ints (v::vs))::.row R::.dead::db T (.vec 7 0 (vs.length+1) 1 (vs.length+1)) (v::vs),1,md⟩):=by
 have fp:=Tm.bJ x;have eR:=Tm.bG x;have di:=ar x;simp only[db];have h1:=yE x.bx (v::vs);have h3:=eo (v::vs);have h4:(ints (v::vs)).take (vs.length+1)=ints (v::vs):=List.take_of_length_le (by simp[ints]);have h5:(ints (v::vs)).length=vs.length+1:=by simp[ints]
 have h6:(vs.length+1+1)*8<=140737488355328:=by omega
 have h7:vs.length+1+1<9223372036854775808:=by omega
 rw[fp,eR];by_cases h0:x.ah=0
 .have hm:x.bx∈v::vs:=by
   rcases hx with h|h
   .exact absurd h0 h
   .exact h
  rw[if_pos hm] at h1;rw[h0];generalize mp (v::vs)=M at *;generalize ints (v::vs)=I at *;simp[qN,c127,aV,aV,aV,aE,di,aI,jh,af.hP,h1,h3,h4,h5]
 .generalize mp (v::vs)=M at *;generalize ints (v::vs)=I at *;simp[qN,c127,aV,aV,aV,aE,di,aI,jh,af.hP,h0,h3,h4,h5]
theorem yU(C:Nat->List AV->af->Option (AV×af))(n g:Nat)(aN:List AV)(hc:AV.aj aN<=4)(X:Tm)(os:List aS)(md:Nat)(dh:∀k,4<=k->min md k=md)(w:Nat)(hw:min w 7=w):∀(i m:Nat) (st:List Tm),i<=X.aa.length->i<m->st.length+i<1000000000000->
 iV 7 w (cb (aF C n bD) bh 7 m (gq (.fn g aN) (.vec 7 0 st.length 4 st.length) (.ptr 6 0) (.int .i64 ((i:Int)-1))) ⟨8,.row (aw st)::.row X.cells::.dead::os,7,md⟩)=
  some (.exit 2,FM 44 [(1,.fn g aN),(5,.vec 7 0 (st.length+i) 4 (st.length+i))],⟨8,.row (aw (st++(X.aa.take i).reverse))::.row X.cells::.dead::os,w,md⟩)
 |0,m+1,st,_,_,_=>by
   have h1:(0<=(-1:Int))=False:=by simp
   have hr:AV.aj aN<=7:=by omega
   have jB:min md 5=md:=dh 5 (by omega);have jJ:min md 7=md:=dh 7 (by omega);have tN:=aT st;simp[ai,bD,hr,tN,hw]
 |i+1,m+1,st,hi,hm,hl=>by
   have hr:AV.aj aN<=7:=by omega
   have jB:min md 5=md:=dh 5 (by omega);have jJ:min md 7=md:=dh 7 (by omega);obtain⟨x,hx⟩:∃x,X.aa[i]? =some x:=⟨X.aa[i]'(by omega),by simp⟩
   have ih:=yU C n g aN hc X os md dh w hw i m (st++[x]) (by omega) (by omega) (by simp;omega);obtain⟨ha,hX,h5,fp,gv,di⟩:=dq hx;have tN:=aT st;have C2:=cL st;have w1:IntKind.i64.wrap ((i:Int)-1)=(i:Int)-1:=wrap_i64 (by omega) (by omega);have t1:(0<=(i:Int))=True:=eq_true (by omega);have b1:(st.length+1)*56<=140737488355328:=by omega
   have b2:st.length+1<9223372036854775808:=by omega
   have nt:X.aa.take (i+1)=X.aa.take i++[x]:=by rw[List.take_add_one,hx];rfl
   have pB:aw (st++[x])=aw st++[.int .i64 x.ah,.int .i64 x.bx,.str x.aC,x.bH]:=by simp[aw,Tm.cells]
   have x8:List.take (st.length*4) (aw st)=aw st:=List.take_of_length_le (by omega);have lP:AV.aj (aw st++[.int .i64 x.ah,.int .i64 x.bx,.str x.aC,x.bH])=0:=by rw[<-pB];exact aT _
   rw[nt,List.reverse_append];simp only[List.length_append,List.length_cons,List.length_nil,Nat.zero_add,List.append_assoc,pB] at ih;have e1:st.length+1+i=st.length+(i+1):=by omega
   rw[e1] at ih;have e2:((i+1:Nat):Int)-1=(i:Int):=by omega
   rw[e2,ai];rw[hX] at ih|-;simp[bD,bh,h5,hx,fp,gv,di,tN,C2,w1,t1,b1,b2,hr,x8,lP,jB,jJ,aI];exact ih
theorem vU{R:List AV}{st:List Tm}{lb:Nat}(hR:R.length=lb*4)(ht:R.take (st.length*4)=aw st)(oI:st.length+1<=lb)(x:Tm):
 (putAt R (st.length*4) x.cells).length=lb*4/\(putAt R (st.length*4) x.cells).take ((st++[x]).length*4)=aw (st++[x]):=by
 have hc:x.cells.length=4:=rfl;have h1:st.length*4+x.cells.length<=R.length:=by omega
 refine⟨?_,?_⟩
 .rw[nM x.cells R _ h1];simp only[List.length_append,List.length_take,List.length_drop];omega
 .have:=ku x.cells h1;rw[List.length_append,show (st.length+[x].length)*4=st.length*4+x.cells.length by simp[hc];omega,this,ht];simp[aw]
theorem w6(C:Nat->List AV->af->Option (AV×af))(n g:Nat)(aN:List AV)(hc:AV.aj aN<=4)(X:Tm)(os:List aS)(md:Nat)(dh:∀k,4<=k->min md k=md)(w:Nat)(hw:min w 7=w)(lb:Nat):∀(i m:Nat) (st:List Tm) (R:List AV),i<=X.aa.length->i<m->st.length+i<=lb->lb<1000000000000->R.length=lb*4->R.take (st.length*4)=aw st->AV.aj R=0->
 ∃R',R'.length=lb*4/\R'.take ((st.length+i)*4)=aw (st++(X.aa.take i).reverse)/\AV.aj R'=0/\
 iV 7 w (cb (aF C n bD) bh 7 m (gq (.fn g aN) (.vec 5 0 st.length 4 lb) (.ptr 6 0) (.int .i64 ((i:Int)-1))) ⟨7,.row X.cells::.row R::os,7,md⟩)=
  some (.exit 2,FM 44 [(1,.fn g aN),(5,.vec 5 0 (st.length+i) 4 lb)],⟨7,.row X.cells::.row R'::os,w,md⟩)
 |0,m+1,st,R,_,_,_,_,hR,ht,fe=>by
   have h1:(0<=(-1:Int))=False:=by simp
   have hr:AV.aj aN<=7:=by omega
   have jB:min md 5=md:=dh 5 (by omega);have jJ:min md 7=md:=dh 7 (by omega);refine⟨R,hR,by simpa using ht,fe,?_⟩;simp[ai,bD,hr,hw]
 |i+1,m+1,st,R,hi,hm,oI,hl,hR,ht,fe=>by
   have hr:AV.aj aN<=7:=by omega
   have jB:min md 5=md:=dh 5 (by omega);have jJ:min md 7=md:=dh 7 (by omega);obtain⟨x,hx⟩:∃x,X.aa[i]? =some x:=⟨X.aa[i]'(by omega),by simp⟩
   obtain⟨p1,p2⟩:=vU hR ht (by omega) x;have p3:=fy fe x (st.length*4) (by omega);obtain⟨R',r1,r2,r3,ih⟩:=w6 C n g aN hc X os md dh w hw lb i m (st++[x]) (putAt R (st.length*4) x.cells) (by omega) (by omega) (by simp;omega) hl p1 p2 p3;have e1:(st++[x]).length+i=st.length+(i+1):=by simp;omega
   have nt:X.aa.take (i+1)=X.aa.take i++[x]:=by rw[List.take_add_one,hx];rfl
   refine⟨R',r1,?_,r3,?_⟩
   .rw[nt,List.reverse_append,<-e1,r2];simp[List.append_assoc]
   obtain⟨ha,hX,h5,fp,gv,di⟩:=dq hx;have w1:IntKind.i64.wrap ((i:Int)-1)=(i:Int)-1:=wrap_i64 (by omega) (by omega);have t1:(0<=(i:Int))=True:=eq_true (by omega);have b1:st.length*4<=R.length:=by omega
   have b2:st.length+1<=lb:=by omega
   have b3:(st.length+1)*4<=R.length:=by omega
   have wz:putAt [.int .i64 0,.int .i64 0,.str [],.aD] 0 [.int .i64 x.ah,.int .i64 x.bx,.str x.aC,x.bH]=[.int .i64 x.ah,.int .i64 x.bx,.str x.aC,x.bH]:=rfl;have oJ:(st++[x]).length=st.length+1:=by simp
   rw[oJ,show st.length+1+i=st.length+(i+1) by omega] at ih;have e2:((i+1:Nat):Int)-1=(i:Int):=by omega
   rw[e2,ai];rw[hX,gv] at ih;rw[hX];simp[bD,bh,h5,hx,fp,gv,di,w1,t1,b1,b2,b3,hr,jB,jJ,fe,wz,aI,-eC];exact ih
theorem wU(C:Nat->List AV->af->Option (AV×af))(n g:Nat)(aN:List AV)(hc:AV.aj aN<=4)(X:Tm)(os:List aS)(md:Nat)(dh:∀k,4<=k->min md k=md)(w:Nat)(hw:min w 7=w)(lb:Nat):∀(i m:Nat) (st:List Tm) (R:List AV),i<=X.aa.length->i<m->st.length<=lb->lb<st.length+i->st.length+i<1000000000000->R.length=lb*4->R.take (st.length*4)=aw st->AV.aj R=0->
 iV 7 w (cb (aF C n bD) bh 7 m (gq (.fn g aN) (.vec 5 0 st.length 4 lb) (.ptr 6 0) (.int .i64 ((i:Int)-1))) ⟨7,.row X.cells::.row R::os,7,md⟩)=
  some (.exit 2,FM 44 [(1,.fn g aN),(5,.vec 7 0 (st.length+i) 4 (st.length+i))],⟨8,.row (aw (st++(X.aa.take i).reverse))::.row X.cells::.dead::os,w,md⟩)
 |0,m,st,R,_,_,h1,h2,_,_,_,_=>by omega
 |i+1,0,st,R,_,h,_,_,_,_,_,_=>by omega
 |i+1,m+1,st,R,hi,hm,h1,h2,hl,hR,ht,fe=>by
   have hr:AV.aj aN<=7:=by omega
   have jB:min md 5=md:=dh 5 (by omega);have jJ:min md 7=md:=dh 7 (by omega);obtain⟨x,hx⟩:∃x,X.aa[i]? =some x:=⟨X.aa[i]'(by omega),by simp⟩
   have nt:X.aa.take (i+1)=X.aa.take i++[x]:=by rw[List.take_add_one,hx];rfl
   obtain⟨ha,hX,h5,fp,gv,di⟩:=dq hx;have w1:IntKind.i64.wrap ((i:Int)-1)=(i:Int)-1:=wrap_i64 (by omega) (by omega);have t1:(0<=(i:Int))=True:=eq_true (by omega);have b1:st.length*4<=R.length:=by omega
   have wz:putAt [.int .i64 0,.int .i64 0,.str [],.aD] 0 [.int .i64 x.ah,.int .i64 x.bx,.str x.aC,x.bH]=[.int .i64 x.ah,.int .i64 x.bx,.str x.aC,x.bH]:=rfl;have oJ:(st++[x]).length=st.length+1:=by simp
   have e2:((i+1:Nat):Int)-1=(i:Int):=by omega
   by_cases fL:st.length+1<=lb
   .obtain⟨p1,p2⟩:=vU hR ht (by omega) x;have p3:=fy fe x (st.length*4) (by omega);have ih:=wU C n g aN hc X os md dh w hw lb i m (st++[x]) (putAt R (st.length*4) x.cells) (by omega) (by omega) (by omega) (by omega) (by omega) p1 p2 p3;have b3:(st.length+1)*4<=R.length:=by omega
    rw[oJ,show st.length+1+i=st.length+(i+1) by omega] at ih;rw[e2,ai,nt,List.reverse_append];rw[hX,gv] at ih;rw[hX];simp only[List.append_assoc] at ih;simp[bD,bh,h5,hx,fp,gv,di,w1,t1,b1,fL,b3,hr,jB,jJ,fe,wz,aI,-eC];exact ih
   .have oI:lb=st.length:=by omega
    have ih:=yU C n g aN hc X os md dh w hw i m (st++[x]) (by omega) (by omega) (by omega);have c1:(st.length+1)*56<=140737488355328:=by omega
    have c2:st.length+1<9223372036854775808:=by omega
    have pB:aw (st++[x])=aw st++[.int .i64 x.ah,.int .i64 x.bx,.str x.aC,x.bH]:=by simp[aw,Tm.cells]
    have lP:AV.aj (aw st++[.int .i64 x.ah,.int .i64 x.bx,.str x.aC,x.bH])=0:=by rw[<-pB];exact aT _
    rw[oJ,show st.length+1+i=st.length+(i+1) by omega,pB] at ih;rw[e2,ai,nt,List.reverse_append];rw[hX] at ih|-;simp only[List.append_assoc] at ih;simp[bD,bh,h5,hx,fp,gv,di,w1,t1,b1,fL,c1,c2,hr,jB,jJ,fe,ht,lP,aI];exact ih
theorem yP(C:Nat->List AV->af->Option (AV×af))(n g:Nat)(aN:List AV)(hc:AV.aj aN<=4)(X:Tm)(os:List aS)(md:Nat)(dh:∀k,4<=k->min md k=md)(w:Nat)(hw:min w 8=w):∀(i m:Nat) (st:List Tm),i<=X.aa.length->i<m->st.length+i<1000000000000->
 iV 8 w (cb (aF C n bD) bh 8 m (gq (.fn g aN) (.vec 8 0 st.length 4 st.length) (.ptr 7 0) (.int .i64 ((i:Int)-1))) ⟨9,.row (aw st)::.row X.cells::.dead::os,8,md⟩)=
  some (.exit 2,FM 44 [(1,.fn g aN),(5,.vec 8 0 (st.length+i) 4 (st.length+i))],⟨9,.row (aw (st++(X.aa.take i).reverse))::.row X.cells::.dead::os,w,md⟩)
 |0,m+1,st,_,_,_=>by
   have h1:(0<=(-1:Int))=False:=by simp
   have hr:AV.aj aN<=8:=by omega
   have jB:min md 6=md:=dh 6 (by omega);have jJ:min md 8=md:=dh 8 (by omega);have tN:=aT st;simp[ai,bD,hr,tN,hw]
 |i+1,m+1,st,hi,hm,hl=>by
   have hr:AV.aj aN<=8:=by omega
   have jB:min md 6=md:=dh 6 (by omega);have jJ:min md 8=md:=dh 8 (by omega);obtain⟨x,hx⟩:∃x,X.aa[i]? =some x:=⟨X.aa[i]'(by omega),by simp⟩
   have ih:=yP C n g aN hc X os md dh w hw i m (st++[x]) (by omega) (by omega) (by simp;omega);obtain⟨ha,hX,h5,fp,gv,di⟩:=dq hx;have tN:=aT st;have C2:=cL st;have w1:IntKind.i64.wrap ((i:Int)-1)=(i:Int)-1:=wrap_i64 (by omega) (by omega);have t1:(0<=(i:Int))=True:=eq_true (by omega);have b1:(st.length+1)*56<=140737488355328:=by omega
   have b2:st.length+1<9223372036854775808:=by omega
   have nt:X.aa.take (i+1)=X.aa.take i++[x]:=by rw[List.take_add_one,hx];rfl
   have pB:aw (st++[x])=aw st++[.int .i64 x.ah,.int .i64 x.bx,.str x.aC,x.bH]:=by simp[aw,Tm.cells]
   have x8:List.take (st.length*4) (aw st)=aw st:=List.take_of_length_le (by omega);have lP:AV.aj (aw st++[.int .i64 x.ah,.int .i64 x.bx,.str x.aC,x.bH])=0:=by rw[<-pB];exact aT _
   rw[nt,List.reverse_append];simp only[List.length_append,List.length_cons,List.length_nil,Nat.zero_add,List.append_assoc,pB] at ih;have e1:st.length+1+i=st.length+(i+1):=by omega
   rw[e1] at ih;have e2:((i+1:Nat):Int)-1=(i:Int):=by omega
   rw[e2,ai];rw[hX] at ih|-;simp[bD,bh,h5,hx,fp,gv,di,tN,C2,w1,t1,b1,b2,hr,x8,lP,jB,jJ,aI];exact ih
theorem vQ{R:List AV}{st:List Tm}{lb:Nat}(hR:R.length=lb*4)(ht:R.take (st.length*4)=aw st)(oI:st.length+1<=lb)(x:Tm):
 (putAt R (st.length*4) x.cells).length=lb*4/\(putAt R (st.length*4) x.cells).take ((st++[x]).length*4)=aw (st++[x]):=by
 have hc:x.cells.length=4:=rfl;have h1:st.length*4+x.cells.length<=R.length:=by omega
 refine⟨?_,?_⟩
 .rw[nM x.cells R _ h1];simp only[List.length_append,List.length_take,List.length_drop];omega
 .have:=ku x.cells h1;rw[List.length_append,show (st.length+[x].length)*4=st.length*4+x.cells.length by simp[hc];omega,this,ht];simp[aw]
theorem wW(C:Nat->List AV->af->Option (AV×af))(n g:Nat)(aN:List AV)(hc:AV.aj aN<=4)(X:Tm)(os:List aS)(md:Nat)(dh:∀k,4<=k->min md k=md)(w:Nat)(hw:min w 8=w)(lb:Nat):∀(i m:Nat) (st:List Tm) (R:List AV),i<=X.aa.length->i<m->st.length+i<=lb->lb<1000000000000->R.length=lb*4->R.take (st.length*4)=aw st->AV.aj R=0->
 ∃R',R'.length=lb*4/\R'.take ((st.length+i)*4)=aw (st++(X.aa.take i).reverse)/\AV.aj R'=0/\
 iV 8 w (cb (aF C n bD) bh 8 m (gq (.fn g aN) (.vec 6 0 st.length 4 lb) (.ptr 7 0) (.int .i64 ((i:Int)-1))) ⟨8,.row X.cells::.row R::os,8,md⟩)=
  some (.exit 2,FM 44 [(1,.fn g aN),(5,.vec 6 0 (st.length+i) 4 lb)],⟨8,.row X.cells::.row R'::os,w,md⟩)
 |0,m+1,st,R,_,_,_,_,hR,ht,fe=>by
   have h1:(0<=(-1:Int))=False:=by simp
   have hr:AV.aj aN<=8:=by omega
   have jB:min md 6=md:=dh 6 (by omega);have jJ:min md 8=md:=dh 8 (by omega);refine⟨R,hR,by simpa using ht,fe,?_⟩;simp[ai,bD,hr,hw]
 |i+1,m+1,st,R,hi,hm,oI,hl,hR,ht,fe=>by
   have hr:AV.aj aN<=8:=by omega
   have jB:min md 6=md:=dh 6 (by omega);have jJ:min md 8=md:=dh 8 (by omega);obtain⟨x,hx⟩:∃x,X.aa[i]? =some x:=⟨X.aa[i]'(by omega),by simp⟩
   obtain⟨p1,p2⟩:=vQ hR ht (by omega) x;have p3:=fy fe x (st.length*4) (by omega);obtain⟨R',r1,r2,r3,ih⟩:=wW C n g aN hc X os md dh w hw lb i m (st++[x]) (putAt R (st.length*4) x.cells) (by omega) (by omega) (by simp;omega) hl p1 p2 p3;have e1:(st++[x]).length+i=st.length+(i+1):=by simp;omega
   have nt:X.aa.take (i+1)=X.aa.take i++[x]:=by rw[List.take_add_one,hx];rfl
   refine⟨R',r1,?_,r3,?_⟩
   .rw[nt,List.reverse_append,<-e1,r2];simp[List.append_assoc]
   obtain⟨ha,hX,h5,fp,gv,di⟩:=dq hx;have w1:IntKind.i64.wrap ((i:Int)-1)=(i:Int)-1:=wrap_i64 (by omega) (by omega);have t1:(0<=(i:Int))=True:=eq_true (by omega);have b1:st.length*4<=R.length:=by omega
   have b2:st.length+1<=lb:=by omega
   have b3:(st.length+1)*4<=R.length:=by omega
   have wz:putAt [.int .i64 0,.int .i64 0,.str [],.aD] 0 [.int .i64 x.ah,.int .i64 x.bx,.str x.aC,x.bH]=[.int .i64 x.ah,.int .i64 x.bx,.str x.aC,x.bH]:=rfl;have oJ:(st++[x]).length=st.length+1:=by simp
   rw[oJ,show st.length+1+i=st.length+(i+1) by omega] at ih;have e2:((i+1:Nat):Int)-1=(i:Int):=by omega
   rw[e2,ai];rw[hX,gv] at ih;rw[hX];simp[bD,bh,h5,hx,fp,gv,di,w1,t1,b1,b2,b3,hr,jB,jJ,fe,wz,aI,-eC];exact ih
theorem wL(C:Nat->List AV->af->Option (AV×af))(n g:Nat)(aN:List AV)(hc:AV.aj aN<=4)(X:Tm)(os:List aS)(md:Nat)(dh:∀k,4<=k->min md k=md)(w:Nat)(hw:min w 8=w)(lb:Nat):∀(i m:Nat) (st:List Tm) (R:List AV),i<=X.aa.length->i<m->st.length<=lb->lb<st.length+i->st.length+i<1000000000000->R.length=lb*4->R.take (st.length*4)=aw st->AV.aj R=0->
 iV 8 w (cb (aF C n bD) bh 8 m (gq (.fn g aN) (.vec 6 0 st.length 4 lb) (.ptr 7 0) (.int .i64 ((i:Int)-1))) ⟨8,.row X.cells::.row R::os,8,md⟩)=
  some (.exit 2,FM 44 [(1,.fn g aN),(5,.vec 8 0 (st.length+i) 4 (st.length+i))],⟨9,.row (aw (st++(X.aa.take i).reverse))::.row X.cells::.dead::os,w,md⟩)
 |0,m,st,R,_,_,h1,h2,_,_,_,_=>by omega
 |i+1,0,st,R,_,h,_,_,_,_,_,_=>by omega
 |i+1,m+1,st,R,hi,hm,h1,h2,hl,hR,ht,fe=>by
   have hr:AV.aj aN<=8:=by omega
   have jB:min md 6=md:=dh 6 (by omega);have jJ:min md 8=md:=dh 8 (by omega);obtain⟨x,hx⟩:∃x,X.aa[i]? =some x:=⟨X.aa[i]'(by omega),by simp⟩
   have nt:X.aa.take (i+1)=X.aa.take i++[x]:=by rw[List.take_add_one,hx];rfl
   obtain⟨ha,hX,h5,fp,gv,di⟩:=dq hx;have w1:IntKind.i64.wrap ((i:Int)-1)=(i:Int)-1:=wrap_i64 (by omega) (by omega);have t1:(0<=(i:Int))=True:=eq_true (by omega);have b1:st.length*4<=R.length:=by omega
   have wz:putAt [.int .i64 0,.int .i64 0,.str [],.aD] 0 [.int .i64 x.ah,.int .i64 x.bx,.str x.aC,x.bH]=[.int .i64 x.ah,.int .i64 x.bx,.str x.aC,x.bH]:=rfl;have oJ:(st++[x]).length=st.length+1:=by simp
   have e2:((i+1:Nat):Int)-1=(i:Int):=by omega
   by_cases fL:st.length+1<=lb
   .obtain⟨p1,p2⟩:=vQ hR ht (by omega) x;have p3:=fy fe x (st.length*4) (by omega);have ih:=wL C n g aN hc X os md dh w hw lb i m (st++[x]) (putAt R (st.length*4) x.cells) (by omega) (by omega) (by omega) (by omega) (by omega) p1 p2 p3;have b3:(st.length+1)*4<=R.length:=by omega
    rw[oJ,show st.length+1+i=st.length+(i+1) by omega] at ih;rw[e2,ai,nt,List.reverse_append];rw[hX,gv] at ih;rw[hX];simp only[List.append_assoc] at ih;simp[bD,bh,h5,hx,fp,gv,di,w1,t1,b1,fL,b3,hr,jB,jJ,fe,wz,aI,-eC];exact ih
   .have oI:lb=st.length:=by omega
    have ih:=yP C n g aN hc X os md dh w hw i m (st++[x]) (by omega) (by omega) (by omega);have c1:(st.length+1)*56<=140737488355328:=by omega
    have c2:st.length+1<9223372036854775808:=by omega
    have pB:aw (st++[x])=aw st++[.int .i64 x.ah,.int .i64 x.bx,.str x.aC,x.bH]:=by simp[aw,Tm.cells]
    have lP:AV.aj (aw st++[.int .i64 x.ah,.int .i64 x.bx,.str x.aC,x.bH])=0:=by rw[<-pB];exact aT _
    rw[oJ,show st.length+1+i=st.length+(i+1) by omega,pB] at ih;rw[e2,ai,nt,List.reverse_append];rw[hX] at ih|-;simp only[List.append_assoc] at ih;simp[bD,bh,h5,hx,fp,gv,di,w1,t1,b1,fL,c1,c2,hr,jB,jJ,fe,ht,lP,aI];exact ih
theorem BV(C:Nat->List AV->af->Option (AV×af))(n g:Nat)(aN:List AV)(hc:AV.aj aN<=4)(X:Tm)(O:aS)(os:List aS)(md:Nat)(dh:∀k,4<=k->min md k=md)(w:Nat)(hw:min w 8=w):∀(i m:Nat) (st:List Tm),i<=X.aa.length->i<m->st.length+i<1000000000000->
 iV 8 w (cb (aF C n bD) bh 8 m (gq (.fn g aN) (.vec 8 0 st.length 4 st.length) (.ptr 7 0) (.int .i64 ((i:Int)-1))) ⟨9,.row (aw st)::.row X.cells::O::.dead::os,8,md⟩)=
  some (.exit 2,FM 44 [(1,.fn g aN),(5,.vec 8 0 (st.length+i) 4 (st.length+i))],⟨9,.row (aw (st++(X.aa.take i).reverse))::.row X.cells::O::.dead::os,w,md⟩)
 |0,m+1,st,_,_,_=>by
   have h1:(0<=(-1:Int))=False:=by simp
   have hr:AV.aj aN<=8:=by omega
   have jB:min md 5=md:=dh 5 (by omega);have jJ:min md 8=md:=dh 8 (by omega);have tN:=aT st;simp[ai,bD,hr,tN,hw]
 |i+1,m+1,st,hi,hm,hl=>by
   have hr:AV.aj aN<=8:=by omega
   have jB:min md 5=md:=dh 5 (by omega);have jJ:min md 8=md:=dh 8 (by omega);obtain⟨x,hx⟩:∃x,X.aa[i]? =some x:=⟨X.aa[i]'(by omega),by simp⟩
   have ih:=BV C n g aN hc X O os md dh w hw i m (st++[x]) (by omega) (by omega) (by simp;omega);obtain⟨ha,hX,h5,fp,gv,di⟩:=dq hx;have tN:=aT st;have C2:=cL st;have w1:IntKind.i64.wrap ((i:Int)-1)=(i:Int)-1:=wrap_i64 (by omega) (by omega);have t1:(0<=(i:Int))=True:=eq_true (by omega);have b1:(st.length+1)*56<=140737488355328:=by omega
   have b2:st.length+1<9223372036854775808:=by omega
   have nt:X.aa.take (i+1)=X.aa.take i++[x]:=by rw[List.take_add_one,hx];rfl
   have pB:aw (st++[x])=aw st++[.int .i64 x.ah,.int .i64 x.bx,.str x.aC,x.bH]:=by simp[aw,Tm.cells]
   have x8:List.take (st.length*4) (aw st)=aw st:=List.take_of_length_le (by omega);have lP:AV.aj (aw st++[.int .i64 x.ah,.int .i64 x.bx,.str x.aC,x.bH])=0:=by rw[<-pB];exact aT _
   rw[nt,List.reverse_append];simp only[List.length_append,List.length_cons,List.length_nil,Nat.zero_add,List.append_assoc,pB] at ih;have e1:st.length+1+i=st.length+(i+1):=by omega
   rw[e1] at ih;have e2:((i+1:Nat):Int)-1=(i:Int):=by omega
   rw[e2,ai];rw[hX] at ih|-;simp[bD,bh,h5,hx,fp,gv,di,tN,C2,w1,t1,b1,b2,hr,x8,lP,jB,jJ,aI];exact ih
theorem yD(C:Nat->List AV->af->Option (AV×af))(n g:Nat)(aN:List AV)(hc:AV.aj aN<=4)(X:Tm)(O:aS)(os:List aS)(md:Nat)(dh:∀k,4<=k->min md k=md)(w:Nat)(hw:min w 8=w)(lb:Nat):∀(i m:Nat) (st:List Tm) (R:List AV),i<=X.aa.length->i<m->st.length+i<=lb->lb<1000000000000->R.length=lb*4->R.take (st.length*4)=aw st->AV.aj R=0->
 ∃R',R'.length=lb*4/\R'.take ((st.length+i)*4)=aw (st++(X.aa.take i).reverse)/\AV.aj R'=0/\
 iV 8 w (cb (aF C n bD) bh 8 m (gq (.fn g aN) (.vec 5 0 st.length 4 lb) (.ptr 7 0) (.int .i64 ((i:Int)-1))) ⟨8,.row X.cells::O::.row R::os,8,md⟩)=
  some (.exit 2,FM 44 [(1,.fn g aN),(5,.vec 5 0 (st.length+i) 4 lb)],⟨8,.row X.cells::O::.row R'::os,w,md⟩)
 |0,m+1,st,R,_,_,_,_,hR,ht,fe=>by
   have h1:(0<=(-1:Int))=False:=by simp
   have hr:AV.aj aN<=8:=by omega
   have jB:min md 5=md:=dh 5 (by omega);have jJ:min md 8=md:=dh 8 (by omega);refine⟨R,hR,by simpa using ht,fe,?_⟩;simp[ai,bD,hr,hw]
 |i+1,m+1,st,R,hi,hm,oI,hl,hR,ht,fe=>by
   have hr:AV.aj aN<=8:=by omega
   have jB:min md 5=md:=dh 5 (by omega);have jJ:min md 8=md:=dh 8 (by omega);obtain⟨x,hx⟩:∃x,X.aa[i]? =some x:=⟨X.aa[i]'(by omega),by simp⟩
   obtain⟨p1,p2⟩:=vU hR ht (by omega) x;have p3:=fy fe x (st.length*4) (by omega);obtain⟨R',r1,r2,r3,ih⟩:=yD C n g aN hc X O os md dh w hw lb i m (st++[x]) (putAt R (st.length*4) x.cells) (by omega) (by omega) (by simp;omega) hl p1 p2 p3;have e1:(st++[x]).length+i=st.length+(i+1):=by simp;omega
   have nt:X.aa.take (i+1)=X.aa.take i++[x]:=by rw[List.take_add_one,hx];rfl
   refine⟨R',r1,?_,r3,?_⟩
   .rw[nt,List.reverse_append,<-e1,r2];simp[List.append_assoc]
   obtain⟨ha,hX,h5,fp,gv,di⟩:=dq hx;have w1:IntKind.i64.wrap ((i:Int)-1)=(i:Int)-1:=wrap_i64 (by omega) (by omega);have t1:(0<=(i:Int))=True:=eq_true (by omega);have b1:st.length*4<=R.length:=by omega
   have b2:st.length+1<=lb:=by omega
   have b3:(st.length+1)*4<=R.length:=by omega
   have wz:putAt [.int .i64 0,.int .i64 0,.str [],.aD] 0 [.int .i64 x.ah,.int .i64 x.bx,.str x.aC,x.bH]=[.int .i64 x.ah,.int .i64 x.bx,.str x.aC,x.bH]:=rfl;have oJ:(st++[x]).length=st.length+1:=by simp
   rw[oJ,show st.length+1+i=st.length+(i+1) by omega] at ih;have e2:((i+1:Nat):Int)-1=(i:Int):=by omega
   rw[e2,ai];rw[hX,gv] at ih;rw[hX];simp[bD,bh,h5,hx,fp,gv,di,w1,t1,b1,b2,b3,hr,jB,jJ,fe,wz,aI,-eC];exact ih
theorem yG(C:Nat->List AV->af->Option (AV×af))(n g:Nat)(aN:List AV)(hc:AV.aj aN<=4)(X:Tm)(O:aS)(os:List aS)(md:Nat)(dh:∀k,4<=k->min md k=md)(w:Nat)(hw:min w 8=w)(lb:Nat):∀(i m:Nat) (st:List Tm) (R:List AV),i<=X.aa.length->i<m->st.length<=lb->lb<st.length+i->st.length+i<1000000000000->R.length=lb*4->R.take (st.length*4)=aw st->AV.aj R=0->
 iV 8 w (cb (aF C n bD) bh 8 m (gq (.fn g aN) (.vec 5 0 st.length 4 lb) (.ptr 7 0) (.int .i64 ((i:Int)-1))) ⟨8,.row X.cells::O::.row R::os,8,md⟩)=
  some (.exit 2,FM 44 [(1,.fn g aN),(5,.vec 8 0 (st.length+i) 4 (st.length+i))],⟨9,.row (aw (st++(X.aa.take i).reverse))::.row X.cells::O::.dead::os,w,md⟩)
 |0,m,st,R,_,_,h1,h2,_,_,_,_=>by omega
 |i+1,0,st,R,_,h,_,_,_,_,_,_=>by omega
 |i+1,m+1,st,R,hi,hm,h1,h2,hl,hR,ht,fe=>by
   have hr:AV.aj aN<=8:=by omega
   have jB:min md 5=md:=dh 5 (by omega);have jJ:min md 8=md:=dh 8 (by omega);obtain⟨x,hx⟩:∃x,X.aa[i]? =some x:=⟨X.aa[i]'(by omega),by simp⟩
   have nt:X.aa.take (i+1)=X.aa.take i++[x]:=by rw[List.take_add_one,hx];rfl
   obtain⟨ha,hX,h5,fp,gv,di⟩:=dq hx;have w1:IntKind.i64.wrap ((i:Int)-1)=(i:Int)-1:=wrap_i64 (by omega) (by omega);have t1:(0<=(i:Int))=True:=eq_true (by omega);have b1:st.length*4<=R.length:=by omega
   have wz:putAt [.int .i64 0,.int .i64 0,.str [],.aD] 0 [.int .i64 x.ah,.int .i64 x.bx,.str x.aC,x.bH]=[.int .i64 x.ah,.int .i64 x.bx,.str x.aC,x.bH]:=rfl;have oJ:(st++[x]).length=st.length+1:=by simp
   have e2:((i+1:Nat):Int)-1=(i:Int):=by omega
   by_cases fL:st.length+1<=lb
   .obtain⟨p1,p2⟩:=vU hR ht (by omega) x;have p3:=fy fe x (st.length*4) (by omega);have ih:=yG C n g aN hc X O os md dh w hw lb i m (st++[x]) (putAt R (st.length*4) x.cells) (by omega) (by omega) (by omega) (by omega) (by omega) p1 p2 p3;have b3:(st.length+1)*4<=R.length:=by omega
    rw[oJ,show st.length+1+i=st.length+(i+1) by omega] at ih;rw[e2,ai,nt,List.reverse_append];rw[hX,gv] at ih;rw[hX];simp only[List.append_assoc] at ih;simp[bD,bh,h5,hx,fp,gv,di,w1,t1,b1,fL,b3,hr,jB,jJ,fe,wz,aI,-eC];exact ih
   .have oI:lb=st.length:=by omega
    have ih:=BV C n g aN hc X O os md dh w hw i m (st++[x]) (by omega) (by omega) (by omega);have c1:(st.length+1)*56<=140737488355328:=by omega
    have c2:st.length+1<9223372036854775808:=by omega
    have pB:aw (st++[x])=aw st++[.int .i64 x.ah,.int .i64 x.bx,.str x.aC,x.bH]:=by simp[aw,Tm.cells]
    have lP:AV.aj (aw st++[.int .i64 x.ah,.int .i64 x.bx,.str x.aC,x.bH])=0:=by rw[<-pB];exact aT _
    rw[oJ,show st.length+1+i=st.length+(i+1) by omega,pB] at ih;rw[e2,ai,nt,List.reverse_append];rw[hX] at ih|-;simp only[List.append_assoc] at ih;simp[bD,bh,h5,hx,fp,gv,di,w1,t1,b1,fL,c1,c2,hr,jB,jJ,fe,ht,lP,aI];exact ih
theorem BC(C:Nat->List AV->af->Option (AV×af))(n g:Nat)(aN:List AV)(hc:AV.aj aN<=4)(X:Tm)(O:aS)(os:List aS)(md:Nat)(dh:∀k,4<=k->min md k=md)(w:Nat)(hw:min w 9=w):∀(i m:Nat) (st:List Tm),i<=X.aa.length->i<m->st.length+i<1000000000000->
 iV 9 w (cb (aF C n bD) bh 9 m (gq (.fn g aN) (.vec 9 0 st.length 4 st.length) (.ptr 8 0) (.int .i64 ((i:Int)-1))) ⟨10,.row (aw st)::.row X.cells::O::.dead::os,9,md⟩)=
  some (.exit 2,FM 44 [(1,.fn g aN),(5,.vec 9 0 (st.length+i) 4 (st.length+i))],⟨10,.row (aw (st++(X.aa.take i).reverse))::.row X.cells::O::.dead::os,w,md⟩)
 |0,m+1,st,_,_,_=>by
   have h1:(0<=(-1:Int))=False:=by simp
   have hr:AV.aj aN<=9:=by omega
   have jB:min md 6=md:=dh 6 (by omega);have jJ:min md 9=md:=dh 9 (by omega);have tN:=aT st;simp[ai,bD,hr,tN,hw]
 |i+1,m+1,st,hi,hm,hl=>by
   have hr:AV.aj aN<=9:=by omega
   have jB:min md 6=md:=dh 6 (by omega);have jJ:min md 9=md:=dh 9 (by omega);obtain⟨x,hx⟩:∃x,X.aa[i]? =some x:=⟨X.aa[i]'(by omega),by simp⟩
   have ih:=BC C n g aN hc X O os md dh w hw i m (st++[x]) (by omega) (by omega) (by simp;omega);obtain⟨ha,hX,h5,fp,gv,di⟩:=dq hx;have tN:=aT st;have C2:=cL st;have w1:IntKind.i64.wrap ((i:Int)-1)=(i:Int)-1:=wrap_i64 (by omega) (by omega);have t1:(0<=(i:Int))=True:=eq_true (by omega);have b1:(st.length+1)*56<=140737488355328:=by omega
   have b2:st.length+1<9223372036854775808:=by omega
   have nt:X.aa.take (i+1)=X.aa.take i++[x]:=by rw[List.take_add_one,hx];rfl
   have pB:aw (st++[x])=aw st++[.int .i64 x.ah,.int .i64 x.bx,.str x.aC,x.bH]:=by simp[aw,Tm.cells]
   have x8:List.take (st.length*4) (aw st)=aw st:=List.take_of_length_le (by omega);have lP:AV.aj (aw st++[.int .i64 x.ah,.int .i64 x.bx,.str x.aC,x.bH])=0:=by rw[<-pB];exact aT _
   rw[nt,List.reverse_append];simp only[List.length_append,List.length_cons,List.length_nil,Nat.zero_add,List.append_assoc,pB] at ih;have e1:st.length+1+i=st.length+(i+1):=by omega
   rw[e1] at ih;have e2:((i+1:Nat):Int)-1=(i:Int):=by omega
   rw[e2,ai];rw[hX] at ih|-;simp[bD,bh,h5,hx,fp,gv,di,tN,C2,w1,t1,b1,b2,hr,x8,lP,jB,jJ,aI];exact ih
theorem yl(C:Nat->List AV->af->Option (AV×af))(n g:Nat)(aN:List AV)(hc:AV.aj aN<=4)(X:Tm)(O:aS)(os:List aS)(md:Nat)(dh:∀k,4<=k->min md k=md)(w:Nat)(hw:min w 9=w)(lb:Nat):∀(i m:Nat) (st:List Tm) (R:List AV),i<=X.aa.length->i<m->st.length+i<=lb->lb<1000000000000->R.length=lb*4->R.take (st.length*4)=aw st->AV.aj R=0->
 ∃R',R'.length=lb*4/\R'.take ((st.length+i)*4)=aw (st++(X.aa.take i).reverse)/\AV.aj R'=0/\
 iV 9 w (cb (aF C n bD) bh 9 m (gq (.fn g aN) (.vec 6 0 st.length 4 lb) (.ptr 8 0) (.int .i64 ((i:Int)-1))) ⟨9,.row X.cells::O::.row R::os,9,md⟩)=
  some (.exit 2,FM 44 [(1,.fn g aN),(5,.vec 6 0 (st.length+i) 4 lb)],⟨9,.row X.cells::O::.row R'::os,w,md⟩)
 |0,m+1,st,R,_,_,_,_,hR,ht,fe=>by
   have h1:(0<=(-1:Int))=False:=by simp
   have hr:AV.aj aN<=9:=by omega
   have jB:min md 6=md:=dh 6 (by omega);have jJ:min md 9=md:=dh 9 (by omega);refine⟨R,hR,by simpa using ht,fe,?_⟩;simp[ai,bD,hr,hw]
 |i+1,m+1,st,R,hi,hm,oI,hl,hR,ht,fe=>by
   have hr:AV.aj aN<=9:=by omega
   have jB:min md 6=md:=dh 6 (by omega);have jJ:min md 9=md:=dh 9 (by omega);obtain⟨x,hx⟩:∃x,X.aa[i]? =some x:=⟨X.aa[i]'(by omega),by simp⟩
   obtain⟨p1,p2⟩:=vQ hR ht (by omega) x;have p3:=fy fe x (st.length*4) (by omega);obtain⟨R',r1,r2,r3,ih⟩:=yl C n g aN hc X O os md dh w hw lb i m (st++[x]) (putAt R (st.length*4) x.cells) (by omega) (by omega) (by simp;omega) hl p1 p2 p3;have e1:(st++[x]).length+i=st.length+(i+1):=by simp;omega
   have nt:X.aa.take (i+1)=X.aa.take i++[x]:=by rw[List.take_add_one,hx];rfl
   refine⟨R',r1,?_,r3,?_⟩
   .rw[nt,List.reverse_append,<-e1,r2];simp[List.append_assoc]
   obtain⟨ha,hX,h5,fp,gv,di⟩:=dq hx;have w1:IntKind.i64.wrap ((i:Int)-1)=(i:Int)-1:=wrap_i64 (by omega) (by omega);have t1:(0<=(i:Int))=True:=eq_true (by omega);have b1:st.length*4<=R.length:=by omega
   have b2:st.length+1<=lb:=by omega
   have b3:(st.length+1)*4<=R.length:=by omega
   have wz:putAt [.int .i64 0,.int .i64 0,.str [],.aD] 0 [.int .i64 x.ah,.int .i64 x.bx,.str x.aC,x.bH]=[.int .i64 x.ah,.int .i64 x.bx,.str x.aC,x.bH]:=rfl;have oJ:(st++[x]).length=st.length+1:=by simp
   rw[oJ,show st.length+1+i=st.length+(i+1) by omega] at ih;have e2:((i+1:Nat):Int)-1=(i:Int):=by omega
   rw[e2,ai];rw[hX,gv] at ih;rw[hX];simp[bD,bh,h5,hx,fp,gv,di,w1,t1,b1,b2,b3,hr,jB,jJ,fe,wz,aI,-eC];exact ih
theorem yK(C:Nat->List AV->af->Option (AV×af))(n g:Nat)(aN:List AV)(hc:AV.aj aN<=4)(X:Tm)(O:aS)(os:List aS)(md:Nat)(dh:∀k,4<=k->min md k=md)(w:Nat)(hw:min w 9=w)(lb:Nat):∀(i m:Nat) (st:List Tm) (R:List AV),i<=X.aa.length->i<m->st.length<=lb->lb<st.length+i->st.length+i<1000000000000->R.length=lb*4->R.take (st.length*4)=aw st->AV.aj R=0->
 iV 9 w (cb (aF C n bD) bh 9 m (gq (.fn g aN) (.vec 6 0 st.length 4 lb) (.ptr 8 0) (.int .i64 ((i:Int)-1))) ⟨9,.row X.cells::O::.row R::os,9,md⟩)=
  some (.exit 2,FM 44 [(1,.fn g aN),(5,.vec 9 0 (st.length+i) 4 (st.length+i))],⟨10,.row (aw (st++(X.aa.take i).reverse))::.row X.cells::O::.dead::os,w,md⟩)
 |0,m,st,R,_,_,h1,h2,_,_,_,_=>by omega
 |i+1,0,st,R,_,h,_,_,_,_,_,_=>by omega
 |i+1,m+1,st,R,hi,hm,h1,h2,hl,hR,ht,fe=>by
   have hr:AV.aj aN<=9:=by omega
   have jB:min md 6=md:=dh 6 (by omega);have jJ:min md 9=md:=dh 9 (by omega);obtain⟨x,hx⟩:∃x,X.aa[i]? =some x:=⟨X.aa[i]'(by omega),by simp⟩
   have nt:X.aa.take (i+1)=X.aa.take i++[x]:=by rw[List.take_add_one,hx];rfl
   obtain⟨ha,hX,h5,fp,gv,di⟩:=dq hx;have w1:IntKind.i64.wrap ((i:Int)-1)=(i:Int)-1:=wrap_i64 (by omega) (by omega);have t1:(0<=(i:Int))=True:=eq_true (by omega);have b1:st.length*4<=R.length:=by omega
   have wz:putAt [.int .i64 0,.int .i64 0,.str [],.aD] 0 [.int .i64 x.ah,.int .i64 x.bx,.str x.aC,x.bH]=[.int .i64 x.ah,.int .i64 x.bx,.str x.aC,x.bH]:=rfl;have oJ:(st++[x]).length=st.length+1:=by simp
   have e2:((i+1:Nat):Int)-1=(i:Int):=by omega
   by_cases fL:st.length+1<=lb
   .obtain⟨p1,p2⟩:=vQ hR ht (by omega) x;have p3:=fy fe x (st.length*4) (by omega);have ih:=yK C n g aN hc X O os md dh w hw lb i m (st++[x]) (putAt R (st.length*4) x.cells) (by omega) (by omega) (by omega) (by omega) (by omega) p1 p2 p3;have b3:(st.length+1)*4<=R.length:=by omega
    rw[oJ,show st.length+1+i=st.length+(i+1) by omega] at ih;rw[e2,ai,nt,List.reverse_append];rw[hX,gv] at ih;rw[hX];simp only[List.append_assoc] at ih;simp[bD,bh,h5,hx,fp,gv,di,w1,t1,b1,fL,b3,hr,jB,jJ,fe,wz,aI,-eC];exact ih
   .have oI:lb=st.length:=by omega
    have ih:=BC C n g aN hc X O os md dh w hw i m (st++[x]) (by omega) (by omega) (by omega);have c1:(st.length+1)*56<=140737488355328:=by omega
    have c2:st.length+1<9223372036854775808:=by omega
    have pB:aw (st++[x])=aw st++[.int .i64 x.ah,.int .i64 x.bx,.str x.aC,x.bH]:=by simp[aw,Tm.cells]
    have lP:AV.aj (aw st++[.int .i64 x.ah,.int .i64 x.bx,.str x.aC,x.bH])=0:=by rw[<-pB];exact aT _
    rw[oJ,show st.length+1+i=st.length+(i+1) by omega,pB] at ih;rw[e2,ai,nt,List.reverse_append];rw[hX] at ih|-;simp only[List.append_assoc] at ih;simp[bD,bh,h5,hx,fp,gv,di,w1,t1,b1,fL,c1,c2,hr,jB,jJ,fe,ht,lP,aI];exact ih
theorem pn(n0:Nat)(vs:List Int):dB n0 (.map (mp vs))=true:=by rw[dx];unfold mp;rw[List.all_eq_true];intro e he;obtain⟨v,_,rfl⟩:=List.mem_map.1 he;simp[AV.aK]
theorem QE(v:Int):ints [v]=[.int .i64 v]:=rfl
def vo(x:Tm)(vs:List Int):List Int:=if x.ah=0/\x.bx∉vs then vs++[x.bx] else vs
def eO:Nat->List Tm->List Int->List Int
 |0,_,vs=>vs
 |_+1,[],vs=>vs
 |d+1,x::rs,vs=>eO d (x.aa++rs) (vo x vs)
def FE(T:Tm)(Y:aS)(vs:List Int)(md:Nat):af:=match vs with
 |[]=>⟨6,Y::db T .aD [],4,md⟩
 |v::vs=>⟨7,.row (ints (v::vs))::Y::db T (.vec 6 0 (vs.length+1) 1 (vs.length+1)) (v::vs),1,md⟩
theorem kJ(x:Tm)(h:x.fg fJ=true)(hk:x.ah=0):x.aa=[]:=by rw[iO,Bool.and_eq_true] at h;have:=h.1;unfold fJ at this;rw[if_pos hk] at this;simp only[Bool.and_eq_true,decide_eq_true_eq] at this;exact List.length_eq_zero_iff.1 this.2
theorem Pm(x:Tm)(h:x.aa=[]):x.bH=.aD\/x.bH=.sl []:=by
 cases x with
 |nl k n s=>exact .inl rfl
 |mk k n s us=>have h':us=[]:=h;subst h';exact .inr rfl
theorem uy{p:Tm->Bool}:∀{us:List Tm},Tm.eX p us=true->∀y∈us,y.fg p=true
 |[],_,y,h=>by simp at h
 |t::r,h,y,hy=>by
   simp only[Tm.eX,Bool.and_eq_true] at h;rcases List.mem_cons.1 hy with rfl|hy
   .exact h.1
   .exact uy h.2 y hy
theorem rC(n:Nat)(T:Tm):∀(d m:Nat) (rs:List Tm) (R:List AV) (lb:Nat) (md:Nat),Tm.bE rs<d->d<=m->d<=n->Tm.bE rs<50000->lb<1000000000->rs.length<=lb->R.length=lb*4->R.take (rs.length*4)=aw rs.reverse->AV.aj R=0->(∀x∈rs,x.fg fJ=true)->md<=4->
 (∃Y cS,iV 6 4 (cb (aF (aH (cV [eE]) (n+1)) (n+1) dk) dK 6 m (oY (.fn 127 [.ptr 3 0,.ptr 1 0]) (.vec 5 0 rs.length 4 lb)) ⟨6,.row R::db T .aD [],6,md⟩)=some (.exit 0,FM 44 [],FE T Y (eO d rs []) cS))/\
 (∃Y cS,iV 6 4 (cb (aF (aH (cV [eE]) (n+1)) (n+1) dk) dK 6 m (oY (.fn 127 [.ptr 3 0,.ptr 1 0]) (.vec 6 0 rs.length 4 lb)) ⟨7,.row R::.dead::db T .aD [],6,md⟩)=some (.exit 0,FM 44 [],FE T Y (eO d rs []) cS))/\
 (∀(v:Int) (vs:List Int),vs.length+Tm.bE rs<100000->∃Y cS,iV 6 4 (cb (aF (aH (cV [eE]) (n+1)) (n+1) dk) dK 6 m (oY (.fn 127 [.ptr 3 0,.ptr 1 0]) (.vec 5 0 rs.length 4 lb)) ⟨7,.row (ints (v::vs))::.row R::db T (.vec 6 0 (vs.length+1) 1 (vs.length+1)) (v::vs),1,md⟩)=some (.exit 0,FM 44 [],FE T Y (eO d rs (v::vs)) cS))/\
 (∀(v:Int) (vs:List Int),vs.length+Tm.bE rs<100000->∃Y cS,iV 6 4 (cb (aF (aH (cV [eE]) (n+1)) (n+1) dk) dK 6 m (oY (.fn 127 [.ptr 3 0,.ptr 1 0]) (.vec 6 0 rs.length 4 lb)) ⟨8,.row (ints (v::vs))::.row R::.dead::db T (.vec 7 0 (vs.length+1) 1 (vs.length+1)) (v::vs),1,md⟩)=some (.exit 0,FM 44 [],FE T Y (eO d rs (v::vs)) cS))
 |0,m,rs,R,lb,md,h,_,_,_,_,_,_,_,_,_,_=>by omega
 |d+1,0,rs,R,lb,md,_,h,_,_,_,_,_,_,_,_,_=>by omega
 |d+1,m+1,[],R,lb,md,_,_,_,_,_,_,hR,ht,fe,Fz,dh=>by
   have hT:AV.aj T.cells=0:=by simp[Tm.cells,AV.aj,AV.aK,ar]
   have aor:∀n0,dB n0 (.map (mp []))=true:=λn0=>pn n0 _
   have ge:=λnx os wl md=>W4 (n:=44) (m:=[]) 6 nx os wl md rfl
   refine⟨⟨.row R,md,?_⟩,⟨.dead,md,?_⟩,?_,?_⟩
   .simp[ai,dk,eO,fe,FE,db]
   .simp[ai,dk,eO,fe,FE,db]
   .intro v vs Fx;have Cj:∀n0,dB n0 (.map (mp (v::vs)))=true:=λn0=>pn n0 _
    have hI:=eo (v::vs);exact⟨.row R,min md 1,by simp[ai,dk,eO,fe,FE,db,hT,-dx,Cj,hI,ge]⟩
   .intro v vs Fx;have Cj:∀n0,dB n0 (.map (mp (v::vs)))=true:=λn0=>pn n0 _
    have hI:=eo (v::vs);exact⟨.dead,min md 1,by simp[ai,dk,eO,fe,FE,db,hT,-dx,Cj,hI,ge]⟩
 |d+1,m+1,x::rs,R,lb,md,hd,hm,hn,iz,oI,cT,hR,ht,fe,Fz,dh=>by
   have hsx:=bP x;simp only[Tm.bE] at hd iz;have hla:=iJ x.aa;have hlr:=iJ rs;have hs2:Tm.bE (x.aa++rs)=Tm.bE x.aa+Tm.bE rs:=lS _ _;rw[List.length_cons] at cT ht;rw[List.reverse_cons] at ht;have nV:rs.reverse.length=rs.length:=List.length_reverse;rw[<-nV] at ht;obtain⟨t1,t2⟩:=En ht;rw[nV] at t1 t2;have hT:AV.aj T.cells=0:=by simp[Tm.cells,AV.aj,AV.aK,ar]
   have w1:IntKind.i64.wrap (rs.length:Int)=(rs.length:Int):=wrap_i64 (by omega) (by omega);have b1:(0<(rs.length:Int)+1)=True:=eq_true (by omega);have b2:rs.length*4+4<=R.length:=by omega
   have m1:min md 6=md:=by omega
   have m2:min md 7=md:=by omega
   have m3:min md 8=md:=by omega
   have b3:((rs.length:Int)<(rs.length:Int)+1)=True:=eq_true (by omega)
   have nD:gV (rs.length+1) lb none (some (.int .i64 (rs.length:Int))) none=some (0,rs.length,none):=by
    have a1:(rs.length:Int)<=((max (rs.length+1) lb:Nat):Int):=by omega
    simp[gV,sliceB,a1]
   have Cd:AV.aj [AV.ptr 3 0,AV.ptr 1 0]=4:=by simp[AV.aj,AV.aK]
   have fp:=Tm.bJ x;have eR:=Tm.bG x;have di:=ar x;have X4:∀y∈rs,y.fg fJ=true:=λy hy=>Fz y (by simp[hy])
   have uh:∀y∈x.aa++rs,y.fg fJ=true:=λy hy=>by
    rcases List.mem_append.1 hy with hy|hy
    .have:=Fz x (by simp);rw[iO,Bool.and_eq_true] at this;exact uy this.2 y hy
    .exact X4 y hy
   have Jz:x.aa.take x.aa.length=x.aa:=List.take_length;have qS:rs.reverse++x.aa.reverse=(x.aa++rs).reverse:=by simp
   have oK:rs.length+x.aa.length=(x.aa++rs).length:=by simp;omega
   have w2:IntKind.i64.wrap ((x.aa.length:Int)-1)=(x.aa.length:Int)-1:=wrap_i64 (by omega) (by omega)
   have eU:∀(fr:List AV) (h:af) (o:cX),o.ev fr=x.bH->bC fr h (.xn o)=some (.int .i64 x.aa.length,h):=by intro fr h o ho;rw[lW,ho];cases x<;>simp[Tm.bH,Tm.aa]
   have JA:R.take (rs.reverse.length*4)=aw rs.reverse:=by rw[nV];exact t1
   refine⟨?_,?_,?_,?_⟩
   .have Cj:∀n0,dB n0 (.map (mp []))=true:=λn0=>pn n0 _
    by_cases nq:x.ah=0
    .have ha:=kJ x (Fz x (by simp)) nq
     have e:eO (d+1) (x::rs) []=eO d rs ([x.bx]):=by show eO d (x.aa++rs) (vo x [])=_;rw[ha,List.nil_append];congr 1;exact if_pos ⟨nq,by simp⟩
     rw[e];have hc:=Ws n x T R md dh nq;obtain⟨Y,cS,k2⟩:=(rC n T d m rs R lb (min md 1) (by omega) (by omega) (by omega) (by omega) oI (by omega) hR t1 fe X4 (by omega)).2.2.1 x.bx [] (by simp;omega);refine⟨Y,cS,?_⟩;rw[ai];have O6:∀n0,dB n0 (.map (mp ([x.bx])))=true:=λn0=>pn n0 _
     have X5:=eo ([x.bx]);have hx0:x.bH=.aD\/x.bH=.sl []:=Pm x ha;have wm:IntKind.i64.wrap (-1)=-1:=rfl;simp only[ha,List.length_nil,Int.natCast_zero] at eU;rw[fp,eR] at hc;rw[eR] at t2;skip;simp only[db,List.length_nil,Nat.zero_add,QE] at hc k2 X5;simp[bD,ai,dk,bh,dK,db,w1,b1,b2,b3,m1,m2,m3,t2,nD,Cd,fe,di,eU,hT,-dx,Cj,aV,O6,X5,hc,wm];exact k2
    .have e:eO (d+1) (x::rs) []=eO d (x.aa++rs) []:=by
      show eO d (x.aa++rs) (vo x [])=_;congr 1;exact if_neg (λh=>nq h.1)
     rw[e];have hc:=VQ n x T R md dh nq;rw[fp] at hc;by_cases fL:rs.length+x.aa.length<=lb
     .obtain⟨R',r1,r2,r3,eq⟩:=w6 (aH (cV [eE]) (n+1)) (n+1) 127 [.ptr 3 0,.ptr 1 0] (by simp[AV.aj,AV.aK]) x (db T .aD []) md (λk hk=>by omega) 6 rfl lb x.aa.length (n+1) rs.reverse R (Nat.le_refl _) (by omega) (by rw[nV];exact fL) (by omega) hR JA fe;obtain⟨Y,cS,k2⟩:=(rC n T d m (x.aa++rs) R' lb md (by omega) (by omega) (by omega) (by omega) oI (by rw[<-oK];exact fL) r1 (by rw[<-oK,<-qS,<-nV];rw[Jz] at r2;exact r2) r3 uh (by omega)).1;refine⟨Y,cS,?_⟩;rw[nV] at eq;rw[ai];rw[<-oK] at k2;rw[eR] at hc t2 eq;simp only[bh,db] at eq hc k2;simp[dk,bh,dK,db,w1,w2,b1,b2,b3,m1,m2,m3,t2,nD,Cd,fe,di,eU,hT,-dx,Cj,aV,hc,eq,r3];exact k2
     .have XW:(aw (x.aa++rs).reverse).length=(x.aa++rs).length*4:=by rw[cL,List.length_reverse]
      have MC:=aT (x.aa++rs).reverse;obtain⟨Y,cS,k2⟩:=(rC n T d m (x.aa++rs) (aw (x.aa++rs).reverse) (x.aa++rs).length md (by omega) (by omega) (by omega) (by omega) (by omega) (Nat.le_refl _) XW (List.take_of_length_le (by omega)) MC uh (by omega)).2.1;have eq:=wU (aH (cV [eE]) (n+1)) (n+1) 127 [.ptr 3 0,.ptr 1 0] (by simp[AV.aj,AV.aK]) x (db T .aD []) md (λk hk=>by omega) 6 rfl lb x.aa.length (n+1) rs.reverse R (Nat.le_refl _) (by omega) (by omega) (by omega) (by omega) hR JA fe;refine⟨Y,cS,?_⟩;rw[<-oK] at k2;have tR:=MC;rw[List.reverse_append] at tR k2;rw[Jz,qS,nV,List.reverse_append] at eq;rw[ai];rw[eR] at hc t2 eq;simp only[bh,db] at eq hc k2;simp[dk,bh,dK,db,w1,w2,b1,b2,b3,m1,m2,m3,t2,nD,Cd,fe,di,eU,hT,-dx,Cj,aV,hc,eq,tR];exact k2
   .have Cj:∀n0,dB n0 (.map (mp []))=true:=λn0=>pn n0 _
    by_cases nq:x.ah=0
    .have ha:=kJ x (Fz x (by simp)) nq
     have e:eO (d+1) (x::rs) []=eO d rs ([x.bx]):=by show eO d (x.aa++rs) (vo x [])=_;rw[ha,List.nil_append];congr 1;exact if_pos ⟨nq,by simp⟩
     rw[e];have hc:=UY n x T R md dh nq;obtain⟨Y,cS,k2⟩:=(rC n T d m rs R lb (min md 1) (by omega) (by omega) (by omega) (by omega) oI (by omega) hR t1 fe X4 (by omega)).2.2.2 x.bx [] (by simp;omega);refine⟨Y,cS,?_⟩;rw[ai];have O6:∀n0,dB n0 (.map (mp ([x.bx])))=true:=λn0=>pn n0 _
     have X5:=eo ([x.bx]);have hx0:x.bH=.aD\/x.bH=.sl []:=Pm x ha;have wm:IntKind.i64.wrap (-1)=-1:=rfl;simp only[ha,List.length_nil,Int.natCast_zero] at eU;rw[fp,eR] at hc;rw[eR] at t2;skip;simp only[db,List.length_nil,Nat.zero_add,QE] at hc k2 X5;simp[bD,ai,dk,bh,dK,db,w1,b1,b2,b3,m1,m2,m3,t2,nD,Cd,fe,di,eU,hT,-dx,Cj,aV,O6,X5,hc,wm];exact k2
    .have e:eO (d+1) (x::rs) []=eO d (x.aa++rs) []:=by
      show eO d (x.aa++rs) (vo x [])=_;congr 1;exact if_neg (λh=>nq h.1)
     rw[e];have hc:=Uz n x T R md dh nq;rw[fp] at hc;by_cases fL:rs.length+x.aa.length<=lb
     .obtain⟨R',r1,r2,r3,eq⟩:=wW (aH (cV [eE]) (n+1)) (n+1) 127 [.ptr 3 0,.ptr 1 0] (by simp[AV.aj,AV.aK]) x (.dead::db T .aD []) md (λk hk=>by omega) 6 rfl lb x.aa.length (n+1) rs.reverse R (Nat.le_refl _) (by omega) (by rw[nV];exact fL) (by omega) hR JA fe;obtain⟨Y,cS,k2⟩:=(rC n T d m (x.aa++rs) R' lb md (by omega) (by omega) (by omega) (by omega) oI (by rw[<-oK];exact fL) r1 (by rw[<-oK,<-qS,<-nV];rw[Jz] at r2;exact r2) r3 uh (by omega)).2.1;refine⟨Y,cS,?_⟩;rw[nV] at eq;rw[ai];rw[<-oK] at k2;rw[eR] at hc t2 eq;simp only[bh,db] at eq hc k2;simp[dk,bh,dK,db,w1,w2,b1,b2,b3,m1,m2,m3,t2,nD,Cd,fe,di,eU,hT,-dx,Cj,aV,hc,eq,r3];exact k2
     .have XW:(aw (x.aa++rs).reverse).length=(x.aa++rs).length*4:=by rw[cL,List.length_reverse]
      have MC:=aT (x.aa++rs).reverse;obtain⟨Y,cS,k2⟩:=(rC n T d m (x.aa++rs) (aw (x.aa++rs).reverse) (x.aa++rs).length md (by omega) (by omega) (by omega) (by omega) (by omega) (Nat.le_refl _) XW (List.take_of_length_le (by omega)) MC uh (by omega)).2.1;have eq:=wL (aH (cV [eE]) (n+1)) (n+1) 127 [.ptr 3 0,.ptr 1 0] (by simp[AV.aj,AV.aK]) x (.dead::db T .aD []) md (λk hk=>by omega) 6 rfl lb x.aa.length (n+1) rs.reverse R (Nat.le_refl _) (by omega) (by omega) (by omega) (by omega) hR JA fe;refine⟨Y,cS,?_⟩;rw[<-oK] at k2;have tR:=MC;rw[List.reverse_append] at tR k2;rw[Jz,qS,nV,List.reverse_append] at eq;rw[ai];rw[eR] at hc t2 eq;simp only[bh,db] at eq hc k2;simp[dk,bh,dK,db,w1,w2,b1,b2,b3,m1,m2,m3,t2,nD,Cd,fe,di,eU,hT,-dx,Cj,aV,hc,eq,tR];exact k2
   .intro v vs Fx;simp only[Tm.bE] at Fx;have Cj:∀n0,dB n0 (.map (mp (v::vs)))=true:=λn0=>pn n0 _
    have hI:=eo (v::vs);by_cases nq:x.ah=0/\x.bx∉v::vs
    .have ha:=kJ x (Fz x (by simp)) nq.1
     have e:eO (d+1) (x::rs) (v::vs)=eO d rs (v::(vs++[x.bx])):=by show eO d (x.aa++rs) (vo x (v::vs))=_;rw[ha,List.nil_append];congr 1;exact if_pos nq
     rw[e];have hc:=Vb n x T R v vs (by omega) md dh nq.1 nq.2;obtain⟨Y,cS,k2⟩:=(rC n T d m rs R lb (min md 1) (by omega) (by omega) (by omega) (by omega) oI (by omega) hR t1 fe X4 (by omega)).2.2.1 v (vs++[x.bx]) (by simp;omega);refine⟨Y,cS,?_⟩;rw[ai];have O6:∀n0,dB n0 (.map (mp (v::(vs++[x.bx]))))=true:=λn0=>pn n0 _
     have X5:=eo (v::(vs++[x.bx]));have hx0:x.bH=.aD\/x.bH=.sl []:=Pm x ha;have wm:IntKind.i64.wrap (-1)=-1:=rfl;simp only[ha,List.length_nil,Int.natCast_zero] at eU;rw[fp,eR] at hc;rw[eR] at t2;rw[List.cons_append] at hc;simp only[db,List.length_append,List.length_cons,List.length_nil,Nat.zero_add,QE] at hc k2 X5;simp[bD,ai,dk,bh,dK,db,w1,b1,b2,b3,m1,m2,m3,t2,nD,Cd,fe,di,eU,hT,-dx,Cj,aV,hI,O6,X5,hc,wm];exact k2
    .have e:eO (d+1) (x::rs) (v::vs)=eO d (x.aa++rs) (v::vs):=by
      show eO d (x.aa++rs) (vo x (v::vs))=_;congr 1;exact if_neg nq
     rw[e];have hc:=WG n x T R v vs (by omega) md dh (by by_cases h0:x.ah=0;exact .inr (Classical.byContradiction λh=>nq ⟨h0,h⟩);exact .inl h0);rw[fp] at hc;by_cases fL:rs.length+x.aa.length<=lb
     .obtain⟨R',r1,r2,r3,eq⟩:=yD (aH (cV [eE]) (n+1)) (n+1) 127 [.ptr 3 0,.ptr 1 0] (by simp[AV.aj,AV.aK]) x (.row (ints (v::vs))) (db T (.vec 6 0 (vs.length+1) 1 (vs.length+1)) (v::vs)) md (λk hk=>by omega) 1 rfl lb x.aa.length (n+1) rs.reverse R (Nat.le_refl _) (by omega) (by rw[nV];exact fL) (by omega) hR JA fe;obtain⟨Y,cS,k2⟩:=(rC n T d m (x.aa++rs) R' lb (min md 1) (by omega) (by omega) (by omega) (by omega) oI (by rw[<-oK];exact fL) r1 (by rw[<-oK,<-qS,<-nV];rw[Jz] at r2;exact r2) r3 uh (by omega)).2.2.1 v vs (by omega);refine⟨Y,cS,?_⟩;rw[nV] at eq;rw[ai];rw[<-oK] at k2;rw[eR] at hc t2 eq;simp only[bh,db] at eq hc k2;simp[dk,bh,dK,db,w1,w2,b1,b2,b3,m1,m2,m3,t2,nD,Cd,fe,di,eU,hT,-dx,Cj,aV,hI,hc,eq,r3];exact k2
     .have XW:(aw (x.aa++rs).reverse).length=(x.aa++rs).length*4:=by rw[cL,List.length_reverse]
      have MC:=aT (x.aa++rs).reverse;obtain⟨Y,cS,k2⟩:=(rC n T d m (x.aa++rs) (aw (x.aa++rs).reverse) (x.aa++rs).length (min md 1) (by omega) (by omega) (by omega) (by omega) (by omega) (Nat.le_refl _) XW (List.take_of_length_le (by omega)) MC uh (by omega)).2.2.2 v vs (by omega);have eq:=yG (aH (cV [eE]) (n+1)) (n+1) 127 [.ptr 3 0,.ptr 1 0] (by simp[AV.aj,AV.aK]) x (.row (ints (v::vs))) (db T (.vec 6 0 (vs.length+1) 1 (vs.length+1)) (v::vs)) md (λk hk=>by omega) 1 rfl lb x.aa.length (n+1) rs.reverse R (Nat.le_refl _) (by omega) (by omega) (by omega) (by omega) hR JA fe;refine⟨Y,cS,?_⟩;rw[<-oK] at k2;have tR:=MC;rw[List.reverse_append] at tR k2;rw[Jz,qS,nV,List.reverse_append] at eq;rw[ai];rw[eR] at hc t2 eq;simp only[bh,db] at eq hc k2;simp[dk,bh,dK,db,w1,w2,b1,b2,b3,m1,m2,m3,t2,nD,Cd,fe,di,eU,hT,-dx,Cj,aV,hI,hc,eq,tR];exact k2
   .intro v vs Fx;simp only[Tm.bE] at Fx;have Cj:∀n0,dB n0 (.map (mp (v::vs)))=true:=λn0=>pn n0 _
    have hI:=eo (v::vs);by_cases nq:x.ah=0/\x.bx∉v::vs
    .have ha:=kJ x (Fz x (by simp)) nq.1
     have e:eO (d+1) (x::rs) (v::vs)=eO d rs (v::(vs++[x.bx])):=by show eO d (x.aa++rs) (vo x (v::vs))=_;rw[ha,List.nil_append];congr 1;exact if_pos nq
     rw[e];have hc:=WT n x T R v vs (by omega) md dh nq.1 nq.2;obtain⟨Y,cS,k2⟩:=(rC n T d m rs R lb (min md 1) (by omega) (by omega) (by omega) (by omega) oI (by omega) hR t1 fe X4 (by omega)).2.2.2 v (vs++[x.bx]) (by simp;omega);refine⟨Y,cS,?_⟩;rw[ai];have O6:∀n0,dB n0 (.map (mp (v::(vs++[x.bx]))))=true:=λn0=>pn n0 _
     have X5:=eo (v::(vs++[x.bx]));have hx0:x.bH=.aD\/x.bH=.sl []:=Pm x ha;have wm:IntKind.i64.wrap (-1)=-1:=rfl;simp only[ha,List.length_nil,Int.natCast_zero] at eU;rw[fp,eR] at hc;rw[eR] at t2;rw[List.cons_append] at hc;simp only[db,List.length_append,List.length_cons,List.length_nil,Nat.zero_add,QE] at hc k2 X5;simp[bD,ai,dk,bh,dK,db,w1,b1,b2,b3,m1,m2,m3,t2,nD,Cd,fe,di,eU,hT,-dx,Cj,aV,hI,O6,X5,hc,wm];exact k2
    .have e:eO (d+1) (x::rs) (v::vs)=eO d (x.aa++rs) (v::vs):=by
      show eO d (x.aa++rs) (vo x (v::vs))=_;congr 1;exact if_neg nq
     rw[e];have hc:=V4 n x T R v vs (by omega) md dh (by by_cases h0:x.ah=0;exact .inr (Classical.byContradiction λh=>nq ⟨h0,h⟩);exact .inl h0);rw[fp] at hc;by_cases fL:rs.length+x.aa.length<=lb
     .obtain⟨R',r1,r2,r3,eq⟩:=yl (aH (cV [eE]) (n+1)) (n+1) 127 [.ptr 3 0,.ptr 1 0] (by simp[AV.aj,AV.aK]) x (.row (ints (v::vs))) (.dead::db T (.vec 7 0 (vs.length+1) 1 (vs.length+1)) (v::vs)) md (λk hk=>by omega) 1 rfl lb x.aa.length (n+1) rs.reverse R (Nat.le_refl _) (by omega) (by rw[nV];exact fL) (by omega) hR JA fe;obtain⟨Y,cS,k2⟩:=(rC n T d m (x.aa++rs) R' lb (min md 1) (by omega) (by omega) (by omega) (by omega) oI (by rw[<-oK];exact fL) r1 (by rw[<-oK,<-qS,<-nV];rw[Jz] at r2;exact r2) r3 uh (by omega)).2.2.2 v vs (by omega);refine⟨Y,cS,?_⟩;rw[nV] at eq;rw[ai];rw[<-oK] at k2;rw[eR] at hc t2 eq;simp only[bh,db] at eq hc k2;simp[dk,bh,dK,db,w1,w2,b1,b2,b3,m1,m2,m3,t2,nD,Cd,fe,di,eU,hT,-dx,Cj,aV,hI,hc,eq,r3];exact k2
     .have XW:(aw (x.aa++rs).reverse).length=(x.aa++rs).length*4:=by rw[cL,List.length_reverse]
      have MC:=aT (x.aa++rs).reverse;obtain⟨Y,cS,k2⟩:=(rC n T d m (x.aa++rs) (aw (x.aa++rs).reverse) (x.aa++rs).length (min md 1) (by omega) (by omega) (by omega) (by omega) (by omega) (Nat.le_refl _) XW (List.take_of_length_le (by omega)) MC uh (by omega)).2.2.2 v vs (by omega);have eq:=yK (aH (cV [eE]) (n+1)) (n+1) 127 [.ptr 3 0,.ptr 1 0] (by simp[AV.aj,AV.aK]) x (.row (ints (v::vs))) (.dead::db T (.vec 7 0 (vs.length+1) 1 (vs.length+1)) (v::vs)) md (λk hk=>by omega) 1 rfl lb x.aa.length (n+1) rs.reverse R (Nat.le_refl _) (by omega) (by omega) (by omega) (by omega) hR JA fe;refine⟨Y,cS,?_⟩;rw[<-oK] at k2;have tR:=MC;rw[List.reverse_append] at tR k2;rw[Jz,qS,nV,List.reverse_append] at eq;rw[ai];rw[eR] at hc t2 eq;simp only[bh,db] at eq hc k2;simp[dk,bh,dK,db,w1,w2,b1,b2,b3,m1,m2,m3,t2,nD,Cd,fe,di,eU,hT,-dx,Cj,aV,hI,hc,eq,tR];exact k2
def cU(t:Tm):List Int:=if dt t then eO (t.size+1) [t] [] else []
def zM(vs:List Int):AV:=match vs with
 |[]=>.aD
 |_=>.sl (ints vs)
theorem N4(vs:List Int):(zM vs).aK=0:=by
 cases vs with
 |nil=>rfl
 |cons v r=>rfl
theorem RU(vs:List Int):∀x∈ints vs,Ce 1 x:=by intro x hx;obtain⟨o,_,rfl⟩:=List.mem_map.1 hx;exact⟨rfl,rfl,(λ_=>rfl),(λh=>absurd rfl h),rfl⟩
theorem R9(vs:List Int):(ints vs).flatMap AV.cells=ints vs:=by
 unfold ints
 induction vs with
 |nil=>rfl
 |cons v r ih=>rw[List.map_cons,List.flatMap_cons,ih];rfl
theorem afN{h:af}{n0 d id:Nat}(v:Int)(r:List Int)(bZ:n0<=id)(hg:h.get id=some (.row (ints (v::r)))):
 jH h n0 (d+2) (.vec id 0 (r.length+1) 1 (r.length+1))=some (.sl (ints (v::r)),[id]):=by
 have hl:(ints (v::r)).length=r.length+1:=by simp[ints]
 exact vN bZ hg (by omega) (RU (v::r)) (by rw[hl]) (by rw[hl];omega) (by rw[R9,List.take_of_length_le];omega)
noncomputable def yw:aZ:=⟨87,λ|[v]=>(match il v with|some t=>if t.gr<1000000000 then some (zM (cU t)) else none|none=>none)|_=>none⟩
theorem Cp:yw.f=87:=(rfl)
theorem J4(t:Tm)(h:t.gr<1000000000):yw.S [t.aR]=some (zM (cU t)):=by simp only[yw,ew,if_pos h]
theorem JT:bB Tryz.prog yw:=λaa v hv=>by
 unfold yw at hv|-;dsimp only at hv|-;split at hv
 .rename_i x;split at hv
  .rename_i t ht;split at hv
   .rename_i hl;cases hv;rw[dY ht];refine cf (n:=t.size+5) (h':=h0) (ch (ss:=[eE]) (by simp[oM])) ?_ (N4 _) (by simp[AV.aj,Tm.cm]);have c1:=kE t hl;have fp:=Tm.bJ t;have eR:=Tm.bG t;have di:=ar t;unfold cU
    cases hg:dt t with
    |false=>rw[hg] at c1;rw[fp,eR] at c1|-;simp[Uy,c87,di,aE,c1,aV,zM]
    |true=>
      rw[hg] at c1;have Ci:=hg;simp only[dt,Bool.and_eq_true,decide_eq_true_eq] at Ci;obtain⟨Y,cS,eq⟩:=(rC (t.size+2) t (t.size+1) (t.size+3) [t] t.cells 1 4 (by simp[Tm.bE]) (by omega) (by omega) (by simp[Tm.bE];omega) (by omega) (by simp) rfl (by simp[aw];rfl) (by simp[Tm.cells,AV.aj,AV.aK,ar]) (λx hx=>by simp at hx;subst hx;exact Ci.2) (Nat.le_refl _)).1;simp only[if_true];generalize eO (t.size+1) [t] []=vs at *;have hT:AV.aj t.cells=0:=by simp[Tm.cells,AV.aj,AV.aK,ar]
      simp only[dK,oY,List.length_cons,List.length_nil,Nat.zero_add,db,show mp []=[] from rfl] at eq
      cases vs with
      |nil=>simp only[FE,db,show mp []=[] from rfl] at eq;rw[fp,eR] at c1|-;rw[eR] at eq;simp[Uy,c87,Gc,ZS,dK,di,aE,c1,aV,zM,eq]
      |cons v r=>
        simp only[FE,db] at eq
        have fk:∀d nx wl md os,nx=os.length+7->jH ⟨nx,os++[.row (ints (v::r)),Y,.row t.cells,.row [.map 2],.map (mp (v::r)),.row [.vec 6 0 (r.length+1) 1 (r.length+1)],.row t.cells],wl,md⟩ 0 (d+2) (.vec 6 0 (r.length+1) 1 (r.length+1))=some (.sl (ints (v::r)),[6]):=λd nx wl md os hn=>afN v r (Nat.zero_le 6) (by subst hn;simp[af.get,List.getElem?_append_right])
        have fk0:=λd wl md=>fk d 7 wl md [] rfl
        simp only[List.nil_append] at fk0;have rf:=eo (v::r);rw[fp,eR] at c1|-;rw[eR] at eq fk0;simp[Uy,c87,Gc,ZS,dK,di,aE,c1,aV,zM,eq,fk0,rf,-mj]
   .cases hv
  .cases hv
 .cases hv
def B8(T:List aY)(b:Bool)(ps:List (Int×Int))(t:Tm):List UInt8×Int:=if dt t=true/\dJ T=true then (if 4096<(wF T b (iZ ps) t 1200 false).length then ([],3) else (wF T b (iZ ps) t 1200 false,0)) else ([],1)
def FN(t:Tm):Prop:=t.gr<1000000000/\t.fg qZ=true
instance (t:Tm):Decidable (FN t):=by unfold FN;infer_instance
noncomputable def yj:cq:=⟨56,λ
 |[.ptr 0 0,v],os=>(match B4 os,il v with
   |some W,some t=>if FN t then some (.tuple [.str (B8 W.T W.b W.ps t).1,.int .i64 (B8 W.T W.b W.ps t).2],none) else none
   |_,_=>none)
 |_,_=>none⟩
theorem zP:yj.f=56:=(rfl)
theorem LF{x:AV}{T:List aY}(hx:a8 x=some T)(b:Bool)(ps:List (Int×Int))(hT:T.length<1000000)(hp:pC ps=true)(t:Tm)(h:FN t):
 yj.S [.ptr 0 0,t.aR] (kQ x b ps)=some (.tuple [.str (B8 T b ps t).1,.int .i64 (B8 T b ps t).2],none):=by
 simp only[yj,oD hx b ps hT hp,ew];rw[if_pos h]
theorem LS:cr Tryz.prog bV yj:=λaa os v r hv=>by
 unfold yj at hv;dsimp only at hv;split at hv
 .rename_i v0 os;split at hv
  .rename_i W t hW ht;split at hv
   .rename_i hc;cases hv;obtain⟨x,hx,rfl,hT,hp⟩:=mi hW;obtain⟨T,b,ps⟩:=W;dsimp only at hx hT hp|-;rw[dY ht,zP];have hE:bY Tryz.prog bV (cg [eE,pM] [gC 2001]):=dW (by simp[oM.lift,Fe.lift]) (by simp[Ed 2001]);have q1:=kE t hc.1;have q2:=EG hx (by omega);have tY:=ar t;have eR:=Tm.bG t;have jI:=dN T;refine qu (n:=6) (m:=2) hE hx ?_ (by simp[AV.aK,AV.aj]) (by simp[AV.aj,Tm.cm]);unfold B8
    cases hg:dt t with
    |false=>rw[hg] at q1;rw[if_neg (by simp)];rw[Tm.bJ,eR] at q1|-;simp[MS,c56,aV,oQ,cp,q1,tY,aE]
    |true=>
      rw[hg] at q1
      cases hg2:dJ T with
      |false=>
        rw[hg2] at q2;rw[if_neg (by simp)];rw[Tm.bJ,eR] at q1|-;rcases bj hx with⟨rfl,rfl⟩|rfl<;>
        simp[MS,c56,aV,oQ,cp,q1,q2,tY,aE]
      |true=>
        rw[hg2] at q2;rw[if_pos ⟨rfl,rfl⟩];have cK:vZ t:=⟨hg,hc.1,hc.2⟩
        have hs:=hg;simp only[dt,Bool.and_eq_true,decide_eq_true_eq] at hs;have q3:=kv 2001 hx b ps hT hp t ⟨cK,by omega⟩ 1200 false;simp only[kQ] at q3;generalize wF T b (iZ ps) t 1200 false=A at *;rw[Tm.bJ,eR] at q1 q3|-;by_cases hl:4096<A.length;have qR:((4096:Int)<(A.length:Int))=True:=eq_true (by omega);rw[if_pos hl]
        rotate_left
        have qR:((4096:Int)<(A.length:Int))=False:=eq_false (by omega);rw[if_neg hl]
        rotate_left
        all_goals
         rcases bj hx with⟨rfl,rfl⟩|rfl<;>
         simp[MS,c56,aV,oQ,cp,dI,cP,-dp,-cF,q1,q2,q3,tY,jI,aE,qR]
   .cases hv
  .cases hv
 .cases hv
def xe:Nat->List Int->List (Int×Int)
 |_,[]=>[]
 |k,v::r=>(v,(k:Int))::xe (k+1) r
def eS(vs:List Int):List (Int×Int):=xe 0 vs
theorem Bg(v:Int):∀(a:List Int) (k:Nat),xe k (a++[v])=xe k a++[(v,((k+a.length:Nat):Int))]
 |[],k=>rfl
 |w::r,k=>by show (w,(k:Int))::xe (k+1) (r++[v])=(w,(k:Int))::xe (k+1) r++[_];rw[Bg v r (k+1),List.cons_append,List.length_cons];congr 4;omega
theorem Be(n:Int):∀(a:List Int) (k:Nat),n∉a->Jv n (xe k a)=none
 |[],k,_=>rfl
 |w::r,k,h=>by
   have h1:¬n=w:=λe=>h (by simp[e])
   unfold xe Jv;rw[if_neg h1];exact Be n r (k+1) (λe=>h (List.mem_cons_of_mem _ e))
theorem VP(v i:Int):∀ps,Jv v ps=none->va 1 (.int .i64 v) (.int .i64 i) (gR ps)=some (gR (ps++[(v,i)]))
 |[],_=>rfl
 |(a,b)::r,h=>by
   unfold Jv at h;split at h
   .cases h
   .rename_i hn;have ih:=VP v i r h;unfold gR at ih|-;simp only[List.map_cons,List.cons_append,va];simp[ij,hn,ih]
theorem PZ:∀(vs:List Int) (k:Nat),k+vs.length<1000000000->pC (xe k vs)=true
 |[],_,_=>rfl
 |v::r,k,h=>by rw[List.length_cons] at h;have ih:=PZ r (k+1) (by omega);unfold xe pC;unfold pC at ih;rw[List.all_cons,ih,Bool.and_true];simp only[Bool.and_eq_true,decide_eq_true_eq];omega
theorem GH:∀(d:Nat) (rs:List Tm) (vs:List Int),(eO d rs vs).length<=vs.length+d
 |0,rs,vs=>by simp[eO]
 |d+1,[],vs=>by simp[eO]
 |d+1,x::rs,vs=>by
   have:=GH d (x.aa++rs) (vo x vs);have h2:(vo x vs).length<=vs.length+1:=by unfold vo;split<;>simp
   unfold eO;omega
theorem BD:∀(d:Nat) (rs:List Tm) (vs:List Int),vs.Nodup->(eO d rs vs).Nodup
 |0,rs,vs,h=>by simpa[eO] using h
 |d+1,[],vs,h=>by simpa[eO] using h
 |d+1,x::rs,vs,h=>by
   unfold eO;refine BD d _ _ ?_;unfold vo;split
   .rename_i hc;rw[List.nodup_append];refine⟨h,by simp,λa ha b hb=>?_⟩;simp at hb;subst hb;exact λe=>hc.2 (e▸ha)
   .exact h
theorem rq(t:Tm):(cU t).length<=2001:=by
 unfold cU;split
 .rename_i hg;simp only[dt,Bool.and_eq_true,decide_eq_true_eq] at hg;have:=GH (t.size+1) [t] [];simp at this;omega
 .simp
theorem BG(t:Tm):(cU t).Nodup:=by
 unfold cU;split
 .exact BD _ _ _ List.nodup_nil
 .exact List.nodup_nil
theorem GM(C:Nat->List AV->af->Option (AV×af))(n w:Nat)(hw:min w 3=w)(vs:List Int)(hl:vs.length<1000000)(hn:vs.Nodup)(os:List aS):∀(post pre:List Int) (m md:Nat),md<=2->vs=pre++post->post.length<m->
 iV 3 w (cb (aF C n rY) mY 3 m (HY (.map 2) (.sl (ints vs)) (.int .i64 vs.length) (.int .i64 pre.length)) ⟨3,.map (gR (eS pre))::os,3,md⟩)=
  some (.exit 0,FM 20 [(3,.map 2)],⟨3,.map (gR (eS vs))::os,w,md⟩)
 |_,_,0,_,_,_,h=>by omega
 |[],pre,m+1,md,dh,hs,_=>by rw[ai];rw[List.append_nil] at hs;subst hs;simp[rY,mY,hw]
 |v::r,pre,m+1,md,dh,hs,hm=>by
   rw[ai];have BZ:pre.length+r.length+1=vs.length:=by rw[hs];simp;omega
   have h6:((pre.length:Int)<(vs.length:Int))=True:=eq_true (by omega);have hc:(ints vs)[pre.length]? =some (.int .i64 v):=by unfold ints;rw[List.getElem?_map,hs];simp
   have wy:(ints vs).length=vs.length:=by simp[ints]
   have h3:IntKind.i64.wrap ((pre.length:Int)+1)=(pre.length:Int)+1:=wrap_i64 (by omega) (by omega)
   have hnv:v∉pre:=λh=>by rw[hs,List.nodup_append] at hn;exact hn.2.2 v h v (by simp) rfl
   have hz:eS (pre++[v])=eS pre++[(v,(pre.length:Int))]:=by unfold eS;rw[Bg,Nat.zero_add]
   have hmu:=VP v pre.length (eS pre) (Be v pre 0 hnv);have hmm:min md 2=md:=by omega
   have ih:=GM C n w hw vs hl hn os r (pre++[v]) m md dh (by rw[hs];simp) (by simp at hm;omega);simp only[List.length_append,List.length_cons,List.length_nil,Nat.zero_add,Int.natCast_add,Int.natCast_one,hz] at ih;have hr:=eo vs;generalize ints vs=I at *;simp[rY,mY,h6,hc,wy,h3,hmu,hr,jh,af.hP,hmm];exact ih
theorem G6(C:Nat->List AV->af->Option (AV×af))(n w:Nat)(hw:min w 4=w)(vs:List Int)(hl:vs.length<1000000)(hn:vs.Nodup)(os:List aS):∀(post pre:List Int) (m md:Nat),md<=3->vs=pre++post->post.length<m->
 iV 4 w (cb (aF C n rY) mY 4 m (HY (.map 3) (.sl (ints vs)) (.int .i64 vs.length) (.int .i64 pre.length)) ⟨4,.map (gR (eS pre))::os,4,md⟩)=
  some (.exit 0,FM 20 [(3,.map 3)],⟨4,.map (gR (eS vs))::os,w,md⟩)
 |_,_,0,_,_,_,h=>by omega
 |[],pre,m+1,md,dh,hs,_=>by rw[ai];rw[List.append_nil] at hs;subst hs;simp[rY,mY,hw]
 |v::r,pre,m+1,md,dh,hs,hm=>by
   rw[ai];have BZ:pre.length+r.length+1=vs.length:=by rw[hs];simp;omega
   have h6:((pre.length:Int)<(vs.length:Int))=True:=eq_true (by omega);have hc:(ints vs)[pre.length]? =some (.int .i64 v):=by unfold ints;rw[List.getElem?_map,hs];simp
   have wy:(ints vs).length=vs.length:=by simp[ints]
   have h3:IntKind.i64.wrap ((pre.length:Int)+1)=(pre.length:Int)+1:=wrap_i64 (by omega) (by omega)
   have hnv:v∉pre:=λh=>by rw[hs,List.nodup_append] at hn;exact hn.2.2 v h v (by simp) rfl
   have hz:eS (pre++[v])=eS pre++[(v,(pre.length:Int))]:=by unfold eS;rw[Bg,Nat.zero_add]
   have hmu:=VP v pre.length (eS pre) (Be v pre 0 hnv);have hmm:min md 3=md:=by omega
   have ih:=G6 C n w hw vs hl hn os r (pre++[v]) m md dh (by rw[hs];simp) (by simp at hm;omega);simp only[List.length_append,List.length_cons,List.length_nil,Nat.zero_add,Int.natCast_add,Int.natCast_one,hz] at ih;have hr:=eo vs;generalize ints vs=I at *;simp[rY,mY,h6,hc,wy,h3,hmu,hr,jh,af.hP,hmm];exact ih
def rp(n:Int)(l:List Int):List Int:=if n∈l then l else l++[n]
mutual
def iW:Tm->List Int->List Int
 |.nl k n _,l=>if k=0 then rp n l else l
 |.mk k n _ us,l=>if k=0 then rp n l else fZ us l
def fZ:List Tm->List Int->List Int
 |[],l=>l
 |t::r,l=>fZ r (iW t l)
end
theorem Lh(t:Tm)(l:List Int):iW t l=if t.ah=0 then rp t.bx l else fZ t.aa l:=by
 cases t with
 |nl k n s=>
   show (if k=0 then rp n l else l)=if k=0 then rp n l else fZ [] l
   split<;>rfl
 |mk k n s us=>rfl
theorem EH:∀(a b:List Tm) (l:List Int),fZ (a++b) l=fZ b (fZ a l)
 |[],b,l=>rfl
 |t::a,b,l=>EH a b (iW t l)
theorem L3:∀(d:Nat) (rs:List Tm) (vs:List Int),Tm.bE rs<d->(∀x∈rs,x.fg fJ=true)->eO d rs vs=fZ rs vs
 |0,rs,vs,h,_=>by omega
 |d+1,[],vs,_,_=>rfl
 |d+1,x::rs,vs,h,Fz=>by
   have hs:=bP x;simp only[Tm.bE] at h;have hs2:Tm.bE (x.aa++rs)=Tm.bE x.aa+Tm.bE rs:=lS _ _;have hx:=Fz x (by simp)
   have uh:∀y∈x.aa++rs,y.fg fJ=true:=λy hy=>by
    rcases List.mem_append.1 hy with hy|hy
    .have h2:=hx;rw[iO,Bool.and_eq_true] at h2;exact uy h2.2 y hy
    .exact Fz y (by simp[hy])
   show eO d (x.aa++rs) (vo x vs)=fZ rs (iW x vs);rw[L3 d _ _ (by omega) uh,EH,Lh];by_cases h0:x.ah=0
   .rw[if_pos h0,kJ x hx h0];show fZ rs (vo x vs)=_;congr 1;unfold vo rp;by_cases hm:x.bx∈vs
    .rw[if_neg (λh=>h.2 hm),if_pos hm]
    .rw[if_pos ⟨h0,hm⟩,if_neg hm]
   .rw[if_neg h0];congr 2;unfold vo;rw[if_neg (λh=>h0 h.1)]
theorem Fh(t:Tm):cU t=if dt t then iW t [] else []:=by
 unfold cU
 cases hg:dt t with
 |false=>rfl
 |true=>simp only[dt,Bool.and_eq_true,decide_eq_true_eq] at hg;rw[if_pos rfl,if_pos rfl,L3 _ _ _ (by simp[Tm.bE]) (λx hx=>by simp at hx;subst hx;exact hg.2)];rfl
theorem WZ{a b:List UInt8}{l:Int}(h:qW a b l=true):kg b=!mr b:=by
 have hx:kg b=true->mr b=false:=λhb=>by
  unfold kg at hb;simp only[Bool.or_eq_true] at hb;rcases hb with (hb|hb)|hb
  .have e:b=[120,102,120]:=by simpa using hb
   subst e;rfl
  .have e:b=[120,102,121]:=by simpa using hb
   subst e;rfl
  .have e:b=[121,102,120]:=by simpa using hb
   subst e;rfl
 cases hb:kg b with
 |true=>rw[hx hb];rfl
 |false=>
   cases ha:mr b with
   |true=>rfl
   |false=>
     exfalso;unfold qW at h;rw[hb,ha] at h;split at h
     .simp only[Bool.and_eq_true] at h;have e:b=[120,102,121]:=by simpa using h.1
      subst e;cases hb
     .simp at h
theorem EV{α:Type}{p:α->Bool}:∀{l:List α} {i:Nat} {x:α},lZ p l=some i->l[i]? =some x->p x=true
 |[],i,x,h,_=>by simp[lZ] at h
 |y::r,i,x,h,hx=>by
   unfold lZ at h
   cases hp:p y with
   |true=>rw[hp,if_pos rfl] at h;cases h;simp at hx;rw[<-hx];exact hp
   |false=>rw[hp,if_neg (by simp)] at h;rw[Option.map_eq_some_iff] at h;obtain⟨j,h1,rfl⟩:=h;exact EV h1 (by simpa using hx)
theorem Aq{l:List aY}{s:List UInt8}{b:Bool}(h:(aM l s b).2=true):(aM l s b).1∈l/\(aM l s b).1.n=s/\mr (aM l s b).1.k=b:=by
 unfold aM at h|-;split at h
 .cases h
 .rename_i i hi;split at h
  .rename_i hg;rw[if_pos hg];have de:=zo hi;have hp:=EV hi (List.getElem?_eq_getElem de);simp only[Bool.and_eq_true,beq_iff_eq] at hp;have e:l.getD i fF=l[i]:=by simp[List.getD,List.getElem?_eq_getElem de]
   dsimp only;rw[e];exact⟨List.getElem_mem de,hp.1,hp.2⟩
  .cases h
structure Dw where
 T:List aY
 vs:List Int
def zz(m:Nat):List AV:=(List.replicate m zT).flatten
section
variable {b:UInt8}(hb:iG b=true)
include hb
theorem Ka:b.toNat=32\/b.toNat=9\/b.toNat=10\/b.toNat=13:=by unfold iG at hb;simpa[or_assoc] using hb
end
theorem KS(p:UInt8->Bool){b:UInt8}(hp:p b=false)(v:List UInt8):∀u,runN p (u++b::v)=runN p u
 |[]=>by show (if p b then _ else 0)=0;rw[hp];rfl
 |c::r=>by
   show (if p c then runN p (r++b::v)+1 else 0)=if p c then runN p r+1 else 0
   rw[KS p hp v r]
section
variable {b:UInt8}(hb:iG b=true)(v:List UInt8)
include hb
end
theorem nf:∀(n m:Nat) (l:List UInt8),l.length<n->l.length<m->dG n l=dG m l
 |0,_,_,h,_=>by omega
 |_+1,0,_,_,h=>by omega
 |n+1,m+1,[],_,_=>rfl
 |n+1,m+1,c::r,h1,h2=>by
   simp only[List.length_cons] at h1 h2;unfold dG;by_cases hb:iG c=true
   .rw[if_pos hb,if_pos hb,nf n m r (by omega) (by omega)]
   rw[if_neg hb,if_neg hb];by_cases hc:c.toNat=37
   .have hp:1<=runN lD (c::r):=pw (by unfold lD;rw[hc];rfl);have hl:((c::r).drop (runN lD (c::r))).length<=r.length:=by rw[List.length_drop];simp;omega
    rw[if_pos hc,if_pos hc,nf n m _ (by omega) (by omega)]
   .rw[if_neg hc,if_neg hc]
def ey(x:List UInt8):List UInt8:=x.drop (dG (x.length+1) x)
theorem kF(x:List UInt8):(ey x).length<=x.length:=by unfold ey;rw[List.length_drop];omega
theorem pT{c:UInt8}{r:List UInt8}(h:iG c=true):ey (c::r)=ey r:=by
 unfold ey
 conv=>lhs;rw[show dG ((c::r).length+1) (c::r)=dG (r.length+1) r+1 from by
  conv=>lhs;unfold dG
  rw[if_pos h];rfl]
 rfl
theorem Q8{c:UInt8}{r:List UInt8}(h:c.toNat=37):ey (c::r)=ey ((c::r).drop (runN lD (c::r))):=by
 have hb:¬iG c=true:=λe=>by have:=Ka e;omega
 have hp:1<=runN lD (c::r):=pw (by unfold lD;rw[h];rfl);have hl:((c::r).drop (runN lD (c::r))).length<=r.length:=by rw[List.length_drop];simp;omega
 have e:dG ((c::r).length+1) (c::r)=runN lD (c::r)+dG (((c::r).drop (runN lD (c::r))).length+1) ((c::r).drop (runN lD (c::r))):=by
  conv=>lhs;unfold dG
  rw[if_neg hb,if_pos h,nf (c::r).length (((c::r).drop (runN lD (c::r))).length+1) _ (by simp only[List.length_cons];omega) (by omega)]
 unfold ey;rw[e,List.drop_drop]
theorem lT{c:UInt8}{r:List UInt8}(h1:¬iG c=true)(h2:¬c.toNat=37):ey (c::r)=c::r:=by unfold ey dG;rw[if_neg h1,if_neg h2];rfl
def oC(u:List UInt8):List UInt8:=u.drop (bN u).2.1
def ll(u:List UInt8):List UInt8:=ey (oC u)
def Iz(u:List UInt8):cB:=⟨(bN u).1.ah,(bN u).1.ay,(bN u).1.bx,decide ((oC u).head?.map UInt8.toNat=some 40),decide (u.length-(ll u).length=1/\ll u≠[])⟩
theorem E8{u:List UInt8}(h:(bN u).2.2=0):(oC u).length<u.length/\(ll u).length<u.length:=by
 have h1:=gB u;have h2:=h1.2 h;have h3:=kF (oC u);have h4:(oC u).length=u.length-(bN u).2.1:=by unfold oC;rw[List.length_drop]
 unfold ll;omega
def DT:Nat->List UInt8->Option (List cB)
 |0,_=>none
 |_+1,[]=>some []
 |n+1,c::r=>if (bN (c::r)).2.2=0 then (DT n (ll (c::r))).map (Iz (c::r)::·) else none
def ad6(x:List UInt8):Option (List cB):=DT (x.length+1) (ey x)
section
variable {b:UInt8}(hb:b.toNat=10)(v:List UInt8)
include hb
end
theorem QK:∀(f:Nat) (s:List UInt8) (j:Nat) (aJ:List Tok),j<=s.length->s.length-j<f->(nP f s j aJ).2.2=0->∃M,(nP f s j aJ).1=aJ++M/\DT f (s.drop j)=some (kB M)/\M.head?.map Tok.bM=if j<s.length then some (j:Int) else none
 |0,_,_,_,_,h,_=>by omega
 |f+1,s,j,aJ,hj,hf,h=>by
   unfold nP at h|-;by_cases h1:s.length<=j
   .rw[if_pos h1];refine⟨[],by simp,?_,?_⟩
    .rw[List.drop_of_length_le h1];rfl
    .rw[if_neg (by omega)];rfl
   rw[if_neg h1] at h|-;by_cases h2:(bN (s.drop j)).2.2=0
   .rw[if_neg (λg=>g h2)] at h|-;by_cases h3:(((bN (s.drop j)).1.ah=1\/(bN (s.drop j)).1.ah=2)/\64<(bN (s.drop j)).1.ay.length)\/aJ.length=1024
    .rw[if_pos h3] at h;cases h
    rw[if_neg h3] at h|-;have hu:s.drop j≠[]:=λe=>by have:=congrArg List.length e;simp at this;omega
    have l1:=E8 h2;have l2:=gB (s.drop j);have l3:=l2.2 h2;have ld:(s.drop j).length=s.length-j:=List.length_drop;have en:oC (s.drop j)=s.drop (j+(bN (s.drop j)).2.1):=by unfold oC;rw[List.drop_drop]
    have ek:dG (s.length+1) (s.drop (j+(bN (s.drop j)).2.1))=dG ((oC (s.drop j)).length+1) (oC (s.drop j)):=by rw[en];exact nf _ _ _ (by rw[List.length_drop];omega) (Nat.lt_succ_self _)
    have er:ll (s.drop j)=s.drop (j+(bN (s.drop j)).2.1+dG (s.length+1) (s.drop (j+(bN (s.drop j)).2.1))):=by unfold ll ey;rw[<-ek,en,List.drop_drop]
    have lk:=iM (s.length+1) (s.drop (j+(bN (s.drop j)).2.1));rw[List.length_drop] at lk;have lr:=congrArg List.length er;rw[List.length_drop] at lr;obtain⟨M,a1,a2,a3⟩:=QK f s _ _ (by omega) (by omega) h;rw[<-er] at a2;refine⟨⟨(bN (s.drop j)).1.ah,(bN (s.drop j)).1.ay,(bN (s.drop j)).1.bx,decide ((s[j+(bN (s.drop j)).2.1]?.map UInt8.toNat)=some 40),j⟩::M,by rw[a1];simp,?_,by rw[if_pos (by omega)];rfl⟩
    cases hd:s.drop j with
    |nil=>exact absurd hd hu
    |cons c r=>
      rw[<-hd];have:DT (f+1) (s.drop j)=if (bN (s.drop j)).2.2=0 then (DT f (ll (s.drop j))).map (Iz (s.drop j)::·) else none:=by rw[hd];rfl
      rw[this,if_pos h2,a2];show some _=some (_::kB M);refine congrArg some (congrArg (·::kB M) ?_);unfold Iz;congr 1
      .rw[en,List.head?_drop]
      .cases M with
       |nil=>
         have hz:¬(j+(bN (s.drop j)).2.1+dG (s.length+1) (s.drop (j+(bN (s.drop j)).2.1)))<s.length:=λg=>by rw[if_pos g] at a3;cases a3
         show decide _=false;refine decide_eq_false λg=>g.2 ?_
         rw[er];exact List.drop_of_length_le (by omega)
       |cons t M=>
         have hz:(j+(bN (s.drop j)).2.1+dG (s.length+1) (s.drop (j+(bN (s.drop j)).2.1)))<s.length:=by
          refine Decidable.byContradiction λg=>?_
          rw[if_neg g] at a3;cases a3
         rw[if_pos hz] at a3;have ht:t.bM=((j+(bN (s.drop j)).2.1+dG (s.length+1) (s.drop (j+(bN (s.drop j)).2.1)):Nat):Int):=Option.some.inj a3;show decide _=decide (t.bM=(j:Int)+1);refine decide_eq_decide.2 ⟨λg=>by rw[ht];omega,λg=>⟨by rw[ht] at g;omega,λe=>by rw[e] at lr;simp at lr;omega⟩⟩
   .rw[if_pos h2] at h;exact absurd h h2
theorem JR{s:List UInt8}(h:(dC s).2.2=0):ad6 s=some (kB (dC s).1):=by
 unfold dC at h|-;by_cases hl:4096<s.length
 .rw[if_pos hl] at h;cases h
 rw[if_neg hl] at h|-;have hk:=iM (s.length+1) s;obtain⟨M,a1,a2,_⟩:=QK (s.length+1) s (dG (s.length+1) s) [] hk (by omega) h;rw[a1,List.nil_append];exact a2
def aa9(e:cB):Prop:=e.ah=6\/(e.ah=5/\e.ay=[41])
def Sw(Q Q':List cB)(d:Nat)(s s':St):Prop:=∃R,s.ak=R++Q/\s'.ak=R++Q'/\s'.bM=s.bM+d/\s'.next=s.next/\s'.ae=s.ae
section
variable {Q1 Q1':List cB}{e e':cB}{d:Nat}(he:aa9 e)(MN:aa9 e')
section
variable {s s':St}(h:Sw (e::Q1) (e'::Q1') d s s')
include h
end
def SwR(Q1 Q1':List cB)(e e':cB)(d:Nat)(rec:Int->St->PR×St):Prop:=∀n s s',Sw (e::Q1) (e'::Q1') d s s'->(rec n s).1.2.2=true->Q1.length+1<=(rec n s).2.ak.length->(rec n s').1=(rec n s).1/\Sw (e::Q1) (e'::Q1') d (rec n s).2 (rec n s').2
variable {rec:Int->St->PR×St}(H:Af rec)(W:SwR Q1 Q1' e e' d rec)
include H W MN
end
def zW:cB:=⟨6,[],0,false,false⟩
def KO:List UInt8:=[120,102,120]
def xfy:List UInt8:=[120,102,121]
def UF:List UInt8:=[121,102,120]
def fyK:List UInt8:=[102,121]
def bw:List aY:=[⟨[58,45],KO,1200⟩,⟨[59],xfy,1100⟩,⟨[45,62],xfy,1050⟩,⟨[44],xfy,1000⟩,⟨[92,43],fyK,900⟩,
 ⟨[61],KO,700⟩,⟨[92,61],KO,700⟩,⟨[61,61],KO,700⟩,⟨[92,61,61],KO,700⟩,⟨[64,60],KO,700⟩,⟨[64,62],KO,700⟩,⟨[64,61,60],KO,700⟩,⟨[64,62,61],KO,700⟩,
 ⟨[61,46,46],KO,700⟩,⟨[105,115],KO,700⟩,⟨[61,58,61],KO,700⟩,⟨[61,92,61],KO,700⟩,⟨[60],KO,700⟩,⟨[62],KO,700⟩,⟨[61,60],KO,700⟩,⟨[62,61],KO,700⟩,
 ⟨[43],UF,500⟩,⟨[45],UF,500⟩,⟨[47,92],UF,500⟩,⟨[92,47],UF,500⟩,⟨[120,111,114],UF,500⟩,
 ⟨[42],UF,400⟩,⟨[47,47],UF,400⟩,⟨[109,111,100],UF,400⟩,⟨[114,101,109],UF,400⟩,⟨[62,62],UF,400⟩,⟨[60,60],UF,400⟩,
 ⟨[94],xfy,200⟩,⟨[45],fyK,200⟩,⟨[92],fyK,200⟩]
def kU:aZ:=⟨12,λ|[]=>some (.agg [.sl (bw.map aY.aR)])|_=>none⟩
theorem cA:kU.f=12:=(rfl)
theorem nE:kU.S []=some (.agg [.sl (bw.map aY.aR)]):=(rfl)
theorem LW:(aH (cV []) 60 12 [] h0).map (·.1)=some (.agg [.sl (bw.map aY.aR)]):=by kernel_rfl
theorem uN:bB Tryz.prog kU:=λaa v hv=>by
 unfold kU at hv|-;dsimp only at hv|-;split at hv
 .cases hv;obtain⟨p,h1,h2⟩:=Option.map_eq_some_iff.1 LW;obtain⟨a,h'⟩:=p;dsimp only at h2;subst h2;exact cf (n:=60) (h':=h') (ch (ss:=[]) (by simp)) h1 (by decide+kernel) rfl
 .cases hv
theorem wK:dJ bw=true:=by decide+kernel
theorem Tryz.own:ownKnob Tryz.prog.godebug=none:=by kernel_rfl
theorem Tryz.laidOut:laidOutB Tryz.prog=true:=by kernel_rfl
theorem Qi{l:List (String×DataW Unit)}{W:World}(hL:laidMetH Tryz.prog l W)
 (h:(l.filter λx=>x.1== "internal/strconv.uint64pow10")=[("internal/strconv.uint64pow10",Lib.tabData .u64 Lib.pow10Tab)]/\(l.filter λx=>x.1== "strconv.ErrRange")=[("strconv.ErrRange",Rows.laid_strconv_ErrRange)]):bV W:=by
 have h1:=hL.filter λx=>x.1== "internal/strconv.uint64pow10"
 rw[h.1,MakeChecks.laidMetH_plain _ _ _ (by kernel_rfl)] at h1;have h2:=hL.filter λx=>x.1== "strconv.ErrRange"
 rw[h.2,MakeChecks.laidMetH_plain _ _ _ (by kernel_rfl)] at h2;refine⟨Lib.tabIs_of_head (g:=5) (by kernel_rfl) (t:=251) (by kernel_rfl) (e:=213) (n:=20) (by kernel_rfl) (by kernel_rfl) (by kernel_rfl) (by kernel_rfl) h1,?_⟩;exact FH (g:=2) (t:=170) (ms:=#[("Error",139)]) (by kernel_rfl) (by kernel_rfl) (by kernel_rfl) h2
end
section
open Go.ChangeShapes Go.WideShapes Go.ChangeAt Go.RowKit
mutual
def vb:AV->Nat
 |.bool _=>1
 |.int ..=>1
 |.str s=>s.length+1
 |.sl xs=>vbL xs+1
 |.agg cs=>vbL cs
 |_=>0
def vbL:List AV->Nat
 |[]=>0
 |v::r=>vb v+vbL r
end
end
section
def tX(T:List aY)(t:Tm):List UInt8×Int:=B8 T true (eS (cU t)) t
def uu(t:Tm):List UInt8×Int:=B8 [] false (eS (cU t)) t
theorem vW(t:Tm):pC (eS (cU t))=true:=PZ _ _ (by have:=rq t;omega)
theorem Gm(t:Tm):zM (cU t)=.aD/\cU t=[]\/zM (cU t)=.sl (ints (cU t)):=by
 unfold zM;split
 .rename_i h;exact .inl ⟨rfl,h⟩
 .exact .inr rfl
noncomputable def sx:aZ:=⟨24,λ
 |[v]=>(match il v with
   |some t=>if FN t then some (.tuple [.str (uu t).1,.int .i64 (uu t).2]) else none
   |none=>none)
 |_=>none⟩
theorem jn:sx.f=24:=(rfl)
theorem xw(t:Tm)(h:FN t):sx.S [t.aR]=some (.tuple [.str (uu t).1,.int .i64 (uu t).2]):=by simp only[sx,ew];rw[if_pos h]
theorem D5:dX Tryz.prog bV sx:=λaa v hv=>by
 unfold sx at hv|-;dsimp only at hv|-;split at hv
 .rename_i v0;split at hv
  .rename_i t ht;split at hv
   .rename_i hc;cases hv;rw[dY ht];have hE:bY Tryz.prog bV (cg [yw] [yj]):=dW (by simp[JT.lift]) (by simp[LS]);refine cf (n:=3000) (h':=h0) hE ?_ (by simp[AV.aK,AV.aj]) (by simp[AV.aj,Tm.cm]);have q1:=J4 t hc.1;have q2:=LF (x:=.aD) (T:=[]) rfl false (eS (cU t)) (by simp) (vW t) t hc;have hl:=rq t;have My:=BG t;unfold uu;generalize B8 [] false (eS (cU t)) t=R at *;obtain⟨r1,r2⟩:=R;have tY:=ar t;have eR:=Tm.bG t;simp only[kQ] at q2;rw[Tm.bJ,eR] at q1 q2|-;rcases Gm t with⟨e1,e2⟩|e1
    .rw[e1] at q1;rw[e2] at q2;have e3:gR (eS [])=[]:=rfl;rw[e3] at q2;simp[Xn,c24,H6,c50,mY,rY,ai,Cp,zP,q1,q2,tY,aE]
    .rw[e1] at q1;have wy:(ints (cU t)).length=(cU t).length:=by simp[ints]
     have hir:=eo (cU t);generalize cU t=vs at *;have lp:=λC n w hw os=>GM C n w hw vs (by omega) My os vs [] 2998 1 (by omega) rfl (by omega)
     have e3:gR (eS [])=[]:=rfl;simp only[mY,HY,e3,List.length_nil,Int.natCast_zero] at lp;replace lp:=lp (aH (cg [yw] [yj]) 2998) 2998 1 rfl [.row [.int .i64 t.ah,.int .i64 t.bx,.str t.aC,t.bH],.row [.int .i64 t.ah,.int .i64 t.bx,.str t.aC,t.bH]];generalize ints vs=I at *;simp[Xn,c24,H6,c50,mY,Cp,zP,dI,cP,-dp,-cF,q1,q2,tY,wy,hir,aE,lp]
   .cases hv
  .cases hv
 .cases hv
noncomputable def mJ:aZ:=⟨20,λ
 |[.agg [x],v]=>(match a8 x,il v with
   |some T,some t=>if FN t/\T.length<1000000 then some (.tuple [.str (tX T t).1,.int .i64 (tX T t).2]) else none
   |_,_=>none)
 |_=>none⟩
theorem cQ:mJ.f=20:=(rfl)
theorem s9{x:AV}{T:List aY}(hx:a8 x=some T)(t:Tm)(h:FN t)(hT:T.length<1000000):mJ.S [.agg [x],t.aR]=some (.tuple [.str (tX T t).1,.int .i64 (tX T t).2]):=by simp only[mJ,hx,ew];rw[if_pos ⟨h,hT⟩]
theorem xV:dX Tryz.prog bV mJ:=λaa v hv=>by
 unfold mJ at hv|-;dsimp only at hv|-;split at hv
 .rename_i x v0;split at hv
  .rename_i T t hx ht;split at hv
   .rename_i hc;cases hv;rw[dY ht];have di:=fj hx;have hE:bY Tryz.prog bV (cg [yw] [yj]):=dW (by simp[JT.lift]) (by simp[LS]);refine cf (n:=3000) (h':=h0) hE ?_ (by simp[AV.aK,AV.aj]) (by simp[AV.aj,Tm.cm,AV.aK,di]);obtain⟨hc,hT⟩:=hc;have q1:=J4 t hc.1;have q2:=LF hx true (eS (cU t)) hT (vW t) t hc;have hl:=rq t;have My:=BG t;unfold tX;generalize B8 T true (eS (cU t)) t=R at *;obtain⟨r1,r2⟩:=R;have tY:=ar t;have jI:=dN T;have eR:=Tm.bG t;simp only[kQ] at q2;rw[Tm.bJ,eR] at q1 q2|-;rcases Gm t with⟨e1,e2⟩|e1
    .rw[e1] at q1;rw[e2] at q2;have e3:gR (eS [])=[]:=rfl;rw[e3] at q2;rcases bj hx with⟨rfl,rfl⟩|rfl<;>
     simp[TU,c20,UA,c49,H6,c50,mY,rY,ai,Cp,zP,q1,q2,tY,jI,aE]
    .rw[e1] at q1;have wy:(ints (cU t)).length=(cU t).length:=by simp[ints]
     have hir:=eo (cU t);generalize cU t=vs at *;have lp:=λC n w hw os=>G6 C n w hw vs (by omega) My os vs [] 2998 2 (by omega) rfl (by omega)
     have e3:gR (eS [])=[]:=rfl;simp only[mY,HY,e3,List.length_nil,Int.natCast_zero] at lp;replace lp:=lp (aH (cg [yw] [yj]) 2998) 2998 2 rfl [.row [.int .i64 t.ah,.int .i64 t.bx,.str t.aC,t.bH],.row [.int .i64 t.ah,.int .i64 t.bx,.str t.aC,t.bH],.row [x]];generalize ints vs=I at *;rcases bj hx with⟨rfl,rfl⟩|rfl<;>
     simp[TU,c20,UA,c49,H6,c50,mY,Cp,zP,dI,cP,-dp,-cF,q1,q2,tY,jI,wy,hir,aE,lp]
   .cases hv
  .cases hv
 .cases hv
end
end Go.Proofs.YtjmeonoabiliiaaGreatDoor
