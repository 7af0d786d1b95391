import Derived.Test.YtjmeonoabiliiaaGreatDoorAt
import Derived.Test.YtjmeonoabiliiaaGreatDoorEnv
import Derived.Test.YtjmeonoabiliiaaGreatDoorFast
import Derived.Test.YtjmeonoabiliiaaGreatDoorArg
import Derived.RangeFuncNested
import Derived.RangeFuncBound
import Derived.RangeFuncCalls
import Derived.RangeFuncLeaves
import Derived.Shelf.Abstract
import Derived.Shelf.RegionOpen
import Derived.WalkKit
import Derived.OwnWalkIn
import Derived.TacticsInMore
import Derived.LoopNIn
import Derived.LoopIn
import Derived.Test.YtjmeonoabiliiaaGreatDoorProg
import Derived.Test.YtjmeonoabiliiaaGreatDoorIter
import Derived.Test.YtjmeonoabiliiaaGreatDoorShelf
import Derived.Lib.ItoaNum
import Derived.LaidSub
import Derived.MakeChecks
import Derived.Shelf.Strings.SlTrimAscii
set_option linter.all false
set_option maxHeartbeats 16000000
set_option maxRecDepth 100000
namespace Go.Proofs.YtjmeonoabiliiaaGreatDoor
open Go
section
open Sz
inductive Tm where
 |nl (k n:Int) (s:List UInt8)
 |mk (k n:Int) (s:List UInt8) (us:List Tm)
mutual
def Tm.aR:Tm->AV
 |.nl k n s=>.agg [.int .i64 k,.int .i64 n,.str s,.aD]
 |.mk k n s us=>.agg [.int .i64 k,.int .i64 n,.str s,.sl (Tm.xP us)]
def Tm.xP:List Tm->List AV
 |[]=>[]
 |t::r=>t.aR::Tm.xP r
end
theorem lq:∀l:List Tm,Tm.xP l=l.map Tm.aR
 |[]=>rfl
 |t::r=>by simp[Tm.xP,lq r]
def Tm.ah:Tm->Int|.nl k _ _=>k|.mk k _ _ _=>k
def Tm.bx:Tm->Int|.nl _ n _=>n|.mk _ n _ _=>n
def Tm.aC:Tm->List UInt8|.nl _ _ s=>s|.mk _ _ s _=>s
def Tm.aa:Tm->List Tm|.nl ..=>[]|.mk _ _ _ us=>us
def Tm.bH:Tm->AV|.nl ..=>.aD|.mk _ _ _ us=>.sl (us.map Tm.aR)
def Tm.cells(t:Tm):List AV:=[.int .i64 t.ah,.int .i64 t.bx,.str t.aC,t.bH]
theorem Tm.bG(t:Tm):t.cells=[.int .i64 t.ah,.int .i64 t.bx,.str t.aC,t.bH]:=rfl
theorem Tm.bJ(t:Tm):t.aR=.agg t.cells:=by
 cases t with
 |nl k n s=>rfl
 |mk k n s us=>simp only[Tm.aR,Tm.cells,Tm.ah,Tm.bx,Tm.aC,Tm.bH,lq]
mutual
theorem Tm.cm:∀t:Tm,t.aR.aK=0
 |.nl k n s=>rfl
 |.mk k n s us=>by simp[Tm.aR,AV.aK,AV.aj,Tm.AL us]
theorem Tm.AL:∀l:List Tm,AV.aj (Tm.xP l)=0
 |[]=>rfl
 |t::r=>by simp[Tm.xP,AV.aj,Tm.cm t,Tm.AL r]
end
theorem cE(l:List Tm):AV.aj (l.map Tm.aR)=0:=by rw[<-lq];exact Tm.AL l
theorem ar(t:Tm):t.bH.aK=0:=by
 cases t with
 |nl k n s=>rfl
 |mk k n s us=>simp[Tm.bH,AV.aK,cE]
mutual
def il:AV->Option Tm
 |.agg [.int .i64 k,.int .i64 n,.str s,.aD]=>some (.nl k n s)
 |.agg [.int .i64 k,.int .i64 n,.str s,.sl xs]=>(lE xs).map (.mk k n s)
 |_=>none
def lE:List AV->Option (List Tm)
 |[]=>some []
 |v::r=>match il v,lE r with
   |some t,some l=>some (t::l)
   |_,_=>none
end
mutual
theorem ew:∀t:Tm,il t.aR=some t
 |.nl k n s=>by simp[Tm.aR,il]
 |.mk k n s us=>by simp[Tm.aR,il,lJ us]
theorem lJ:∀l:List Tm,lE (Tm.xP l)=some l
 |[]=>by simp[Tm.xP,lE]
 |t::r=>by simp[Tm.xP,lE,ew t,lJ r]
end
theorem Gj:∀(n:Nat) (v:AV) (t:Tm),SizeOf.sizeOf v<=n->il v=some t->v=t.aR
 |0,v,t,h,_=>by cases v<;>simp at h
 |n+1,v,t,h,e=>by
   have hl:∀(xs:List AV) (l:List Tm),SizeOf.sizeOf xs<=n->lE xs=some l->xs=Tm.xP l:=by
    intro xs
    induction xs with
    |nil=>intro l _ e;simp[lE] at e;subst e;rfl
    |cons x r ih=>
      intro l hx e;simp only[lE] at e;split at e
      .rename_i t l' h1 h2;cases e;simp only[List.cons.sizeOf_spec] at hx;rw[Gj n x t (by omega) h1,ih l' (by omega) h2];rfl
      .cases e
   unfold il at e;split at e
   .cases e;rfl
   .rename_i k q s xs;obtain⟨us,h1,rfl⟩:=Option.map_eq_some_iff.1 e;simp only[AV.agg.sizeOf_spec,List.cons.sizeOf_spec,AV.sl.sizeOf_spec] at h;rw[hl xs us (by omega) h1];rfl
   .cases e
theorem dY{v:AV}{t:Tm}(h:il v=some t):v=t.aR:=Gj _ v t (Nat.le_refl _) h
def Yr(c:UInt8):Bool:=!((decide (c.toNat<32)||decide (126<c.toNat))&&decide (c.toNat≠9)&&decide (c.toNat≠10))
def ou:List UInt8->Bool
 |[]=>true
 |c::r=>Yr c&&ou r
def gU(s:List UInt8):Bool:=ou s&&decide (s.length<=64)
def u8s(s:List UInt8):List AV:=s.map λb=>.int .u8 b.toNat
theorem DG:∀s:List UInt8,AV.aj (u8s s)=0
 |[]=>rfl
 |c::r=>by have:=DG r;unfold u8s at this|-;simp[AV.aj,AV.aK,this]
theorem GD(C:Nat->List AV->af->Option (AV×af))(n:Nat)(s:List UInt8)(hs:s.length<4611686018427387904):∀post pre m,s=pre++post->post.length<m->
 iV 0 0 (cb (aF C n pJ) nB 0 m (YT (.str s) (.sl (u8s s)) (.int .i64 s.length) (.int .i64 pre.length)) ⟨0,[],0,0⟩)=
  if ou post then some (.exit 0,FM 30 [(0,.str s)],⟨0,[],0,0⟩) else some (.ret,FM 30 [(2,.bool false)],⟨0,[],0,0⟩)
 |[],pre,m+1,e,_=>by simp at e;subst e;simp[ai,pJ,ou]
 |c::post,pre,m+1,e,hm=>by
   have ih:=GD C n s hs post (pre++[c]) m (by simp[e]) (by rw[List.length_cons] at hm;omega);have h1:(u8s s)[pre.length]? =some (.int .u8 c.toNat):=by unfold u8s;rw[e];simp
   have h3:IntKind.i64.wrap ((pre.length:Int)+1)=(pre.length:Int)+1:=by rw[A5 (by rw[e] at hs;simp at hs;omega)];simp
   have h5:=DG s;have h6:((pre.length:Int)<(s.length:Int))=True:=eq_true (by rw[e,List.length_append,List.length_cons];omega);simp only[List.length_append,List.length_cons,List.length_nil,Nat.zero_add,Int.natCast_add,Int.natCast_one] at ih;have ho:Yr c=!((decide (c.toNat<32)||decide (126<c.toNat))&&decide (c.toNat≠9)&&decide (c.toNat≠10)):=rfl;rw[ai];by_cases a1:c.toNat<32
   .have b1:((c.toNat:Int)<32)=True:=eq_true (by omega);by_cases a3:c.toNat=9
    .have b3:((c.toNat:Int)=9)=True:=eq_true (by omega);have ho:Yr c=true:=by rw[ho];simp[a3]
     simp[pJ,nB,h1,h3,h5,h6,b1,b3,ou,ho];exact ih
    .have b3:((c.toNat:Int)=9)=False:=eq_false (by omega);by_cases a4:c.toNat=10
     .have b4:((c.toNat:Int)=10)=True:=eq_true (by omega);have ho:Yr c=true:=by rw[ho];simp[a4]
      simp[pJ,nB,h1,h3,h5,h6,b1,b3,b4,ou,ho];exact ih
     .have b4:((c.toNat:Int)=10)=False:=eq_false (by omega);have ho:Yr c=false:=by rw[ho];simp[a1,a3,a4]
      simp[pJ,nB,h1,h3,h5,h6,b1,b3,b4,ou,ho]
   .have b1:((c.toNat:Int)<32)=False:=eq_false (by omega);by_cases a2:126<c.toNat
    .have b2:(126<(c.toNat:Int))=True:=eq_true (by omega);have b3:((c.toNat:Int)=9)=False:=eq_false (by omega);have b4:((c.toNat:Int)=10)=False:=eq_false (by omega)
     have ho:Yr c=false:=by
      rw[ho];have:c.toNat≠9:=by omega
      have:c.toNat≠10:=by omega
      simp[*]
     simp[pJ,nB,h1,h3,h5,h6,b1,b2,b3,b4,ou,ho]
    .have b2:(126<(c.toNat:Int))=False:=eq_false (by omega);have ho:Yr c=true:=by rw[ho];simp[a1,a2]
     simp[pJ,nB,h1,h3,h5,h6,b1,b2,ou,ho];exact ih
def zV:aZ:=⟨103,λ|[.str s]=>if s.length<4611686018427387904 then some (.bool (gU s)) else none|_=>none⟩
theorem gy:zV.f=103:=(rfl)
theorem Oz(s:List UInt8)(h:s.length<4611686018427387904):zV.S [.str s]=some (.bool (gU s)):=if_pos h
theorem Oo:bB Tryz.prog zV:=λaa v hv=>by
 unfold zV at hv|-;dsimp only at hv|-;split at hv
 .rename_i s;split at hv
  .rename_i hs;cases hv;refine cf (n:=s.length+2) (h':=h0) (ch (ss:=[]) (by simp)) ?_ rfl rfl;have lp:=GD (aH (cV []) (s.length+1)) (s.length+1) s hs s [] (s.length+1) rfl (by omega);simp only[List.length_nil,show ((0:Nat):Int)=0 from rfl,nB] at lp;have h5:=DG s;have e5:(s.map λb=>AV.int .u8 b.toNat)=u8s s:=rfl;have e6:(u8s s).length=s.length:=by simp[u8s]
   unfold gU
   cases ha:ou s with
   |false=>rw[ha] at lp;simp at lp;simp[UT,WW,nB,e5,e6,h5,lp]
   |true=>
     rw[ha] at lp;simp at lp;by_cases hl:s.length<=64;have qR:((s.length:Int)<=64)=True:=eq_true (by omega)
     rotate_left
     have qR:((s.length:Int)<=64)=False:=eq_false (by omega)
     rotate_left
     all_goals simp[UT,WW,nB,e5,e6,h5,lp,hl,qR]
  .cases hv
 .cases hv
def fJ(t:Tm):Bool:=
 if t.ah=0 then decide (0<=t.bx)&&decide (t.bx<=2147483647)&&decide (t.aC=[])&&decide (t.aa.length=0)
 else if t.ah=1 then decide (t.aC=[])&&decide (t.aa.length=0)
 else if t.ah=2 then decide (t.bx=0)&&gU t.aC&&decide (t.aa.length<=8)
 else false
theorem Ve(t:Tm):∃k n s a,t.aR=.agg [.int .i64 k,.int .i64 n,.str s,a]/\t.ah=k/\t.bx=n/\t.aC=s/\a.aK=0/\((a=.aD/\t.aa=[])\/a=.sl (t.aa.map Tm.aR)):=by
 cases t with
 |nl k n s=>exact⟨k,n,s,.aD,rfl,rfl,rfl,rfl,rfl,.inl ⟨rfl,rfl⟩⟩
 |mk k n s us=>exact⟨k,n,s,_,(Tm.mk k n s us).bJ,rfl,rfl,rfl,ar _,.inr rfl⟩
def Lp:aZ:=⟨62,λ|[v]=>(match il v with|some t=>if t.aC.length<4611686018427387904 then some (.bool (fJ t)) else none|none=>none)|_=>none⟩
theorem DL:Lp.f=62:=(rfl)
theorem YV(t:Tm)(h:t.aC.length<4611686018427387904):Lp.S [t.aR]=some (.bool (fJ t)):=by simp only[Lp,ew,if_pos h]
theorem YM:bB Tryz.prog Lp:=λaa v hv=>by
 unfold Lp at hv|-;dsimp only at hv|-;split at hv
 .rename_i x;split at hv
  .rename_i t ht;split at hv
   .rename_i hl;cases hv;rw[dY ht];refine cf (n:=5) (h':=h0) (ch (ss:=[zV]) (by simp[Oo])) ?_ rfl (by simp[AV.aj,Tm.cm]);obtain⟨k,n,s,a,e,e1,e2,e3,hr,ha⟩:=Ve t;have hg:=Oz s (by rw[<-e3];exact hl);unfold fJ;rw[e,e1,e2,e3]
    have ha0:(a=.aD/\t.aa.length=0)\/(∃l:List AV,a=.sl l/\l.length=t.aa.length):=by
     rcases ha with⟨h1,h2⟩|h1
     .exact .inl ⟨h1,by rw[h2];rfl⟩
     .exact .inr ⟨_,h1,by simp⟩
    generalize t.aa.length=q at ha0;clear ha e1 e2 e3 ht hl e;by_cases k0:k=0
    .subst k0;by_cases c1:0<=n
     .by_cases c2:n<=2147483647
      .cases s with
       |nil=>
         rcases ha0 with⟨rfl,rfl⟩|⟨l,rfl,rfl⟩
         .simp[rS,MJ,c1,c2,gy]
         .by_cases c4:l.length=0;have c4':((l.length:Int)=0)=True:=eq_true (by omega)
          rotate_left
          have c4':((l.length:Int)=0)=False:=eq_false (by omega)
          rotate_left
          all_goals
           simp only[AV.aK] at hr;simp[rS,MJ,c1,c2,c4',c4,hr,gy]
       |cons c r=>simp[rS,MJ,c1,c2,gy,hr]
      .simp[rS,MJ,c1,c2,gy,hr]
     .simp[rS,MJ,c1,gy,hr]
    .by_cases k1:k=1
     .subst k1
      cases s with
      |nil=>
        rcases ha0 with⟨rfl,rfl⟩|⟨l,rfl,rfl⟩
        .simp[rS,MJ,gy]
        .by_cases c4:l.length=0;have c4':((l.length:Int)=0)=True:=eq_true (by omega)
         rotate_left
         have c4':((l.length:Int)=0)=False:=eq_false (by omega)
         rotate_left
         all_goals
          simp only[AV.aK] at hr;simp[rS,MJ,c4',c4,hr,gy]
      |cons c r=>simp[rS,MJ,gy,hr]
     .by_cases k2:k=2
      .subst k2;by_cases c1:n=0
       .cases hgn:gU s with
        |false=>rw[hgn] at hg;simp[rS,MJ,c1,hg,gy,hr]
        |true=>
          rw[hgn] at hg;rcases ha0 with⟨rfl,rfl⟩|⟨l,rfl,rfl⟩
          .simp[rS,MJ,c1,hg,gy]
          .by_cases c4:l.length<=8;have c4':((l.length:Int)<=8)=True:=eq_true (by omega)
           rotate_left
           have c4':((l.length:Int)<=8)=False:=eq_false (by omega)
           rotate_left
           all_goals
            simp only[AV.aK] at hr;simp[rS,MJ,c1,hg,c4',c4,hr,gy]
       .simp[rS,MJ,c1,gy,hr]
      .simp[rS,MJ,k0,k1,k2,gy,hr]
   .cases hv
  .cases hv
 .cases hv
theorem tI(t:Tm):basic t.bH=true:=by cases t<;>rfl
theorem Vu(t:Tm):Ce 4 t.aR:=by rw[Tm.bJ];refine⟨rfl,?_,λh=>by omega,λ_=>rfl,rfl⟩;have:=tI t;simp only[AV.cells,Tm.cells,List.all_cons,List.all_nil,this];rfl
theorem rL(us:List Tm):∀x∈us.map Tm.aR,Ce 4 x:=by intro x hx;obtain⟨t,_,rfl⟩:=List.mem_map.1 hx;exact Vu t
def aw(us:List Tm):List AV:=us.flatMap Tm.cells
theorem uQ(us:List Tm):(us.map Tm.aR).flatMap AV.cells=aw us:=by
 induction us with
 |nil=>rfl
 |cons t r ih=>unfold aw at ih|-;rw[List.map_cons,List.flatMap_cons,List.flatMap_cons,ih,Tm.bJ];rfl
theorem cL(us:List Tm):(aw us).length=us.length*4:=by rw[<-uQ,Dt (rL us),List.length_map]
theorem aT(us:List Tm):AV.aj (aw us)=0:=by rw[<-uQ];exact p7 (Dx (rL us))
theorem WC(h:af)(us:List Tm):aI h 4 (.sl (us.map Tm.aR))=some (us.length,aw us):=by
 have e:aI h 4 (.sl (us.map Tm.aR))=if ((us.map Tm.aR).all λx=>(x.cells?.map List.length)==some 4) then some ((us.map Tm.aR).length,(us.map Tm.aR).flatMap AV.cells) else none:=rfl
 rw[e,if_pos (KN (rL us)),List.length_map,uQ]
def OP:aZ:=⟨48,λ|[.int .i64 n]=>some (Tm.nl 1 n []).aR|_=>none⟩
theorem Oy:OP.f=48:=(rfl)
theorem Qw(n:Int):OP.S [.int .i64 n]=some (.agg [.int .i64 1,.int .i64 n,.str [],.aD]):=rfl
theorem PC:bB Tryz.prog OP:=λaa v hv=>by
 unfold OP at hv|-;dsimp only at hv|-;split at hv
 .cases hv;refine cf (n:=3) (h':=h0) (ch (ss:=[]) (by simp)) ?_ rfl rfl;simp[agk,c48,Tm.aR]
 .cases hv
def uO:aZ:=⟨32,λ|[.int .i64 n]=>some (Tm.nl 0 n []).aR|_=>none⟩
theorem fX:uO.f=32:=(rfl)
theorem Iw(n:Int):uO.S [.int .i64 n]=some (.agg [.int .i64 0,.int .i64 n,.str [],.aD]):=rfl
theorem HP:bB Tryz.prog uO:=λaa v hv=>by
 unfold uO at hv|-;dsimp only at hv|-;split at hv
 .cases hv;refine cf (n:=3) (h':=h0) (ch (ss:=[]) (by simp)) ?_ rfl rfl;simp[afw,c32,Tm.aR]
 .cases hv
def tT:aZ:=⟨28,λ|[.str s]=>some (Tm.nl 2 0 s).aR|_=>none⟩
theorem fV:tT.f=28:=(rfl)
theorem lx(s:List UInt8):tT.S [.str s]=some (.agg [.int .i64 2,.int .i64 0,.str s,.aD]):=rfl
theorem yY:bB Tryz.prog tT:=λaa v hv=>by
 unfold tT at hv|-;dsimp only at hv|-;split at hv
 .cases hv;refine cf (n:=3) (h':=h0) (ch (ss:=[]) (by simp)) ?_ rfl rfl;simp[agb,c28,Tm.aR]
 .cases hv
def ct(s:List UInt8):List Tm->Tm
 |[]=>.nl 2 0 s
 |us=>.mk 2 0 s us
def rh:aZ:=⟨47,λ
 |[.str s,.aD]=>some (Tm.nl 2 0 s).aR
 |[.str s,.sl xs]=>(match lE xs with|some us=>if us.length<1000000000000 then some (ct s us).aR else none|none=>none)
 |_=>none⟩
theorem pR:rh.f=47:=(rfl)
theorem kZ(s:List UInt8)(us:List Tm)(h:us.length<1000000000000):rh.S [.str s,.sl (us.map Tm.aR)]=some (ct s us).aR:=by unfold rh;dsimp only;rw[<-lq,lJ];exact if_pos h
theorem rQ:∀{xs:List AV} {us:List Tm},lE xs=some us->xs=us.map Tm.aR
 |[],us,e=>by simp[lE] at e;subst e;rfl
 |x::r,us,e=>by
   simp only[lE] at e;split at e
   .rename_i t l h1 h2;cases e;rw[dY h1,rQ h2];rfl
   .cases e
theorem uU:bB Tryz.prog rh:=λaa v hv=>by
 unfold rh at hv|-;dsimp only at hv|-;split at hv
 .cases hv;refine cf (n:=4) (h':=h0) (ch (ss:=[]) (by simp)) ?_ rfl rfl;simp[Vx,c47,Tm.aR]
 .rename_i s xs;split at hv
  .rename_i us hx;split at hv
   .rename_i hl;cases hv;rw[rQ hx];refine cf (n:=4) (h':=h0) (ch (ss:=[]) (by simp)) ?_ (Tm.cm _) (by simp[AV.aj,AV.aK,cE])
    cases us with
    |nil=>simp[Vx,c47,Tm.aR,ct]
    |cons t r=>
      have h5:AV.aj (r.map Tm.aR)=0:=cE _;have h6:t.aR.aK=0:=Tm.cm _;have eR:=Tz 86 (xs:=t.aR::r.map Tm.aR) (by simp);have he:=λh=>WC h (t::r)
      have b1:(r.length+1)*56<=140737488355328:=by simp at hl;omega
      have b2:r.length+1<9223372036854775808:=by simp at hl;omega
      have e:(ct s (t::r)).aR=.agg [.int .i64 2,.int .i64 0,.str s,.sl (t.aR::r.map Tm.aR)]:=by simp[ct,Tm.aR,lq,Tm.xP]
      have tN:=aT (t::r)
      have hf:∀(X:aS) (wl md d:Nat),jH ⟨2,[.row (aw (t::r)),X],wl,md⟩ 0 (d+2) (.vec 1 0 (r.length+1) 4 (r.length+1))=some (.sl ((t::r).map Tm.aR),[1]):=λX wl md d=>vN (by omega) rfl (by omega) (rL (t::r)) (by simp) (by rw[cL];simp) (by rw[uQ,List.take_of_length_le];rw[cL];simp)
      rw[e];simp only[List.map_cons,List.length_cons] at he hf;simp[Vx,c47,agd,c86,eR,h5,h6,b1,b2,he,tN,hf,K0]
   .cases hv
  .cases hv
 .cases hv
theorem Bm:∀{a b:List AV},AV.aj a=0->AV.aj b=0->AV.aj (a++b)=0
 |[],b,_,hb=>hb
 |v::r,b,ha,hb=>by simp only[AV.aj] at ha;simp only[List.cons_append,AV.aj];rw[Bm (a:=r) (by omega) hb];omega
theorem Bf:∀{a:List AV},AV.aj a=0->∀k,AV.aj (a.take k)=0/\AV.aj (a.drop k)=0
 |[],_,k=>by simp[AV.aj]
 |v::r,ha,0=>⟨by simp[AV.aj],by simpa using ha⟩
 |v::r,ha,k+1=>by simp only[AV.aj] at ha;have:=Bf (a:=r) (by omega) k;simp only[List.take_succ_cons,List.drop_succ_cons,AV.aj];exact⟨by rw[this.1];omega,this.2⟩
theorem fy{R:List AV}(h:AV.aj R=0)(x:Tm)(k:Nat)(hk:k+4<=R.length):AV.aj (putAt R k x.cells)=0:=by
 rw[nM x.cells R k (by have:x.cells.length=4:=rfl;omega)];have q1:AV.aj x.cells=0:=by simp[Tm.cells,AV.aj,AV.aK,ar]
 exact Bm (Bm (Bf h _).1 q1) (Bf h _).2
def fH{σ:Type}(fs:Tm->σ->Bool×σ):Nat->List Tm->σ->Bool×σ
 |0,_,s=>(true,s)
 |_+1,[],s=>(true,s)
 |d+1,x::rs,s=>if (fs x s).1 then fH fs d (x.aa++rs) (fs x s).2 else (false,(fs x s).2)
mutual
def Tm.size:Tm->Nat
 |.nl ..=>1
 |.mk _ _ _ us=>1+Tm.bE us
def Tm.bE:List Tm->Nat
 |[]=>0
 |t::r=>t.size+Tm.bE r
end
theorem bP(t:Tm):t.size=1+Tm.bE t.aa:=by cases t<;>rfl
theorem lS:∀a b:List Tm,Tm.bE (a++b)=Tm.bE a+Tm.bE b
 |[],b=>by simp[Tm.bE]
 |t::r,b=>by simp[Tm.bE,lS r b];omega
theorem iJ:∀a:List Tm,a.length<=Tm.bE a
 |[]=>by simp
 |t::r=>by have:=iJ r;have:=bP t;simp[Tm.bE];omega
theorem En{R:List AV}{st:List Tm}{x:Tm}(h:R.take ((st.length+1)*4)=aw (st++[x])):R.take (st.length*4)=aw st/\(R.drop (st.length*4)).take 4=x.cells:=by
 have e:aw (st++[x])=aw st++x.cells:=by simp[aw]
 have hl:=cL st;refine⟨?_,?_⟩
 .have:=congrArg (List.take (st.length*4)) h;rw[List.take_take,Nat.min_eq_left (by omega),e,List.take_left' hl] at this;exact this
 .have:=congrArg (List.drop (st.length*4)) h;rw[List.drop_take,e,List.drop_left' hl,show (st.length+1)*4-st.length*4=4 by omega] at this;exact this
theorem dq{X x:Tm}{i:Nat}(hx:X.aa[i]? =some x):X.bH=.sl (X.aa.map Tm.aR)/\X.cells=[.int .i64 X.ah,.int .i64 X.bx,.str X.aC,.sl (X.aa.map Tm.aR)]/\AV.aj (X.aa.map Tm.aR)=0/\x.aR=.agg x.cells/\x.cells=[.int .i64 x.ah,.int .i64 x.bx,.str x.aC,x.bH]/\x.bH.aK=0:=by
 have ha:X.bH=.sl (X.aa.map Tm.aR):=by
  cases X with
  |nl k n s=>simp[Tm.aa] at hx
  |mk k n s us=>rfl
 exact⟨ha,by rw[<-ha];rfl,cE _,Tm.bJ x,rfl,ar x⟩
theorem zR(C:Nat->List AV->af->Option (AV×af))(n g:Nat)(aN:List AV)(hc:AV.aj aN<=2)(X:Tm)(os:List aS)(md:Nat)(dh:∀k,2<=k->min md k=md)(w:Nat)(hw:min w 5=w):∀(i m:Nat) (st:List Tm),i<=X.aa.length->i<m->st.length+i<1000000000000->
 iV 5 w (cb (aF C n bD) bh 5 m (gq (.fn g aN) (.vec 5 0 st.length 4 st.length) (.ptr 4 0) (.int .i64 ((i:Int)-1))) ⟨6,.row (aw st)::.row X.cells::.dead::os,5,md⟩)=
  some (.exit 2,FM 44 [(1,.fn g aN),(5,.vec 5 0 (st.length+i) 4 (st.length+i))],⟨6,.row (aw (st++(X.aa.take i).reverse))::.row X.cells::.dead::os,w,md⟩)
 |0,m+1,st,_,_,_=>by
   have h1:(0<=(-1:Int))=False:=by simp
   have hr:AV.aj aN<=5:=by omega
   have jB:min md 3=md:=dh 3 (by omega);have jJ:min md 5=md:=dh 5 (by omega);have tN:=aT st;simp[ai,bD,hr,tN,hw]
 |i+1,m+1,st,hi,hm,hl=>by
   have hr:AV.aj aN<=5:=by omega
   have jB:min md 3=md:=dh 3 (by omega);have jJ:min md 5=md:=dh 5 (by omega);obtain⟨x,hx⟩:∃x,X.aa[i]? =some x:=⟨X.aa[i]'(by omega),by simp⟩
   have ih:=zR C n g aN hc X os md dh w hw i m (st++[x]) (by omega) (by omega) (by simp;omega);obtain⟨ha,hX,h5,fp,gv,di⟩:=dq hx;have tN:=aT st;have C2:=cL st;have w1:IntKind.i64.wrap ((i:Int)-1)=(i:Int)-1:=wrap_i64 (by omega) (by omega);have t1:(0<=(i:Int))=True:=eq_true (by omega);have b1:(st.length+1)*56<=140737488355328:=by omega
   have b2:st.length+1<9223372036854775808:=by omega
   have nt:X.aa.take (i+1)=X.aa.take i++[x]:=by rw[List.take_add_one,hx];rfl
   have pB:aw (st++[x])=aw st++[.int .i64 x.ah,.int .i64 x.bx,.str x.aC,x.bH]:=by simp[aw,Tm.cells]
   have x8:List.take (st.length*4) (aw st)=aw st:=List.take_of_length_le (by omega);have lP:AV.aj (aw st++[.int .i64 x.ah,.int .i64 x.bx,.str x.aC,x.bH])=0:=by rw[<-pB];exact aT _
   rw[nt,List.reverse_append];simp only[List.length_append,List.length_cons,List.length_nil,Nat.zero_add,List.append_assoc,pB] at ih;have e1:st.length+1+i=st.length+(i+1):=by omega
   rw[e1] at ih;have e2:((i+1:Nat):Int)-1=(i:Int):=by omega
   rw[e2,ai];rw[hX] at ih|-;simp[bD,bh,h5,hx,fp,gv,di,tN,C2,w1,t1,b1,b2,hr,x8,lP,jB,jJ,aI];exact ih
theorem Hw{R:List AV}{st:List Tm}{lb:Nat}(hR:R.length=lb*4)(ht:R.take (st.length*4)=aw st)(oI:st.length+1<=lb)(x:Tm):
 (putAt R (st.length*4) x.cells).length=lb*4/\(putAt R (st.length*4) x.cells).take ((st++[x]).length*4)=aw (st++[x]):=by
 have hc:x.cells.length=4:=rfl;have h1:st.length*4+x.cells.length<=R.length:=by omega
 refine⟨?_,?_⟩
 .rw[nM x.cells R _ h1];simp only[List.length_append,List.length_take,List.length_drop];omega
 .have:=ku x.cells h1;rw[List.length_append,show (st.length+[x].length)*4=st.length*4+x.cells.length by simp[hc];omega,this,ht];simp[aw]
theorem wY(C:Nat->List AV->af->Option (AV×af))(n g:Nat)(aN:List AV)(hc:AV.aj aN<=2)(X:Tm)(os:List aS)(md:Nat)(dh:∀k,2<=k->min md k=md)(w:Nat)(hw:min w 5=w)(lb:Nat):∀(i m:Nat) (st:List Tm) (R:List AV),i<=X.aa.length->i<m->st.length+i<=lb->lb<1000000000000->R.length=lb*4->R.take (st.length*4)=aw st->AV.aj R=0->
 ∃R',R'.length=lb*4/\R'.take ((st.length+i)*4)=aw (st++(X.aa.take i).reverse)/\AV.aj R'=0/\
 iV 5 w (cb (aF C n bD) bh 5 m (gq (.fn g aN) (.vec 3 0 st.length 4 lb) (.ptr 4 0) (.int .i64 ((i:Int)-1))) ⟨5,.row X.cells::.row R::os,5,md⟩)=
  some (.exit 2,FM 44 [(1,.fn g aN),(5,.vec 3 0 (st.length+i) 4 lb)],⟨5,.row X.cells::.row R'::os,w,md⟩)
 |0,m+1,st,R,_,_,_,_,hR,ht,fe=>by
   have h1:(0<=(-1:Int))=False:=by simp
   have hr:AV.aj aN<=5:=by omega
   have jB:min md 3=md:=dh 3 (by omega);have jJ:min md 5=md:=dh 5 (by omega);refine⟨R,hR,by simpa using ht,fe,?_⟩;simp[ai,bD,hr,hw]
 |i+1,m+1,st,R,hi,hm,oI,hl,hR,ht,fe=>by
   have hr:AV.aj aN<=5:=by omega
   have jB:min md 3=md:=dh 3 (by omega);have jJ:min md 5=md:=dh 5 (by omega);obtain⟨x,hx⟩:∃x,X.aa[i]? =some x:=⟨X.aa[i]'(by omega),by simp⟩
   obtain⟨p1,p2⟩:=Hw hR ht (by omega) x;have p3:=fy fe x (st.length*4) (by omega);obtain⟨R',r1,r2,r3,ih⟩:=wY C n g aN hc X os md dh w hw lb i m (st++[x]) (putAt R (st.length*4) x.cells) (by omega) (by omega) (by simp;omega) hl p1 p2 p3;have e1:(st++[x]).length+i=st.length+(i+1):=by simp;omega
   have nt:X.aa.take (i+1)=X.aa.take i++[x]:=by rw[List.take_add_one,hx];rfl
   refine⟨R',r1,?_,r3,?_⟩
   .rw[nt,List.reverse_append,<-e1,r2];simp[List.append_assoc]
   obtain⟨ha,hX,h5,fp,gv,di⟩:=dq hx;have w1:IntKind.i64.wrap ((i:Int)-1)=(i:Int)-1:=wrap_i64 (by omega) (by omega);have t1:(0<=(i:Int))=True:=eq_true (by omega);have b1:st.length*4<=R.length:=by omega
   have b2:st.length+1<=lb:=by omega
   have b3:(st.length+1)*4<=R.length:=by omega
   have wz:putAt [.int .i64 0,.int .i64 0,.str [],.aD] 0 [.int .i64 x.ah,.int .i64 x.bx,.str x.aC,x.bH]=[.int .i64 x.ah,.int .i64 x.bx,.str x.aC,x.bH]:=rfl;have oJ:(st++[x]).length=st.length+1:=by simp
   rw[oJ,show st.length+1+i=st.length+(i+1) by omega] at ih;have e2:((i+1:Nat):Int)-1=(i:Int):=by omega
   rw[e2,ai];rw[hX,gv] at ih;rw[hX];simp[bD,bh,h5,hx,fp,gv,di,w1,t1,b1,b2,b3,hr,jB,jJ,fe,wz,aI,-eC];exact ih
theorem wO(C:Nat->List AV->af->Option (AV×af))(n g:Nat)(aN:List AV)(hc:AV.aj aN<=2)(X:Tm)(os:List aS)(md:Nat)(dh:∀k,2<=k->min md k=md)(w:Nat)(hw:min w 5=w)(lb:Nat):∀(i m:Nat) (st:List Tm) (R:List AV),i<=X.aa.length->i<m->st.length<=lb->lb<st.length+i->st.length+i<1000000000000->R.length=lb*4->R.take (st.length*4)=aw st->AV.aj R=0->
 iV 5 w (cb (aF C n bD) bh 5 m (gq (.fn g aN) (.vec 3 0 st.length 4 lb) (.ptr 4 0) (.int .i64 ((i:Int)-1))) ⟨5,.row X.cells::.row R::os,5,md⟩)=
  some (.exit 2,FM 44 [(1,.fn g aN),(5,.vec 5 0 (st.length+i) 4 (st.length+i))],⟨6,.row (aw (st++(X.aa.take i).reverse))::.row X.cells::.dead::os,w,md⟩)
 |0,m,st,R,_,_,h1,h2,_,_,_,_=>by omega
 |i+1,0,st,R,_,h,_,_,_,_,_,_=>by omega
 |i+1,m+1,st,R,hi,hm,h1,h2,hl,hR,ht,fe=>by
   have hr:AV.aj aN<=5:=by omega
   have jB:min md 3=md:=dh 3 (by omega);have jJ:min md 5=md:=dh 5 (by omega);obtain⟨x,hx⟩:∃x,X.aa[i]? =some x:=⟨X.aa[i]'(by omega),by simp⟩
   have nt:X.aa.take (i+1)=X.aa.take i++[x]:=by rw[List.take_add_one,hx];rfl
   obtain⟨ha,hX,h5,fp,gv,di⟩:=dq hx;have w1:IntKind.i64.wrap ((i:Int)-1)=(i:Int)-1:=wrap_i64 (by omega) (by omega);have t1:(0<=(i:Int))=True:=eq_true (by omega);have b1:st.length*4<=R.length:=by omega
   have wz:putAt [.int .i64 0,.int .i64 0,.str [],.aD] 0 [.int .i64 x.ah,.int .i64 x.bx,.str x.aC,x.bH]=[.int .i64 x.ah,.int .i64 x.bx,.str x.aC,x.bH]:=rfl;have oJ:(st++[x]).length=st.length+1:=by simp
   have e2:((i+1:Nat):Int)-1=(i:Int):=by omega
   by_cases fL:st.length+1<=lb
   .obtain⟨p1,p2⟩:=Hw hR ht (by omega) x;have p3:=fy fe x (st.length*4) (by omega);have ih:=wO C n g aN hc X os md dh w hw lb i m (st++[x]) (putAt R (st.length*4) x.cells) (by omega) (by omega) (by omega) (by omega) (by omega) p1 p2 p3;have b3:(st.length+1)*4<=R.length:=by omega
    rw[oJ,show st.length+1+i=st.length+(i+1) by omega] at ih;rw[e2,ai,nt,List.reverse_append];rw[hX,gv] at ih;rw[hX];simp only[List.append_assoc] at ih;simp[bD,bh,h5,hx,fp,gv,di,w1,t1,b1,fL,b3,hr,jB,jJ,fe,wz,aI,-eC];exact ih
   .have oI:lb=st.length:=by omega
    have ih:=zR C n g aN hc X os md dh w hw i m (st++[x]) (by omega) (by omega) (by omega);have c1:(st.length+1)*56<=140737488355328:=by omega
    have c2:st.length+1<9223372036854775808:=by omega
    have pB:aw (st++[x])=aw st++[.int .i64 x.ah,.int .i64 x.bx,.str x.aC,x.bH]:=by simp[aw,Tm.cells]
    have lP:AV.aj (aw st++[.int .i64 x.ah,.int .i64 x.bx,.str x.aC,x.bH])=0:=by rw[<-pB];exact aT _
    rw[oJ,show st.length+1+i=st.length+(i+1) by omega,pB] at ih;rw[e2,ai,nt,List.reverse_append];rw[hX] at ih|-;simp only[List.append_assoc] at ih;simp[bD,bh,h5,hx,fp,gv,di,w1,t1,b1,fL,c1,c2,hr,jB,jJ,fe,ht,lP,aI];exact ih
theorem yq(C:Nat->List AV->af->Option (AV×af))(n g:Nat)(aN:List AV)(hc:AV.aj aN<=2)(X:Tm)(os:List aS)(md:Nat)(dh:∀k,2<=k->min md k=md)(w:Nat)(hw:min w 6=w):∀(i m:Nat) (st:List Tm),i<=X.aa.length->i<m->st.length+i<1000000000000->
 iV 6 w (cb (aF C n bD) bh 6 m (gq (.fn g aN) (.vec 6 0 st.length 4 st.length) (.ptr 5 0) (.int .i64 ((i:Int)-1))) ⟨7,.row (aw st)::.row X.cells::.dead::os,6,md⟩)=
  some (.exit 2,FM 44 [(1,.fn g aN),(5,.vec 6 0 (st.length+i) 4 (st.length+i))],⟨7,.row (aw (st++(X.aa.take i).reverse))::.row X.cells::.dead::os,w,md⟩)
 |0,m+1,st,_,_,_=>by
   have h1:(0<=(-1:Int))=False:=by simp
   have hr:AV.aj aN<=6:=by omega
   have jB:min md 4=md:=dh 4 (by omega);have jJ:min md 6=md:=dh 6 (by omega);have tN:=aT st;simp[ai,bD,hr,tN,hw]
 |i+1,m+1,st,hi,hm,hl=>by
   have hr:AV.aj aN<=6:=by omega
   have jB:min md 4=md:=dh 4 (by omega);have jJ:min md 6=md:=dh 6 (by omega);obtain⟨x,hx⟩:∃x,X.aa[i]? =some x:=⟨X.aa[i]'(by omega),by simp⟩
   have ih:=yq C n g aN hc X os md dh w hw i m (st++[x]) (by omega) (by omega) (by simp;omega);obtain⟨ha,hX,h5,fp,gv,di⟩:=dq hx;have tN:=aT st;have C2:=cL st;have w1:IntKind.i64.wrap ((i:Int)-1)=(i:Int)-1:=wrap_i64 (by omega) (by omega);have t1:(0<=(i:Int))=True:=eq_true (by omega);have b1:(st.length+1)*56<=140737488355328:=by omega
   have b2:st.length+1<9223372036854775808:=by omega
   have nt:X.aa.take (i+1)=X.aa.take i++[x]:=by rw[List.take_add_one,hx];rfl
   have pB:aw (st++[x])=aw st++[.int .i64 x.ah,.int .i64 x.bx,.str x.aC,x.bH]:=by simp[aw,Tm.cells]
   have x8:List.take (st.length*4) (aw st)=aw st:=List.take_of_length_le (by omega);have lP:AV.aj (aw st++[.int .i64 x.ah,.int .i64 x.bx,.str x.aC,x.bH])=0:=by rw[<-pB];exact aT _
   rw[nt,List.reverse_append];simp only[List.length_append,List.length_cons,List.length_nil,Nat.zero_add,List.append_assoc,pB] at ih;have e1:st.length+1+i=st.length+(i+1):=by omega
   rw[e1] at ih;have e2:((i+1:Nat):Int)-1=(i:Int):=by omega
   rw[e2,ai];rw[hX] at ih|-;simp[bD,bh,h5,hx,fp,gv,di,tN,C2,w1,t1,b1,b2,hr,x8,lP,jB,jJ,aI];exact ih
theorem GA{R:List AV}{st:List Tm}{lb:Nat}(hR:R.length=lb*4)(ht:R.take (st.length*4)=aw st)(oI:st.length+1<=lb)(x:Tm):
 (putAt R (st.length*4) x.cells).length=lb*4/\(putAt R (st.length*4) x.cells).take ((st++[x]).length*4)=aw (st++[x]):=by
 have hc:x.cells.length=4:=rfl;have h1:st.length*4+x.cells.length<=R.length:=by omega
 refine⟨?_,?_⟩
 .rw[nM x.cells R _ h1];simp only[List.length_append,List.length_take,List.length_drop];omega
 .have:=ku x.cells h1;rw[List.length_append,show (st.length+[x].length)*4=st.length*4+x.cells.length by simp[hc];omega,this,ht];simp[aw]
theorem wP(C:Nat->List AV->af->Option (AV×af))(n g:Nat)(aN:List AV)(hc:AV.aj aN<=2)(X:Tm)(os:List aS)(md:Nat)(dh:∀k,2<=k->min md k=md)(w:Nat)(hw:min w 6=w)(lb:Nat):∀(i m:Nat) (st:List Tm) (R:List AV),i<=X.aa.length->i<m->st.length+i<=lb->lb<1000000000000->R.length=lb*4->R.take (st.length*4)=aw st->AV.aj R=0->
 ∃R',R'.length=lb*4/\R'.take ((st.length+i)*4)=aw (st++(X.aa.take i).reverse)/\AV.aj R'=0/\
 iV 6 w (cb (aF C n bD) bh 6 m (gq (.fn g aN) (.vec 4 0 st.length 4 lb) (.ptr 5 0) (.int .i64 ((i:Int)-1))) ⟨6,.row X.cells::.row R::os,6,md⟩)=
  some (.exit 2,FM 44 [(1,.fn g aN),(5,.vec 4 0 (st.length+i) 4 lb)],⟨6,.row X.cells::.row R'::os,w,md⟩)
 |0,m+1,st,R,_,_,_,_,hR,ht,fe=>by
   have h1:(0<=(-1:Int))=False:=by simp
   have hr:AV.aj aN<=6:=by omega
   have jB:min md 4=md:=dh 4 (by omega);have jJ:min md 6=md:=dh 6 (by omega);refine⟨R,hR,by simpa using ht,fe,?_⟩;simp[ai,bD,hr,hw]
 |i+1,m+1,st,R,hi,hm,oI,hl,hR,ht,fe=>by
   have hr:AV.aj aN<=6:=by omega
   have jB:min md 4=md:=dh 4 (by omega);have jJ:min md 6=md:=dh 6 (by omega);obtain⟨x,hx⟩:∃x,X.aa[i]? =some x:=⟨X.aa[i]'(by omega),by simp⟩
   obtain⟨p1,p2⟩:=GA hR ht (by omega) x;have p3:=fy fe x (st.length*4) (by omega);obtain⟨R',r1,r2,r3,ih⟩:=wP C n g aN hc X os md dh w hw lb i m (st++[x]) (putAt R (st.length*4) x.cells) (by omega) (by omega) (by simp;omega) hl p1 p2 p3;have e1:(st++[x]).length+i=st.length+(i+1):=by simp;omega
   have nt:X.aa.take (i+1)=X.aa.take i++[x]:=by rw[List.take_add_one,hx];rfl
   refine⟨R',r1,?_,r3,?_⟩
   .rw[nt,List.reverse_append,<-e1,r2];simp[List.append_assoc]
   obtain⟨ha,hX,h5,fp,gv,di⟩:=dq hx;have w1:IntKind.i64.wrap ((i:Int)-1)=(i:Int)-1:=wrap_i64 (by omega) (by omega);have t1:(0<=(i:Int))=True:=eq_true (by omega);have b1:st.length*4<=R.length:=by omega
   have b2:st.length+1<=lb:=by omega
   have b3:(st.length+1)*4<=R.length:=by omega
   have wz:putAt [.int .i64 0,.int .i64 0,.str [],.aD] 0 [.int .i64 x.ah,.int .i64 x.bx,.str x.aC,x.bH]=[.int .i64 x.ah,.int .i64 x.bx,.str x.aC,x.bH]:=rfl;have oJ:(st++[x]).length=st.length+1:=by simp
   rw[oJ,show st.length+1+i=st.length+(i+1) by omega] at ih;have e2:((i+1:Nat):Int)-1=(i:Int):=by omega
   rw[e2,ai];rw[hX,gv] at ih;rw[hX];simp[bD,bh,h5,hx,fp,gv,di,w1,t1,b1,b2,b3,hr,jB,jJ,fe,wz,aI,-eC];exact ih
theorem w8(C:Nat->List AV->af->Option (AV×af))(n g:Nat)(aN:List AV)(hc:AV.aj aN<=2)(X:Tm)(os:List aS)(md:Nat)(dh:∀k,2<=k->min md k=md)(w:Nat)(hw:min w 6=w)(lb:Nat):∀(i m:Nat) (st:List Tm) (R:List AV),i<=X.aa.length->i<m->st.length<=lb->lb<st.length+i->st.length+i<1000000000000->R.length=lb*4->R.take (st.length*4)=aw st->AV.aj R=0->
 iV 6 w (cb (aF C n bD) bh 6 m (gq (.fn g aN) (.vec 4 0 st.length 4 lb) (.ptr 5 0) (.int .i64 ((i:Int)-1))) ⟨6,.row X.cells::.row R::os,6,md⟩)=
  some (.exit 2,FM 44 [(1,.fn g aN),(5,.vec 6 0 (st.length+i) 4 (st.length+i))],⟨7,.row (aw (st++(X.aa.take i).reverse))::.row X.cells::.dead::os,w,md⟩)
 |0,m,st,R,_,_,h1,h2,_,_,_,_=>by omega
 |i+1,0,st,R,_,h,_,_,_,_,_,_=>by omega
 |i+1,m+1,st,R,hi,hm,h1,h2,hl,hR,ht,fe=>by
   have hr:AV.aj aN<=6:=by omega
   have jB:min md 4=md:=dh 4 (by omega);have jJ:min md 6=md:=dh 6 (by omega);obtain⟨x,hx⟩:∃x,X.aa[i]? =some x:=⟨X.aa[i]'(by omega),by simp⟩
   have nt:X.aa.take (i+1)=X.aa.take i++[x]:=by rw[List.take_add_one,hx];rfl
   obtain⟨ha,hX,h5,fp,gv,di⟩:=dq hx;have w1:IntKind.i64.wrap ((i:Int)-1)=(i:Int)-1:=wrap_i64 (by omega) (by omega);have t1:(0<=(i:Int))=True:=eq_true (by omega);have b1:st.length*4<=R.length:=by omega
   have wz:putAt [.int .i64 0,.int .i64 0,.str [],.aD] 0 [.int .i64 x.ah,.int .i64 x.bx,.str x.aC,x.bH]=[.int .i64 x.ah,.int .i64 x.bx,.str x.aC,x.bH]:=rfl;have oJ:(st++[x]).length=st.length+1:=by simp
   have e2:((i+1:Nat):Int)-1=(i:Int):=by omega
   by_cases fL:st.length+1<=lb
   .obtain⟨p1,p2⟩:=GA hR ht (by omega) x;have p3:=fy fe x (st.length*4) (by omega);have ih:=w8 C n g aN hc X os md dh w hw lb i m (st++[x]) (putAt R (st.length*4) x.cells) (by omega) (by omega) (by omega) (by omega) (by omega) p1 p2 p3;have b3:(st.length+1)*4<=R.length:=by omega
    rw[oJ,show st.length+1+i=st.length+(i+1) by omega] at ih;rw[e2,ai,nt,List.reverse_append];rw[hX,gv] at ih;rw[hX];simp only[List.append_assoc] at ih;simp[bD,bh,h5,hx,fp,gv,di,w1,t1,b1,fL,b3,hr,jB,jJ,fe,wz,aI,-eC];exact ih
   .have oI:lb=st.length:=by omega
    have ih:=yq C n g aN hc X os md dh w hw i m (st++[x]) (by omega) (by omega) (by omega);have c1:(st.length+1)*56<=140737488355328:=by omega
    have c2:st.length+1<9223372036854775808:=by omega
    have pB:aw (st++[x])=aw st++[.int .i64 x.ah,.int .i64 x.bx,.str x.aC,x.bH]:=by simp[aw,Tm.cells]
    have lP:AV.aj (aw st++[.int .i64 x.ah,.int .i64 x.bx,.str x.aC,x.bH])=0:=by rw[<-pB];exact aT _
    rw[oJ,show st.length+1+i=st.length+(i+1) by omega,pB] at ih;rw[e2,ai,nt,List.reverse_append];rw[hX] at ih|-;simp only[List.append_assoc] at ih;simp[bD,bh,h5,hx,fp,gv,di,w1,t1,b1,fL,c1,c2,hr,jB,jJ,fe,ht,lP,aI];exact ih
theorem zN(C:Nat->List AV->af->Option (AV×af))(n g:Nat)(aN:List AV)(hc:AV.aj aN<=1)(X:Tm)(os:List aS)(md:Nat)(dh:∀k,1<=k->min md k=md)(w:Nat)(hw:min w 4=w):∀(i m:Nat) (st:List Tm),i<=X.aa.length->i<m->st.length+i<1000000000000->
 iV 4 w (cb (aF C n bD) bh 4 m (gq (.fn g aN) (.vec 4 0 st.length 4 st.length) (.ptr 3 0) (.int .i64 ((i:Int)-1))) ⟨5,.row (aw st)::.row X.cells::.dead::os,4,md⟩)=
  some (.exit 2,FM 44 [(1,.fn g aN),(5,.vec 4 0 (st.length+i) 4 (st.length+i))],⟨5,.row (aw (st++(X.aa.take i).reverse))::.row X.cells::.dead::os,w,md⟩)
 |0,m+1,st,_,_,_=>by
   have h1:(0<=(-1:Int))=False:=by simp
   have hr:AV.aj aN<=4:=by omega
   have jB:min md 2=md:=dh 2 (by omega);have jJ:min md 4=md:=dh 4 (by omega);have tN:=aT st;simp[ai,bD,hr,tN,hw]
 |i+1,m+1,st,hi,hm,hl=>by
   have hr:AV.aj aN<=4:=by omega
   have jB:min md 2=md:=dh 2 (by omega);have jJ:min md 4=md:=dh 4 (by omega);obtain⟨x,hx⟩:∃x,X.aa[i]? =some x:=⟨X.aa[i]'(by omega),by simp⟩
   have ih:=zN C n g aN hc X os md dh w hw i m (st++[x]) (by omega) (by omega) (by simp;omega);obtain⟨ha,hX,h5,fp,gv,di⟩:=dq hx;have tN:=aT st;have C2:=cL st;have w1:IntKind.i64.wrap ((i:Int)-1)=(i:Int)-1:=wrap_i64 (by omega) (by omega);have t1:(0<=(i:Int))=True:=eq_true (by omega);have b1:(st.length+1)*56<=140737488355328:=by omega
   have b2:st.length+1<9223372036854775808:=by omega
   have nt:X.aa.take (i+1)=X.aa.take i++[x]:=by rw[List.take_add_one,hx];rfl
   have pB:aw (st++[x])=aw st++[.int .i64 x.ah,.int .i64 x.bx,.str x.aC,x.bH]:=by simp[aw,Tm.cells]
   have x8:List.take (st.length*4) (aw st)=aw st:=List.take_of_length_le (by omega);have lP:AV.aj (aw st++[.int .i64 x.ah,.int .i64 x.bx,.str x.aC,x.bH])=0:=by rw[<-pB];exact aT _
   rw[nt,List.reverse_append];simp only[List.length_append,List.length_cons,List.length_nil,Nat.zero_add,List.append_assoc,pB] at ih;have e1:st.length+1+i=st.length+(i+1):=by omega
   rw[e1] at ih;have e2:((i+1:Nat):Int)-1=(i:Int):=by omega
   rw[e2,ai];rw[hX] at ih|-;simp[bD,bh,h5,hx,fp,gv,di,tN,C2,w1,t1,b1,b2,hr,x8,lP,jB,jJ,aI];exact ih
theorem Gd{R:List AV}{st:List Tm}{lb:Nat}(hR:R.length=lb*4)(ht:R.take (st.length*4)=aw st)(oI:st.length+1<=lb)(x:Tm):
 (putAt R (st.length*4) x.cells).length=lb*4/\(putAt R (st.length*4) x.cells).take ((st++[x]).length*4)=aw (st++[x]):=by
 have hc:x.cells.length=4:=rfl;have h1:st.length*4+x.cells.length<=R.length:=by omega
 refine⟨?_,?_⟩
 .rw[nM x.cells R _ h1];simp only[List.length_append,List.length_take,List.length_drop];omega
 .have:=ku x.cells h1;rw[List.length_append,show (st.length+[x].length)*4=st.length*4+x.cells.length by simp[hc];omega,this,ht];simp[aw]
theorem wQ(C:Nat->List AV->af->Option (AV×af))(n g:Nat)(aN:List AV)(hc:AV.aj aN<=1)(X:Tm)(os:List aS)(md:Nat)(dh:∀k,1<=k->min md k=md)(w:Nat)(hw:min w 4=w)(lb:Nat):∀(i m:Nat) (st:List Tm) (R:List AV),i<=X.aa.length->i<m->st.length+i<=lb->lb<1000000000000->R.length=lb*4->R.take (st.length*4)=aw st->AV.aj R=0->
 ∃R',R'.length=lb*4/\R'.take ((st.length+i)*4)=aw (st++(X.aa.take i).reverse)/\AV.aj R'=0/\
 iV 4 w (cb (aF C n bD) bh 4 m (gq (.fn g aN) (.vec 2 0 st.length 4 lb) (.ptr 3 0) (.int .i64 ((i:Int)-1))) ⟨4,.row X.cells::.row R::os,4,md⟩)=
  some (.exit 2,FM 44 [(1,.fn g aN),(5,.vec 2 0 (st.length+i) 4 lb)],⟨4,.row X.cells::.row R'::os,w,md⟩)
 |0,m+1,st,R,_,_,_,_,hR,ht,fe=>by
   have h1:(0<=(-1:Int))=False:=by simp
   have hr:AV.aj aN<=4:=by omega
   have jB:min md 2=md:=dh 2 (by omega);have jJ:min md 4=md:=dh 4 (by omega);refine⟨R,hR,by simpa using ht,fe,?_⟩;simp[ai,bD,hr,hw]
 |i+1,m+1,st,R,hi,hm,oI,hl,hR,ht,fe=>by
   have hr:AV.aj aN<=4:=by omega
   have jB:min md 2=md:=dh 2 (by omega);have jJ:min md 4=md:=dh 4 (by omega);obtain⟨x,hx⟩:∃x,X.aa[i]? =some x:=⟨X.aa[i]'(by omega),by simp⟩
   obtain⟨p1,p2⟩:=Gd hR ht (by omega) x;have p3:=fy fe x (st.length*4) (by omega);obtain⟨R',r1,r2,r3,ih⟩:=wQ C n g aN hc X os md dh w hw lb i m (st++[x]) (putAt R (st.length*4) x.cells) (by omega) (by omega) (by simp;omega) hl p1 p2 p3;have e1:(st++[x]).length+i=st.length+(i+1):=by simp;omega
   have nt:X.aa.take (i+1)=X.aa.take i++[x]:=by rw[List.take_add_one,hx];rfl
   refine⟨R',r1,?_,r3,?_⟩
   .rw[nt,List.reverse_append,<-e1,r2];simp[List.append_assoc]
   obtain⟨ha,hX,h5,fp,gv,di⟩:=dq hx;have w1:IntKind.i64.wrap ((i:Int)-1)=(i:Int)-1:=wrap_i64 (by omega) (by omega);have t1:(0<=(i:Int))=True:=eq_true (by omega);have b1:st.length*4<=R.length:=by omega
   have b2:st.length+1<=lb:=by omega
   have b3:(st.length+1)*4<=R.length:=by omega
   have wz:putAt [.int .i64 0,.int .i64 0,.str [],.aD] 0 [.int .i64 x.ah,.int .i64 x.bx,.str x.aC,x.bH]=[.int .i64 x.ah,.int .i64 x.bx,.str x.aC,x.bH]:=rfl;have oJ:(st++[x]).length=st.length+1:=by simp
   rw[oJ,show st.length+1+i=st.length+(i+1) by omega] at ih;have e2:((i+1:Nat):Int)-1=(i:Int):=by omega
   rw[e2,ai];rw[hX,gv] at ih;rw[hX];simp[bD,bh,h5,hx,fp,gv,di,w1,t1,b1,b2,b3,hr,jB,jJ,fe,wz,aI,-eC];exact ih
theorem wS(C:Nat->List AV->af->Option (AV×af))(n g:Nat)(aN:List AV)(hc:AV.aj aN<=1)(X:Tm)(os:List aS)(md:Nat)(dh:∀k,1<=k->min md k=md)(w:Nat)(hw:min w 4=w)(lb:Nat):∀(i m:Nat) (st:List Tm) (R:List AV),i<=X.aa.length->i<m->st.length<=lb->lb<st.length+i->st.length+i<1000000000000->R.length=lb*4->R.take (st.length*4)=aw st->AV.aj R=0->
 iV 4 w (cb (aF C n bD) bh 4 m (gq (.fn g aN) (.vec 2 0 st.length 4 lb) (.ptr 3 0) (.int .i64 ((i:Int)-1))) ⟨4,.row X.cells::.row R::os,4,md⟩)=
  some (.exit 2,FM 44 [(1,.fn g aN),(5,.vec 4 0 (st.length+i) 4 (st.length+i))],⟨5,.row (aw (st++(X.aa.take i).reverse))::.row X.cells::.dead::os,w,md⟩)
 |0,m,st,R,_,_,h1,h2,_,_,_,_=>by omega
 |i+1,0,st,R,_,h,_,_,_,_,_,_=>by omega
 |i+1,m+1,st,R,hi,hm,h1,h2,hl,hR,ht,fe=>by
   have hr:AV.aj aN<=4:=by omega
   have jB:min md 2=md:=dh 2 (by omega);have jJ:min md 4=md:=dh 4 (by omega);obtain⟨x,hx⟩:∃x,X.aa[i]? =some x:=⟨X.aa[i]'(by omega),by simp⟩
   have nt:X.aa.take (i+1)=X.aa.take i++[x]:=by rw[List.take_add_one,hx];rfl
   obtain⟨ha,hX,h5,fp,gv,di⟩:=dq hx;have w1:IntKind.i64.wrap ((i:Int)-1)=(i:Int)-1:=wrap_i64 (by omega) (by omega);have t1:(0<=(i:Int))=True:=eq_true (by omega);have b1:st.length*4<=R.length:=by omega
   have wz:putAt [.int .i64 0,.int .i64 0,.str [],.aD] 0 [.int .i64 x.ah,.int .i64 x.bx,.str x.aC,x.bH]=[.int .i64 x.ah,.int .i64 x.bx,.str x.aC,x.bH]:=rfl;have oJ:(st++[x]).length=st.length+1:=by simp
   have e2:((i+1:Nat):Int)-1=(i:Int):=by omega
   by_cases fL:st.length+1<=lb
   .obtain⟨p1,p2⟩:=Gd hR ht (by omega) x;have p3:=fy fe x (st.length*4) (by omega);have ih:=wS C n g aN hc X os md dh w hw lb i m (st++[x]) (putAt R (st.length*4) x.cells) (by omega) (by omega) (by omega) (by omega) (by omega) p1 p2 p3;have b3:(st.length+1)*4<=R.length:=by omega
    rw[oJ,show st.length+1+i=st.length+(i+1) by omega] at ih;rw[e2,ai,nt,List.reverse_append];rw[hX,gv] at ih;rw[hX];simp only[List.append_assoc] at ih;simp[bD,bh,h5,hx,fp,gv,di,w1,t1,b1,fL,b3,hr,jB,jJ,fe,wz,aI,-eC];exact ih
   .have oI:lb=st.length:=by omega
    have ih:=zN C n g aN hc X os md dh w hw i m (st++[x]) (by omega) (by omega) (by omega);have c1:(st.length+1)*56<=140737488355328:=by omega
    have c2:st.length+1<9223372036854775808:=by omega
    have pB:aw (st++[x])=aw st++[.int .i64 x.ah,.int .i64 x.bx,.str x.aC,x.bH]:=by simp[aw,Tm.cells]
    have lP:AV.aj (aw st++[.int .i64 x.ah,.int .i64 x.bx,.str x.aC,x.bH])=0:=by rw[<-pB];exact aT _
    rw[oJ,show st.length+1+i=st.length+(i+1) by omega,pB] at ih;rw[e2,ai,nt,List.reverse_append];rw[hX] at ih|-;simp only[List.append_assoc] at ih;simp[bD,bh,h5,hx,fp,gv,di,w1,t1,b1,fL,c1,c2,hr,jB,jJ,fe,ht,lP,aI];exact ih
theorem y7(C:Nat->List AV->af->Option (AV×af))(n g:Nat)(aN:List AV)(hc:AV.aj aN<=1)(X:Tm)(os:List aS)(md:Nat)(dh:∀k,1<=k->min md k=md)(w:Nat)(hw:min w 5=w):∀(i m:Nat) (st:List Tm),i<=X.aa.length->i<m->st.length+i<1000000000000->
 iV 5 w (cb (aF C n bD) bh 5 m (gq (.fn g aN) (.vec 5 0 st.length 4 st.length) (.ptr 4 0) (.int .i64 ((i:Int)-1))) ⟨6,.row (aw st)::.row X.cells::.dead::os,5,md⟩)=
  some (.exit 2,FM 44 [(1,.fn g aN),(5,.vec 5 0 (st.length+i) 4 (st.length+i))],⟨6,.row (aw (st++(X.aa.take i).reverse))::.row X.cells::.dead::os,w,md⟩)
 |0,m+1,st,_,_,_=>by
   have h1:(0<=(-1:Int))=False:=by simp
   have hr:AV.aj aN<=5:=by omega
   have jB:min md 3=md:=dh 3 (by omega);have jJ:min md 5=md:=dh 5 (by omega);have tN:=aT st;simp[ai,bD,hr,tN,hw]
 |i+1,m+1,st,hi,hm,hl=>by
   have hr:AV.aj aN<=5:=by omega
   have jB:min md 3=md:=dh 3 (by omega);have jJ:min md 5=md:=dh 5 (by omega);obtain⟨x,hx⟩:∃x,X.aa[i]? =some x:=⟨X.aa[i]'(by omega),by simp⟩
   have ih:=y7 C n g aN hc X os md dh w hw i m (st++[x]) (by omega) (by omega) (by simp;omega);obtain⟨ha,hX,h5,fp,gv,di⟩:=dq hx;have tN:=aT st;have C2:=cL st;have w1:IntKind.i64.wrap ((i:Int)-1)=(i:Int)-1:=wrap_i64 (by omega) (by omega);have t1:(0<=(i:Int))=True:=eq_true (by omega);have b1:(st.length+1)*56<=140737488355328:=by omega
   have b2:st.length+1<9223372036854775808:=by omega
   have nt:X.aa.take (i+1)=X.aa.take i++[x]:=by rw[List.take_add_one,hx];rfl
   have pB:aw (st++[x])=aw st++[.int .i64 x.ah,.int .i64 x.bx,.str x.aC,x.bH]:=by simp[aw,Tm.cells]
   have x8:List.take (st.length*4) (aw st)=aw st:=List.take_of_length_le (by omega);have lP:AV.aj (aw st++[.int .i64 x.ah,.int .i64 x.bx,.str x.aC,x.bH])=0:=by rw[<-pB];exact aT _
   rw[nt,List.reverse_append];simp only[List.length_append,List.length_cons,List.length_nil,Nat.zero_add,List.append_assoc,pB] at ih;have e1:st.length+1+i=st.length+(i+1):=by omega
   rw[e1] at ih;have e2:((i+1:Nat):Int)-1=(i:Int):=by omega
   rw[e2,ai];rw[hX] at ih|-;simp[bD,bh,h5,hx,fp,gv,di,tN,C2,w1,t1,b1,b2,hr,x8,lP,jB,jJ,aI];exact ih
theorem Gn{R:List AV}{st:List Tm}{lb:Nat}(hR:R.length=lb*4)(ht:R.take (st.length*4)=aw st)(oI:st.length+1<=lb)(x:Tm):
 (putAt R (st.length*4) x.cells).length=lb*4/\(putAt R (st.length*4) x.cells).take ((st++[x]).length*4)=aw (st++[x]):=by
 have hc:x.cells.length=4:=rfl;have h1:st.length*4+x.cells.length<=R.length:=by omega
 refine⟨?_,?_⟩
 .rw[nM x.cells R _ h1];simp only[List.length_append,List.length_take,List.length_drop];omega
 .have:=ku x.cells h1;rw[List.length_append,show (st.length+[x].length)*4=st.length*4+x.cells.length by simp[hc];omega,this,ht];simp[aw]
theorem wM(C:Nat->List AV->af->Option (AV×af))(n g:Nat)(aN:List AV)(hc:AV.aj aN<=1)(X:Tm)(os:List aS)(md:Nat)(dh:∀k,1<=k->min md k=md)(w:Nat)(hw:min w 5=w)(lb:Nat):∀(i m:Nat) (st:List Tm) (R:List AV),i<=X.aa.length->i<m->st.length+i<=lb->lb<1000000000000->R.length=lb*4->R.take (st.length*4)=aw st->AV.aj R=0->
 ∃R',R'.length=lb*4/\R'.take ((st.length+i)*4)=aw (st++(X.aa.take i).reverse)/\AV.aj R'=0/\
 iV 5 w (cb (aF C n bD) bh 5 m (gq (.fn g aN) (.vec 3 0 st.length 4 lb) (.ptr 4 0) (.int .i64 ((i:Int)-1))) ⟨5,.row X.cells::.row R::os,5,md⟩)=
  some (.exit 2,FM 44 [(1,.fn g aN),(5,.vec 3 0 (st.length+i) 4 lb)],⟨5,.row X.cells::.row R'::os,w,md⟩)
 |0,m+1,st,R,_,_,_,_,hR,ht,fe=>by
   have h1:(0<=(-1:Int))=False:=by simp
   have hr:AV.aj aN<=5:=by omega
   have jB:min md 3=md:=dh 3 (by omega);have jJ:min md 5=md:=dh 5 (by omega);refine⟨R,hR,by simpa using ht,fe,?_⟩;simp[ai,bD,hr,hw]
 |i+1,m+1,st,R,hi,hm,oI,hl,hR,ht,fe=>by
   have hr:AV.aj aN<=5:=by omega
   have jB:min md 3=md:=dh 3 (by omega);have jJ:min md 5=md:=dh 5 (by omega);obtain⟨x,hx⟩:∃x,X.aa[i]? =some x:=⟨X.aa[i]'(by omega),by simp⟩
   obtain⟨p1,p2⟩:=Gn hR ht (by omega) x;have p3:=fy fe x (st.length*4) (by omega);obtain⟨R',r1,r2,r3,ih⟩:=wM C n g aN hc X os md dh w hw lb i m (st++[x]) (putAt R (st.length*4) x.cells) (by omega) (by omega) (by simp;omega) hl p1 p2 p3;have e1:(st++[x]).length+i=st.length+(i+1):=by simp;omega
   have nt:X.aa.take (i+1)=X.aa.take i++[x]:=by rw[List.take_add_one,hx];rfl
   refine⟨R',r1,?_,r3,?_⟩
   .rw[nt,List.reverse_append,<-e1,r2];simp[List.append_assoc]
   obtain⟨ha,hX,h5,fp,gv,di⟩:=dq hx;have w1:IntKind.i64.wrap ((i:Int)-1)=(i:Int)-1:=wrap_i64 (by omega) (by omega);have t1:(0<=(i:Int))=True:=eq_true (by omega);have b1:st.length*4<=R.length:=by omega
   have b2:st.length+1<=lb:=by omega
   have b3:(st.length+1)*4<=R.length:=by omega
   have wz:putAt [.int .i64 0,.int .i64 0,.str [],.aD] 0 [.int .i64 x.ah,.int .i64 x.bx,.str x.aC,x.bH]=[.int .i64 x.ah,.int .i64 x.bx,.str x.aC,x.bH]:=rfl;have oJ:(st++[x]).length=st.length+1:=by simp
   rw[oJ,show st.length+1+i=st.length+(i+1) by omega] at ih;have e2:((i+1:Nat):Int)-1=(i:Int):=by omega
   rw[e2,ai];rw[hX,gv] at ih;rw[hX];simp[bD,bh,h5,hx,fp,gv,di,w1,t1,b1,b2,b3,hr,jB,jJ,fe,wz,aI,-eC];exact ih
theorem w7(C:Nat->List AV->af->Option (AV×af))(n g:Nat)(aN:List AV)(hc:AV.aj aN<=1)(X:Tm)(os:List aS)(md:Nat)(dh:∀k,1<=k->min md k=md)(w:Nat)(hw:min w 5=w)(lb:Nat):∀(i m:Nat) (st:List Tm) (R:List AV),i<=X.aa.length->i<m->st.length<=lb->lb<st.length+i->st.length+i<1000000000000->R.length=lb*4->R.take (st.length*4)=aw st->AV.aj R=0->
 iV 5 w (cb (aF C n bD) bh 5 m (gq (.fn g aN) (.vec 3 0 st.length 4 lb) (.ptr 4 0) (.int .i64 ((i:Int)-1))) ⟨5,.row X.cells::.row R::os,5,md⟩)=
  some (.exit 2,FM 44 [(1,.fn g aN),(5,.vec 5 0 (st.length+i) 4 (st.length+i))],⟨6,.row (aw (st++(X.aa.take i).reverse))::.row X.cells::.dead::os,w,md⟩)
 |0,m,st,R,_,_,h1,h2,_,_,_,_=>by omega
 |i+1,0,st,R,_,h,_,_,_,_,_,_=>by omega
 |i+1,m+1,st,R,hi,hm,h1,h2,hl,hR,ht,fe=>by
   have hr:AV.aj aN<=5:=by omega
   have jB:min md 3=md:=dh 3 (by omega);have jJ:min md 5=md:=dh 5 (by omega);obtain⟨x,hx⟩:∃x,X.aa[i]? =some x:=⟨X.aa[i]'(by omega),by simp⟩
   have nt:X.aa.take (i+1)=X.aa.take i++[x]:=by rw[List.take_add_one,hx];rfl
   obtain⟨ha,hX,h5,fp,gv,di⟩:=dq hx;have w1:IntKind.i64.wrap ((i:Int)-1)=(i:Int)-1:=wrap_i64 (by omega) (by omega);have t1:(0<=(i:Int))=True:=eq_true (by omega);have b1:st.length*4<=R.length:=by omega
   have wz:putAt [.int .i64 0,.int .i64 0,.str [],.aD] 0 [.int .i64 x.ah,.int .i64 x.bx,.str x.aC,x.bH]=[.int .i64 x.ah,.int .i64 x.bx,.str x.aC,x.bH]:=rfl;have oJ:(st++[x]).length=st.length+1:=by simp
   have e2:((i+1:Nat):Int)-1=(i:Int):=by omega
   by_cases fL:st.length+1<=lb
   .obtain⟨p1,p2⟩:=Gn hR ht (by omega) x;have p3:=fy fe x (st.length*4) (by omega);have ih:=w7 C n g aN hc X os md dh w hw lb i m (st++[x]) (putAt R (st.length*4) x.cells) (by omega) (by omega) (by omega) (by omega) (by omega) p1 p2 p3;have b3:(st.length+1)*4<=R.length:=by omega
    rw[oJ,show st.length+1+i=st.length+(i+1) by omega] at ih;rw[e2,ai,nt,List.reverse_append];rw[hX,gv] at ih;rw[hX];simp only[List.append_assoc] at ih;simp[bD,bh,h5,hx,fp,gv,di,w1,t1,b1,fL,b3,hr,jB,jJ,fe,wz,aI,-eC];exact ih
   .have oI:lb=st.length:=by omega
    have ih:=y7 C n g aN hc X os md dh w hw i m (st++[x]) (by omega) (by omega) (by omega);have c1:(st.length+1)*56<=140737488355328:=by omega
    have c2:st.length+1<9223372036854775808:=by omega
    have pB:aw (st++[x])=aw st++[.int .i64 x.ah,.int .i64 x.bx,.str x.aC,x.bH]:=by simp[aw,Tm.cells]
    have lP:AV.aj (aw st++[.int .i64 x.ah,.int .i64 x.bx,.str x.aC,x.bH])=0:=by rw[<-pB];exact aT _
    rw[oJ,show st.length+1+i=st.length+(i+1) by omega,pB] at ih;rw[e2,ai,nt,List.reverse_append];rw[hX] at ih|-;simp only[List.append_assoc] at ih;simp[bD,bh,h5,hx,fp,gv,di,w1,t1,b1,fL,c1,c2,hr,jB,jJ,fe,ht,lP,aI];exact ih
theorem sb{σ:Type}(C:Nat->List AV->af->Option (AV×af))(n g:Nat)(aN:List AV)(hc:AV.aj aN<=2)(fs:Tm->σ->Bool×σ)(tl:σ->List aS)(T:Tm)(mf:Nat->Nat)
 (Jm:Tm->Prop) (Jn:∀x,Jm x->∀y∈x.aa,Jm y) (uW:σ->Prop) (Jo:∀s x,uW s->(fs x s).1=true->uW (fs x s).2) (pC:Nat->Prop) (hmf:∀md,pC md->pC (mf md)) (dh:∀md,pC md->∀k,2<=k->min md k=md) (w:Nat) (hw:min w 4=w)
 (hA:∀s x R md,Jm x->uW s->pC md->C g (x.aR::aN) ⟨5,.row x.cells::.row R::.row T.cells::tl s,4,md⟩=some (.bool (fs x s).1,⟨5,.row x.cells::.row R::.row T.cells::tl (fs x s).2,4,mf md⟩))
 (hB:∀s x R md,Jm x->uW s->pC md->C g (x.aR::aN) ⟨6,.row x.cells::.row R::.dead::.row T.cells::tl s,4,md⟩=some (.bool (fs x s).1,⟨6,.row x.cells::.row R::.dead::.row T.cells::tl (fs x s).2,4,mf md⟩)):
 ∀(d m:Nat) (rs:List Tm) (R:List AV) (lb:Nat) (s:σ) (md:Nat),Tm.bE rs<d->d<=m->d<=n->Tm.bE rs<1000000000->lb<1000000000->rs.length<=lb->R.length=lb*4->R.take (rs.length*4)=aw rs.reverse->AV.aj R=0->(∀x∈rs,Jm x)->uW s->pC md->
 (∃Y cS,pC cS/\iV 4 w (cb (aF C n dk) dK 4 m (oY (.fn g aN) (.vec 3 0 rs.length 4 lb)) ⟨4,.row R::.row T.cells::tl s,4,md⟩)=
  some (if (fH fs d rs s).1 then .exit 0 else .ret,if (fH fs d rs s).1 then FM 44 [] else FM 44 [(4,.bool false)],⟨4,Y::.row T.cells::tl (fH fs d rs s).2,w,cS⟩))/\
 (∃Y cS,pC cS/\iV 4 w (cb (aF C n dk) dK 4 m (oY (.fn g aN) (.vec 4 0 rs.length 4 lb)) ⟨5,.row R::.dead::.row T.cells::tl s,4,md⟩)=
  some (if (fH fs d rs s).1 then .exit 0 else .ret,if (fH fs d rs s).1 then FM 44 [] else FM 44 [(4,.bool false)],⟨4,Y::.row T.cells::tl (fH fs d rs s).2,w,cS⟩))
 |0,m,rs,R,lb,s,md,h,_,_,_,_,_,_,_,_,_,_,_=>by omega
 |d+1,0,rs,R,lb,s,md,_,h,_,_,_,_,_,_,_,_,_,_=>by omega
 |d+1,m+1,[],R,lb,s,md,_,_,_,_,_,_,hR,ht,fe,Fz,QU,cK=>by
   have hr:AV.aj aN<=4:=by omega
   refine⟨⟨.row R,md,cK,?_⟩,⟨.dead,md,cK,?_⟩⟩
   .simp[ai,dk,fH,hr,fe,hw]
   .simp[ai,dk,fH,hr,fe,hw]
 |d+1,m+1,x::rs,R,lb,s,md,hd,hm,hn,iz,oI,cT,hR,ht,fe,Fz,QU,cK=>by
   have hr:AV.aj aN<=4:=by omega
   have mc:AV.aj aN<=5:=by omega
   have hsx:=bP x;simp only[Tm.bE] at hd iz;have hla:=iJ x.aa;have hlr:=iJ rs;have hs2:Tm.bE (x.aa++rs)=Tm.bE x.aa+Tm.bE rs:=lS _ _;rw[List.length_cons] at cT ht;rw[List.reverse_cons] at ht;have nV:rs.reverse.length=rs.length:=List.length_reverse;rw[<-nV] at ht;obtain⟨t1,t2⟩:=En ht;rw[nV] at t1 t2;have tQ:=hmf md cK;have w1:IntKind.i64.wrap (rs.length:Int)=(rs.length:Int):=wrap_i64 (by omega) (by omega);have b1:(0<(rs.length:Int)+1)=True:=eq_true (by omega);have b2:rs.length*4+4<=R.length:=by omega
   have m1:min md 4=md:=dh md cK 4 (by omega);have m2:min md 5=md:=dh md cK 5 (by omega);have b3:((rs.length:Int)<(rs.length:Int)+1)=True:=eq_true (by omega)
   have nD:gV (rs.length+1) lb none (some (.int .i64 (rs.length:Int))) none=some (0,rs.length,none):=by
    have a1:(rs.length:Int)<=((max (rs.length+1) lb:Nat):Int):=by omega
    simp[gV,sliceB,a1]
   have fp:=Tm.bJ x;have FZ:=hA s x R md (Fz x (by simp)) QU cK;have Jp:=hB s x R md (Fz x (by simp)) QU cK;rw[fp] at FZ Jp;have eR:=Tm.bG x;have di:=ar x
   cases hf:(fs x s).1 with
   |false=>
     rw[hf] at FZ Jp;have e:fH fs (d+1) (x::rs) s=(false,(fs x s).2):=by simp[fH,hf]
     rw[e];rw[eR] at FZ Jp t2;refine⟨⟨.row R,mf md,tQ,?_⟩,⟨.dead,mf md,tQ,?_⟩⟩
     .rw[ai];simp[dk,w1,b1,b2,b3,m1,m2,t2,nD,FZ,hr,mc,fe,di,hw]
     .rw[ai];simp[dk,w1,b1,b2,b3,m1,m2,t2,nD,Jp,hr,mc,fe,di,hw]
   |true=>
     rw[hf] at FZ Jp;have O3:=Jo s x QU hf
     have uh:∀y∈x.aa++rs,Jm y:=λy hy=>by
      rcases List.mem_append.1 hy with hy|hy
      .exact Jn x (Fz x (by simp)) y hy
      .exact Fz y (by simp[hy])
     have e:fH fs (d+1) (x::rs) s=fH fs d (x.aa++rs) (fs x s).2:=by simp[fH,hf]
     rw[e];have hw4:min 4 5=4:=rfl;have hw5:min 4 6=4:=rfl;have Jz:x.aa.take x.aa.length=x.aa:=List.take_length;have qS:rs.reverse++x.aa.reverse=(x.aa++rs).reverse:=by simp
     have oK:rs.length+x.aa.length=(x.aa++rs).length:=by simp;omega
     have w2:IntKind.i64.wrap ((x.aa.length:Int)-1)=(x.aa.length:Int)-1:=wrap_i64 (by omega) (by omega)
     have eU:∀(fr:List AV) (h:af) (o:cX),o.ev fr=x.bH->bC fr h (.xn o)=some (.int .i64 x.aa.length,h):=by intro fr h o ho;rw[lW,ho];cases x<;>simp[Tm.bH,Tm.aa]
     have JA:R.take (rs.reverse.length*4)=aw rs.reverse:=by rw[nV];exact t1
     by_cases fL:rs.length+x.aa.length<=lb
     .refine⟨?_,?_⟩
      .obtain⟨R',r1,r2,r3,eq⟩:=wY C n g aN hc x (.row T.cells::tl (fs x s).2) (mf md) (dh _ tQ) 4 hw4 lb x.aa.length n rs.reverse R (Nat.le_refl _) (by omega) (by rw[nV];exact fL) (by omega) hR JA fe;obtain⟨⟨Y,cS,k1,k2⟩,_⟩:=sb C n g aN hc fs tl T mf Jm Jn uW Jo pC hmf dh w hw hA hB d m (x.aa++rs) R' lb (fs x s).2 (mf md) (by omega) (by omega) (by omega) (by omega) oI (by rw[<-oK];exact fL) r1 (by rw[<-oK,<-qS,<-nV];rw[Jz] at r2;exact r2) r3 uh O3 tQ;refine⟨Y,cS,k1,?_⟩;rw[nV] at eq;rw[ai];rw[<-oK] at k2;rw[eR] at FZ t2 eq;simp only[bh] at eq;simp[dk,bh,dK,w1,w2,b1,b2,b3,m1,m2,t2,nD,FZ,hr,mc,fe,di,hw,eU,eq,r3];exact k2
      .obtain⟨R',r1,r2,r3,eq⟩:=wP C n g aN hc x (.dead::.row T.cells::tl (fs x s).2) (mf md) (dh _ tQ) 4 hw5 lb x.aa.length n rs.reverse R (Nat.le_refl _) (by omega) (by rw[nV];exact fL) (by omega) hR JA fe;obtain⟨_,⟨Y,cS,k1,k2⟩⟩:=sb C n g aN hc fs tl T mf Jm Jn uW Jo pC hmf dh w hw hA hB d m (x.aa++rs) R' lb (fs x s).2 (mf md) (by omega) (by omega) (by omega) (by omega) oI (by rw[<-oK];exact fL) r1 (by rw[<-oK,<-qS,<-nV];rw[Jz] at r2;exact r2) r3 uh O3 tQ;refine⟨Y,cS,k1,?_⟩;rw[nV] at eq;rw[ai];rw[<-oK] at k2;rw[eR] at Jp t2 eq;simp only[bh] at eq;simp[dk,bh,dK,w1,w2,b1,b2,b3,m1,m2,t2,nD,Jp,hr,mc,fe,di,hw,eU,eq,r3];exact k2
     .have XW:(aw (x.aa++rs).reverse).length=(x.aa++rs).length*4:=by rw[cL,List.length_reverse]
      have MC:=aT (x.aa++rs).reverse;obtain⟨_,⟨Y,cS,k1,k2⟩⟩:=sb C n g aN hc fs tl T mf Jm Jn uW Jo pC hmf dh w hw hA hB d m (x.aa++rs) (aw (x.aa++rs).reverse) (x.aa++rs).length (fs x s).2 (mf md) (by omega) (by omega) (by omega) (by omega) (by omega) (Nat.le_refl _) XW (List.take_of_length_le (by omega)) MC uh O3 tQ;rw[<-oK] at k2;have tR:=MC;rw[List.reverse_append] at tR;refine⟨⟨Y,cS,k1,?_⟩,⟨Y,cS,k1,?_⟩⟩
      .have eq:=wO C n g aN hc x (.row T.cells::tl (fs x s).2) (mf md) (dh _ tQ) 4 hw4 lb x.aa.length n rs.reverse R (Nat.le_refl _) (by omega) (by omega) (by omega) (by omega) hR JA fe;rw[Jz,qS,nV] at eq;rw[ai];rw[eR] at FZ t2 eq;simp only[bh] at eq;simp[dk,bh,dK,w1,w2,b1,b2,b3,m1,m2,t2,nD,FZ,hr,mc,fe,di,hw,eU,eq,tR];rw[List.reverse_append] at k2;exact k2
      .have eq:=w8 C n g aN hc x (.dead::.row T.cells::tl (fs x s).2) (mf md) (dh _ tQ) 4 hw5 lb x.aa.length n rs.reverse R (Nat.le_refl _) (by omega) (by omega) (by omega) (by omega) hR JA fe;rw[Jz,qS,nV] at eq;rw[ai];rw[eR] at Jp t2 eq;simp only[bh] at eq;simp[dk,bh,dK,w1,w2,b1,b2,b3,m1,m2,t2,nD,Jp,hr,mc,fe,di,hw,eU,eq,tR];rw[List.reverse_append] at k2;exact k2
theorem sq{σ:Type}(C:Nat->List AV->af->Option (AV×af))(n g:Nat)(aN:List AV)(hc:AV.aj aN<=1)(fs:Tm->σ->Bool×σ)(tl:σ->List aS)(T:Tm)(mf:Nat->Nat)
 (Jm:Tm->Prop) (Jn:∀x,Jm x->∀y∈x.aa,Jm y) (uW:σ->Prop) (Jo:∀s x,uW s->(fs x s).1=true->uW (fs x s).2) (pC:Nat->Prop) (hmf:∀md,pC md->pC (mf md)) (dh:∀md,pC md->∀k,1<=k->min md k=md) (w:Nat) (hw:min w 3=w)
 (hA:∀s x R md,Jm x->uW s->pC md->C g (x.aR::aN) ⟨4,.row x.cells::.row R::.row T.cells::tl s,3,md⟩=some (.bool (fs x s).1,⟨4,.row x.cells::.row R::.row T.cells::tl (fs x s).2,3,mf md⟩))
 (hB:∀s x R md,Jm x->uW s->pC md->C g (x.aR::aN) ⟨5,.row x.cells::.row R::.dead::.row T.cells::tl s,3,md⟩=some (.bool (fs x s).1,⟨5,.row x.cells::.row R::.dead::.row T.cells::tl (fs x s).2,3,mf md⟩)):
 ∀(d m:Nat) (rs:List Tm) (R:List AV) (lb:Nat) (s:σ) (md:Nat),Tm.bE rs<d->d<=m->d<=n->Tm.bE rs<1000000000->lb<1000000000->rs.length<=lb->R.length=lb*4->R.take (rs.length*4)=aw rs.reverse->AV.aj R=0->(∀x∈rs,Jm x)->uW s->pC md->
 (∃Y cS,pC cS/\iV 3 w (cb (aF C n dk) dK 3 m (oY (.fn g aN) (.vec 2 0 rs.length 4 lb)) ⟨3,.row R::.row T.cells::tl s,3,md⟩)=
  some (if (fH fs d rs s).1 then .exit 0 else .ret,if (fH fs d rs s).1 then FM 44 [] else FM 44 [(4,.bool false)],⟨3,Y::.row T.cells::tl (fH fs d rs s).2,w,cS⟩))/\
 (∃Y cS,pC cS/\iV 3 w (cb (aF C n dk) dK 3 m (oY (.fn g aN) (.vec 3 0 rs.length 4 lb)) ⟨4,.row R::.dead::.row T.cells::tl s,3,md⟩)=
  some (if (fH fs d rs s).1 then .exit 0 else .ret,if (fH fs d rs s).1 then FM 44 [] else FM 44 [(4,.bool false)],⟨3,Y::.row T.cells::tl (fH fs d rs s).2,w,cS⟩))
 |0,m,rs,R,lb,s,md,h,_,_,_,_,_,_,_,_,_,_,_=>by omega
 |d+1,0,rs,R,lb,s,md,_,h,_,_,_,_,_,_,_,_,_,_=>by omega
 |d+1,m+1,[],R,lb,s,md,_,_,_,_,_,_,hR,ht,fe,Fz,QU,cK=>by
   have hr:AV.aj aN<=3:=by omega
   refine⟨⟨.row R,md,cK,?_⟩,⟨.dead,md,cK,?_⟩⟩
   .simp[ai,dk,fH,hr,fe,hw]
   .simp[ai,dk,fH,hr,fe,hw]
 |d+1,m+1,x::rs,R,lb,s,md,hd,hm,hn,iz,oI,cT,hR,ht,fe,Fz,QU,cK=>by
   have hr:AV.aj aN<=3:=by omega
   have mc:AV.aj aN<=4:=by omega
   have hsx:=bP x;simp only[Tm.bE] at hd iz;have hla:=iJ x.aa;have hlr:=iJ rs;have hs2:Tm.bE (x.aa++rs)=Tm.bE x.aa+Tm.bE rs:=lS _ _;rw[List.length_cons] at cT ht;rw[List.reverse_cons] at ht;have nV:rs.reverse.length=rs.length:=List.length_reverse;rw[<-nV] at ht;obtain⟨t1,t2⟩:=En ht;rw[nV] at t1 t2;have tQ:=hmf md cK;have w1:IntKind.i64.wrap (rs.length:Int)=(rs.length:Int):=wrap_i64 (by omega) (by omega);have b1:(0<(rs.length:Int)+1)=True:=eq_true (by omega);have b2:rs.length*4+4<=R.length:=by omega
   have m1:min md 3=md:=dh md cK 3 (by omega);have m2:min md 4=md:=dh md cK 4 (by omega);have b3:((rs.length:Int)<(rs.length:Int)+1)=True:=eq_true (by omega)
   have nD:gV (rs.length+1) lb none (some (.int .i64 (rs.length:Int))) none=some (0,rs.length,none):=by
    have a1:(rs.length:Int)<=((max (rs.length+1) lb:Nat):Int):=by omega
    simp[gV,sliceB,a1]
   have fp:=Tm.bJ x;have FZ:=hA s x R md (Fz x (by simp)) QU cK;have Jp:=hB s x R md (Fz x (by simp)) QU cK;rw[fp] at FZ Jp;have eR:=Tm.bG x;have di:=ar x
   cases hf:(fs x s).1 with
   |false=>
     rw[hf] at FZ Jp;have e:fH fs (d+1) (x::rs) s=(false,(fs x s).2):=by simp[fH,hf]
     rw[e];rw[eR] at FZ Jp t2;refine⟨⟨.row R,mf md,tQ,?_⟩,⟨.dead,mf md,tQ,?_⟩⟩
     .rw[ai];simp[dk,w1,b1,b2,b3,m1,m2,t2,nD,FZ,hr,mc,fe,di,hw]
     .rw[ai];simp[dk,w1,b1,b2,b3,m1,m2,t2,nD,Jp,hr,mc,fe,di,hw]
   |true=>
     rw[hf] at FZ Jp;have O3:=Jo s x QU hf
     have uh:∀y∈x.aa++rs,Jm y:=λy hy=>by
      rcases List.mem_append.1 hy with hy|hy
      .exact Jn x (Fz x (by simp)) y hy
      .exact Fz y (by simp[hy])
     have e:fH fs (d+1) (x::rs) s=fH fs d (x.aa++rs) (fs x s).2:=by simp[fH,hf]
     rw[e];have hw4:min 3 4=3:=rfl;have hw5:min 3 5=3:=rfl;have Jz:x.aa.take x.aa.length=x.aa:=List.take_length;have qS:rs.reverse++x.aa.reverse=(x.aa++rs).reverse:=by simp
     have oK:rs.length+x.aa.length=(x.aa++rs).length:=by simp;omega
     have w2:IntKind.i64.wrap ((x.aa.length:Int)-1)=(x.aa.length:Int)-1:=wrap_i64 (by omega) (by omega)
     have eU:∀(fr:List AV) (h:af) (o:cX),o.ev fr=x.bH->bC fr h (.xn o)=some (.int .i64 x.aa.length,h):=by intro fr h o ho;rw[lW,ho];cases x<;>simp[Tm.bH,Tm.aa]
     have JA:R.take (rs.reverse.length*4)=aw rs.reverse:=by rw[nV];exact t1
     by_cases fL:rs.length+x.aa.length<=lb
     .refine⟨?_,?_⟩
      .obtain⟨R',r1,r2,r3,eq⟩:=wQ C n g aN hc x (.row T.cells::tl (fs x s).2) (mf md) (dh _ tQ) 3 hw4 lb x.aa.length n rs.reverse R (Nat.le_refl _) (by omega) (by rw[nV];exact fL) (by omega) hR JA fe;obtain⟨⟨Y,cS,k1,k2⟩,_⟩:=sq C n g aN hc fs tl T mf Jm Jn uW Jo pC hmf dh w hw hA hB d m (x.aa++rs) R' lb (fs x s).2 (mf md) (by omega) (by omega) (by omega) (by omega) oI (by rw[<-oK];exact fL) r1 (by rw[<-oK,<-qS,<-nV];rw[Jz] at r2;exact r2) r3 uh O3 tQ;refine⟨Y,cS,k1,?_⟩;rw[nV] at eq;rw[ai];rw[<-oK] at k2;rw[eR] at FZ t2 eq;simp only[bh] at eq;simp[dk,bh,dK,w1,w2,b1,b2,b3,m1,m2,t2,nD,FZ,hr,mc,fe,di,hw,eU,eq,r3];exact k2
      .obtain⟨R',r1,r2,r3,eq⟩:=wM C n g aN hc x (.dead::.row T.cells::tl (fs x s).2) (mf md) (dh _ tQ) 3 hw5 lb x.aa.length n rs.reverse R (Nat.le_refl _) (by omega) (by rw[nV];exact fL) (by omega) hR JA fe;obtain⟨_,⟨Y,cS,k1,k2⟩⟩:=sq C n g aN hc fs tl T mf Jm Jn uW Jo pC hmf dh w hw hA hB d m (x.aa++rs) R' lb (fs x s).2 (mf md) (by omega) (by omega) (by omega) (by omega) oI (by rw[<-oK];exact fL) r1 (by rw[<-oK,<-qS,<-nV];rw[Jz] at r2;exact r2) r3 uh O3 tQ;refine⟨Y,cS,k1,?_⟩;rw[nV] at eq;rw[ai];rw[<-oK] at k2;rw[eR] at Jp t2 eq;simp only[bh] at eq;simp[dk,bh,dK,w1,w2,b1,b2,b3,m1,m2,t2,nD,Jp,hr,mc,fe,di,hw,eU,eq,r3];exact k2
     .have XW:(aw (x.aa++rs).reverse).length=(x.aa++rs).length*4:=by rw[cL,List.length_reverse]
      have MC:=aT (x.aa++rs).reverse;obtain⟨_,⟨Y,cS,k1,k2⟩⟩:=sq C n g aN hc fs tl T mf Jm Jn uW Jo pC hmf dh w hw hA hB d m (x.aa++rs) (aw (x.aa++rs).reverse) (x.aa++rs).length (fs x s).2 (mf md) (by omega) (by omega) (by omega) (by omega) (by omega) (Nat.le_refl _) XW (List.take_of_length_le (by omega)) MC uh O3 tQ;rw[<-oK] at k2;have tR:=MC;rw[List.reverse_append] at tR;refine⟨⟨Y,cS,k1,?_⟩,⟨Y,cS,k1,?_⟩⟩
      .have eq:=wS C n g aN hc x (.row T.cells::tl (fs x s).2) (mf md) (dh _ tQ) 3 hw4 lb x.aa.length n rs.reverse R (Nat.le_refl _) (by omega) (by omega) (by omega) (by omega) hR JA fe;rw[Jz,qS,nV] at eq;rw[ai];rw[eR] at FZ t2 eq;simp only[bh] at eq;simp[dk,bh,dK,w1,w2,b1,b2,b3,m1,m2,t2,nD,FZ,hr,mc,fe,di,hw,eU,eq,tR];rw[List.reverse_append] at k2;exact k2
      .have eq:=w7 C n g aN hc x (.dead::.row T.cells::tl (fs x s).2) (mf md) (dh _ tQ) 3 hw5 lb x.aa.length n rs.reverse R (Nat.le_refl _) (by omega) (by omega) (by omega) (by omega) hR JA fe;rw[Jz,qS,nV] at eq;rw[ai];rw[eR] at Jp t2 eq;simp only[bh] at eq;simp[dk,bh,dK,w1,w2,b1,b2,b3,m1,m2,t2,nD,Jp,hr,mc,fe,di,hw,eU,eq,tR];rw[List.reverse_append] at k2;exact k2
def cntF(_:Tm)(k:Nat):Bool×Nat:=(decide (k+1<=2000),k+1)
def DW(t:Tm):Nat:=(fH cntF (t.size+1) [t] 0).2
theorem LO:∀(d:Nat) (rs:List Tm) (k:Nat),Tm.bE rs<d->k<=2000->(fH cntF d rs k).2=min (k+Tm.bE rs) 2001
 |0,rs,k,h,_=>by omega
 |d+1,[],k,_,hk=>by simp[fH,Tm.bE];omega
 |d+1,x::rs,k,h,hk=>by
   have hs:=bP x;have h2:=lS x.aa rs;simp only[Tm.bE] at h|-;unfold fH;simp only[cntF,decide_eq_true_eq];split
   .rename_i hc;rw[LO d (x.aa++rs) (k+1) (by omega) hc,h2];omega
   .omega
theorem KV(t:Tm):DW t=min t.size 2001:=by unfold DW;rw[LO _ _ _ (by simp[Tm.bE]) (by omega)];simp[Tm.bE]
theorem acJ(n:Nat)(x:Tm)(k:Nat)(hk:k<=2000)(R:aS)(T T0:aS)(md:Nat):aH (cV []) (n+1) 101 [x.aR,.ptr 1 0] ⟨5,.row x.cells::R::T::.row [.int .i64 k]::[T0],4,md⟩=
 some (.bool (cntF x k).1,⟨5,.row x.cells::R::T::.row [.int .i64 ((cntF x k).2:Nat)]::[T0],4,min md 1⟩):=by
 have fp:=Tm.bJ x;have eR:=Tm.bG x;have di:=ar x;have w1:IntKind.i64.wrap ((k:Int)+1)=(k:Int)+1:=wrap_i64 (by omega) (by omega);rw[fp,eR];by_cases hc:k+1<=2000;have XX:((k:Int)+1<=2000)=True:=eq_true (by omega)
 rotate_left
 have XX:((k:Int)+1<=2000)=False:=eq_false (by omega)
 rotate_left
 all_goals simp[U0,Us,cntF,hc,XX,w1,di]
theorem aab(n:Nat)(x:Tm)(k:Nat)(hk:k<=2000)(R:aS)(D T T0:aS)(md:Nat):aH (cV []) (n+1) 101 [x.aR,.ptr 1 0] ⟨6,.row x.cells::R::D::T::.row [.int .i64 k]::[T0],4,md⟩=
 some (.bool (cntF x k).1,⟨6,.row x.cells::R::D::T::.row [.int .i64 ((cntF x k).2:Nat)]::[T0],4,min md 1⟩):=by
 have fp:=Tm.bJ x;have eR:=Tm.bG x;have di:=ar x;have w1:IntKind.i64.wrap ((k:Int)+1)=(k:Int)+1:=wrap_i64 (by omega) (by omega);rw[fp,eR];by_cases hc:k+1<=2000;have XX:((k:Int)+1<=2000)=True:=eq_true (by omega)
 rotate_left
 have XX:((k:Int)+1<=2000)=False:=eq_false (by omega)
 rotate_left
 all_goals simp[U0,Us,cntF,hc,XX,w1,di]
theorem S5(t:Tm)(hs:t.size<1000000000)(n:Nat)(hn:t.size+1<=n+1):∃Y cS,iV 4 2 (cb (aF (aH (cV []) (n+1)) (n+1) dk) dK 4 (n+1) (oY (.fn 101 [.ptr 1 0]) (.vec 3 0 1 4 1)) ⟨4,[.row t.cells,.row t.cells,.row [.int .i64 0],.row t.cells],4,2⟩)=
 some (if (fH cntF (t.size+1) [t] 0).1 then .exit 0 else .ret,if (fH cntF (t.size+1) [t] 0).1 then FM 44 [] else FM 44 [(4,.bool false)],⟨4,[Y,.row t.cells,.row [.int .i64 (DW t:Nat)],.row t.cells],2,cS⟩):=by
 have h:=sb (aH (cV []) (n+1)) (n+1) 101 [.ptr 1 0] (by simp[AV.aj,AV.aK]) cntF (λk=>[.row [.int .i64 (k:Nat)],.row t.cells]) t (min · 1)
  (λ_=>True) (λ_ _ _ _=>trivial) (·<=2000) (λs x _ h=>by simpa[cntF] using h) (λmd=>md=1\/md=2) (λmd h=>by omega) (λmd h k hk=>by omega) 2 rfl
  (λs x R md _ Jk _=>acJ n x s Jk _ _ _ md) (λs x R md _ Jk _=>aab n x s Jk _ _ _ _ md)
  (t.size+1) (n+1) [t] t.cells 1 0 2 (by simp[Tm.bE]) hn hn (by simp[Tm.bE];exact hs) (by omega) (by simp) rfl (by simp[aw];rfl) (by simp[Tm.cells,AV.aj,AV.aK,ar]) (λ_ _=>trivial) (by omega) (.inr rfl)
 obtain⟨⟨Y,cS,_,e⟩,_⟩:=h;exact⟨Y,cS,e⟩
def BI:aZ:=⟨59,λ|[v]=>(match il v with|some t=>if t.size<1000000000 then some (.int .i64 (DW t:Nat)) else none|none=>none)|_=>none⟩
theorem yJ:BI.f=59:=(rfl)
theorem Xk(t:Tm)(h:t.size<1000000000):BI.S [t.aR]=some (.int .i64 (DW t:Nat)):=by simp only[BI,ew,if_pos h]
theorem Wn:bB Tryz.prog BI:=λaa v hv=>by
 unfold BI at hv|-;dsimp only at hv|-;split at hv
 .rename_i x;split at hv
  .rename_i t ht;split at hv
   .rename_i hl;cases hv;rw[dY ht];refine cf (n:=t.size+5) (h':=h0) (ch (ss:=[]) (by simp)) ?_ rfl (by simp[AV.aj,Tm.cm]);obtain⟨Y,cS,eq⟩:=S5 t hl (t.size+2) (by omega);have eR:=Tm.bG t;have di:=ar t;rw[Tm.bJ,eR];rw[eR] at eq;simp only[dK] at eq
    cases hb:(fH cntF (t.size+1) [t] 0).1 with
    |true=>rw[hb] at eq;simp only[if_true] at eq;simp[aa5,c59,Gc,ZS,dK,di,eq]
    |false=>rw[hb] at eq;simp only[Bool.false_eq_true,if_false] at eq;simp[aa5,c59,Gc,ZS,dK,di,eq]
   .cases hv
  .cases hv
 .cases hv
theorem aE(h:af)(n0 d:Nat)(t:Tm):jH h n0 (d+1) t.bH=some (t.bH,[]):=Az (tI t)
mutual
def Tm.fP:Tm->Nat
 |.nl ..=>1
 |.mk _ _ _ us=>1+Tm.lI us
def Tm.lI:List Tm->Nat
 |[]=>0
 |t::r=>max t.fP (Tm.lI r)
end
theorem EB(t:Tm):t.fP=1+Tm.lI t.aa:=by cases t<;>rfl
def mS(MD d:Nat):List Tm->Nat
 |[]=>d
 |x::r=>if MD<=d+1 then d else mS MD (max d (min x.fP (MD-1))) r
theorem J0(MD:Nat):∀(us:List Tm) (d:Nat),min (mS MD d us+1) MD=min (max d (Tm.lI us)+1) MD
 |[],d=>by simp[mS,Tm.lI]
 |x::r,d=>by
   unfold mS;simp only[Tm.lI];split
   .omega
   .rw[J0 MD r];omega
def jE(m:Nat):aZ:=⟨102,λ|[v,.int .i64 n]=>(match il v with|some t=>if n=m/\t.size<1000000000 then some (.int .i64 (min t.fP m:Nat)) else none|none=>none)|_=>none⟩
theorem oN(m:Nat):(jE m).f=102:=(rfl)
theorem EA(m:Nat)(t:Tm)(h:t.size<1000000000):(jE m).S [t.aR,.int .i64 (m:Nat)]=some (.int .i64 (min t.fP m:Nat)):=by simp only[jE,ew];exact if_pos ⟨trivial,h⟩
theorem OE(m k:Nat)(v:AV)(h:k≠m):(jE m).S [v,.int .i64 (k:Nat)]=none:=by
 simp only[jE];split
 .rw[if_neg (by omega)]
 .rfl
theorem G7(n m:Nat)(hm:m<=100)(jB:1<=m)(T:aS)(us:List Tm)(hs:Tm.bE us<1000000000):∀(post pre:List Tm) (k d:Nat),us=pre++post->post.length<k->d<=100->
 ∃md,iV 1 0 (cb (aF (aH (cV [jE (m-1)]) (n+1)) (n+1) oF) oB 1 k (YG (.int .i64 m) (.int .i64 d) (.sl (us.map Tm.aR)) (.int .i64 us.length) (.int .i64 pre.length)) ⟨1,[T],1,0⟩)=
   some (.exit 0,FM 30 [(1,.int .i64 m),(5,.int .i64 (mS m d post:Nat))],⟨1,[T],0,md⟩)
 |[],pre,k+1,d,e,_,_=>by simp at e;subst e;have h5:AV.aj (us.map Tm.aR)=0:=cE _;exact⟨0,by simp[ai,oF,h5,mS]⟩
 |x::post,pre,k+1,d,e,hk,hd=>by
   have hlu:=iJ us;have h1:us[pre.length]? =some x:=by rw[e];simp
   have h5:AV.aj (us.map Tm.aR)=0:=cE _;have h6:((pre.length:Int)<(us.length:Int))=True:=eq_true (by rw[e,List.length_append,List.length_cons];omega);have Mp:pre.length<us.length:=by rw[e];simp
   have h3:IntKind.i64.wrap ((pre.length:Int)+1)=(pre.length:Int)+1:=wrap_i64 (by omega) (by omega);have fp:=Tm.bJ x;have eR:=Tm.bG x;have di:=ar x
   have XM:x.size<1000000000:=by have:=lS pre (x::post);rw[<-e] at this;simp only[Tm.bE] at this;omega
   have w1:IntKind.i64.wrap ((m:Int)-1)=((m-1:Nat):Int):=by rw[wrap_i64 (by omega) (by omega)];omega
   by_cases hb:m<=d+1
   .have Fk:(((m-1:Nat):Int)<=(d:Int))=True:=eq_true (by omega);refine⟨0,?_⟩;rw[ai];simp[oF,h1,h5,h6,fp,eR,di,w1,Fk,mS,hb]
   .have Fk:(((m-1:Nat):Int)<=(d:Int))=False:=eq_false (by omega);have hc:=EA (m-1) x XM;rw[fp,eR] at hc
    have Jh:(if d<min x.fP (m-1) then ((min x.fP (m-1):Nat):Int) else (d:Int))=((max d (min x.fP (m-1)):Nat):Int):=by split<;>omega
    obtain⟨md,ih⟩:=G7 n m hm jB T us hs post (pre++[x]) k (max d (min x.fP (m-1))) (by simp[e]) (by rw[List.length_cons] at hk;omega) (by omega);refine⟨md,?_⟩;simp only[List.length_append,List.length_cons,List.length_nil,Nat.zero_add] at ih;rw[show ((pre.length+1:Nat):Int)=(pre.length:Int)+1 by omega] at ih;rw[ai]
    have hfd:mS m d (x::post)=mS m (max d (min x.fP (m-1))) post:=by rw[mS,if_neg hb]
    rw[hfd];generalize min x.fP (m-1)=q at hc Jh ih;generalize max d q=q2 at Jh ih;simp[oF,oB,h1,h3,h5,h6,fp,eR,di,w1,Fk,hc,Jh,aE,oN];exact ih
theorem Iy(m:Nat)(jB:1<=m)(hm:m<=100)(hp:bB Tryz.prog (jE (m-1))):bB Tryz.prog (jE m):=λaa v hv=>by
 have hv0:=hv;unfold jE at hv;dsimp only at hv;split at hv
 .rename_i x n;split at hv
  .rename_i t ht;split at hv
   .rename_i hc;obtain⟨rfl,hs⟩:=hc;cases hv;rw[dY ht];have xX:=OE (m-1) m t.aR (by omega);refine cf (n:=t.size+5) (h':=h0) (ch (ss:=[jE (m-1)]) (by simp[hp])) ?_ rfl (by simp[AV.aj,AV.aK,Tm.cm]);rw[oN];have fp:=Tm.bJ t;have eR:=Tm.bG t;have di:=ar t;have iz:=bP t;have hla:=iJ t.aa;have hde:=EB t;have hfe:=J0 m t.aa 0;rw[Nat.zero_max,Nat.add_comm (Tm.lI t.aa) 1,<-hde] at hfe;rw[fp,eR] at xX|-
    have hr:mS m 0 t.aa<=100:=by
     have key:∀(us:List Tm) (d:Nat),d<=100->mS m d us<=100:=by
      intro us
      induction us with
      |nil=>intro d h;exact h
      |cons x r ih=>
        intro d h;unfold mS;split
        .exact h
        .exact ih _ (by omega)
     exact key _ 0 (by omega)
    have w2:IntKind.i64.wrap ((mS m 0 t.aa:Int)+1)=(mS m 0 t.aa:Int)+1:=wrap_i64 (by omega) (by omega)
    have hmn:(if (m:Int)<(mS m 0 t.aa:Int)+1 then (m:Int) else (mS m 0 t.aa:Int)+1)=((min t.fP m:Nat):Int):=by split<;>omega
    obtain⟨md,lp⟩:=G7 (t.size+3) m hm jB (.row t.cells) t.aa (by omega) t.aa [] (t.size+4) 0 rfl (by omega) (by omega);simp only[List.length_nil,show ((0:Nat):Int)=0 from rfl,oB] at lp;rw[eR] at lp
    have ha:(t.bH=.aD/\t.aa=[])\/t.bH=.sl (t.aa.map Tm.aR):=by
     cases t with
     |nl k n s=>exact .inl ⟨rfl,rfl⟩
     |mk k n s us=>exact .inr rfl
    generalize t.aa=us at *;generalize t.bH=a at *;rcases ha with⟨rfl,rfl⟩|rfl
    .simp[mS] at w2 hmn;simp[Em,KQ,oB,oF,ai,xX,oN,w2,hmn]
    .have h5:AV.aj (us.map Tm.aR)=0:=cE _;simp[Em,KQ,oB,xX,oN,w2,hmn,lp,h5]
   .cases hv
  .cases hv
 .cases hv
theorem Iu:bB Tryz.prog (jE 0):=λaa v hv=>by
 unfold jE at hv;dsimp only at hv;split at hv
 .rename_i x n;split at hv
  .rename_i t ht;split at hv
   .rename_i hc;obtain⟨rfl,hs⟩:=hc;cases hv;rw[dY ht];refine cf (n:=5) (h':=h0) (ch (ss:=[]) (by simp)) ?_ rfl (by simp[AV.aj,AV.aK,Tm.cm]);rw[oN];have fp:=Tm.bJ t;have eR:=Tm.bG t;have di:=ar t
    have ha:(t.bH=.aD)\/∃us:List Tm,t.bH=.sl (us.map Tm.aR):=by
     cases t with
     |nl k n s=>exact .inl rfl
     |mk k n s us=>exact .inr ⟨us,rfl⟩
    have w0:IntKind.i64.wrap (-1)=-1:=rfl;have w1:IntKind.i64.wrap (0-1)=-1:=rfl;have w2:IntKind.i64.wrap (0+1)=1:=rfl;have w3:IntKind.i64.wrap 1=1:=rfl;rw[fp,eR];generalize t.bH=a at *;rcases ha with rfl|⟨us,rfl⟩
    .simp[Em,KQ,oB,oF,ai,w0,w1,w2,w3]
    .have h5:AV.aj (us.map Tm.aR)=0:=cE _
     cases us with
     |nil=>simp[Em,KQ,oB,oF,ai,w0,w1,w2,w3]
     |cons y r=>have h6:AV.aj (r.map Tm.aR)=0:=cE _;have JB:=Tm.bJ y;have xZ:=Tm.bG y;have rU:=ar y;have t1:((0:Int)<(r.length:Int)+1)=True:=eq_true (by omega);simp[Em,KQ,oB,oF,ai,w0,w1,w2,w3,h6,JB,xZ,rU,t1]
   .cases hv
  .cases hv
 .cases hv
theorem Bw:∀m,m<=100->bB Tryz.prog (jE m)
 |0,_=>Iu
 |m+1,h=>Iy (m+1) (by omega) h (Bw m (by omega))
def u0:aZ:=⟨60,λ|[v]=>(match il v with|some t=>if t.size<1000000000 then some (.int .i64 (min t.fP 65:Nat)) else none|none=>none)|_=>none⟩
theorem uF:u0.f=60:=(rfl)
theorem RT(t:Tm)(h:t.size<1000000000):u0.S [t.aR]=some (.int .i64 (min t.fP 65:Nat)):=by simp only[u0,ew,if_pos h]
theorem Sd:bB Tryz.prog u0:=λaa v hv=>by
 unfold u0 at hv|-;dsimp only at hv|-;split at hv
 .rename_i x;split at hv
  .rename_i t ht;split at hv
   .rename_i hl;cases hv;rw[dY ht];refine cf (n:=3) (h':=h0) (ch (ss:=[jE 65]) (by simp[Bw 65 (by omega)])) ?_ rfl (by simp[AV.aj,Tm.cm]);have hc:=EA 65 t hl;have fp:=Tm.bJ t;have eR:=Tm.bG t;have di:=ar t;rw[fp,eR] at hc|-;rw[show ((65:Nat):Int)=65 from rfl] at hc;simp[age,c60,hc,di,aE,oN]
   .cases hv
  .cases hv
 .cases hv
mutual
def Tm.gr:Tm->Nat
 |.nl _ _ s=>1+s.length
 |.mk _ _ s us=>1+s.length+Tm.gT us
def Tm.gT:List Tm->Nat
 |[]=>0
 |t::r=>t.gr+Tm.gT r
end
theorem Bk(t:Tm):t.gr=1+t.aC.length+Tm.gT t.aa:=by cases t<;>rfl
theorem F2:∀a b:List Tm,Tm.gT (a++b)=Tm.gT a+Tm.gT b
 |[],b=>by simp[Tm.gT]
 |t::r,b=>by simp[Tm.gT,F2 r b];omega
mutual
theorem oU:∀t:Tm,t.size<=t.gr
 |.nl _ _ s=>by simp[Tm.size,Tm.gr]
 |.mk _ _ s us=>by have:=Dv us;simp[Tm.size,Tm.gr];omega
theorem Dv:∀l:List Tm,Tm.bE l<=Tm.gT l
 |[]=>by simp[Tm.bE,Tm.gT]
 |t::r=>by have:=oU t;have:=Dv r;simp[Tm.bE,Tm.gT];omega
end
mutual
def Tm.fg(p:Tm->Bool):Tm->Bool
 |.nl k n s=>p (.nl k n s)
 |.mk k n s us=>p (.mk k n s us)&&Tm.eX p us
def Tm.eX(p:Tm->Bool):List Tm->Bool
 |[]=>true
 |t::r=>Tm.fg p t&&Tm.eX p r
end
theorem iO(p:Tm->Bool)(t:Tm):t.fg p=(p t&&Tm.eX p t.aa):=by cases t<;>simp[Tm.fg,Tm.aa,Tm.eX]
theorem Ls(p:Tm->Bool):∀a b:List Tm,Tm.eX p (a++b)=(Tm.eX p a&&Tm.eX p b)
 |[],b=>by simp[Tm.eX]
 |t::r,b=>by simp[Tm.eX,Ls p r b,Bool.and_assoc]
def Qy(p:Tm->Bool)(x:Tm)(_:Unit):Bool×Unit:=(p x,())
theorem Kc(p:Tm->Bool):∀(d:Nat) (rs:List Tm),Tm.bE rs<d->(fH (Qy p) d rs ()).1=Tm.eX p rs
 |0,rs,h=>by omega
 |d+1,[],_=>by simp[fH,Tm.eX]
 |d+1,x::rs,h=>by
   have hs:=bP x;have h2:=lS x.aa rs;simp only[Tm.bE] at h;have e:fH (Qy p) (d+1) (x::rs) ()=if p x=true then fH (Qy p) d (x.aa++rs) () else (false,()):=rfl
   rw[e];simp only[Tm.eX,iO];by_cases hp:p x=true
   .rw[if_pos hp,hp,Kc p d (x.aa++rs) (by omega),Ls];simp
   .simp[hp]
def dt(t:Tm):Bool:=decide (t.size<=2000)&&decide (t.fP<=64)&&t.fg fJ
mutual
theorem D3:∀(us:List Tm) (y:Tm),y∈us->y.gr<=Tm.gT us
 |[],y,h=>by simp at h
 |t::r,y,h=>by
   simp only[Tm.gT];rcases List.mem_cons.1 h with rfl|h
   .omega
   .have:=D3 r y h;omega
end
theorem QZ(t:Tm)(hs:t.gr<1000000000)(ss:List aZ)(hss:∀(n:Nat) (x:Tm) (h:af),x.gr<1000000000->aH (cV ss) (n+1) 62 [x.aR] h=some (.bool (fJ x),h))(n:Nat)(hn:t.size+1<=n+1)(T0:aS):∃Y cS,iV 3 1 (cb (aF (aH (cV ss) (n+1)) (n+1) dk) dK 3 (n+1) (oY (.fn 62 []) (.vec 2 0 1 4 1)) ⟨3,[.row t.cells,.row t.cells,T0],3,1⟩)=
 some (if t.fg fJ then .exit 0 else .ret,if t.fg fJ then FM 44 [] else FM 44 [(4,.bool false)],⟨3,[Y,.row t.cells,T0],1,cS⟩):=by
 have hsb:=oU t
 have h:=sq (aH (cV ss) (n+1)) (n+1) 62 [] (by simp[AV.aj]) (Qy fJ) (λ_=>[T0]) t id
  (λx=>x.gr<1000000000) (λx hx y hy=>by have:=Bk x;have:=D3 x.aa y hy;omega) (λ_=>True) (λ_ _ _ _=>trivial) (λmd=>md=1) (λmd h=>h) (λmd h k hk=>by omega) 1 rfl
  (λs x R md hx _ _=>hss n x _ hx) (λs x R md hx _ _=>hss n x _ hx)
  (t.size+1) (n+1) [t] t.cells 1 () 1 (by simp[Tm.bE]) hn hn (by simp[Tm.bE];omega) (by omega) (by simp) rfl (by simp[aw];rfl) (by simp[Tm.cells,AV.aj,AV.aK,ar]) (λx hx=>by simp at hx;subst hx;exact hs) trivial rfl
 obtain⟨⟨Y,cS,_,e⟩,_⟩:=h;rw[Kc fJ _ _ (by simp[Tm.bE])] at e;have ea:Tm.eX fJ [t]=t.fg fJ:=by simp[Tm.eX]
 rw[ea] at e;exact⟨Y,cS,e⟩
def eE:aZ:=⟨27,λ|[v]=>(match il v with|some t=>if t.gr<1000000000 then some (.bool (dt t)) else none|none=>none)|_=>none⟩
theorem aV:eE.f=27:=(rfl)
theorem kE(t:Tm)(h:t.gr<1000000000):eE.S [t.aR]=some (.bool (dt t)):=by simp only[eE,ew,if_pos h]
theorem Xx(n:Nat)(x:Tm)(h:af)(hx:x.gr<1000000000):aH (cV [BI,u0,Lp]) (n+1) 62 [x.aR] h=some (.bool (fJ x),h):=by have hb:=Bk x;have ho:=YV x (by omega);have fp:=Tm.bJ x;have eR:=Tm.bG x;rw[fp,eR] at ho|-;simp[ho,aE,yJ,uF,DL]
theorem oM:bB Tryz.prog eE:=λaa v hv=>by
 unfold eE at hv|-;dsimp only at hv|-;split at hv
 .rename_i x;split at hv
  .rename_i t ht;split at hv
   .rename_i hl;cases hv;rw[dY ht];refine cf (n:=t.size+5) (h':=h0) (ch (ss:=[BI,u0,Lp]) (by simp[Wn,Sd,YM])) ?_ rfl (by simp[AV.aj,Tm.cm]);have hsb:=oU t;have c1:=Xk t (by omega);have c2:=RT t (by omega);have fp:=Tm.bJ t;have eR:=Tm.bG t;have di:=ar t;obtain⟨Y,cS,eq⟩:=QZ t hl [BI,u0,Lp] Xx (t.size+2) (by omega) (.row t.cells);rw[fp,eR] at c1 c2|-;rw[eR] at eq;simp only[dK] at eq;unfold dt;by_cases h1:t.size<=2000
    .have Mw:(((DW t:Nat):Int)<=2000)=True:=eq_true (by rw[KV];omega);by_cases h2:t.fP<=64
     .have Ft:(((min t.fP 65:Nat):Int)<=64)=True:=eq_true (by omega);generalize min t.fP 65=q at c2 Ft
      cases hb:t.fg fJ with
      |true=>rw[hb] at eq;simp only[if_true] at eq;simp[Po,c27,Gc,ZS,dK,di,aE,c1,c2,h1,Mw,h2,Ft,eq,yJ,uF,DL]
      |false=>rw[hb] at eq;simp only[Bool.false_eq_true,if_false] at eq;simp[Po,c27,Gc,ZS,dK,di,aE,c1,c2,h1,Mw,h2,Ft,eq,yJ,uF,DL]
     .have Ft:(((min t.fP 65:Nat):Int)<=64)=False:=eq_false (by omega);generalize min t.fP 65=q at c2 Ft;simp[Po,c27,di,aE,c1,c2,h1,Mw,h2,Ft,yJ,uF,DL]
    .have Mw:(((DW t:Nat):Int)<=2000)=False:=eq_false (by rw[KV];omega);simp[Po,c27,di,aE,c1,h1,Mw,yJ,uF,DL]
   .cases hv
  .cases hv
 .cases hv
mutual
def nL:Tm->Tm->Bool
 |.nl k n s,b=>decide (k=b.ah)&&decide (n=b.bx)&&(s==b.aC)&&b.aa.isEmpty
 |.mk k n s us,b=>decide (k=b.ah)&&decide (n=b.bx)&&(s==b.aC)&&jf us b.aa
def jf:List Tm->List Tm->Bool
 |[],ws=>ws.isEmpty
 |x::r,ws=>match ws with
   |[]=>false
   |y::q=>nL x y&&jf r q
end
theorem oS(ws:List Tm):jf [] ws=ws.isEmpty:=by simp[jf]
theorem tH(x y:Tm)(r q:List Tm):jf (x::r) (y::q)=(nL x y&&jf r q):=by simp[jf]
theorem Ds(a b:Tm):nL a b=(decide (a.ah=b.ah)&&decide (a.bx=b.bx)&&(a.aC==b.aC)&&jf a.aa b.aa):=by
 cases a with
 |nl k n s=>show _=(_&&jf [] b.aa);rw[oS,nL];rfl
 |mk k n s us=>rw[nL];rfl
theorem HB:∀(us ws:List Tm),us.length≠ws.length->jf us ws=false
 |[],[],h=>absurd rfl h
 |[],_::_,_=>by simp[oS]
 |_::_,[],_=>by simp[jf]
 |x::r,y::q,h=>by have:=HB r q (by simpa using h);rw[tH,this,Bool.and_false]
def mZ(N:Nat):aZ:=⟨46,λ|[a,b]=>(match il a,il b with|some x,some y=>if x.size<N/\y.size<1000000000 then some (.bool (nL x y)) else none|_,_=>none)|_=>none⟩
theorem jW(N:Nat):(mZ N).f=46:=(rfl)
theorem GV(N:Nat)(x y:Tm)(h:x.size<N/\y.size<1000000000):(mZ N).S [x.aR,y.aR]=some (.bool (nL x y)):=by simp only[mZ,ew,if_pos h]
def pS:AV->Option (List Tm)
 |.aD=>some []
 |.sl xs=>lE xs
 |_=>none
theorem HU(t:Tm):pS t.bH=some t.aa:=by
 cases t with
 |nl k n s=>rfl
 |mk k n s us=>simp[pS,Tm.bH,Tm.aa,<-lq,lJ]
theorem ma{v:AV}{us:List Tm}(h:pS v=some us):(v=.aD/\us=[])\/v=.sl (us.map Tm.aR):=by
 cases v<;>simp[pS] at h
 .exact .inl ⟨rfl,h⟩
 .exact .inr (by rw[rQ h])
theorem yT{v:AV}{us:List Tm}(h:pS v=some us):v.aK=0:=by
 rcases ma h with⟨rfl,_⟩|rfl
 .rfl
 .simp[AV.aK,cE]
theorem AD:∀{us:List Tm} {y:Tm},y∈us->y.size<=Tm.bE us
 |t::r,y,h=>by
   simp only[Tm.bE];rcases List.mem_cons.1 h with rfl|h
   .omega
   .have:=AD h;omega
theorem KM(n N:Nat)(us ws:List Tm)(hl:us.length=ws.length)(hN:N<=1000000000)(h1:Tm.bE us<N)(h2:Tm.bE ws<1000000000):∀(post HK pre O4:List Tm) (k:Nat),us=pre++post->ws=O4++HK->pre.length=O4.length->post.length<k->
 iV 0 0 (cb (aF (aH (cV [mZ N]) (n+1)) (n+1) Au) xK 0 k (acx (.sl (ws.map Tm.aR)) (.fn 46 []) (.sl (us.map Tm.aR)) (.int .i64 us.length) (.int .i64 pre.length)) ⟨0,[],0,0⟩)=
  some (if jf post HK then .exit 0 else .ret,if jf post HK then FM 32 [] else FM 32 [(6,.bool false)],⟨0,[],0,0⟩)
 |[],[],pre,O4,k+1,e,e2,hp,_=>by simp at e;subst e;have h5:AV.aj (us.map Tm.aR)=0:=cE _;have h6:AV.aj (ws.map Tm.aR)=0:=cE _;simp[ai,Au,h5,h6,oS]
 |[],y::HK,pre,O4,k,e,e2,hp,_=>by rw[e,e2] at hl;simp at hl;omega
 |x::post,[],pre,O4,k,e,e2,hp,_=>by rw[e,e2] at hl;simp at hl;omega
 |x::post,y::HK,pre,O4,k+1,e,e2,hp,hk=>by
   have ih:=KM n N us ws hl hN h1 h2 post HK (pre++[x]) (O4++[y]) k (by simp[e]) (by simp[e2]) (by simp[hp]) (by rw[List.length_cons] at hk;omega);have hlu:=iJ us;have g1:us[pre.length]? =some x:=by rw[e];simp
   have g2:ws[pre.length]? =some y:=by rw[e2,hp];simp
   have h5:AV.aj (us.map Tm.aR)=0:=cE _;have h5w:AV.aj (ws.map Tm.aR)=0:=cE _;have Mp:pre.length<us.length:=by rw[e];simp
   have h6:((pre.length:Int)<(us.length:Int))=True:=eq_true (by omega);have h3:IntKind.i64.wrap ((pre.length:Int)+1)=(pre.length:Int)+1:=wrap_i64 (by omega) (by omega);have fp:=Tm.bJ x;have gv:=Tm.bG x;have di:=ar x;have JB:=Tm.bJ y;have xZ:=Tm.bG y;have rU:=ar y;have hs:=GV N x y ⟨by have:=AD (us:=us) (y:=x) (by rw[e];simp);omega,by have:=AD (us:=ws) (y:=y) (by rw[e2];simp);omega⟩;rw[fp,gv,JB,xZ] at hs;simp only[List.length_append,List.length_cons,List.length_nil,Nat.zero_add] at ih;rw[show ((pre.length+1:Nat):Int)=(pre.length:Int)+1 by omega] at ih;rw[ai]
   cases TG:nL x y with
   |false=>rw[TG] at hs;simp[Au,g1,g2,h5,h5w,h6,fp,gv,di,JB,xZ,rU,hs,aE,jW,tH,TG]
   |true=>rw[TG] at hs;simp[Au,xK,g1,g2,h3,h5,h5w,h6,fp,gv,di,JB,xZ,rU,hs,aE,jW,tH,TG];exact ih
def Sp(N:Nat):aZ:=⟨85,λ|[a,b,.fn 46 []]=>(match pS a,pS b with|some us,some ws=>if Tm.bE us<N/\Tm.bE ws<1000000000 then some (.bool (jf us ws)) else none|_,_=>none)|_=>none⟩
theorem Bo(N:Nat):(Sp N).f=85:=(rfl)
theorem ZO(N:Nat)(x y:Tm)(h:Tm.bE x.aa<N/\Tm.bE y.aa<1000000000):(Sp N).S [x.bH,y.bH,.fn 46 []]=some (.bool (jf x.aa y.aa)):=by simp only[Sp,HU,if_pos h]
theorem ZJ(N:Nat)(hN:N<=1000000000)(hp:bB Tryz.prog (mZ N)):bB Tryz.prog (Sp N):=λaa v hv=>by
 unfold Sp at hv;dsimp only at hv;split at hv
 .rename_i a b;split at hv
  .rename_i us ws ha hb;split at hv
   .rename_i hc;cases hv;rw[Bo];have hra:=yT ha;have hrb:=yT hb;refine cf (n:=us.length+4) (h':=h0) (ch (ss:=[mZ N]) (by simp[hp])) ?_ rfl (by simp[AV.aj,AV.aK,hra,hrb])
    have cT:∀(v:AV) (l:List Tm),pS v=some l->∀(fr:List AV) (h:af) (o:cX),o.ev fr=v->bC fr h (.xn o)=some (.int .i64 l.length,h):=by intro v l hv fr h o ho;rw[lW,ho];rcases ma hv with⟨rfl,rfl⟩|rfl<;>simp
    have hla:=cT a us ha;have oI:=cT b ws hb;by_cases hl:us.length=ws.length
    .have qR:((us.length:Int)=(ws.length:Int))=True:=eq_true (by omega);by_cases fB:us=[]
     .subst fB;have hw:ws=[]:=List.eq_nil_of_length_eq_zero (by simpa using hl.symm);subst hw;rcases ma ha with⟨rfl,_⟩|rfl<;>rcases ma hb with⟨rfl,_⟩|rfl<;>simp[PJ,c85,xK,Au,ai,jW,oS]
     .have ha':a=.sl (us.map Tm.aR):=by
       rcases ma ha with⟨_,h⟩|h
       .exact absurd h fB
       .exact h
      have Fk:b=.sl (ws.map Tm.aR):=by
       rcases ma hb with⟨_,h⟩|h
       .subst h;exact absurd (List.eq_nil_of_length_eq_zero (by simpa using hl)) fB
       .exact h
      subst ha' Fk;have lp:=KM (us.length+2) N us ws hl hN hc.1 hc.2 us ws [] [] (us.length+3) rfl rfl rfl (by omega);simp only[List.length_nil,xK,show ((0:Nat):Int)=0 from rfl] at lp;have h5:AV.aj (us.map Tm.aR)=0:=cE _;have h6:AV.aj (ws.map Tm.aR)=0:=cE _
      cases TG:jf us ws with
      |true=>rw[TG] at lp;simp only[if_true] at lp;simp[PJ,c85,xK,h5,h6,qR,lp,jW]
      |false=>rw[TG] at lp;simp only[Bool.false_eq_true,if_false] at lp;simp[PJ,c85,xK,h5,h6,qR,lp,jW]
    .have qR:((us.length:Int)=(ws.length:Int))=False:=eq_false (by omega);simp[PJ,c85,hla,oI,hra,hrb,hl,qR,jW,HB us ws hl]
   .cases hv
  .cases hv
 .cases hv
theorem JD(N:Nat)(hN:N<=1000000000)(hp:bB Tryz.prog (mZ N)):bB Tryz.prog (mZ (N+1)):=λaa v hv=>by
 unfold mZ at hv;dsimp only at hv;split at hv
 .rename_i a b;split at hv
  .rename_i x y ha hb;split at hv
   .rename_i hc;cases hv;rw[jW,dY ha,dY hb];refine cf (n:=5) (h':=h0) (ch (ss:=[Sp N]) (by simp[ZJ N hN hp])) ?_ rfl (by simp[AV.aj,Tm.cm]);have s1:=bP x;have s2:=bP y;have hq:=ZO N x y ⟨by omega,by omega⟩;have fp:=Tm.bJ x;have gv:=Tm.bG x;have di:=ar x;have JB:=Tm.bJ y;have xZ:=Tm.bG y;have rU:=ar y;rw[Ds,fp,gv,JB,xZ];by_cases c1:x.ah=y.ah
    .by_cases c2:x.bx=y.bx
     .cases c3:x.aC==y.aC with
      |true=>
        cases c4:jf x.aa y.aa with
        |true=>rw[c4] at hq;simp[Ko,c46,c1,c2,c3,di,rU,hq,aE,Bo]
        |false=>rw[c4] at hq;simp[Ko,c46,c1,c2,c3,di,rU,hq,aE,Bo]
      |false=>simp[Ko,c46,c1,c2,c3,di,rU,Bo]
     .simp[Ko,c46,c1,c2,di,rU,Bo]
    .simp[Ko,c46,c1,di,rU,Bo]
   .cases hv
  .cases hv
 .cases hv
theorem Kh:bB Tryz.prog (mZ 0):=λaa v hv=>by
 unfold mZ at hv;dsimp only at hv;split at hv
 .split at hv
  .split at hv
   .rename_i hc;omega
   .cases hv
  .cases hv
 .cases hv
theorem EC:∀N,N<=1000000001->bB Tryz.prog (mZ N)
 |0,_=>Kh
 |N+1,h=>JD N (by omega) (EC N (by omega))
def Hz:aZ:=⟨16,λ|[a,b]=>(match il a,il b with|some x,some y=>if x.gr<1000000000/\y.gr<1000000000 then some (.bool (dt x&&dt y&&nL x y)) else none|_,_=>none)|_=>none⟩
theorem ox:Hz.f=16:=(rfl)
theorem Xd(x y:Tm)(h:x.gr<1000000000/\y.gr<1000000000):Hz.S [x.aR,y.aR]=some (.bool (dt x&&dt y&&nL x y)):=by simp only[Hz,ew,if_pos h]
theorem Ub:bB Tryz.prog Hz:=λaa v hv=>by
 unfold Hz at hv|-;dsimp only at hv|-;split at hv
 .rename_i a b;split at hv
  .rename_i x y ha hb;split at hv
   .rename_i hc;cases hv;rw[dY ha,dY hb];refine cf (n:=5) (h':=h0) (ch (ss:=[eE,mZ 1000000000]) (by simp[oM,EC 1000000000 (by omega)])) ?_ rfl (by simp[AV.aj,Tm.cm]);have b1:=oU x;have b2:=oU y;have g1:=kE x hc.1;have g2:=kE y hc.2;have hq:=GV 1000000000 x y ⟨by omega,by omega⟩;have fp:=Tm.bJ x;have gv:=Tm.bG x;have di:=ar x;have JB:=Tm.bJ y;have xZ:=Tm.bG y;have rU:=ar y;rw[fp,gv] at g1 hq|-;rw[JB,xZ] at g2 hq|-
    cases e1:dt x with
    |false=>rw[e1] at g1;simp[Py,c16,g1,di,rU,aE,aV,jW]
    |true=>
      rw[e1] at g1
      cases e2:dt y with
      |false=>rw[e2] at g2;simp[Py,c16,g1,g2,di,rU,aE,aV,jW]
      |true=>
        rw[e2] at g2
        cases e3:nL x y with
        |false=>rw[e3] at hq;simp[Py,c16,g1,g2,hq,di,rU,aE,aV,jW]
        |true=>rw[e3] at hq;simp[Py,c16,g1,g2,hq,di,rU,aE,aV,jW]
   .cases hv
  .cases hv
 .cases hv
end
section
open Go.RowKit Go.Shelf
attribute [local go_sem] Oper.semAt_some
def DZ{len:Nat}(xs:List (Fin len)):Prop:=∀j (h:j<xs.length),(xs[j]).1+j+1=len
theorem WU(F:Fence)(n:Nat)(aeC:F.fn 108)(hro:F.round=none)(hn:1<=n)(l b o b2 o2 len cap:Nat)(cT:len<=9223372036854775807)(vs:Nat->Nat->Value)(J Jx:List (Fin len)->World->Prop)
 (hY:∀pre x W,J pre W->pre.length<len->YieldAt F (n-1) Tryz.prog l #[.int .i64 (x.1:Int),.agg #[vs x.1 0,vs x.1 1,vs x.1 2,vs x.1 3]] W λe W'=>(e=.returned (.bool true)/\J (pre++[x]) W'/\(W'.heap[b]? =W.heap[b]?/\W'.heap[b2]? =W.heap[b2]?))\/(e=.returned (.bool false)/\Jx (pre++[x]) W'))
 (W:World) (hb:W.cell? ⟨b,o,none⟩=some (.slice (some ⟨b2,o2,none⟩) len cap)) (hc:∀k j,k<len->j<4->W.cell? ⟨b2,o2+(k*4+j),none⟩=some (vs k j)) (h0:J [] W):
 CallsIn F n Tryz.prog 108 #[.func (.yield l) #[] #[],.pointer (some ⟨b,o,none⟩)] W λe W'=>(∃v,e=.returned v)/\
  ((∃ys,(DZ ys/\ys.length=len)/\J ys W')\/(∃pre,True/\Jx pre W')):=by
 refine callsIn_of_wp Tryz.func108 rfl aeC ?_ hro;simp only[Tryz.ntmps108,List.size_toArray,List.length_cons,List.length_nil,Nat.reduceAdd,Nat.reduceSub,Array.replicate_succ,Array.replicate_zero,List.push_toArray,List.append_toArray,List.nil_append,List.cons_append]
 gi_wp2
 gi_loopw [3] (λi wr=>∃pre:List (Fin len),DZ pre/\pre.length<=len/\i=.int .i64 ((len:Int)-1-pre.length)/\J pre wr/\(wr.heap[b]? =W.heap[b]?/\wr.heap[b2]? =W.heap[b2]?))
  (λi _=>(intOf i+1).toNat)
 case atStart=>exact⟨[],λj h=>by simp at h,Nat.zero_le _,by simp,h0,rfl,rfl⟩
 case round=>
  obtain⟨pre,hp,hk,rfl,hJs,hs1,hs2⟩:=hrel
  have hbr:wr.cell? ⟨b,o,none⟩=some (.slice (some ⟨b2,o2,none⟩) len cap):=by rw[<-hb];unfold World.cell?;rw[hs1]
  by_cases de:pre.length<len
  .obtain⟨m,hm⟩:∃m,m=len-1-pre.length:=⟨_,rfl⟩
   have Cj:m<len:=by omega
   have hi:(len:Int)-1-(pre.length:Int)=(m:Int):=by omega
   rw[hi];clear hi
   have hcr:∀j,j<4->wr.cell? ⟨b2,o2+m*4+j,none⟩=some (vs m j):=λj hj=>by rw[<-hc m j Cj hj];unfold World.cell?;rw[hs2,Nat.add_assoc]
   have c0:wr.cell? ⟨b2,o2+m*4,none⟩=some (vs m 0):=hcr 0 (by omega);have c1:=hcr 1 (by omega);have c2:=hcr 2 (by omega);have c3:=hcr 3 (by omega);have hmi:(m:Int)<(len:Int):=by omega
   have rV:J pre wr->DZ (pre++[⟨m,Cj⟩])/\(pre++[(⟨m,Cj⟩:Fin len)]).length<=len/\(m:Int)-1=(len:Int)-1-(pre++[(⟨m,Cj⟩:Fin len)]).length:=λ_=>by
    refine⟨λj hj=>?_,by simp;omega,by simp;omega⟩;by_cases h:j<pre.length
    .rw[List.getElem_append_left h];exact hp j h
    .have:j=pre.length:=by simp at hj;omega
     subst this;simp;omega
   clear hm;obtain⟨fn,tmps,assign,body,hy,hR⟩:=hY pre ⟨m,Cj⟩ wr hJs de;dsimp only at hy
   gi_wp2
   refine hR.mono ?_;rintro e W3 (⟨rfl,hJ3,hk3,hk4⟩|⟨rfl,alg⟩)
   .gi_wp2
    go_roundw
    case rel=>obtain⟨n1,n2,n3⟩:=rV hJs;exact⟨_,n1,n2,by rw[n3],hJ3,hk3.trans hs1,hk4.trans hs2⟩
    case measure=>simp[intOf]
   .gi_wp2
    refine bodyPost_ret (results_none rfl _ _ _) rfl ?_;exact⟨⟨_,rfl⟩,.inr ⟨_,trivial,alg⟩⟩
  .have hi:(len:Int)-1-(pre.length:Int)=-1:=by omega
   rw[hi]
   gi_wp2
   go_end0
   exact⟨⟨_,rfl⟩,.inl ⟨pre,⟨hp,by omega⟩,hJs⟩⟩
theorem Ih(F:Fence)(n:Nat)(aeC:F.fn 108)(hro:F.round=none)(l b o:Nat)(ad:Option Addr)(cap:Nat){len:Nat}(J:List (Fin len)->World->Prop)
 (W:World) (hb:W.cell? ⟨b,o,none⟩=some (.slice ad 0 cap)) (h0:J [] W):
 CallsIn F n Tryz.prog 108 #[.func (.yield l) #[] #[],.pointer (some ⟨b,o,none⟩)] W λe W'=>(∃v,e=.returned v)/\J [] W':=by
 refine callsIn_of_wp Tryz.func108 rfl aeC ?_ hro;simp only[Tryz.ntmps108,List.size_toArray,List.length_cons,List.length_nil,Nat.reduceAdd,Nat.reduceSub,Array.replicate_succ,Array.replicate_zero,List.push_toArray,List.append_toArray,List.nil_append,List.cons_append]
 gi_wp2
 gi_loopw [3] (λi wr=>i=.int .i64 (-1)/\J [] wr)
  (λ_ _=>0)
 case atStart=>exact⟨rfl,h0⟩
 case round=>
  obtain⟨rfl,hJs⟩:=hrel
  gi_wp2
  go_end0
  exact⟨⟨_,rfl⟩,hJs⟩
theorem MQ(n:Nat)(hn:1<=n)(b o len:Nat)(cT:len<=9223372036854775807)(vs:Nat->Nat->Value){csl:Value}{Kp:World->World->Prop}(W0:World)(hb:W0.cell? ⟨b,o,none⟩=some csl)(hbl:b<W0.heap.size)
 (nD:(∃ad cap,csl=.slice ad 0 cap/\len=0)\/∃b2 o2 cap,csl=.slice (some ⟨b2,o2,none⟩) len cap/\b2<W0.heap.size/\(∀A B,Kp A B->B.heap[b2]? =A.heap[b2]?)/\∀k j,k<len->j<4->W0.cell? ⟨b2,o2+(k*4+j),none⟩=some (vs k j))
 (hKp:∀A B,Kp A B->B.heap[b]? =A.heap[b]?):
 SeqStopsK Fence.wide n Tryz.prog 108 #[.pointer (some ⟨b,o,none⟩)] (λx:Fin len=>#[.int .i64 (x.1:Int),.agg #[vs x.1 0,vs x.1 1,vs x.1 2,vs x.1 3]]) Kp (λys=>DZ ys/\ys.length=len) (λ_=>True) len W0:=by
 intro l J Jx W hW _ _ hY h0;have Fk:W.cell? ⟨b,o,none⟩=some csl:=(hW.cell (p:=⟨b,o,none⟩) hbl).trans hb;rcases nD with⟨ad,cap,rfl,rfl⟩|⟨b2,o2,cap,rfl,Yj,B2,hc⟩
 .exact (Ih Fence.wide n trivial rfl l b o ad cap J W Fk h0).mono λe W' ⟨he,hj⟩=>⟨he,.inl ⟨[],⟨λj h=>by simp at h,rfl⟩,hj⟩⟩
 .refine WU Fence.wide n trivial rfl hn l b o b2 o2 len cap cT vs J Jx (λpre x W1 hJ hl=>?_) W Fk (λk j hk hj=>(hW.cell (p:=⟨b2,o2+(k*4+j),none⟩) Yj).trans (hc k j hk hj)) h0;obtain⟨fn,tmps,assign,body,e1,e2⟩:=hY pre x W1 hJ hl;refine⟨fn,tmps,assign,body,e1,e2.mono λe W' h=>?_⟩;rcases h with⟨h1,h2,h3⟩|h
  .exact .inl ⟨h1,h2,hKp _ _ h3,B2 _ _ h3⟩
  .exact .inr h
end
section
open Sz
def bL:List Tm->Tm->Tm
 |[],t=>t
 |x::r,t=>.mk 2 0 [46] [x,bL r t]
theorem J3(A:AV)(hA:A.aK=0)(hb:basic A=true):aH (cV []) 3 66 [A] h0=some (.fn 108 [.ptr 0 0],⟨1,[.row [A]],0,0⟩):=by
 have h1:=λ(h:af) (n0 d:Nat)=>Az (h:=h) (n0:=n0) (d:=d) hb
 have h2:=pL hb;simp[afZ,c66,h1,h2,hA]
def Me:aZ:=⟨66,λ|[.aD]=>some (.fn 108 [.ip [.aD]])|[.sl xs]=>some (.fn 108 [.ip [.sl xs]])|_=>none⟩
theorem QO:Me.f=66:=(rfl)
theorem Xj:bB Tryz.prog Me:=λaa v hv=>by
 unfold Me at hv|-;dsimp only at hv|-;split at hv
 .cases hv;exact LY (ch (ss:=[]) (by simp)) (J3 _ rfl rfl) rfl rfl
 .cases hv;exact LY (ch (ss:=[]) (by simp)) (J3 _ rfl rfl) rfl rfl
 .cases hv
theorem TS(A:AV)(h:A=.aD\/∃xs,A=.sl xs):Me.S [A]=some (.fn 108 [.ip [A]]):=by rcases h with rfl|⟨xs,rfl⟩<;>rfl
def adS:cw:=.mK [⟨(some 3),.op (.box (.tmp 1)),none⟩,⟨(some 4),.op (.box (.const (.agg [(.int .i64 0),(.int .i64 0),(.str []),.aD]))),none⟩]
def acQ:cw:=.mK [⟨(some 7),.op (.Gs (.tmp 0)),none⟩,⟨(some 8),.call 66 [(.tmp 7)],none⟩]
def abP:cw:=.block 1 (.mK [⟨(some 11),.op (.ld (some 4) (.tmp 6)),none⟩,⟨(some 12),.op (.ld (some 4) (.tmp 3)),none⟩,
 ⟨(some 13),.op (.A3 4 2 [(.int .i64 0),(.int .i64 0),(.str []),.aD,(.int .i64 0),(.int .i64 0),(.str []),.aD] [(0,(.tmp 11)),(1,(.tmp 12))]),none⟩,
 ⟨(some 14),.call 47 [(.const (.str [46])),(.tmp 13)],none⟩,⟨none,.op (.st 4 (.tmp 3) (.tmp 14)),none⟩])
def ab0:cw:=.seq (.mK [⟨(some 15),.op (.ld (some 4) (.tmp 3)),none⟩,⟨none,.op (.st 4 (.tmp 4) (.tmp 15)),none⟩]) (.ret (mk 16 [4]))
def zT:List AV:=[.int .i64 0,.int .i64 0,.str [],.aD]
def Yb:List aZ:=[rh,Me]
theorem adM:∀s∈Yb,bB Tryz.prog s:=by simp[Yb,uU,Xj]
def K5(A:AV)(t:Tm):List AV:=FM 16 [(8,.fn 108 [.ip [A]]),(7,A),(4,.ptr 1 0),(3,.ptr 0 0),(0,A),(1,t.aR)]
theorem Xc(A:AV)(t:Tm):aF (aH (cV Yb) 3) 3 adS (FM 16 [(0,A),(1,t.aR)]) h0=some (.normal,FM 16 [(4,.ptr 1 0),(3,.ptr 0 0),(0,A),(1,t.aR)],⟨2,[.row zT,.row t.cells],0,0⟩):=by have e:=t.bJ;have r0:=ar t;simp[adS,e,Tm.cells,zT,r0]
theorem XA(A:AV)(h:A=.aD\/∃xs,A=.sl xs)(t:Tm):aF (aH (cV Yb) 3) 3 acQ (FM 16 [(4,.ptr 1 0),(3,.ptr 0 0),(0,A),(1,t.aR)]) ⟨2,[.row zT,.row t.cells],0,0⟩=some (.normal,K5 A t,⟨2,[.row zT,.row t.cells],0,0⟩):=by
 have g:=TS A h;have fz:∀(h:af) (n0 d:Nat),jH h n0 (d+1) A=some (A,[]):=λh' _ _=>by rcases h with rfl|⟨xs,rfl⟩<;>rfl
 simp[acQ,Yb,pR,QO,fz,g,K5]
theorem Uo(A:AV)(t x u:Tm)(i:Nat):aF (aH (cV Yb) 3) 3 abP ((((K5 A t).set 9 (.int .i64 (i:Int))).set 10 x.aR).set 6 (.ip x.aR.cells)) ⟨2,[.row zT,.row u.cells],2,2⟩=
 some (.normal,FM 16 [(14,(Tm.mk 2 0 [46] [x,u]).aR),(13,.vec 2 0 2 4 2),(12,u.aR),(11,x.aR),(6,.ip x.aR.cells),(10,x.aR),(9,.int .i64 (i:Int)),(8,.fn 108 [.ip [A]]),(7,A),(4,.ptr 1 0),(3,.ptr 0 0),(0,A),(1,t.aR)],⟨3,[.dead,.row zT,.row (Tm.mk 2 0 [46] [x,u]).cells],2,0⟩):=by
 have ex:=x.bJ;have eu:=u.bJ;have r1:=ar x;have r2:=ar u;have cs:=kZ [46] [x,u] (by simp);have c1:=pL (tI x);have c2:=pL (tI u);have ec:(ct [46] [x,u]).aR=.agg [.int .i64 2,.int .i64 0,.str [46],.sl [x.aR,u.aR]]:=by simp[ct,Tm.aR,Tm.xP]
 have em:(Tm.mk 2 0 [46] [x,u]).aR=.agg [.int .i64 2,.int .i64 0,.str [46],.sl [x.aR,u.aR]]:=by simp[Tm.aR,Tm.xP]
 have k1:(Tm.mk 2 0 [46] [x,u]).ah=2:=rfl;have k2:(Tm.mk 2 0 [46] [x,u]).bx=0:=rfl;have k3:(Tm.mk 2 0 [46] [x,u]).aC=[46]:=rfl;have k4:(Tm.mk 2 0 [46] [x,u]).bH=.sl [x.aR,u.aR]:=rfl;rw[ec] at cs;simp only[List.map_cons,List.map_nil,ex,eu,Tm.cells] at cs;have f1:=λ(h:af) (n0 d:Nat)=>aE h n0 d x
 have f2:=λ(h:af) (n0 d:Nat)=>aE h n0 d u
 simp[abP,Yb,K5,Wf,pR,QO,ex,eu,r1,r2,f1,f2,Tm.cells,cs,c1,c2,AV.cells,em,k1,k2,k3,k4]
theorem Ur(A:AV)(t u:Tm):aF (aH (cV Yb) 3) 3 ab0 (K5 A t) ⟨2,[.row zT,.row u.cells],2,2⟩=some (.ret,FM 16 [(4,.ptr 1 0)],⟨2,[.row u.cells,.row u.cells],2,1⟩):=by have eu:=u.bJ;have r2:=ar u;simp[ab0,K5,eu,r2,Tm.cells,zT]
end
section
open Go.RowKit Sz
variable {X:World->Prop}
theorem enters(f:Nat){fn:Func}(C4:Tryz.prog.funcs[f]? =some fn)(Ak:(fn.name== "runtime.NumGoroutine")=false)(vt:fn.body.isSome=true)(aU:Array Value)(w:World):(callFunc f aU).run Tryz.prog w=.ok (.enter f aU) w:=by
 obtain⟨c,hc⟩:=Option.isSome_iff_exists.1 vt;have fB:¬fn.name= "runtime.NumGoroutine" :=by simpa using Ak
 simp[callFunc,C4,fB,hc]
theorem ado:∃i z,Tryz.prog.info? 31=some i/\i.zero=some z/\z.cells.size=i.size/\i.size=4:=by
 have h:(Tryz.prog.info? 31).map (λi=>(i.zero.map (·.cells.size),i.size))=some (some 4,4):=by kernel_rfl
 obtain⟨i,hi,e⟩:=Option.map_eq_some_iff.1 h;simp only[Prod.mk.injEq,Option.map_eq_some_iff] at e;obtain⟨⟨z,hz,HJ⟩,hs⟩:=e;exact⟨i,z,hi,hz,by omega,hs⟩
mutual
theorem Tm.fG:∀t:Tm,t.aR.fG=true
 |.nl k n s=>rfl
 |.mk k n s us=>by have:=Tm.oe us;simp[Tm.aR,AV.fG,AV.oe,this]
theorem Tm.oe:∀l:List Tm,AV.uM (Tm.xP l)=true
 |[]=>rfl
 |t::r=>by
   have h1:=Tm.fG t;have h2:=Tm.oe r;have h3:t.aR.cells.isEmpty=false:=by rw[t.bJ];rfl
   simp[Tm.xP,AV.uM,h1,h2,h3]
end
theorem Tm.VN(t:Tm):∀v∈t.cells,v.fG=true:=by have h:=t.fG;rw[t.bJ] at h;intro v hv;obtain⟨j,hj,rfl⟩:=List.getElem_of_mem hv;exact lH (by simpa[AV.fG] using h) j hj
theorem WE{a b:List AV}{w m id:Nat}:live ⟨2,[.row a,.row b],w,m⟩ id↔id<2:=by
 refine⟨λ⟨o,hg,_⟩=>af.dO hg,λh=>?_⟩
 match id,h with
 |0,_=>exact⟨.row b,rfl,λe=>by cases e⟩
 |1,_=>exact⟨.row a,rfl,λe=>by cases e⟩
theorem afA{a b cs:List AV}{w m id:Nat}(h:(⟨2,[.row a,.row b],w,m⟩:af).get id=some (.row cs)):cs=a\/cs=b:=by
 have:=af.dO h
 match id,this with
 |0,_=>exact .inr (by cases h;rfl)
 |1,_=>exact .inl (by cases h;rfl)
theorem agi{a b:List AV}{es:List (AV×AV)}{w m id:Nat}(h:(⟨2,[.row a,.row b],w,m⟩:af).get id=some (.map es)):False:=by
 have:=af.dO h
 match id,this with
 |0,_=>cases h
 |1,_=>cases h
def BS(us:List Tm)(t:Tm)(pre:List (Fin (us.map Tm.aR).length)):Tm:=pre.foldl (λu x=>.mk 2 0 [46] [us[x.1]'(by simpa using x.2),u]) t
theorem EI(us:List Tm)(t:Tm)(pre:List (Fin (us.map Tm.aR).length))(x:Fin (us.map Tm.aR).length):BS us t (pre++[x])=.mk 2 0 [46] [us[x.1]'(by simpa using x.2),BS us t pre]:=by simp[BS]
theorem Sf(us:List Tm)(t:Tm)(xs:List (Fin (us.map Tm.aR).length))(h1:DZ xs)(h2:xs.length=(us.map Tm.aR).length):BS us t xs=bL us t:=by
 have hl:(us.map Tm.aR).length=us.length:=by simp
 have key:∀k,k<=xs.length->BS us t (xs.take k)=bL (us.drop (us.length-k)) t:=by
  intro k
  induction k with
  |zero=>intro _;simp[BS,bL]
  |succ k ih=>
    intro hk;have hx:=h1 k (by omega);rw[List.take_succ_eq_append_getElem (by omega),EI,ih (by omega)];have de:us.length-(k+1)<us.length:=by omega
    rw[List.drop_eq_getElem_cons de];have e1:us.length-(k+1)+1=us.length-k:=by omega
    have e2:(xs[k]).1=us.length-(k+1):=by omega
    simp only[e1,bL,e2]
 have:=key xs.length (Nat.le_refl _);rw[List.take_length,h2,hl,Nat.sub_self,List.drop_zero] at this;exact this
theorem Nn{φ:eh}{h:af}{w:World}{A:AV}{us:List Tm}(hA:(A=.aD/\us=[])\/A=.sl (us.map Tm.aR)){csl:Value}(hv:eZ φ h w A csl):
 ∃vs:Nat->Nat->Value,(∀j (hj:j<(us.map Tm.aR).length),eZ φ h w (us.map Tm.aR)[j] (.agg #[vs j 0,vs j 1,vs j 2,vs j 3]))/\
   ((∃ad cap,csl=.slice ad 0 cap/\(us.map Tm.aR).length=0)\/∃b2 o2 cap,csl=.slice (some ⟨b2,o2,none⟩) (us.map Tm.aR).length cap/\Pr φ h w b2/\∀k j,k<(us.map Tm.aR).length->j<4->w.cell? ⟨b2,o2+(k*4+j),none⟩=some (vs k j)):=by
 rcases hA with⟨rfl,rfl⟩|rfl
 .obtain⟨ad,rfl⟩:=hv.mE;exact⟨λ_ _=>default,λj hj=>by simp at hj,.inl ⟨ad,0,rfl,rfl⟩⟩
 .rcases hv.sB with⟨ad,cap,e1,rfl⟩|⟨b2,o2,cap,sz,vs,rfl,hp,kh,_,h1,iz,mb,Jl⟩
  .refine⟨λ_ _=>default,λj hj=>?_,.inl ⟨ad,cap,rfl,by rw[e1];rfl⟩⟩;rw[e1] at hj;simp at hj
  .have hs4:∀k,k<(us.map Tm.aR).length->sz=4:=λk hk=>by
    have:=iz k hk;rw[List.getElem_map,Tm.bJ] at this;simpa[AV.cells?,Tm.cells] using this.symm
   refine⟨vs,λj hj=>?_,.inr ⟨b2,o2,cap,rfl,hp,λk j hk hj=>?_⟩⟩
   .have:=Jl j hj;rw[List.getElem_map,Tm.bJ] at this|-;refine .agg _ _ rfl (λk=>?_) λk hk=>?_
    .match k with
     |0=>exact h1 j 0
     |1=>exact h1 j 1
     |2=>exact h1 j 2
     |3=>exact h1 j 3
     |k+4=>rfl
    .have hk4:k<4:=hk;have:=this k hk
     match k,hk4 with
     |0,_=>exact this
     |1,_=>exact this
     |2,_=>exact this
     |3,_=>exact this
   .have e:=hs4 k hk;subst e;have:=mb k j hk hj;rw[Nat.add_assoc] at this;exact this
theorem Nv(us:List Tm)(t:Tm)(A:AV)(hA:(A=.aD/\us=[])\/A=.sl (us.map Tm.aR))(hl:us.length<1000000000000){φ:eh}{w:World}{aU:Array Value}(hr:HR φ h0 w)(hG:je Tryz.prog X φ h0 w)(ha:lu φ h0 w [A,t.aR] aU):
 Calls Tryz.prog 33 aU w (lf φ h0 w (bL us t).aR ⟨2,[.row (bL us t).cells,.row (bL us t).cells],2,1⟩):=by
 obtain⟨hC,B1⟩:=zd (kz (X:=X) (ss:=Yb) λs hs=>(adM s hs).lift) 3;have FZ:A=.aD\/∃xs,A=.sl xs:=hA.imp (·.1) λh=>⟨_,h⟩
 have iz:aU.size=2:=ha.1;have C2:(K5 A t).length=16:=by simp[K5,FM]
 refine (callsIn_wide (n:=3)).1 ?_;refine callsIn_of_wp_marks Tryz.func33 rfl trivial ?_ rfl;have f0:=OI ha 16 (by simp);refine wpIn_seq ?_;refine hZ (l0:=none) hC B1 mixed 3 _ adS (by kernel_rfl) (Xc A t) f0 hr hG λφ1 a1 w1 f1 r1 x1 d1=>?_
 show Code.wpIn _ _ _ _ _ _ _;refine wpIn_seq (wpIn_seq ?_);refine hZ (l0:=none) hC B1 mixed 3 _ acQ (by kernel_rfl) (XA A FZ t) f1 r1 (hG.ext x1) λφ2 a2 w2 f2 r2 x2 d2=>?_
 show Code.wpIn _ _ _ _ _ _ _;refine wpIn_block ?_;obtain⟨r3,x3⟩:=r2.w5 2 2;have f3:=f2.ext x3;have hx:=(x1.trans x2).trans x3;have hG3:=hG.ext hx
 -- the iterator
 have hg8:=f3.2 8;have alm:eZ φ2 ⟨2,[.row zT,.row t.cells],2,2⟩ w2 (.fn 108 [.ip [A]]) (a2.tmps.getD 8 undef):=hg8;obtain⟨eW,e8,np,hcv⟩:=alm.HO;have aln:=hcv 0 (by simp);obtain⟨b,o,vb,eb,hpb,_,_,mb,hvb⟩:=(RV.NI aln)
 have aeE:=mb 0 (by simp);have alp:=hvb 0 (by simp);obtain⟨vs,hEs,nD⟩:=Nn hA alp
 have alq:eW=#[.pointer (some ⟨b,o,none⟩)]:=by
  obtain⟨l⟩:=eW
  match l,np with
  |[c],_=>simpa using eb
 obtain⟨i,z,hi,hz,HJ,his⟩:=ado;have kp:∀b',Pr φ2 ⟨2,[.row zT,.row t.cells],2,2⟩ w2 b'->∀A' B',KpR φ2 ⟨2,[.row zT,.row t.cells],2,2⟩ w2 A' B'->B'.heap[b']? =A'.heap[b']?:=λb' Fk A' B' h=>h b' Fk.1 Fk.2.1
 refine HX (X:=X) (C:=aH (cV Yb) 3) (m:=3) hC B1 mixed (by omega) r3 hG3 f3 (gf:=108) (lb:=#[.pointer (some ⟨b,o,none⟩)]) (by rw[<-alq];exact e8) (enters 108 Tryz.func108 (by kernel_rfl) rfl) ⟨rfl,rfl,rfl⟩ ⟨rfl,rfl,rfl⟩ hi hz HJ (by rw[C2];decide) (by rw[C2];decide) (by rw[C2];decide) (by decide)
  (Es:=us.map Tm.aR) (vs:=λj=>#[vs j 0,vs j 1,vs j 2,vs j 3]) hEs (λv hv=>?_)
  (MQ (3-1) (by omega) b o (us.map Tm.aR).length (by simp;omega) vs w2 aeE hpb.1 (nD.imp_right λ⟨b2,o2,cap,e1,e2,e3⟩=>⟨b2,o2,cap,e1,e2.1,kp b2 e2,e3⟩) (kp b hpb))
  (acB:=abP) (by kernel_rfl) (λpre=>⟨2,[.row zT,.row (BS us t pre).cells],2,2⟩) rfl (λ_=>rfl) (λpre x=>?_) ?_
 .obtain⟨u,_,rfl⟩:=List.mem_map.1 hv;refine⟨u.cells,u.bJ,by rw[his];rfl,?_⟩;have:=u.cm;rw[u.bJ] at this;simpa[AV.aK] using this
 .have hxl:x.1<us.length:=by simpa using x.2
  have hex:(us.map Tm.aR)[x.1]=(us[x.1]).aR:=by simp
  rw[hex];refine⟨_,_,Uo A t us[x.1] (BS us t pre) x.1,Nat.le_refl _,?_,?_,?_,?_⟩
  .rw[EI];rfl
  .intro id h;rw[WE] at h|-;exact h
  .intro id cs h v hv;rcases afA h with rfl|rfl
   .simp only[zT,List.mem_cons,List.not_mem_nil,or_false] at hv;rcases hv with rfl|rfl|rfl|rfl<;>rfl
   .exact Tm.VN _ v hv
  .intro id es h;exact (agi h).elim
 .rintro D xs W φ' hD ⟨ahS,cT⟩ fD rD xD hK;rw[Sf us t xs ahS cT] at *;show Code.wpIn _ _ _ _ _ _ _;refine hZ (l0:=none) hC B1 mixed 3 _ ab0 (by kernel_rfl) (Ur A t (bL us t)) (a:={a2 with defers:={target:=.collected D,args:=#[]}::a2.defers}) fD rD (hG3.ext xD) λφ4 a4 w4 f4 r4 x4 d4=>?_
  have hd:a4.defers=[{target:=.collected D,args:=#[]}]:=by rw[d4];show _::a2.defers=_;rw[d2,d1]
  show LeavesInM _ _ _ _ a4.tmps _ a4.defers .returning w4;rw[hd]
  have hK4:w4.heap[D]? =some (.deferred (some [])):=by
   refine (x4.pr D ⟨(Array.getElem?_eq_some_iff.1 hK).1,λid hl e=>?_,λC1=>?_⟩).2.trans hK
   .have oK:id<2:=WE.1 hl;have e1:=xD.B9 id oK;have e2:=r3.ft (WE.2 oK);rw[e1] at e;omega
   .rw[xD.gh.1] at C1;have:=(r3.gh D C1).1;omega
  have hws:=hx.size;refine Ze (rs:=[.cell 4 (some 4)]) hr (by kernel_rfl) f4 r4 ((hx.trans xD).trans x4) hK4 (by omega) (λid cs h v hv=>?_) (λid es h=>(agi h).elim) (λk=>?_) ?_
  .rcases afA h with rfl|rfl<;>exact Tm.VN _ v hv
  .by_cases hk:k<16
   .rw[Cw _ hk];by_cases h4:k=4
    .subst h4;rfl
    .have:lk [(4,AV.ptr 1 0)] k=.undef:=by
      unfold lk;simp[lk,Ne.symm h4]
     rw[this];rfl
   .have:(FM 16 [(4,AV.ptr 1 0)]).getD k .undef=.undef:=by
     rw[List.getD_eq_getElem?_getD,List.getElem?_eq_none (by rw[ni];omega)];rfl
    rw[this];rfl
  .rw[(bL us t).bJ];rfl
theorem F9(us:List Tm)(t:Tm)(A:AV)(hA:(A=.aD/\us=[])\/A=.sl (us.map Tm.aR))(hl:us.length<1000000000000):gY Tryz.prog X 33 [A,t.aR] (bL us t).aR:=
 vV (h':=⟨2,[.row (bL us t).cells,.row (bL us t).cells],2,1⟩) (Tm.cm _) (by rcases hA with⟨rfl,_⟩|rfl<;>simp[AV.aj,AV.aK,Tm.cm]) λφ w aU hr hG ha=>.inl ⟨enters 33 Tryz.func33 (by kernel_rfl) rfl _ _,Nv us t A hA hl hr hG ha⟩
def u5:aZ:=⟨33,λ
 |[.aD,v]=>(match il v with|some t=>some t.aR|none=>none)
 |[.sl xs,v]=>(match lE xs,il v with|some us,some t=>if us.length<1000000000000 then some (bL us t).aR else none|_,_=>none)
 |_=>none⟩
theorem gM:u5.f=33:=(rfl)
theorem y8(us:List Tm)(t:Tm)(h:us.length<1000000000000):u5.S [.sl (us.map Tm.aR),t.aR]=some (bL us t).aR:=by unfold u5;dsimp only;rw[<-lq,lJ,ew];exact if_pos h
theorem Mn:bB Tryz.prog u5:=λargs v hv=>by
 unfold u5 at hv|-;dsimp only at hv|-;split at hv
 .split at hv
  .rename_i t ht;cases hv;rw[dY ht];exact F9 [] t .aD (.inl ⟨rfl,rfl⟩) (by simp)
  .cases hv
 .split at hv
  .rename_i us t hu ht;split at hv
   .rename_i hl;cases hv;rw[dY ht,rQ hu];exact F9 us t _ (.inr rfl) hl
   .cases hv
  .cases hv
 .cases hv
end
section
open Sz
def lL:Nat->Tm->List Tm×Tm
 |0,t=>([],t)
 |n+1,t=>match t.aa with
   |[x,r]=>if t.ah=2/\t.aC=[46] then (x::(lL n r).1,(lL n r).2) else ([],t)
   |_=>([],t)
def aX(t:Tm):List Tm×Tm:=lL t.size t
theorem BH:∀(n:Nat) (t:Tm),t.size<=n->lL n t=aX t:=by
 have key:∀(n m:Nat) (t:Tm),t.size<=n->t.size<=m->lL n t=lL m t:=by
  intro n
  induction n with
  |zero=>intro m t h;have:=bP t;omega
  |succ n ih=>
    intro m t h1 h2
    cases m with
    |zero=>have:=bP t;omega
    |succ m=>
      have hs:=bP t;unfold lL;split
      .rename_i x r he;rw[he] at hs;simp[Tm.bE] at hs;rw[ih m r (by omega) (by omega)]
      .rfl
 exact λn t h=>key n t.size t h (Nat.le_refl _)
theorem NQ(n:Nat)(x r:Tm)(k:Int):lL (n+1) (.mk 2 k [46] [x,r])=(x::(lL n r).1,(lL n r).2):=by simp[lL,Tm.aa,Tm.ah,Tm.aC]
theorem N6(x r:Tm)(k:Int):aX (.mk 2 k [46] [x,r])=(x::(aX r).1,(aX r).2):=by
 have e:(Tm.mk 2 k [46] [x,r]).size=(x.size+r.size)+1:=by simp[Tm.size,Tm.bE];omega
 have h:aX (.mk 2 k [46] [x,r])=lL ((x.size+r.size)+1) (.mk 2 k [46] [x,r]):=by rw[<-e];rfl
 rw[h,NQ,BH _ r (by omega)]
def gj(t:Tm):Bool:=decide (t.ah=2)&&decide (t.aC=[46])&&decide (t.aa.length=2)
theorem nc{t:Tm}(h:gj t=false):aX t=([],t):=by
 unfold aX
 cases hs:t.size with
 |zero=>rfl
 |succ n=>
   unfold lL;split
   .rename_i x r he;rw[if_neg];intro hk;simp[gj,he,hk] at h
   .rfl
theorem px:∀(us:List Tm) (t:Tm),gj t=false->aX (bL us t)=(us,t)
 |[],t,h=>nc h
 |x::r,t,h=>by show aX (.mk 2 0 [46] [x,bL r t])=_;rw[N6,px r t h]
theorem jR{t:Tm}(h:gj t=true):∃x r,t.aa=[x,r]/\aX t=(x::(aX r).1,(aX r).2):=by
 simp only[gj,Bool.and_eq_true,decide_eq_true_eq] at h;obtain⟨⟨h1,h2⟩,h3⟩:=h
 match ha:t.aa,h3 with
 |[x,r],_=>
   refine⟨x,r,rfl,?_⟩
   have e:aX t=lL (t.size-1+1) t:=by have:=bP t;unfold aX;congr 1;omega
   rw[e];unfold lL;rw[ha];simp only[h1,h2,and_self,if_true];have hs:=bP t;rw[ha] at hs;simp[Tm.bE] at hs;rw[BH _ r (by omega)]
end
section
open Sz Go.RowKit
theorem zu{w w':World}(h:w'=w):Below w.heap.size w w':=h▸Below.refl _ _
def nJ:aZ:=⟨123,λ|[.str s,.str p]=>some (.str (Lib.trimPrefix s p))|_=>none⟩
theorem qF:nJ.f=123:=(rfl)
theorem DN(s p:List UInt8):nJ.S [.str s,.str p]=some (.str (Lib.trimPrefix s p)):=rfl
theorem Du:bB Tryz.prog nJ:=λaa v hv=>by
 unfold nJ at hv|-;dsimp only at hv|-;split at hv
 .rename_i s p;cases hv;exact Hi (enters 123 Tryz.func123 rfl rfl) λw _=>(Tryz.strings_TrimPrefix ⟨s.toArray⟩ ⟨p.toArray⟩ w).mono λe w' ⟨h1,h2⟩=>⟨by simpa using h1,zu h2⟩
 .cases hv
def jN:aZ:=⟨84,λ|[.str s,.str p]=>some (.bool (Lib.hasPrefix s p))|_=>none⟩
theorem eN:jN.f=84:=(rfl)
theorem wZ(s p:List UInt8):jN.S [.str s,.str p]=some (.bool (Lib.hasPrefix s p)):=rfl
theorem FQ:bB Tryz.prog jN:=λaa v hv=>by
 unfold jN at hv|-;dsimp only at hv|-;split at hv
 .rename_i s p;cases hv;exact R0 (enters 84 Tryz.func84 rfl rfl) λw _=>(Tryz.strings_HasPrefix ⟨s.toArray⟩ ⟨p.toArray⟩ w).mono λe w' ⟨h1,h2⟩=>⟨by simpa using h1,zu h2⟩
 .cases hv
def kV(c:Nat):List UInt8->Int
 |[]=>-1
 |b::r=>if Nat.beq b.toNat c then 0 else match kV c r with|.ofNat n=>.ofNat (n+1)|.negSucc _=>-1
theorem PN(c:UInt8):∀l,Lib.indexByte l c=kV c.toNat l
 |[]=>rfl
 |b::r=>by
   unfold Lib.indexByte kV;rw[PN c r]
   have e:Nat.beq b.toNat c.toNat=(b==c):=by
    by_cases h:b=c
    .subst h;simp[Nat.beq_refl]
    .have h2:(b==c)=false:=by simpa using h
     rw[h2]
     cases h3:Nat.beq b.toNat c.toNat with
     |false=>rfl
     |true=>exact absurd (UInt8.toNat_inj.1 (Nat.eq_of_beq_eq_true h3)) h
   rw[e]
   cases hb:b==c with
   |true=>rfl
   |false=>
     simp only[Bool.false_eq_true,if_false]
     cases h:kV c.toNat r with
     |ofNat n=>
       have:((Int.ofNat n)==-1)=false:=by simp
       rw[this];rfl
     |negSucc n=>
       have hn:n=0:=by
        have:∀l k,kV c.toNat l=.negSucc k->k=0:=λl=>by
         induction l with
         |nil=>intro k hk;cases hk;rfl
         |cons b r ih=>
           intro k hk;unfold kV at hk;split at hk
           .cases hk
           .split at hk
            .cases hk
            .cases hk;rfl
        exact this r n h
       subst hn;rfl
def ig:aZ:=⟨65,λ|[.str s,.int .u8 c]=>if 0<=c/\c<256 then some (.int .i64 (kV c.toNat s)) else none|_=>none⟩
theorem aG:ig.f=65:=(rfl)
theorem fq(s:List UInt8)(c:UInt8):ig.S [.str s,.int .u8 c.toNat]=some (.int .i64 (kV c.toNat s)):=by have:c.toNat<256:=c.toNat_lt;unfold ig;dsimp only;rw[if_pos (by omega),Int.toNat_natCast]
theorem nw:bB Tryz.prog ig:=λaa v hv=>by
 unfold ig at hv|-;dsimp only at hv|-;split at hv
 .rename_i s c;split at hv
  .rename_i hc;cases hv;refine jY (enters 65 Tryz.func65 rfl rfl) λφ h w aU hr hG ha=>?_
   obtain⟨cx,cy,rfl,h1,h2⟩:=nI ha;rw[fM h1,int_eq h2];refine (Tryz.strings_IndexByte ⟨s.toArray⟩ c w).mono λe w' ⟨he,hw⟩=>?_
   refine⟨zu hw,_,he,?_⟩
   have e1:c.toNat.toUInt8.toNat=c.toNat:=by show (UInt8.ofNat c.toNat).toNat=_;rw[UInt8.toNat_ofNat'];omega
   rw[PN,e1];exact .int _ _
  .cases hv
 .cases hv
def C6:Nat->Nat->List UInt8
 |0,_=>[]
 |f+1,u=>if u<10 then [UInt8.ofNat (48+u)] else C6 f (u / 10)++[UInt8.ofNat (48+u%10)]
theorem D6:∀(f u:Nat),u<10^(f+1)->C6 (f+1) u=Lib.decDigits u
 |0,u,h=>by
   have:u<10:=by simpa using h
   rw[Lib.decDigits,dif_pos this];simp[C6,this]
 |f+1,u,h=>by
   rw[Lib.decDigits];unfold C6;by_cases h1:u<10
   .rw[if_pos h1,dif_pos h1]
   .rw[if_neg h1,dif_neg h1,D6 f (u / 10) (by rw[Nat.pow_succ] at h;omega)]
def bz(n:Int):List UInt8:=if n<0 then 45::C6 20 n.natAbs else C6 20 n.toNat
theorem rE(n:Int)(h1:-9223372036854775808<=n)(h2:n<9223372036854775808):bz n=Lib.itoa n:=by unfold bz Lib.itoa;rw[D6 19 _ (by omega),D6 19 _ (by omega)]
def bV(w:World):Prop:=Lib.TabIs Tryz.prog w "internal/strconv.uint64pow10" .u64 Lib.pow10Tab/\∃te pe,w.cell? ⟨2,0,none⟩=some (.iface te pe)
theorem FH{P:Program}{W:World}{aC nm:String}{d:DataW Unit}{ak:List (String×DataW Unit)}{g t:Nat}{ms:Array (String×TypeId)}
 (hg:P.globalNamed aC=some g) (hty:(P.globals[g]?).map (·.type)=some t) (ht:P.underlying t=some (.interface ms))
 (h:laidMet P ((aC,.iface nm d)::ak) W):∃te pe,W.cell? ⟨g,0,none⟩=some (.iface te pe):=by
 obtain⟨ps,⟨g',t',cs,fuel,p,q,Ci,ht',alv,hd,_,_⟩,_⟩:=h;obtain rfl:=Option.some.inj (hg.symm.trans Ci);obtain rfl:=Option.some.inj (hty.symm.trans ht')
 cases fuel with
 |zero=>simp[DataW.trod] at hd
 |succ fuel=>
   have hc:=World.var?_cell hg alv 0
   match np:cs.toList with
   |[]=>rw[np] at hd;simp[DataW.trod,ht] at hd
   |[v]=>
     have h0:cs[0]? =some v:=by rw[<-Array.getElem?_toList,np];rfl
     rw[h0] at hc;rw[np] at hd
     cases v with
     |iface u v=>exact⟨u,v,hc⟩
     |_=>simp[DataW.trod,ht] at hd
   |v::v'::r=>rw[np] at hd;simp[DataW.trod,ht] at hd
theorem Wz{φ:eh}{h:af}{w:World}(hG:je Tryz.prog bV φ h w):∃te pe,w.cell? ⟨2,0,none⟩=some (.iface te pe):=by
 obtain⟨w1,h1,h2⟩:=hG;obtain⟨te,pe,hc⟩:=h1.2.2;refine⟨te,pe,?_⟩
 have de:2<w1.heap.size:=by
  unfold World.cell? at hc;split at hc
  .rename_i hb;exact (Array.getElem?_eq_some_iff.1 hb).1
  .cases hc
 rw[cell?_of_block (h2 2 de).2.2];exact hc
def zx:aZ:=⟨175,λ|[.int .i64 n,.int .i64 b]=>if b=10/\-9223372036854775808<=n/\n<9223372036854775808 then some (.str (bz n)) else none|_=>none⟩
theorem RO:zx.f=175:=(rfl)
theorem M0(n:Int)(h:-9223372036854775808<=n/\n<9223372036854775808):zx.S [.int .i64 n,.int .i64 10]=some (.str (bz n)):=if_pos ⟨rfl,h⟩
theorem Oa:dX Tryz.prog bV zx:=λaa v hv=>by
 unfold zx at hv|-;dsimp only at hv|-;split at hv
 .rename_i n b;split at hv
  .rename_i hn;obtain⟨rfl,hn⟩:=hn;cases hv;rw[rE n hn.1 hn.2];refine jY (enters 175 Tryz.func175 rfl rfl) λφ h w aU hr hG ha=>?_
   obtain⟨cx,cy,rfl,h1,h2⟩:=nI ha;rw[int_eq h1,int_eq h2];refine (Tryz.strconv_FormatInt_10 n hn.1 (by omega) w (hG.tab λw h=>h.1)).mono λe w' ⟨he,k,os,hw⟩=>?_
   subst hw;exact⟨N3 _ _ _,_,he,.W5 _⟩
  .cases hv
 .cases hv
theorem Dh{φ:eh}{h:af}{w:World}{x y z:AV}{aU:Array Value}(ha:lu φ h w [x,y,z] aU):∃cx cy cz,aU=#[cx,cy,cz]/\eZ φ h w x cx/\eZ φ h w y cy/\eZ φ h w z cz:=by
 obtain⟨h1,h2⟩:=Vd ha;obtain⟨l⟩:=aU
 match l,h1 with
 |[cx,cy,cz],_=>exact⟨cx,cy,cz,rfl,h2 0 (by simp),h2 1 (by simp),h2 2 (by simp)⟩
def H8(s:List UInt8):Option AV:=match Lib.parseIntB 64 s with
 |.ok v=>some (.tuple [.int .i64 v,.mM])
 |.range=>some (.tuple [.int .i64 (Lib.intSat 64 s),.iface 217 .undef])
 |_=>none
def EE:aZ:=⟨125,λ|[.str s,.int .i64 b,.int .i64 c]=>if b=10/\c=64/\s.length<281474976710656 then H8 s else none|_=>none⟩
theorem Dg:EE.f=125:=(rfl)
theorem RE(s:List UInt8)(h:s.length<281474976710656):EE.S [.str s,.int .i64 10,.int .i64 64]=H8 s:=if_pos ⟨rfl,rfl,h⟩
theorem Tt:dX Tryz.prog bV EE:=λaa v hv=>by
 unfold EE at hv|-;dsimp only at hv|-;split at hv
 .rename_i s b c;split at hv
  .rename_i hn;obtain⟨rfl,rfl,hn⟩:=hn;unfold H8 at hv;split at hv
   .rename_i v' hp;cases hv;refine jY (enters 125 Tryz.func125 rfl rfl) λφ h w aU hr hG ha=>?_
    obtain⟨cx,cy,cz,rfl,h1,h2,h3⟩:=Dh ha;rw[fM h1,int_eq h2,int_eq h3];refine (Tryz.strconv_ParseInt_10_at64_ok ⟨s.toArray⟩ (by rw[Lib.size_eq];simp;omega) v' (by simpa using hp) w).mono λe w' ⟨he,hw⟩=>?_
    refine⟨?_,_,he,?_⟩
    .rcases hw with rfl|⟨t,rfl⟩
     .exact Below.refl _ _
     .exact Lib.bytesWorld_below _ _ _
    .refine .tuple _ _ rfl λj hj=>?_
     match j,hj with
     |0,_=>exact .int _ _
     |1,_=>exact .mM
   .rename_i hp;cases hv;refine jY (enters 125 Tryz.func125 rfl rfl) λφ h w aU hr hG ha=>?_
    obtain⟨cx,cy,cz,rfl,h1,h2,h3⟩:=Dh ha;rw[fM h1,int_eq h2,int_eq h3];obtain⟨te,pe,tO⟩:=Wz hG;refine (Tryz.strconv_ParseInt_10_at64_range ⟨s.toArray⟩ (by rw[Lib.size_eq];simp;omega) (by simpa using hp) _ w tO (.inr ⟨te,pe,rfl⟩)).mono λe w' ⟨N,he,_,_,hw⟩=>?_
    refine⟨hw,_,he,?_⟩;refine .tuple _ _ rfl λj hj=>?_
    match j,hj with
    |0,_=>simpa using (RV.int (φ:=φ) (nx:=h.next) (pr:=Pr φ h w') (w:=w') .i64 (Lib.intSat 64 s))
    |1,_=>exact .iface _ _ _ (.undef _)
   .cases hv
  .cases hv
 .cases hv
def digits:List UInt8:=[48,49,50,51,52,53,54,55,56,57]
def He(s:List UInt8):List UInt8:=(s.reverse.dropWhile (digits.contains ·)).reverse.dropWhile (digits.contains ·)
def trimS:aZ:=⟨124,λ|[.str s,.str c]=>if s.length<9223372036854775807/\c=digits then some (.str (He s)) else none|_=>none⟩
theorem Jf:trimS.f=124:=(rfl)
theorem UQ(s:List UInt8)(h:s.length<9223372036854775807):trimS.S [.str s,.str digits]=some (.str (He s)):=if_pos ⟨h,rfl⟩
theorem Xw:bB Tryz.prog trimS:=λaa v hv=>by
 unfold trimS at hv|-;dsimp only at hv|-;split at hv
 .rename_i s c;split at hv
  .rename_i hl;obtain⟨hl,rfl⟩:=hl;cases hv;refine Hi (enters 124 Tryz.func124 rfl rfl) λw _=>(Any.strings_Trim_laid Tryz.Y5 (by kernel_rfl) ⟨s.toArray⟩ ⟨digits.toArray⟩ w (by rw[Lib.size_eq];simp;omega) (by decide) (ascii_of_all (by decide))).mono λe w' ⟨h1,h2⟩=>⟨?_,h2⟩
   rw[h1];rfl
  .cases hv
 .cases hv
end
section
open Sz
def dd(c:UInt8):Bool:=decide (48<=c.toNat)&&decide (c.toNat<=57)
def cD:List UInt8->Bool
 |[]=>true
 |c::r=>dd c&&cD r
@[irreducible] def adz(aJ:Nat)(c:UInt8):Nat:=aJ*10+(c.toNat-48)
theorem Y8(aJ:Nat)(c:UInt8):adz aJ c=aJ*10+(c.toNat-48):=by unfold adz;rfl
def mP:Nat->List UInt8->Nat
 |aJ,[]=>aJ
 |aJ,c::r=>mP (adz aJ c) r
theorem nK(aJ:Nat):mP aJ []=aJ:=by rw[mP]
theorem kC(aJ:Nat)(c:UInt8)(r:List UInt8):mP aJ (c::r)=mP (aJ*10+(c.toNat-48)) r:=by rw[mP,Y8]
attribute [irreducible] mP
theorem Vr(c:UInt8):digits.contains c=dd c:=by
 have h:∀n:Fin 256,digits.contains (UInt8.ofNat n.1)=dd (UInt8.ofNat n.1):=by decide+kernel
 have:=h ⟨c.toNat,c.toNat_lt⟩;simpa using this
theorem Ez:∀a b,cD (a++b)=(cD a&&cD b)
 |[],b=>by simp[cD]
 |x::r,b=>by simp[cD,Ez r b,Bool.and_assoc]
theorem DO:∀{l:List UInt8},cD l=true↔∀c∈l,dd c=true
 |[]=>by simp[cD]
 |x::r=>by simp[cD,DO (l:=r)]
theorem dropWhile_nil{p:UInt8->Bool}:∀{l:List UInt8},l.dropWhile p=[]↔∀c∈l,p c=true
 |[]=>by simp
 |x::r=>by
   rw[List.dropWhile_cons];split
   .rename_i h;rw[dropWhile_nil];simp[h]
   .rename_i h;simp[h]
theorem Hk(s:List UInt8):(He s=[])↔cD s=true:=by
 unfold He;have e:(λc=>digits.contains c)=dd:=funext Vr;simp only[e];rw[DO,dropWhile_nil];constructor
 .intro h c hc;have hs:s.reverse=s.reverse.takeWhile dd++s.reverse.dropWhile dd:=(List.takeWhile_append_dropWhile).symm;have XX:c∈s.reverse:=by simpa using hc
  rw[hs,List.mem_append] at XX;rcases XX with h1|h1
  .have key:∀(l:List UInt8),c∈l.takeWhile dd->dd c=true:=by
    intro l
    induction l with
    |nil=>simp
    |cons x r ih=>
      rw[List.takeWhile_cons];split
      .rename_i hx;intro hm;rcases List.mem_cons.1 hm with rfl|hm
       .exact hx
       .exact ih hm
      .simp
   exact key _ h1
  .exact h c (by simpa using h1)
 .intro h c hc
  have:c∈s:=by
   have h1:c∈s.reverse.dropWhile dd:=by simpa using hc
   have:=(List.dropWhile_sublist dd (l:=s.reverse)).subset h1;simpa using this
  exact h c this
theorem PW:∀(l:List UInt8) (aJ k:Nat),aJ<10^k->cD l=true->mP aJ l<10^(k+l.length)
 |[],aJ,k,h,_=>by rw[nK,List.length_nil,Nat.add_zero];exact h
 |c::r,aJ,k,h,hd=>by simp only[cD,dd,Bool.and_eq_true,decide_eq_true_eq] at hd;have:=PW r (aJ*10+(c.toNat-48)) (k+1) (by rw[Nat.pow_succ];omega) hd.2;rw[kC];simp only[List.length_cons];rw[show k+(r.length+1)=k+1+r.length by omega];exact this
theorem IX:∀(l:List UInt8) (aJ:Nat),aJ<=mP aJ l
 |[],aJ=>by rw[nK];exact Nat.le_refl aJ
 |c::r,aJ=>by have:=IX r (aJ*10+(c.toNat-48));rw[kC];omega
theorem r8(M:Nat)(hM:M<=18446744073709551615):∀(l:List UInt8) (aJ:Nat),cD l=true->mP aJ l<=M->Lib.parseUintM M aJ l=.ok (mP aJ l)
 |[],aJ,_,_=>by rw[nK,Lib.parseUintM]
 |c::r,aJ,h,hv=>by simp only[cD,dd,Bool.and_eq_true,decide_eq_true_eq] at h;have h2:=IX r (aJ*10+(c.toNat-48));rw[kC] at hv|-;unfold Lib.parseUintM;rw[if_pos h.1,if_neg (by omega),if_neg (by omega),r8 M hM r _ h.2 hv]
def fw(s:List UInt8):Int×Int:=
 let d:=Lib.trimPrefix s [45]
 if d=[] then (0,2) else if cD d=false then (0,2) else match Lib.parseIntB 64 s with|.ok v=>(v,0)|_=>(0,3)
theorem E5(r:List UInt8):Lib.trimPrefix (45::r) [45]=r:=by simp[Lib.trimPrefix,Lib.hasPrefix]
theorem sn(c:UInt8)(r:List UInt8)(h:c≠45):Lib.trimPrefix (c::r) [45]=c::r:=by
 have:Lib.hasPrefix (c::r) [45]=false:=by simp[Lib.hasPrefix,List.isPrefixOf,Ne.symm h]
 simp[Lib.trimPrefix,this]
theorem VH:Lib.trimPrefix [] [45]=[]:=by decide
theorem Uc:dd 45=false:=by decide
theorem afv{c:UInt8}(h:c≠45):c.toNat≠45:=λh2=>h (UInt8.toNat_inj.1 h2)
theorem Q7(r:List UInt8)(hr:r≠[])(hd:cD r=true)(hv:mP 0 r<=9223372036854775808):Lib.parseIntB 64 (45::r)=.ok (-(mP 0 r:Int)):=by have e:=r8 18446744073709551615 (Nat.le_refl _) r 0 hd (by omega);unfold Lib.parseIntB Lib.parseUintB;simp only[show (45:UInt8).toNat=45 from rfl,or_true,if_true,hr,if_false];rw[show (2^64-1:Nat)=18446744073709551615 by decide,e];simp only[not_true,false_and,if_false,true_and];rw[if_neg (by omega)]
theorem GB(s:List UInt8)(hr:s≠[])(hd:cD s=true)(hv:mP 0 s<=9223372036854775807):Lib.parseIntB 64 s=.ok (mP 0 s:Int):=by
 cases s with
 |nil=>exact absurd rfl hr
 |cons c r=>
   have e:=r8 18446744073709551615 (Nat.le_refl _) (c::r) 0 hd (by omega)
   have hc:48<=c.toNat/\c.toNat<=57:=by simp only[cD,dd,Bool.and_eq_true,decide_eq_true_eq] at hd;exact hd.1
   unfold Lib.parseIntB Lib.parseUintB;simp only[show (c.toNat=43)=False from eq_false (by omega),show (c.toNat=45)=False from eq_false (by omega),or_false,if_false,hr];rw[show (2^64-1:Nat)=18446744073709551615 by decide,e];simp only[not_false_iff,true_and,false_and,if_false];rw[if_neg (by omega)]
theorem wv:∀(n u:Nat),u<=n->cD (Lib.decDigits u)=true/\Lib.decDigits u≠[]/\mP 0 (Lib.decDigits u)=u:=by
 have hap:∀(a b:List UInt8) (k:Nat),mP k (a++b)=mP (mP k a) b:=by
  intro a
  induction a with
  |nil=>intro b k;rw[nK];rfl
  |cons x r ih=>intro b k;rw[List.cons_append,kC,kC];exact ih b _
 have hdg:∀d,d<10->dd (UInt8.ofNat (48+d))=true/\(UInt8.ofNat (48+d)).toNat=48+d:=by
  intro d hd;have e:(UInt8.ofNat (48+d)).toNat=48+d:=by rw[UInt8.toNat_ofNat'];omega
  refine⟨?_,e⟩;simp only[dd,e,Bool.and_eq_true,decide_eq_true_eq];omega
 intro n
 induction n with
 |zero=>
   intro u hu;have:u=0:=by omega
   subst this;rw[Lib.decDigits];simp[cD,kC,nK];decide
 |succ n ih=>
   intro u hu;rw[Lib.decDigits];by_cases h:u<10;rw[dif_pos h];have:=hdg u h;refine⟨by simp only[cD,Bool.and_true];exact this.1,by simp,?_⟩
   rotate_left
   rw[dif_neg h];obtain⟨h1,h2,h3⟩:=ih (u / 10) (by omega);have:=hdg (u%10) (by omega);refine⟨by rw[Ez,h1];simp only[cD,Bool.and_true,Bool.true_and];exact this.1,by simp,?_⟩;rw[hap,h3]
   rotate_left
   all_goals
    rw[kC,nK,this.2];omega
theorem N5(n:Int)(h1:-9223372036854775808<=n)(h2:n<9223372036854775808):fw (Lib.itoa n)=(n,0):=by
 unfold Lib.itoa;by_cases hn:n<0
 .rw[if_pos hn];obtain⟨d1,d2,d3⟩:=wv n.natAbs n.natAbs (Nat.le_refl _);unfold fw;rw[E5];dsimp only;rw[if_neg d2,d1,Q7 _ d2 d1 (by omega),d3];simp;omega
 .rw[if_neg hn];obtain⟨d1,d2,d3⟩:=wv n.toNat n.toNat (Nat.le_refl _);unfold fw
  cases hs:Lib.decDigits n.toNat with
  |nil=>exact absurd hs d2
  |cons c r=>
    rw[hs] at d1 d2 d3;have hc:c≠45:=λe=>by subst e;simp[cD,Uc] at d1
    rw[sn c r hc];dsimp only;rw[if_neg d2,d1,GB _ d2 d1 (by omega),d3];simp;omega
theorem aad(n:Int)(h1:-9223372036854775808<=n)(h2:n<9223372036854775808):ou (Lib.itoa n)=true/\(Lib.itoa n).length<=20:=by
 have dl:∀(k u:Nat),u<10^(k+1)->(Lib.decDigits u).length<=k+1:=by
  intro k
  induction k with
  |zero=>intro u hu;rw[Lib.decDigits,dif_pos (by simpa using hu)];simp
  |succ k ih=>
    intro u hu;rw[Lib.decDigits];by_cases h:u<10
    .rw[dif_pos h];simp
    .rw[dif_neg h];have:=ih (u / 10) (by rw[Nat.pow_succ] at hu;omega);simp;omega
 have ok:∀l:List UInt8,cD l=true->ou l=true:=by
  intro l
  induction l with
  |nil=>intro _;rfl
  |cons c r ih=>
    intro h;simp only[cD,dd,Bool.and_eq_true,decide_eq_true_eq] at h;simp only[ou,Bool.and_eq_true];refine⟨?_,ih h.2⟩;have h1:¬(c.toNat<32):=by omega
    have h2:¬(126<c.toNat):=by omega
    simp[Yr,h1,h2]
 unfold Lib.itoa;by_cases hn:n<0
 .rw[if_pos hn];obtain⟨d1,_,_⟩:=wv n.natAbs n.natAbs (Nat.le_refl _);have:=dl 18 n.natAbs (by omega);refine⟨?_,by simp;omega⟩;simp only[ou,ok _ d1,Bool.and_true];decide
 .rw[if_neg hn];obtain⟨d1,_,_⟩:=wv n.toNat n.toNat (Nat.le_refl _);have:=dl 18 n.toNat (by omega);exact⟨ok _ d1,by omega⟩
def jv(c:UInt8):Bool:=decide (97<=c.toNat)&&decide (c.toNat<=122)
def jy(c:UInt8):Bool:=(decide (65<=c.toNat)&&decide (c.toNat<=90))||decide (c.toNat=95)
def lR(c:UInt8):Bool:=jv c||jy c||dd c
def S3:List UInt8:=[43,45,42,47,92,94,60,62,61,126,58,46,63,64,35,38,36]
def qA(c:UInt8):Bool:=S3.any λd=>decide (d.toNat=c.toNat)
def iG(c:UInt8):Bool:=decide (c.toNat=32)||decide (c.toNat=9)||decide (c.toNat=10)||decide (c.toNat=13)
def qE:List UInt8:=[40,41,91,93,123,125,44,124]
def mH(c:UInt8):Bool:=qE.any λd=>decide (d.toNat=c.toNat)
def runN(p:UInt8->Bool):List UInt8->Nat
 |[]=>0
 |c::r=>if p c then runN p r+1 else 0
theorem oE(p:UInt8->Bool):∀l,runN p l<=l.length
 |[]=>Nat.le_refl _
 |c::r=>by
   unfold runN;split
   .have:=oE p r;simp;omega
   .simp
def lD(c:UInt8):Bool:=!decide (c.toNat=10)
def dG:Nat->List UInt8->Nat
 |0,_=>0
 |_+1,[]=>0
 |n+1,c::r=>if iG c then dG n r+1 else if c.toNat=37 then runN lD (c::r)+dG n ((c::r).drop (runN lD (c::r))) else 0
def gZ:List UInt8->Bool
 |[]=>false
 |c::r=>decide (c.toNat=46)&&(match r with|[]=>true|d::_=>iG d||decide (d.toNat=37))
def jZ:List UInt8->Nat
 |[]=>0
 |c::r=>if qA c&&!gZ (c::r) then jZ r+1 else 0
def D8(d:UInt8):Option UInt8:=if d.toNat=110 then some 10 else if d.toNat=116 then some 9 else if d.toNat=92 then some 92 else if d.toNat=39 then some 39 else none
def ib:Nat->List UInt8->List UInt8->Nat->Option (List UInt8)×Nat
 |0,_,_,k=>(none,k)
 |_+1,[],_,k=>(none,k)
 |n+1,c::r,aJ,k=>
   if c.toNat=39 then (match r with
    |d::r'=>if d.toNat=39 then ib n r' (aJ++[39]) (k+2) else (some aJ,k+1)
    |[]=>(some aJ,k+1))
   else if c.toNat<32\/126<c.toNat then (none,k)
   else if c.toNat=92 then (match r with
    |d::r'=>(match D8 d with|some b=>ib n r' (aJ++[b]) (k+2)|none=>(none,k))
    |[]=>(none,k))
   else ib n r (aJ++[c]) (k+1)
section
variable {n j:Nat}{c d:UInt8}{r aJ:List UInt8}
theorem CT:ib (n+1) [] aJ j=(none,j):=by unfold ib;rfl
theorem Di(hc:c.toNat=39):ib (n+1) [c] aJ j=(some aJ,j+1):=by unfold ib;rw[if_pos hc]
theorem I3(hc:c.toNat=39)(hd:d.toNat=39):ib (n+1) (c::d::r) aJ j=ib n r (aJ++[39]) (j+2):=by
 conv=>lhs;unfold ib
 rw[if_pos hc];dsimp only;rw[if_pos hd]
theorem EJ(hc:c.toNat=39)(hd:¬d.toNat=39):ib (n+1) (c::d::r) aJ j=(some aJ,j+1):=by unfold ib;rw[if_pos hc];dsimp only;rw[if_neg hd]
theorem CJ(hc:¬c.toNat=39)(h:c.toNat<32\/126<c.toNat):ib (n+1) (c::r) aJ j=(none,j):=by unfold ib;rw[if_neg hc,if_pos h]
theorem Il(hc:c.toNat=92):ib (n+1) [c] aJ j=(none,j):=by unfold ib;rw[if_neg (by omega),if_neg (by omega),if_pos hc]
theorem E0{b:UInt8}(hc:c.toNat=92)(hd:D8 d=some b):ib (n+1) (c::d::r) aJ j=ib n r (aJ++[b]) (j+2):=by
 conv=>lhs;unfold ib
 rw[if_neg (by omega),if_neg (by omega),if_pos hc];dsimp only;rw[hd]
theorem IK(hc:c.toNat=92)(hd:D8 d=none):ib (n+1) (c::d::r) aJ j=(none,j):=by unfold ib;rw[if_neg (by omega),if_neg (by omega),if_pos hc];dsimp only;rw[hd]
theorem K7(h1:¬c.toNat=39)(h2:¬(c.toNat<32\/126<c.toNat))(h3:¬c.toNat=92):ib (n+1) (c::r) aJ j=ib n r (aJ++[c]) (j+1):=by
 conv=>lhs;unfold ib
 rw[if_neg h1,if_neg h2,if_neg h3]
theorem IU:∀(n:Nat) (l aJ:List UInt8) (j:Nat),l.length<n->(ib n l aJ j).2<=j+l.length/\j<=(ib n l aJ j).2
 |0,l,aJ,j,h=>by omega
 |n+1,[],aJ,j,_=>by rw[CT];simp
 |n+1,c::r,aJ,j,h=>by
   simp only[List.length_cons] at h|-;by_cases h1:c.toNat=39
   .cases r with
    |nil=>rw[Di h1];simp
    |cons d r'=>
      simp only[List.length_cons] at h|-;by_cases h2:d.toNat=39
      .rw[I3 h1 h2];have:=IU n r' (aJ++[39]) (j+2) (by omega);omega
      .rw[EJ h1 h2];dsimp only;omega
   .by_cases h2:c.toNat<32\/126<c.toNat
    .rw[CJ h1 h2];dsimp only;omega
    .by_cases h3:c.toNat=92
     .cases r with
      |nil=>rw[Il h3];simp
      |cons d r'=>
        simp only[List.length_cons] at h|-
        cases hd:D8 d with
        |none=>rw[IK h3 hd];dsimp only;omega
        |some b=>rw[E0 h3 hd];have:=IU n r' (aJ++[b]) (j+2) (by omega);omega
     .rw[K7 h1 h2 h3];have:=IU n r (aJ++[c]) (j+1) (by omega);omega
end
structure Tok where
 ah:Int
 ay:List UInt8
 bx:Int
 iT:Bool
 bM:Int
 deriving DecidableEq
def Tok.cells(t:Tok):List AV:=[.int .i64 t.ah,.str t.ay,.int .i64 t.bx,.bool t.iT,.int .i64 t.bM]
def Tok.aR(t:Tok):AV:=.agg t.cells
def Aa:Tok:=⟨0,[],0,false,0⟩
def bN:List UInt8->Tok×Nat×Int
 |[]=>(Aa,0,2)
 |c::r=>
   if jv c then (⟨1,(c::r).take (runN lR (c::r)),0,false,0⟩,runN lR (c::r),0)
   else if jy c then (⟨3,(c::r).take (runN lR (c::r)),0,false,0⟩,runN lR (c::r),0)
   else if dd c then (⟨4,[],(fw ((c::r).take (runN dd (c::r)))).1,false,0⟩,runN dd (c::r),(fw ((c::r).take (runN dd (c::r)))).2)
   else if c.toNat=39 then (match ib (r.length+1) r [] 1 with
    |(some t,k)=>(⟨2,t,0,false,0⟩,k,0)
    |(none,k)=>(Aa,k,2))
   else if gZ (c::r) then (⟨6,[],0,false,0⟩,1,0)
   else if qA c then (⟨1,(c::r).take (jZ (c::r)),0,false,0⟩,jZ (c::r),0)
   else if c.toNat=59\/c.toNat=33 then (⟨1,[c],0,false,0⟩,1,0)
   else (match r with
    |d::_=>if (c.toNat=91/\d.toNat=93)\/(c.toNat=123/\d.toNat=125) then (⟨1,[c,d],0,false,0⟩,2,0) else if mH c then (⟨5,[c],0,false,0⟩,1,0) else (Aa,0,2)
    |[]=>if mH c then (⟨5,[c],0,false,0⟩,1,0) else (Aa,0,2))
def nP:Nat->List UInt8->Nat->List Tok->List Tok×Int×Int
 |0,_,j,_=>([],j,3)
 |n+1,s,j,aJ=>
   if s.length<=j then (aJ,s.length,0)
   else if (bN (s.drop j)).2.2≠0 then ([],j,(bN (s.drop j)).2.2)
   else if (((bN (s.drop j)).1.ah=1\/(bN (s.drop j)).1.ah=2)/\64<(bN (s.drop j)).1.ay.length)\/aJ.length=1024 then ([],j,3)
   else nP n s (j+(bN (s.drop j)).2.1+dG (s.length+1) (s.drop (j+(bN (s.drop j)).2.1)))
    (aJ++[⟨(bN (s.drop j)).1.ah,(bN (s.drop j)).1.ay,(bN (s.drop j)).1.bx,decide ((s[j+(bN (s.drop j)).2.1]?.map UInt8.toNat)=some 40),j⟩])
def dC(s:List UInt8):List Tok×Int×Int:=if 4096<s.length then ([],4096,3) else nP (s.length+1) s (dG (s.length+1) s) []
theorem pw{p:UInt8->Bool}{c:UInt8}{r:List UInt8}(h:p c=true):1<=runN p (c::r):=by unfold runN;rw[if_pos h];omega
theorem JY:∀l,jZ l<=l.length
 |[]=>Nat.le_refl _
 |c::r=>by
   unfold jZ;split
   .have:=JY r;simp;omega
   .simp
theorem gB:∀l:List UInt8,(bN l).2.1<=l.length/\((bN l).2.2=0->1<=(bN l).2.1)
 |[]=>⟨Nat.le_refl _,λh=>by simp[bN] at h⟩
 |c::r=>by
   unfold bN;dsimp only;by_cases h1:jv c=true
   .rw[if_pos h1];exact⟨oE _ _,λ_=>pw (by unfold lR;rw[h1];rfl)⟩
   rw[if_neg h1];by_cases h2:jy c=true
   .rw[if_pos h2];exact⟨oE _ _,λ_=>pw (by unfold lR;rw[h2];simp)⟩
   rw[if_neg h2];by_cases h3:dd c=true
   .rw[if_pos h3];exact⟨oE _ _,λ_=>pw h3⟩
   rw[if_neg h3];by_cases h4:c.toNat=39
   .rw[if_pos h4];obtain⟨b1,b2⟩:=IU (r.length+1) r [] 1 (by omega);generalize ib (r.length+1) r [] 1=q at *;obtain⟨a,k⟩:=q;have b3:k<=1+r.length:=b1;have b4:1<=k:=b2
    cases a with
    |none=>exact⟨(show k<=r.length+1 by omega),λh=>by simp at h⟩
    |some t=>exact⟨(show k<=r.length+1 by omega),λ_=>b4⟩
   rw[if_neg h4];by_cases h5:gZ (c::r)=true
   .rw[if_pos h5];exact⟨by simp,λ_=>Nat.le_refl _⟩
   rw[if_neg h5];by_cases h6:qA c=true
   .rw[if_pos h6];refine⟨JY _,λ_=>?_⟩;unfold jZ;rw[if_pos (by rw[h6];simp[h5])];omega
   rw[if_neg h6];by_cases h7:c.toNat=59\/c.toNat=33
   .rw[if_pos h7];exact⟨by simp,λ_=>Nat.le_refl _⟩
   rw[if_neg h7]
   cases r with
   |nil=>
     dsimp only;split
     .exact⟨by simp,λ_=>Nat.le_refl _⟩
     .exact⟨by simp,λh=>by simp at h⟩
   |cons d r'=>
     dsimp only;split
     .exact⟨by simp,λ_=>(show 1<=2 by omega)⟩
     .split
      .exact⟨by simp,λ_=>Nat.le_refl _⟩
      .exact⟨by simp,λh=>by simp at h⟩
structure aY where
 n:List UInt8
 k:List UInt8
 l:Int
def aY.cells(o:aY):List AV:=[.str o.n,.str o.k,.int .i64 o.l]
def aY.aR(o:aY):AV:=.agg o.cells
def n9:AV->Option aY
 |.agg [.str a,.str b,.int .i64 l]=>some ⟨a,b,l⟩
 |_=>none
def qm:List AV->Option (List aY)
 |[]=>some []
 |v::r=>match n9 v,qm r with
   |some o,some os=>some (o::os)
   |_,_=>none
theorem DH(o:aY):n9 o.aR=some o:=rfl
theorem pX:∀l:List aY,qm (l.map aY.aR)=some l
 |[]=>rfl
 |o::r=>by show (match n9 o.aR,qm (r.map aY.aR) with|some o,some os=>some (o::os)|_,_=>none)=_;rw[DH,pX r]
theorem l8{v:AV}{o:aY}(h:n9 v=some o):v=o.aR:=by
 unfold n9 at h;split at h
 .cases h;rfl
 .cases h
theorem tE:∀{vs:List AV} {l:List aY},qm vs=some l->vs=l.map aY.aR
 |[],l,h=>by cases h;rfl
 |v::r,l,h=>by
   unfold qm at h;split at h
   .rename_i o os h1 h2;cases h;rw[l8 h1,tE h2];rfl
   .cases h
theorem dN:∀l:List aY,AV.aj (l.map aY.aR)=0
 |[]=>rfl
 |o::r=>by simp[AV.aj,dN r,aY.aR,aY.cells,AV.aK]
theorem Sy(l:List aY):∀x∈l.map aY.aR,Ce 3 x:=by intro x hx;obtain⟨o,_,rfl⟩:=List.mem_map.1 hx;exact⟨rfl,rfl,(λh=>by cases h),λ_=>rfl,rfl⟩
def mr(b:List UInt8):Bool:=b==[102,121]||b==[102,120]
def kg(b:List UInt8):Bool:=b==[120,102,120]||b==[120,102,121]||b==[121,102,120]
def vj:aZ:=⟨106,λ|[v]=>(n9 v).map λo=>.bool (mr o.k)|_=>none⟩
theorem iD:vj.f=106:=(rfl)
theorem wc(a b:List UInt8)(l:Int):vj.S [.agg [.str a,.str b,.int .i64 l]]=some (.bool (mr b)):=(rfl)
theorem Bn:bB Tryz.prog vj:=λaa v hv=>by
 unfold vj at hv|-;dsimp only at hv|-;split at hv
 .rename_i x;obtain⟨o,ho,rfl⟩:=Option.map_eq_some_iff.1 hv;rw[l8 ho];refine cf (n:=5) (h':=h0) (ch (ss:=[]) (by simp)) ?_ rfl (by simp[AV.aj,AV.aK,aY.aR,aY.cells]);obtain⟨a,b,l⟩:=o;cases e1:b==[102,121]<;>cases e2:b==[102,120]<;>simp[adA,ZI,mr,aY.aR,aY.cells,e1,e2]
 .cases hv
def vg:aZ:=⟨158,λ|[v]=>(n9 v).map λo=>.bool (kg o.k)|_=>none⟩
theorem jP:vg.f=158:=(rfl)
theorem J1(a b:List UInt8)(l:Int):vg.S [.agg [.str a,.str b,.int .i64 l]]=some (.bool (kg b)):=(rfl)
theorem Lu:bB Tryz.prog vg:=λaa v hv=>by
 unfold vg at hv|-;dsimp only at hv|-;split at hv
 .rename_i x;obtain⟨o,ho,rfl⟩:=Option.map_eq_some_iff.1 hv;rw[l8 ho];refine cf (n:=5) (h':=h0) (ch (ss:=[]) (by simp)) ?_ rfl (by simp[AV.aj,AV.aK,aY.aR,aY.cells]);obtain⟨a,b,l⟩:=o;cases e1:b==[120,102,120]<;>cases e2:b==[120,102,121]<;>cases e3:b==[121,102,120]<;>simp[acR,Y9,kg,aY.aR,aY.cells,e1,e2,e3]
 .cases hv
def qW(a b:List UInt8)(l:Int):Bool:=
 if a==[44] then b==[120,102,121]&&decide (l=1000)
 else if a==[] then false else if decide (64<a.length) then false else if a==[124] then false else if a==[91,93] then false else if a==[123,125] then false
 else (kg b||mr b)&&decide (1<=l)&&decide (l<=1200)
def OT:aZ:=⟨118,λ|[v]=>(n9 v).map λo=>.bool (qW o.n o.k o.l)|_=>none⟩
theorem xO:OT.f=118:=(rfl)
theorem Z6(a b:List UInt8)(l:Int):OT.S [.agg [.str a,.str b,.int .i64 l]]=some (.bool (qW a b l)):=(rfl)
theorem ZW:bB Tryz.prog OT:=λaa v hv=>by
 unfold OT at hv|-;dsimp only at hv|-;split at hv
 .rename_i x;obtain⟨o,ho,rfl⟩:=Option.map_eq_some_iff.1 hv;rw[l8 ho];refine cf (n:=20) (h':=h0) (ch (ss:=[vj,vg]) (by simp[Bn,Lu])) ?_ rfl (by simp[AV.aj,AV.aK,aY.aR,aY.cells]);obtain⟨a,b,l⟩:=o;have hA:=wc a b l;have hB:=J1 a b l
  have hl:decide ((64:Int)<(a.length:Int))=decide (64<a.length):=by congr 1;exact propext ⟨λh=>by omega,λh=>by omega⟩
  cases e1:a==[44] with
  |true=>cases e2:b==[120,102,121]<;>simp[iD,jP,xJ,FT,qW,aY.aR,aY.cells,e1,e2]
  |false=>
  cases e2:a==[] with
  |true=>simp[iD,jP,xJ,FT,qW,aY.aR,aY.cells,e1,e2]
  |false=>
  cases e3:decide (64<a.length) with
  |true=>simp[iD,jP,xJ,FT,qW,aY.aR,aY.cells,e1,e2,e3,hl]
  |false=>
  cases e4:a==[124] with
  |true=>simp[iD,jP,xJ,FT,qW,aY.aR,aY.cells,e1,e2,e3,hl,e4,Jb,H3,c157,MU,Ai,yu,ai]
  |false=>
  cases e5:a==[91,93] with
  |true=>simp[iD,jP,xJ,FT,qW,aY.aR,aY.cells,e1,e2,e3,hl,e4,e5,Jb,H3,c157,MU,Ai,yu,ai,IntKind.wrap,IntKind.signed,IntKind.bits]
  |false=>
  cases e6:a==[123,125] with
  |true=>simp[iD,jP,xJ,FT,qW,aY.aR,aY.cells,e1,e2,e3,hl,e4,e5,e6,Jb,H3,c157,MU,Ai,yu,ai,IntKind.wrap,IntKind.signed,IntKind.bits]
  |false=>
  cases e7:kg b<;>cases e8:mr b<;>cases e9:decide (1<=l)<;>simp only[e7,e8] at hA hB<;>
   simp[iD,jP,xJ,FT,qW,aY.aR,aY.cells,e1,e2,e3,hl,e4,e5,e6,e7,e8,e9,hA,hB,iD,jP,Jb,H3,c157,MU,Ai,yu,ai,IntKind.wrap,IntKind.signed,IntKind.bits]
 .cases hv
def lZ{α:Type}(p:α->Bool):List α->Option Nat
 |[]=>none
 |x::r=>if p x then some 0 else (lZ p r).map (·+1)
theorem zo{α:Type}{p:α->Bool}:∀{l:List α} {i:Nat},lZ p l=some i->i<l.length
 |[],i,h=>by cases h
 |x::r,i,h=>by
   simp only[lZ] at h;split at h
   .cases h;simp
   .obtain⟨j,hj,rfl⟩:=Option.map_eq_some_iff.1 h;have:=zo hj;simp;omega
def xf(a b:aY):Bool:=a.n==b.n&&mr a.k==mr b.k
def xT:aZ:=⟨117,λ|[v,w]=>(match n9 v,n9 w with|some a,some b=>some (.bool (xf a b))|_,_=>none)|_=>none⟩
theorem o9:xT.f=117:=(rfl)
theorem Ri(a b:List UInt8)(l:Int)(a' b':List UInt8)(l':Int):xT.S [.agg [.str a,.str b,.int .i64 l],.agg [.str a',.str b',.int .i64 l']]=some (.bool (xf ⟨a,b,l⟩ ⟨a',b',l'⟩)):=(rfl)
theorem Rn:bB Tryz.prog xT:=λaa v hv=>by
 unfold xT at hv|-;dsimp only at hv|-;split at hv
 .rename_i x y;split at hv
  .rename_i o p h1 h2;cases hv;rw[l8 h1,l8 h2];refine cf (n:=5) (h':=h0) (ch (ss:=[vj]) (by simp[Bn])) ?_ rfl (by simp[AV.aj,AV.aK,aY.aR,aY.cells]);obtain⟨a,b,l⟩:=o;obtain⟨a',b',l'⟩:=p;have hA:=wc a b l;have hB:=wc a' b' l';cases e1:a==a'<;>simp[ad2,c117,aY.aR,aY.cells,xf,e1,hA,hB,iD]
  .cases hv
 .cases hv
theorem F8(C:Nat->List AV->af->Option (AV×af))(n:Nat)(l:List aY)(g:Nat)(aN:List AV)(hn:Nat)(os:List aS)(p:aY->Bool)(kh:AV.aj aN<=hn)(hl:l.length<4611686018427387904)
 (hg:∀o∈l,C g (.agg [.str o.n,.str o.k,.int .i64 o.l]::aN) ⟨hn,os,hn,hn⟩=some (.bool (p o),⟨hn,os,hn,hn⟩)):∀post pre m,l=pre++post->post.length<m->
 cb (aF C n wu) qh hn m (YC (.sl (l.map aY.aR)) (.fn g aN) (.int .i64 l.length) (.int .i64 pre.length)) ⟨hn,os,hn,hn⟩=
  match lZ p post with
  |some i=>some (.ret,FM 19 [(4,.int .i64 (pre.length+i:Nat))],⟨hn,os,hn,hn⟩)
  |none=>some (.exit 0,FM 19 [],⟨hn,os,hn,hn⟩)
 |[],pre,m+1,e,_=>by subst e;have h5:AV.aj (pre.map aY.aR)=0:=dN _;simp[lZ,ai,wu,h5]
 |o::post,pre,m+1,e,hm=>by
   have ho:=hg o (by simp[e]);have ih:=F8 C n l g aN hn os p kh hl hg post (pre++[o]) m (by simp[e]) (by rw[List.length_cons] at hm;omega);have h1:l[pre.length]? =some o:=by rw[e];simp
   have h3:IntKind.i64.wrap ((pre.length:Int)+1)=(pre.length:Int)+1:=by rw[A5 (by rw[e] at hl;simp at hl;omega)];simp
   have h4:o.aR=.agg [.str o.n,.str o.k,.int .i64 o.l]:=rfl;have h5:AV.aj (l.map aY.aR)=0:=dN l;have h6:((pre.length:Int)<(l.length:Int))=True:=eq_true (by rw[e,List.length_append,List.length_cons];omega);simp only[List.length_append,List.length_cons,List.length_nil,Nat.zero_add,Int.natCast_add,Int.natCast_one] at ih;rw[ai]
   cases hp:p o with
   |true=>rw[hp] at ho;simp[lZ,wu,qh,ho,h1,h3,h4,h5,h6,hp,kh]
   |false=>
     rw[hp] at ho;simp[lZ,wu,qh,ho,h1,h3,h4,h5,h6,hp,kh];refine Eq.trans ih ?_
     cases lZ p post with
     |none=>rfl
     |some i=>show some (Ex.ret,FM 19 [(4,AV.int .i64 ((pre.length+1+i:Nat):Int))],_)=some (Ex.ret,FM 19 [(4,AV.int .i64 ((pre.length+(i+1):Nat):Int))],_);rw[show pre.length+(i+1)=pre.length+1+i by omega]
def Ks:Option Nat->Int
 |some i=>i
 |none=>-1
theorem wX(ss:List aZ)(n:Nat)(l:List aY)(g:Nat)(aN:List AV)(hn:Nat)(os:List aS)(wl md:Nat)(p:aY->Bool)(kh:AV.aj aN<=hn)(hl:l.length<4611686018427387904)(hm:l.length<n)
 (hg:∀o∈l,aH (cV ss) n g (.agg [.str o.n,.str o.k,.int .i64 o.l]::aN) ⟨hn,os,hn,hn⟩=some (.bool (p o),⟨hn,os,hn,hn⟩)):
 fi ss n 104 [.sl (l.map aY.aR),.fn g aN] ⟨hn,os,wl,md⟩=some (.int .i64 (Ks (lZ p l)),⟨hn,os,wl,md⟩):=by
 have h:=F8 (aH (cV ss) n) n l g aN hn os p kh hl hg l [] n rfl hm;simp only[List.length_nil,qh,Int.natCast_zero] at h;have h5:AV.aj (l.map aY.aR)=0:=dN l
 cases hf:lZ p l with
 |none=>rw[hf] at h;simp[OQ,R7,qh,h5,kh,h,Ks]
 |some i=>rw[hf] at h;simp only[Nat.zero_add] at h;simp[OQ,R7,qh,h5,kh,h,Ks]
def uV:List aY->List aY->Bool
 |_,[]=>true
 |pre,o::post=>if !qW o.n o.k o.l then false else if (lZ (λx=>xf x o) pre).isSome then false else uV (pre++[o]) post
def dJ(l:List aY):Bool:=decide (l.length<=128)&&uV [] l
theorem Lj(l:List aY)(n:Nat)(hl:l.length<4611686018427387904)(hn:l.length<n):∀post pre m,l=pre++post->post.length<m->
 ∃md,iV 1 0 (cb (aF (aH (cV [OT,xT]) (n+10)) (n+10) xW) tq 1 m (Xp (.ptr 0 0) (.sl (l.map aY.aR)) (.int .i64 l.length) (.int .i64 pre.length)) ⟨1,[.row [.sl (l.map aY.aR)]],1,0⟩)=
   some (if uV pre post then .exit 0 else .ret,if uV pre post then FM 31 [] else FM 31 [(2,.bool false)],⟨1,[.row [.sl (l.map aY.aR)]],0,md⟩)
 |[],pre,m+1,e,_=>by subst e;exact⟨0,by simp[uV,ai,xW]⟩
 |o::post,pre,m+1,e,hm=>by
   obtain⟨md,ih⟩:=Lj l n hl hn post (pre++[o]) m (by simp[e]) (by rw[List.length_cons] at hm;omega);refine⟨if !qW o.n o.k o.l then 0 else if (lZ (λx=>xf x o) pre).isSome then 0 else md,?_⟩;have h1:l[pre.length]? =some o:=by rw[e];simp
   have h3:IntKind.i64.wrap ((pre.length:Int)+1)=(pre.length:Int)+1:=by rw[A5 (by rw[e] at hl;simp at hl;omega)];simp
   have h4:o.aR=.agg [.str o.n,.str o.k,.int .i64 o.l]:=rfl;have h5:AV.aj (l.map aY.aR)=0:=dN l;have h6:((pre.length:Int)<(l.length:Int))=True:=eq_true (by rw[e,List.length_append,List.length_cons];omega);have h7:l.take pre.length=pre:=by rw[e];simp
   have h8:=KN (Sy l);have h9:pre.length<=l.length:=by rw[e];simp
   have hM:=Z6 o.n o.k o.l
   have hf:=wX [OT,xT] (n+8) pre 116 [.ptr 1 0] 2 [.row [.str o.n,.str o.k,.int .i64 o.l],.row [.sl (l.map aY.aR)]] 2 2 (λx=>xf x o) (by simp[AV.aj,AV.aK]) (by omega) (by omega)
    (λx hx=>by have hA:=Ri x.n x.k x.l o.n o.k o.l;simp[ac5,c116,hA,o9,xO])
   simp only[List.length_append,List.length_cons,List.length_nil,Nat.zero_add,Int.natCast_add,Int.natCast_one] at ih;rw[ai]
   cases hm:qW o.n o.k o.l with
   |false=>rw[hm] at hM;simp[uV,xW,tq,h1,h3,h4,h5,h6,hm,hM,xO,o9]
   |true=>
     rw[hm] at hM
     cases hs:lZ (λx=>xf x o) pre with
     |none=>rw[hs] at hf;simp[uV,xW,tq,h1,h3,h4,h5,h6,hm,hM,hs,h8,h9,h7,hf,Ks,xO,o9,gV,sliceB,Wb,c119,<-List.map_take];exact ih
     |some i=>rw[hs] at hf;simp[uV,xW,tq,h1,h3,h4,h5,h6,hm,hM,hs,h8,h9,h7,hf,Ks,xO,o9,gV,sliceB,Wb,c119,<-List.map_take]
def tf:aZ:=⟨70,λ|[.agg [.sl xs]]=>(match qm xs with|some l=>if l.length<4611686018427387904 then some (.bool (dJ l)) else none|none=>none)|_=>none⟩
theorem vz:tf.f=70:=(rfl)
theorem EZ(l:List aY)(h:l.length<4611686018427387904):tf.S [.agg [.sl (l.map aY.aR)]]=some (.bool (dJ l)):=by simp only[tf,pX,if_pos h]
theorem EW:bB Tryz.prog tf:=λaa v hv=>by
 unfold tf at hv|-;dsimp only at hv|-;split at hv
 .rename_i xs;split at hv
  .rename_i l hd;split at hv
   .rename_i hl;cases hv;rw[tE hd];refine cf (n:=l.length+12) (h':=h0) (ch (ss:=[OT,xT]) (by simp[ZW,Rn])) ?_ rfl (by simp[AV.aj,AV.aK,dN]);have h5:AV.aj (l.map aY.aR)=0:=dN l;by_cases h:l.length<=128
    .obtain⟨md,e⟩:=Lj l (l.length+1) hl (by omega) l [] (l.length+11) rfl (by omega);simp only[List.length_nil,tq,Xp,Int.natCast_zero] at e;have hd:((128:Int)<(l.length:Int))=False:=eq_false (by omega)
     cases hg:uV [] l with
     |true=>rw[hg] at e;simp only[if_true] at e;simp[P1,c70,tq,h5,e,dJ,h,hd,hg,xO,o9]
     |false=>rw[hg] at e;simp only[Bool.false_eq_true,if_false] at e;simp[P1,c70,tq,h5,e,dJ,h,hd,hg,xO,o9]
    .have hd:((128:Int)<(l.length:Int))=True:=eq_true (by omega);simp[P1,c70,dJ,h,hd,xO,o9]
   .cases hv
  .cases hv
 .cases hv
def fF:aY:=⟨[],[],0⟩
def aM(l:List aY)(aC:List UInt8)(ahead:Bool):aY×Bool:=
 match lZ (λo=>o.n==aC&&mr o.k==ahead) l with
 |none=>(fF,false)
 |some i=>if dJ l then (l.getD i fF,true) else (fF,false)
def PU:aZ:=⟨63,λ|[.agg [.sl xs],.str s,.bool b]=>(match qm xs with|some l=>if l.length<4611686018427387904 then some (.tuple [(aM l s b).1.aR,.bool (aM l s b).2]) else none|none=>none)|_=>none⟩
theorem U7(l:List aY)(s:List UInt8)(b:Bool)(h:l.length<4611686018427387904):PU.S [.agg [.sl (l.map aY.aR)],.str s,.bool b]=some (.tuple [(aM l s b).1.aR,.bool (aM l s b).2]):=by simp only[PU,pX,if_pos h]
theorem Vz:bB Tryz.prog PU:=λaa v hv=>by
 unfold PU at hv|-;dsimp only at hv|-;split at hv
 .rename_i xs s b;split at hv
  .rename_i l hd;split at hv
   .rename_i hl;cases hv;rw[tE hd];refine cf (n:=l.length+12) (h':=h0) (ch (ss:=[vj,tf]) (by simp[Bn,EW])) ?_ (by simp[AV.aK,AV.aj,aY.aR,aY.cells]) (by simp[AV.aj,AV.aK,dN]);have h5:AV.aj (l.map aY.aR)=0:=dN l
    have hf:=wX [vj,tf] (l.length+10) l 105 [.ptr 1 0,.ptr 2 0] 4 [.row [.str [],.str [],.int .i64 0],.row [.bool b],.row [.str s],.row [.sl (l.map aY.aR)]] 0 0 (λo=>o.n==s&&mr o.k==b) (by simp[AV.aj,AV.aK]) hl (by omega)
     (λx hx=>by have hA:=wc x.n x.k x.l;cases e1:x.n==s<;>simp[abB,c105,e1,hA,iD,vz])
    have hg:=EZ l hl
    cases hs:lZ (λo=>o.n==s&&mr o.k==b) l with
    |none=>rw[hs] at hf;simp[Pt,c63,hf,aM,hs,aY.aR,aY.cells,fF,Ks,iD,vz]
    |some i=>
      rw[hs] at hf;have hi:=zo hs;have h1:l[i]? =some l[i]:=List.getElem?_eq_getElem hi;have h4:l[i].aR=.agg [.str l[i].n,.str l[i].k,.int .i64 l[i].l]:=rfl;have fB:((i:Int)<0)=False:=eq_false (by omega);have ME:l.getD i fF=l[i]:=by simp[List.getD,h1]
      cases hgk:dJ l with
      |false=>rw[hgk] at hg;simp[Pt,c63,hf,aM,hs,aY.aR,aY.cells,fF,hg,hgk,fB,Ks,iD,vz]
      |true=>rw[hgk] at hg;simp[Pt,c63,hf,aM,hs,hg,hgk,h1,h4,fB,ME,Ks,iD,vz]
   .cases hv
  .cases hv
 .cases hv
def a8:AV->Option (List aY)
 |.aD=>some []
 |.sl xs=>qm xs
 |_=>none
theorem bj{x:AV}{l:List aY}(h:a8 x=some l):(x=.aD/\l=[])\/x=.sl (l.map aY.aR):=by
 cases x<;>simp[a8] at h
 .exact .inl ⟨rfl,h⟩
 .exact .inr (by rw[tE h])
theorem fj{x:AV}{l:List aY}(h:a8 x=some l):x.aK=0:=by
 rcases bj h with⟨rfl,_⟩|rfl
 .rfl
 .simp[AV.aK,dN]
theorem gW(l:List aY):a8 (.sl (l.map aY.aR))=some l:=pX l
def NF:aZ:=⟨70,λ|[.agg [.aD]]=>some (.bool true)|_=>none⟩
theorem SA:NF.S [.agg [.aD]]=some (.bool true):=(rfl)
theorem SC:bB Tryz.prog NF:=λaa v hv=>by
 unfold NF at hv|-;dsimp only at hv|-;split at hv
 .cases hv;refine cf (n:=10) (h':=h0) (ch (ss:=[]) (by simp)) ?_ rfl rfl;simp[P1,c70,tq,xW,ai]
 .cases hv
def OM:aZ:=⟨63,λ|[.agg [.aD],.str _,.bool _]=>some (.tuple [fF.aR,.bool false])|_=>none⟩
theorem RD(s:List UInt8)(b:Bool):OM.S [.agg [.aD],.str s,.bool b]=some (.tuple [fF.aR,.bool false]):=(rfl)
theorem Q4:bB Tryz.prog OM:=λaa v hv=>by
 unfold OM at hv|-;dsimp only at hv|-;split at hv
 .cases hv;refine cf (n:=10) (h':=h0) (ch (ss:=[]) (by simp)) ?_ rfl (by simp[AV.aj,AV.aK]);simp[Pt,c63,OQ,R7,qh,wu,ai,fF,aY.aR,aY.cells]
 .cases hv
def pM:aZ:=⟨70,λ|[.agg [x]]=>(match a8 x with|some l=>if l.length<4611686018427387904 then some (.bool (dJ l)) else none|none=>none)|_=>none⟩
theorem oQ:pM.f=70:=(rfl)
theorem EG{x:AV}{l:List aY}(hx:a8 x=some l)(h:l.length<4611686018427387904):pM.S [.agg [x]]=some (.bool (dJ l)):=by simp only[pM,hx,if_pos h]
theorem Fe:bB Tryz.prog pM:=λaa v hv=>by
 unfold pM at hv|-;dsimp only at hv|-;split at hv
 .split at hv
  .rename_i l hd;split at hv
   .rename_i hl;cases hv;rcases bj hd with⟨rfl,rfl⟩|rfl
    .exact SC _ _ SA
    .exact EW _ _ (EZ l hl)
   .cases hv
  .cases hv
 .cases hv
def xB:aZ:=⟨63,λ|[.agg [x],.str s,.bool b]=>(match a8 x with|some l=>if l.length<4611686018427387904 then some (.tuple [(aM l s b).1.aR,.bool (aM l s b).2]) else none|none=>none)|_=>none⟩
theorem KI:xB.f=63:=(rfl)
theorem Ge{x:AV}{l:List aY}(hx:a8 x=some l)(s:List UInt8)(b:Bool)(h:l.length<4611686018427387904):xB.S [.agg [x],.str s,.bool b]=some (.tuple [(aM l s b).1.aR,.bool (aM l s b).2]):=by simp only[xB,hx,if_pos h]
theorem Ga:bB Tryz.prog xB:=λaa v hv=>by
 unfold xB at hv|-;dsimp only at hv|-;split at hv
 .split at hv
  .rename_i l hd;split at hv
   .rename_i hl;cases hv;rcases bj hd with⟨rfl,rfl⟩|rfl
    .exact Q4 _ _ (RD _ _)
    .exact Vz _ _ (U7 l _ _ hl)
   .cases hv
  .cases hv
 .cases hv
def FB:aZ:=⟨29,λ|[.agg [x],.str s]=>(match a8 x with|some l=>if l.length<4611686018427387904 then some (.tuple [(aM l s false).1.aR,.bool (aM l s false).2]) else none|none=>none)|_=>none⟩
theorem eJ:FB.f=29:=(rfl)
theorem u4{x:AV}{l:List aY}(hx:a8 x=some l)(s:List UInt8)(h:l.length<4611686018427387904):FB.S [.agg [x],.str s]=some (.tuple [(aM l s false).1.aR,.bool (aM l s false).2]):=by simp only[FB,hx,if_pos h]
theorem Bp:bB Tryz.prog FB:=λaa v hv=>by
 unfold FB at hv|-;dsimp only at hv|-;split at hv
 .rename_i x s;split at hv
  .rename_i l hd;split at hv
   .rename_i hl;cases hv;have hr:=fj hd;refine cf (n:=6) (h':=h0) (ch (ss:=[xB]) (by simp[Ga])) ?_ (by simp[AV.aK,AV.aj,aY.aR,aY.cells]) (by simp[AV.aj,AV.aK,hr]);have q:=Ge hd s false hl;simp only[aY.aR,aY.cells] at q|-;rcases bj hd with⟨rfl,rfl⟩|rfl
    all_goals simp[ags,c29,KI,q]
   .cases hv
  .cases hv
 .cases hv
def j7:aZ:=⟨30,λ|[.agg [x],.str s]=>(match a8 x with|some l=>if l.length<4611686018427387904 then some (.tuple [(aM l s true).1.aR,.bool (aM l s true).2]) else none|none=>none)|_=>none⟩
theorem dc:j7.f=30:=(rfl)
theorem tC{x:AV}{l:List aY}(hx:a8 x=some l)(s:List UInt8)(h:l.length<4611686018427387904):j7.S [.agg [x],.str s]=some (.tuple [(aM l s true).1.aR,.bool (aM l s true).2]):=by simp only[j7,hx,if_pos h]
theorem ze:bB Tryz.prog j7:=λaa v hv=>by
 unfold j7 at hv|-;dsimp only at hv|-;split at hv
 .rename_i x s;split at hv
  .rename_i l hd;split at hv
   .rename_i hl;cases hv;have hr:=fj hd;refine cf (n:=6) (h':=h0) (ch (ss:=[xB]) (by simp[Ga])) ?_ (by simp[AV.aK,AV.aj,aY.aR,aY.cells]) (by simp[AV.aj,AV.aK,hr]);have q:=Ge hd s true hl;simp only[aY.aR,aY.cells] at q|-;rcases bj hd with⟨rfl,rfl⟩|rfl
    all_goals simp[ag0,c30,KI,q]
   .cases hv
  .cases hv
 .cases hv
def ax(o:aY):Int×Int:=
 if o.k=[120,102,120] then (o.l-1,o.l-1) else if o.k=[120,102,121] then (o.l-1,o.l) else if o.k=[121,102,120] then (o.l,o.l-1)
 else if o.k=[102,121] then (0,o.l) else if o.k=[102,120] then (0,o.l-1) else (0,0)
def oc:aZ:=⟨122,λ|[v]=>(match n9 v with|some o=>if 0<=o.l/\o.l<=1200 then some (.tuple [.int .i64 (ax o).1,.int .i64 (ax o).2]) else none|none=>none)|_=>none⟩
theorem dL:oc.f=122:=(rfl)
theorem kl(o:aY)(h:0<=o.l/\o.l<=1200):oc.S [.agg [.str o.n,.str o.k,.int .i64 o.l]]=some (.tuple [.int .i64 (ax o).1,.int .i64 (ax o).2]):=if_pos h
theorem wo:bB Tryz.prog oc:=λaa v hv=>by
 unfold oc at hv|-;dsimp only at hv|-;split at hv
 .rename_i x;split at hv
  .rename_i o hd;split at hv
   .rename_i hl;cases hv;rw[l8 hd];refine cf (n:=6) (h':=h0) (ch (ss:=[]) (by simp)) ?_ (by simp[AV.aK,AV.aj]) (by simp[AV.aj,AV.aK,aY.aR,aY.cells]);have w:IntKind.i64.wrap (o.l-1)=o.l-1:=wrap_i64 (by omega) (by omega);obtain⟨n,k,l⟩:=o;dsimp only at w;have hb:∀a b:List UInt8,a≠b->(a==b)=false:=λa b h=>by simpa using h
    unfold ax;dsimp only;by_cases h1:k=[120,102,120]
    .subst h1;simp[AN,IC,aY.aR,aY.cells,w]
    rw[if_neg h1];have e1:=hb _ _ h1;by_cases h2:k=[120,102,121]
    .subst h2;simp[AN,IC,aY.aR,aY.cells,w]
    rw[if_neg h2];have e2:=hb _ _ h2;by_cases h3:k=[121,102,120]
    .subst h3;simp[AN,IC,aY.aR,aY.cells,w]
    rw[if_neg h3];have e3:=hb _ _ h3;by_cases h4:k=[102,121]
    .subst h4;simp[AN,IC,aY.aR,aY.cells,w]
    rw[if_neg h4];have e4:=hb _ _ h4;by_cases h5:k=[102,120]
    .subst h5;simp[AN,IC,aY.aR,aY.cells,w]
    rw[if_neg h5];have e5:=hb _ _ h5;simp[AN,IC,aY.aR,aY.cells,w,h1,h2,h3,h4,h5,e1,e2,e3,e4,e5]
   .cases hv
  .cases hv
 .cases hv
theorem Pg{a b:List UInt8}{l:Int}(h:qW a b l=true):1<=l/\l<=1200:=by
 unfold qW at h;split at h
 .simp only[Bool.and_eq_true,decide_eq_true_eq] at h;omega
 .simp at h;omega
theorem Hr:∀(post pre:List aY),uV pre post=true->∀o∈post,qW o.n o.k o.l=true
 |[],_,_,o,h=>by simp at h
 |x::r,pre,hg,o,h=>by
   unfold uV at hg
   cases hm:qW x.n x.k x.l with
   |false=>rw[hm] at hg;simp at hg
   |true=>
     rw[hm] at hg;simp only[Bool.not_true,Bool.false_eq_true,if_false] at hg;split at hg
     .cases hg
     .rcases List.mem_cons.1 h with rfl|h
      .exact hm
      .exact Hr r _ hg o h
theorem yz{l:List aY}(h:dJ l=true):∀o∈l,qW o.n o.k o.l=true:=by unfold dJ at h;rw[Bool.and_eq_true] at h;exact Hr l [] h.2
theorem kq(l:List aY)(s:List UInt8)(b:Bool):0<=(aM l s b).1.l/\(aM l s b).1.l<=1200:=by
 unfold aM;split
 .exact⟨Int.le_refl 0,by simp[fF]⟩
 .rename_i i hi;split
  .rename_i hg;have de:=zo hi;have hd:l.getD i fF=l[i]:=by simp[List.getD,List.getElem?_eq_getElem de]
   dsimp only;rw[hd];have:=Pg (yz hg l[i] (List.getElem_mem de));omega
  .exact⟨Int.le_refl 0,by simp[fF]⟩
end
end Go.Proofs.YtjmeonoabiliiaaGreatDoor
