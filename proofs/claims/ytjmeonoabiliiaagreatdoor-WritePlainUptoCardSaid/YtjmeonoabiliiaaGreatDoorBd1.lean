import Derived.Test.YtjmeonoabiliiaaGreatDoorAt
import Derived.Test.YtjmeonoabiliiaaGreatDoorEnv
import Derived.Test.YtjmeonoabiliiaaGreatDoorFast
import Derived.Test.YtjmeonoabiliiaaGreatDoorArg
import Derived.RangeFuncNested
import Derived.RangeFuncBound
import Derived.RangeFuncCalls
import Derived.RangeFuncLeaves
import Derived.Shelf.Abstract
import Derived.Shelf.RegionOpen
import Derived.WalkKit
import Derived.OwnWalkIn
import Derived.TacticsInMore
import Derived.LoopNIn
import Derived.LoopIn
import Derived.Test.YtjmeonoabiliiaaGreatDoorProg
import Derived.Test.YtjmeonoabiliiaaGreatDoorIter
import Derived.Test.YtjmeonoabiliiaaGreatDoorShelf
import Derived.Lib.ItoaNum
import Derived.LaidSub
import Derived.MakeChecks
import Derived.Shelf.Strings.SlTrimAscii
set_option linter.all false
set_option maxHeartbeats 16000000
set_option maxRecDepth 100000
namespace Go.Proofs.YtjmeonoabiliiaaGreatDoor
open Go
section
open Sz
inductive Tm where
 |nl (k n:Int) (s:List UInt8)
 |mk (k n:Int) (s:List UInt8) (us:List Tm)
mutual
def Tm.aL:Tm->AV
 |.nl k n s=>.agg [.int .i64 k,.int .i64 n,.str s,.aF]
 |.mk k n s us=>.agg [.int .i64 k,.int .i64 n,.str s,.sl (Tm.uR us)]
def Tm.uR:List Tm->List AV
 |[]=>[]
 |t::r=>t.aL::Tm.uR r
end
theorem jb:∀l:List Tm,Tm.uR l=l.map Tm.aL
 |[]=>rfl
 |t::r=>by simp[Tm.uR,jb r]
def Tm.aj:Tm->Int|.nl k _ _=>k|.mk k _ _ _=>k
def Tm.bj:Tm->Int|.nl _ n _=>n|.mk _ n _ _=>n
def Tm.az:Tm->List UInt8|.nl _ _ s=>s|.mk _ _ s _=>s
def Tm.aa:Tm->List Tm|.nl ..=>[]|.mk _ _ _ us=>us
def Tm.bh:Tm->AV|.nl ..=>.aF|.mk _ _ _ us=>.sl (us.map Tm.aL)
def Tm.cells(t:Tm):List AV:=[.int .i64 t.aj,.int .i64 t.bj,.str t.az,t.bh]
theorem Tm.aY(t:Tm):t.cells=[.int .i64 t.aj,.int .i64 t.bj,.str t.az,t.bh]:=rfl
theorem Tm.bm(t:Tm):t.aL=.agg t.cells:=by
 cases t with
 |nl k n s=>rfl
 |mk k n s us=>simp only[Tm.aL,Tm.cells,Tm.aj,Tm.bj,Tm.az,Tm.bh,jb]
mutual
theorem Tm.bC:∀t:Tm,t.aL.aJ=0
 |.nl k n s=>rfl
 |.mk k n s us=>by simp[Tm.aL,AV.aJ,AV.ah,Tm.Bk us]
theorem Tm.Bk:∀l:List Tm,AV.ah (Tm.uR l)=0
 |[]=>rfl
 |t::r=>by simp[Tm.uR,AV.ah,Tm.bC t,Tm.Bk r]
end
theorem bw(l:List Tm):AV.ah (l.map Tm.aL)=0:=by rw[<-jb];exact Tm.Bk l
theorem ar(t:Tm):t.bh.aJ=0:=by
 cases t with
 |nl k n s=>rfl
 |mk k n s us=>simp[Tm.bh,AV.aJ,bw]
mutual
def fK:AV->Option Tm
 |.agg [.int .i64 k,.int .i64 n,.str s,.aF]=>some (.nl k n s)
 |.agg [.int .i64 k,.int .i64 n,.str s,.sl xs]=>(lU xs).map (.mk k n s)
 |_=>none
def lU:List AV->Option (List Tm)
 |[]=>some []
 |v::r=>match fK v,lU r with
   |some t,some l=>some (t::l)
   |_,_=>none
end
mutual
theorem cd:∀t:Tm,fK t.aL=some t
 |.nl k n s=>by simp[Tm.aL,fK]
 |.mk k n s us=>by simp[Tm.aL,fK,l7 us]
theorem l7:∀l:List Tm,lU (Tm.uR l)=some l
 |[]=>by simp[Tm.uR,lU]
 |t::r=>by simp[Tm.uR,lU,cd t,l7 r]
end
theorem Hr:∀(n:Nat) (v:AV) (t:Tm),SizeOf.sizeOf v<=n->fK v=some t->v=t.aL
 |0,v,t,h,_=>by cases v<;>simp at h
 |n+1,v,t,h,e=>by
   have hl:∀(xs:List AV) (l:List Tm),SizeOf.sizeOf xs<=n->lU xs=some l->xs=Tm.uR l:=by
    intro xs
    induction xs with
    |nil=>intro l _ e;simp[lU] at e;subst e;rfl
    |cons x r ih=>
      intro l hx e;simp only[lU] at e;split at e
      .rename_i t l' h1 h2;cases e;simp only[List.cons.sizeOf_spec] at hx;rw[Hr n x t (by omega) h1,ih l' (by omega) h2];rfl
      .cases e
   unfold fK at e;split at e
   .cases e;rfl
   .rename_i k q s xs;obtain⟨us,h1,rfl⟩:=Option.map_eq_some_iff.1 e;simp only[AV.agg.sizeOf_spec,List.cons.sizeOf_spec,AV.sl.sizeOf_spec] at h;rw[hl xs us (by omega) h1];rfl
   .cases e
theorem cf{v:AV}{t:Tm}(h:fK v=some t):v=t.aL:=Hr _ v t (Nat.le_refl _) h
def Ou(c:UInt8):Bool:=!((decide (c.toNat<32)||decide (126<c.toNat))&&decide (c.toNat≠9)&&decide (c.toNat≠10))
def jx:List UInt8->Bool
 |[]=>true
 |c::r=>Ou c&&jx r
def iR(s:List UInt8):Bool:=jx s&&decide (s.length<=64)
def u8s(s:List UInt8):List AV:=s.map λb=>.int .u8 b.toNat
theorem Ev:∀s:List UInt8,AV.ah (u8s s)=0
 |[]=>rfl
 |c::r=>by have:=Ev r;unfold u8s at this|-;simp[AV.ah,AV.aJ,this]
theorem HM(C:Nat->List AV->af->Option (AV×af))(n:Nat)(s:List UInt8)(hs:s.length<4611686018427387904):∀post pre m,s=pre++post->post.length<m->
 il 0 0 (bP (aC C n qw) mY 0 m (aaL (.str s) (.sl (u8s s)) (.int .i64 s.length) (.int .i64 pre.length)) ⟨0,[],0,0⟩)=
  if jx post then some (.exit 0,FM 30 [(0,.str s)],⟨0,[],0,0⟩) else some (.ret,FM 30 [(2,.bool false)],⟨0,[],0,0⟩)
 |[],pre,m+1,e,_=>by simp at e;subst e;simp[ag,qw,jx]
 |c::post,pre,m+1,e,hm=>by
   have ih:=HM C n s hs post (pre++[c]) m (by simp[e]) (by rw[List.length_cons] at hm;omega);have h1:(u8s s)[pre.length]? =some (.int .u8 c.toNat):=by unfold u8s;rw[e];simp
   have h3:IntKind.i64.wrap ((pre.length:Int)+1)=(pre.length:Int)+1:=by rw[w7 (by rw[e] at hs;simp at hs;omega)];simp
   have h5:=Ev s;have h6:((pre.length:Int)<(s.length:Int))=True:=eq_true (by rw[e,List.length_append,List.length_cons];omega);simp only[List.length_append,List.length_cons,List.length_nil,Nat.zero_add,Int.natCast_add,Int.natCast_one] at ih;have ho:Ou c=!((decide (c.toNat<32)||decide (126<c.toNat))&&decide (c.toNat≠9)&&decide (c.toNat≠10)):=rfl;rw[ag];by_cases a1:c.toNat<32
   .have b1:((c.toNat:Int)<32)=True:=eq_true (by omega);by_cases a3:c.toNat=9
    .have b3:((c.toNat:Int)=9)=True:=eq_true (by omega);have ho:Ou c=true:=by rw[ho];simp[a3]
     simp[qw,mY,h1,h3,h5,h6,b1,b3,jx,ho];exact ih
    .have b3:((c.toNat:Int)=9)=False:=eq_false (by omega);by_cases a4:c.toNat=10
     .have b4:((c.toNat:Int)=10)=True:=eq_true (by omega);have ho:Ou c=true:=by rw[ho];simp[a4]
      simp[qw,mY,h1,h3,h5,h6,b1,b3,b4,jx,ho];exact ih
     .have b4:((c.toNat:Int)=10)=False:=eq_false (by omega);have ho:Ou c=false:=by rw[ho];simp[a1,a3,a4]
      simp[qw,mY,h1,h3,h5,h6,b1,b3,b4,jx,ho]
   .have b1:((c.toNat:Int)<32)=False:=eq_false (by omega);by_cases a2:126<c.toNat
    .have b2:(126<(c.toNat:Int))=True:=eq_true (by omega);have b3:((c.toNat:Int)=9)=False:=eq_false (by omega);have b4:((c.toNat:Int)=10)=False:=eq_false (by omega)
     have ho:Ou c=false:=by
      rw[ho];have:c.toNat≠9:=by omega
      have:c.toNat≠10:=by omega
      simp[*]
     simp[qw,mY,h1,h3,h5,h6,b1,b2,b3,b4,jx,ho]
    .have b2:(126<(c.toNat:Int))=False:=eq_false (by omega);have ho:Ou c=true:=by rw[ho];simp[a1,a2]
     simp[qw,mY,h1,h3,h5,h6,b1,b2,jx,ho];exact ih
def Au:aW:=⟨103,λ|[.str s]=>if s.length<4611686018427387904 then some (.bool (iR s)) else none|_=>none⟩
theorem fI:Au.f=103:=(rfl)
theorem Qh(s:List UInt8)(h:s.length<4611686018427387904):Au.S [.str s]=some (.bool (iR s)):=if_pos h
theorem P8:aX Tryz.prog Au:=λaa v hv=>by
 unfold Au at hv|-;dsimp only at hv|-;split at hv
 .rename_i s;split at hv
  .rename_i hs;cases hv;refine bL (n:=s.length+2) (h':=h0) (bK (ss:=[]) (by simp)) ?_ rfl rfl;have lp:=HM (aH (cD []) (s.length+1)) (s.length+1) s hs s [] (s.length+1) rfl (by omega);simp only[List.length_nil,show ((0:Nat):Int)=0 from rfl,mY] at lp;have h5:=Ev s;have e5:(s.map λb=>AV.int .u8 b.toNat)=u8s s:=rfl;have e6:(u8s s).length=s.length:=by simp[u8s]
   unfold iR
   cases ha:jx s with
   |false=>rw[ha] at lp;simp at lp;simp[O5,U6,mY,e5,e6,h5,lp]
   |true=>
     rw[ha] at lp;simp at lp;by_cases hl:s.length<=64
     .have wj:((s.length:Int)<=64)=True:=eq_true (by omega);simp[O5,U6,mY,e5,e6,h5,lp,hl,wj]
     .have wj:((s.length:Int)<=64)=False:=eq_false (by omega);simp[O5,U6,mY,e5,e6,h5,lp,hl,wj]
  .cases hv
 .cases hv
def eT(t:Tm):Bool:=
 if t.aj=0 then decide (0<=t.bj)&&decide (t.bj<=2147483647)&&decide (t.az=[])&&decide (t.aa.length=0)
 else if t.aj=1 then decide (t.az=[])&&decide (t.aa.length=0)
 else if t.aj=2 then decide (t.bj=0)&&iR t.az&&decide (t.aa.length<=8)
 else false
theorem Xg(t:Tm):∃k n s a,t.aL=.agg [.int .i64 k,.int .i64 n,.str s,a]/\t.aj=k/\t.bj=n/\t.az=s/\a.aJ=0/\((a=.aF/\t.aa=[])\/a=.sl (t.aa.map Tm.aL)):=by
 cases t with
 |nl k n s=>exact⟨k,n,s,.aF,rfl,rfl,rfl,rfl,rfl,.inl ⟨rfl,rfl⟩⟩
 |mk k n s us=>exact⟨k,n,s,_,(Tm.mk k n s us).bm,rfl,rfl,rfl,ar _,.inr rfl⟩
def MR:aW:=⟨62,λ|[v]=>(match fK v with|some t=>if t.az.length<4611686018427387904 then some (.bool (eT t)) else none|none=>none)|_=>none⟩
theorem Ez:MR.f=62:=(rfl)
theorem aaN(t:Tm)(h:t.az.length<4611686018427387904):MR.S [t.aL]=some (.bool (eT t)):=by simp only[MR,cd,if_pos h]
theorem aaB:aX Tryz.prog MR:=λaa v hv=>by
 unfold MR at hv|-;dsimp only at hv|-;split at hv
 .rename_i x;split at hv
  .rename_i t ht;split at hv
   .rename_i hl;cases hv;rw[cf ht];refine bL (n:=5) (h':=h0) (bK (ss:=[Au]) (by simp[P8])) ?_ rfl (by simp[AV.ah,Tm.bC]);obtain⟨k,n,s,a,e,e1,e2,e3,hr,ha⟩:=Xg t;have hg:=Qh s (by rw[<-e3];exact hl);unfold eT;rw[e,e1,e2,e3]
    have ha0:(a=.aF/\t.aa.length=0)\/(∃l:List AV,a=.sl l/\l.length=t.aa.length):=by
     rcases ha with⟨h1,h2⟩|h1
     .exact .inl ⟨h1,by rw[h2];rfl⟩
     .exact .inr ⟨_,h1,by simp⟩
    generalize t.aa.length=q at ha0;clear ha e1 e2 e3 ht hl e;by_cases k0:k=0
    .subst k0;by_cases c1:0<=n
     .by_cases c2:n<=2147483647
      .cases s with
       |nil=>
         rcases ha0 with⟨rfl,rfl⟩|⟨l,rfl,rfl⟩
         .simp[o3,JP,c1,c2,fI]
         .by_cases c4:l.length=0
          .have DU:((l.length:Int)=0)=True:=eq_true (by omega);simp only[AV.aJ] at hr;simp[o3,JP,c1,c2,DU,c4,hr,fI]
          .have DU:((l.length:Int)=0)=False:=eq_false (by omega);simp only[AV.aJ] at hr;simp[o3,JP,c1,c2,DU,c4,hr,fI]
       |cons c r=>simp[o3,JP,c1,c2,fI,hr]
      .simp[o3,JP,c1,c2,fI,hr]
     .simp[o3,JP,c1,fI,hr]
    .by_cases k1:k=1
     .subst k1
      cases s with
      |nil=>
        rcases ha0 with⟨rfl,rfl⟩|⟨l,rfl,rfl⟩
        .simp[o3,JP,fI]
        .by_cases c4:l.length=0
         .have DU:((l.length:Int)=0)=True:=eq_true (by omega);simp only[AV.aJ] at hr;simp[o3,JP,DU,c4,hr,fI]
         .have DU:((l.length:Int)=0)=False:=eq_false (by omega);simp only[AV.aJ] at hr;simp[o3,JP,DU,c4,hr,fI]
      |cons c r=>simp[o3,JP,fI,hr]
     .by_cases k2:k=2
      .subst k2;by_cases c1:n=0
       .cases VJ:iR s with
        |false=>rw[VJ] at hg;simp[o3,JP,c1,hg,fI,hr]
        |true=>
          rw[VJ] at hg;rcases ha0 with⟨rfl,rfl⟩|⟨l,rfl,rfl⟩
          .simp[o3,JP,c1,hg,fI]
          .by_cases c4:l.length<=8
           .have DU:((l.length:Int)<=8)=True:=eq_true (by omega);simp only[AV.aJ] at hr;simp[o3,JP,c1,hg,DU,c4,hr,fI]
           .have DU:((l.length:Int)<=8)=False:=eq_false (by omega);simp only[AV.aJ] at hr;simp[o3,JP,c1,hg,DU,c4,hr,fI]
       .simp[o3,JP,c1,fI,hr]
      .simp[o3,JP,k0,k1,k2,fI,hr]
   .cases hv
  .cases hv
 .cases hv
theorem ux(t:Tm):basic t.bh=true:=by cases t<;>rfl
theorem Xw(t:Tm):C6 4 t.aL:=by rw[Tm.bm];refine⟨rfl,?_,λh=>by omega,λ_=>rfl,rfl⟩;have:=ux t;simp only[AV.cells,Tm.cells,List.all_cons,List.all_nil,this];rfl
theorem sG(us:List Tm):∀x∈us.map Tm.aL,C6 4 x:=by intro x hx;obtain⟨t,_,rfl⟩:=List.mem_map.1 hx;exact Xw t
def ay(us:List Tm):List AV:=us.flatMap Tm.cells
theorem vw(us:List Tm):(us.map Tm.aL).flatMap AV.cells=ay us:=by
 induction us with
 |nil=>rfl
 |cons t r ih=>unfold ay at ih|-;rw[List.map_cons,List.flatMap_cons,List.flatMap_cons,ih,Tm.bm];rfl
theorem cG(us:List Tm):(ay us).length=us.length*4:=by rw[<-vw,Ej (sG us),List.length_map]
theorem aU(us:List Tm):AV.ah (ay us)=0:=by rw[<-vw];exact qM (Em (sG us))
theorem YG(h:af)(us:List Tm):aG h 4 (.sl (us.map Tm.aL))=some (us.length,ay us):=by
 have e:aG h 4 (.sl (us.map Tm.aL))=if ((us.map Tm.aL).all λx=>(x.cells?.map List.length)==some 4) then some ((us.map Tm.aL).length,(us.map Tm.aL).flatMap AV.cells) else none:=rfl
 rw[e,if_pos (Md (sG us)),List.length_map,vw]
def QC:aW:=⟨48,λ|[.int .i64 n]=>some (Tm.nl 1 n []).aL|_=>none⟩
theorem Qf:QC.f=48:=(rfl)
theorem Sp(n:Int):QC.S [.int .i64 n]=some (.agg [.int .i64 1,.int .i64 n,.str [],.aF]):=rfl
theorem Rn:aX Tryz.prog QC:=λaa v hv=>by
 unfold QC at hv|-;dsimp only at hv|-;split at hv
 .cases hv;refine bL (n:=3) (h':=h0) (bK (ss:=[]) (by simp)) ?_ rfl rfl;simp[aiI,c48,Tm.aL]
 .cases hv
def Bc:aW:=⟨32,λ|[.int .i64 n]=>some (Tm.nl 0 n []).aL|_=>none⟩
theorem vD:Bc.f=32:=(rfl)
theorem Ry(n:Int):Bc.S [.int .i64 n]=some (.agg [.int .i64 0,.int .i64 n,.str [],.aF]):=rfl
theorem Q4:aX Tryz.prog Bc:=λaa v hv=>by
 unfold Bc at hv|-;dsimp only at hv|-;split at hv
 .cases hv;refine bL (n:=3) (h':=h0) (bK (ss:=[]) (by simp)) ?_ rfl rfl;simp[ahS,c32,Tm.aL]
 .cases hv
def Ci:aW:=⟨28,λ|[.str s]=>some (Tm.nl 2 0 s).aL|_=>none⟩
theorem Ka:Ci.f=28:=(rfl)
theorem pZ(s:List UInt8):Ci.S [.str s]=some (.agg [.int .i64 2,.int .i64 0,.str s,.aF]):=rfl
theorem EP:aX Tryz.prog Ci:=λaa v hv=>by
 unfold Ci at hv|-;dsimp only at hv|-;split at hv
 .cases hv;refine bL (n:=3) (h':=h0) (bK (ss:=[]) (by simp)) ?_ rfl rfl;simp[aiA,c28,Tm.aL]
 .cases hv
def cE(s:List UInt8):List Tm->Tm
 |[]=>.nl 2 0 s
 |us=>.mk 2 0 s us
def rV:aW:=⟨47,λ
 |[.str s,.aF]=>some (Tm.nl 2 0 s).aL
 |[.str s,.sl xs]=>(match lU xs with|some us=>if us.length<1000000000000 then some (cE s us).aL else none|none=>none)
 |_=>none⟩
theorem qF:rV.f=47:=(rfl)
theorem lK(s:List UInt8)(us:List Tm)(h:us.length<1000000000000):rV.S [.str s,.sl (us.map Tm.aL)]=some (cE s us).aL:=by unfold rV;dsimp only;rw[<-jb,l7];exact if_pos h
theorem td:∀{xs:List AV} {us:List Tm},lU xs=some us->xs=us.map Tm.aL
 |[],us,e=>by simp[lU] at e;subst e;rfl
 |x::r,us,e=>by
   simp only[lU] at e;split at e
   .rename_i t l h1 h2;cases e;rw[cf h1,td h2];rfl
   .cases e
theorem vz:aX Tryz.prog rV:=λaa v hv=>by
 unfold rV at hv|-;dsimp only at hv|-;split at hv
 .cases hv;refine bL (n:=4) (h':=h0) (bK (ss:=[]) (by simp)) ?_ rfl rfl;simp[XA,c47,Tm.aL]
 .rename_i s xs;split at hv
  .rename_i us hx;split at hv
   .rename_i hl;cases hv;rw[td hx];refine bL (n:=4) (h':=h0) (bK (ss:=[]) (by simp)) ?_ (Tm.bC _) (by simp[AV.ah,AV.aJ,bw])
    cases us with
    |nil=>simp[XA,c47,Tm.aL,cE]
    |cons t r=>
      have h5:AV.ah (r.map Tm.aL)=0:=bw _;have h6:t.aL.aJ=0:=Tm.bC _;have dq:=VB 86 (xs:=t.aL::r.map Tm.aL) (by simp);have he:=λh=>YG h (t::r)
      have b1:(r.length+1)*56<=140737488355328:=by simp at hl;omega
      have b2:r.length+1<9223372036854775808:=by simp at hl;omega
      have e:(cE s (t::r)).aL=.agg [.int .i64 2,.int .i64 0,.str s,.sl (t.aL::r.map Tm.aL)]:=by simp[cE,Tm.aL,jb,Tm.uR]
      have uB:=aU (t::r)
      have hf:∀(X:aT) (wl md d:Nat),jL ⟨2,[.row (ay (t::r)),X],wl,md⟩ 0 (d+2) (.vec 1 0 (r.length+1) 4 (r.length+1))=some (.sl ((t::r).map Tm.aL),[1]):=λX wl md d=>wR (by omega) rfl (by omega) (sG (t::r)) (by simp) (by rw[cG];simp) (by rw[vw,List.take_of_length_le];rw[cG];simp)
      rw[e];simp only[List.map_cons,List.length_cons] at he hf;simp[XA,c47,aiC,c86,dq,h5,h6,b1,b2,he,uB,hf,Cr]
   .cases hv
  .cases hv
 .cases hv
theorem BY:∀{a b:List AV},AV.ah a=0->AV.ah b=0->AV.ah (a++b)=0
 |[],b,_,hb=>hb
 |v::r,b,ha,hb=>by simp only[AV.ah] at ha;simp only[List.cons_append,AV.ah];rw[BY (a:=r) (by omega) hb];omega
theorem BN:∀{a:List AV},AV.ah a=0->∀k,AV.ah (a.take k)=0/\AV.ah (a.drop k)=0
 |[],_,k=>by simp[AV.ah]
 |v::r,ha,0=>⟨by simp[AV.ah],by simpa using ha⟩
 |v::r,ha,k+1=>by simp only[AV.ah] at ha;have:=BN (a:=r) (by omega) k;simp only[List.take_succ_cons,List.drop_succ_cons,AV.ah];exact⟨by rw[this.1];omega,this.2⟩
theorem fH{R:List AV}(h:AV.ah R=0)(x:Tm)(k:Nat)(hk:k+4<=R.length):AV.ah (putAt R k x.cells)=0:=by
 rw[mT x.cells R k (by have:x.cells.length=4:=rfl;omega)];have q1:AV.ah x.cells=0:=by simp[Tm.cells,AV.ah,AV.aJ,ar]
 exact BY (BY (BN h _).1 q1) (BN h _).2
def fN{σ:Type}(fs:Tm->σ->Bool×σ):Nat->List Tm->σ->Bool×σ
 |0,_,s=>(true,s)
 |_+1,[],s=>(true,s)
 |d+1,x::rs,s=>if (fs x s).1 then fN fs d (x.aa++rs) (fs x s).2 else (false,(fs x s).2)
mutual
def Tm.size:Tm->Nat
 |.nl ..=>1
 |.mk _ _ _ us=>1+Tm.br us
def Tm.br:List Tm->Nat
 |[]=>0
 |t::r=>t.size+Tm.br r
end
theorem bJ(t:Tm):t.size=1+Tm.br t.aa:=by cases t<;>rfl
theorem mm:∀a b:List Tm,Tm.br (a++b)=Tm.br a+Tm.br b
 |[],b=>by simp[Tm.br]
 |t::r,b=>by simp[Tm.br,mm r b];omega
theorem dE:∀a:List Tm,a.length<=Tm.br a
 |[]=>by simp
 |t::r=>by have:=dE r;have:=bJ t;simp[Tm.br];omega
theorem Fc{R:List AV}{st:List Tm}{x:Tm}(h:R.take ((st.length+1)*4)=ay (st++[x])):R.take (st.length*4)=ay st/\(R.drop (st.length*4)).take 4=x.cells:=by
 have e:ay (st++[x])=ay st++x.cells:=by simp[ay]
 have hl:=cG st;refine⟨?_,?_⟩
 .have:=congrArg (List.take (st.length*4)) h;rw[List.take_take,Nat.min_eq_left (by omega),e,List.take_left' hl] at this;exact this
 .have:=congrArg (List.drop (st.length*4)) h;rw[List.drop_take,e,List.drop_left' hl,show (st.length+1)*4-st.length*4=4 by omega] at this;exact this
theorem dw{X x:Tm}{i:Nat}(hx:X.aa[i]? =some x):X.bh=.sl (X.aa.map Tm.aL)/\X.cells=[.int .i64 X.aj,.int .i64 X.bj,.str X.az,.sl (X.aa.map Tm.aL)]/\AV.ah (X.aa.map Tm.aL)=0/\x.aL=.agg x.cells/\x.cells=[.int .i64 x.aj,.int .i64 x.bj,.str x.az,x.bh]/\x.bh.aJ=0:=by
 have ha:X.bh=.sl (X.aa.map Tm.aL):=by
  cases X with
  |nl k n s=>simp[Tm.aa] at hx
  |mk k n s us=>rfl
 exact⟨ha,by rw[<-ha];rfl,bw _,Tm.bm x,rfl,ar x⟩
theorem Ar(C:Nat->List AV->af->Option (AV×af))(n g:Nat)(aO:List AV)(hc:AV.ah aO<=2)(X:Tm)(os:List aT)(md:Nat)(dn:∀k,2<=k->min md k=md)(w:Nat)(hw:min w 5=w):∀(i m:Nat) (st:List Tm),i<=X.aa.length->i<m->st.length+i<1000000000000->
 il 5 w (bP (aC C n bH) bn 5 m (gC (.fn g aO) (.vec 5 0 st.length 4 st.length) (.ptr 4 0) (.int .i64 ((i:Int)-1))) ⟨6,.row (ay st)::.row X.cells::.dead::os,5,md⟩)=
  some (.exit 2,FM 44 [(1,.fn g aO),(5,.vec 5 0 (st.length+i) 4 (st.length+i))],⟨6,.row (ay (st++(X.aa.take i).reverse))::.row X.cells::.dead::os,w,md⟩)
 |0,m+1,st,_,_,_=>by
   have h1:(0<=(-1:Int))=False:=by simp
   have hr:AV.ah aO<=5:=by omega
   have jr:min md 3=md:=dn 3 (by omega);have jt:min md 5=md:=dn 5 (by omega);have uB:=aU st;simp[ag,bH,hr,uB,hw]
 |i+1,m+1,st,hi,hm,hl=>by
   have hr:AV.ah aO<=5:=by omega
   have jr:min md 3=md:=dn 3 (by omega);have jt:min md 5=md:=dn 5 (by omega);obtain⟨x,hx⟩:∃x,X.aa[i]? =some x:=⟨X.aa[i]'(by omega),by simp⟩
   have ih:=Ar C n g aO hc X os md dn w hw i m (st++[x]) (by omega) (by omega) (by simp;omega);obtain⟨ha,hX,h5,dJ,fx,cI⟩:=dw hx;have uB:=aU st;have DS:=cG st;have w1:IntKind.i64.wrap ((i:Int)-1)=(i:Int)-1:=wrap_i64 (by omega) (by omega);have t1:(0<=(i:Int))=True:=eq_true (by omega);have b1:(st.length+1)*56<=140737488355328:=by omega
   have b2:st.length+1<9223372036854775808:=by omega
   have nS:X.aa.take (i+1)=X.aa.take i++[x]:=by rw[List.take_add_one,hx];rfl
   have p9:ay (st++[x])=ay st++[.int .i64 x.aj,.int .i64 x.bj,.str x.az,x.bh]:=by simp[ay,Tm.cells]
   have yO:List.take (st.length*4) (ay st)=ay st:=List.take_of_length_le (by omega);have mh:AV.ah (ay st++[.int .i64 x.aj,.int .i64 x.bj,.str x.az,x.bh])=0:=by rw[<-p9];exact aU _
   rw[nS,List.reverse_append];simp only[List.length_append,List.length_cons,List.length_nil,Nat.zero_add,List.append_assoc,p9] at ih;have e1:st.length+1+i=st.length+(i+1):=by omega
   rw[e1] at ih;have e2:((i+1:Nat):Int)-1=(i:Int):=by omega
   rw[e2,ag];rw[hX] at ih|-;simp[bH,bn,h5,hx,dJ,fx,cI,uB,DS,w1,t1,b1,b2,hr,yO,mh,jr,jt,aG];exact ih
theorem II{R:List AV}{st:List Tm}{lb:Nat}(hR:R.length=lb*4)(ht:R.take (st.length*4)=ay st)(p8:st.length+1<=lb)(x:Tm):
 (putAt R (st.length*4) x.cells).length=lb*4/\(putAt R (st.length*4) x.cells).take ((st++[x]).length*4)=ay (st++[x]):=by
 have hc:x.cells.length=4:=rfl;have h1:st.length*4+x.cells.length<=R.length:=by omega
 refine⟨?_,?_⟩
 .rw[mT x.cells R _ h1];simp only[List.length_append,List.length_take,List.length_drop];omega
 .have:=kL x.cells h1;rw[List.length_append,show (st.length+[x].length)*4=st.length*4+x.cells.length by simp[hc];omega,this,ht];simp[ay]
theorem xP(C:Nat->List AV->af->Option (AV×af))(n g:Nat)(aO:List AV)(hc:AV.ah aO<=2)(X:Tm)(os:List aT)(md:Nat)(dn:∀k,2<=k->min md k=md)(w:Nat)(hw:min w 5=w)(lb:Nat):∀(i m:Nat) (st:List Tm) (R:List AV),i<=X.aa.length->i<m->st.length+i<=lb->lb<1000000000000->R.length=lb*4->R.take (st.length*4)=ay st->AV.ah R=0->
 ∃R',R'.length=lb*4/\R'.take ((st.length+i)*4)=ay (st++(X.aa.take i).reverse)/\AV.ah R'=0/\
 il 5 w (bP (aC C n bH) bn 5 m (gC (.fn g aO) (.vec 3 0 st.length 4 lb) (.ptr 4 0) (.int .i64 ((i:Int)-1))) ⟨5,.row X.cells::.row R::os,5,md⟩)=
  some (.exit 2,FM 44 [(1,.fn g aO),(5,.vec 3 0 (st.length+i) 4 lb)],⟨5,.row X.cells::.row R'::os,w,md⟩)
 |0,m+1,st,R,_,_,_,_,hR,ht,fj=>by
   have h1:(0<=(-1:Int))=False:=by simp
   have hr:AV.ah aO<=5:=by omega
   have jr:min md 3=md:=dn 3 (by omega);have jt:min md 5=md:=dn 5 (by omega);refine⟨R,hR,by simpa using ht,fj,?_⟩;simp[ag,bH,hr,hw]
 |i+1,m+1,st,R,hi,hm,p8,hl,hR,ht,fj=>by
   have hr:AV.ah aO<=5:=by omega
   have jr:min md 3=md:=dn 3 (by omega);have jt:min md 5=md:=dn 5 (by omega);obtain⟨x,hx⟩:∃x,X.aa[i]? =some x:=⟨X.aa[i]'(by omega),by simp⟩
   obtain⟨p1,p2⟩:=II hR ht (by omega) x;have p3:=fH fj x (st.length*4) (by omega);obtain⟨R',r1,r2,r3,ih⟩:=xP C n g aO hc X os md dn w hw lb i m (st++[x]) (putAt R (st.length*4) x.cells) (by omega) (by omega) (by simp;omega) hl p1 p2 p3;have e1:(st++[x]).length+i=st.length+(i+1):=by simp;omega
   have nS:X.aa.take (i+1)=X.aa.take i++[x]:=by rw[List.take_add_one,hx];rfl
   refine⟨R',r1,?_,r3,?_⟩
   .rw[nS,List.reverse_append,<-e1,r2];simp[List.append_assoc]
   obtain⟨ha,hX,h5,dJ,fx,cI⟩:=dw hx;have w1:IntKind.i64.wrap ((i:Int)-1)=(i:Int)-1:=wrap_i64 (by omega) (by omega);have t1:(0<=(i:Int))=True:=eq_true (by omega);have b1:st.length*4<=R.length:=by omega
   have b2:st.length+1<=lb:=by omega
   have b3:(st.length+1)*4<=R.length:=by omega
   have xw:putAt [.int .i64 0,.int .i64 0,.str [],.aF] 0 [.int .i64 x.aj,.int .i64 x.bj,.str x.az,x.bh]=[.int .i64 x.aj,.int .i64 x.bj,.str x.az,x.bh]:=rfl;have pg:(st++[x]).length=st.length+1:=by simp
   rw[pg,show st.length+1+i=st.length+(i+1) by omega] at ih;have e2:((i+1:Nat):Int)-1=(i:Int):=by omega
   rw[e2,ag];rw[hX,fx] at ih;rw[hX];simp[bH,bn,h5,hx,dJ,fx,cI,w1,t1,b1,b2,b3,hr,jr,jt,fj,xw,aG,-eH];exact ih
theorem xH(C:Nat->List AV->af->Option (AV×af))(n g:Nat)(aO:List AV)(hc:AV.ah aO<=2)(X:Tm)(os:List aT)(md:Nat)(dn:∀k,2<=k->min md k=md)(w:Nat)(hw:min w 5=w)(lb:Nat):∀(i m:Nat) (st:List Tm) (R:List AV),i<=X.aa.length->i<m->st.length<=lb->lb<st.length+i->st.length+i<1000000000000->R.length=lb*4->R.take (st.length*4)=ay st->AV.ah R=0->
 il 5 w (bP (aC C n bH) bn 5 m (gC (.fn g aO) (.vec 3 0 st.length 4 lb) (.ptr 4 0) (.int .i64 ((i:Int)-1))) ⟨5,.row X.cells::.row R::os,5,md⟩)=
  some (.exit 2,FM 44 [(1,.fn g aO),(5,.vec 5 0 (st.length+i) 4 (st.length+i))],⟨6,.row (ay (st++(X.aa.take i).reverse))::.row X.cells::.dead::os,w,md⟩)
 |0,m,st,R,_,_,h1,h2,_,_,_,_=>by omega
 |i+1,0,st,R,_,h,_,_,_,_,_,_=>by omega
 |i+1,m+1,st,R,hi,hm,h1,h2,hl,hR,ht,fj=>by
   have hr:AV.ah aO<=5:=by omega
   have jr:min md 3=md:=dn 3 (by omega);have jt:min md 5=md:=dn 5 (by omega);obtain⟨x,hx⟩:∃x,X.aa[i]? =some x:=⟨X.aa[i]'(by omega),by simp⟩
   have nS:X.aa.take (i+1)=X.aa.take i++[x]:=by rw[List.take_add_one,hx];rfl
   obtain⟨ha,hX,h5,dJ,fx,cI⟩:=dw hx;have w1:IntKind.i64.wrap ((i:Int)-1)=(i:Int)-1:=wrap_i64 (by omega) (by omega);have t1:(0<=(i:Int))=True:=eq_true (by omega);have b1:st.length*4<=R.length:=by omega
   have xw:putAt [.int .i64 0,.int .i64 0,.str [],.aF] 0 [.int .i64 x.aj,.int .i64 x.bj,.str x.az,x.bh]=[.int .i64 x.aj,.int .i64 x.bj,.str x.az,x.bh]:=rfl;have pg:(st++[x]).length=st.length+1:=by simp
   have e2:((i+1:Nat):Int)-1=(i:Int):=by omega
   by_cases fR:st.length+1<=lb
   .obtain⟨p1,p2⟩:=II hR ht (by omega) x;have p3:=fH fj x (st.length*4) (by omega);have ih:=xH C n g aO hc X os md dn w hw lb i m (st++[x]) (putAt R (st.length*4) x.cells) (by omega) (by omega) (by omega) (by omega) (by omega) p1 p2 p3;have b3:(st.length+1)*4<=R.length:=by omega
    rw[pg,show st.length+1+i=st.length+(i+1) by omega] at ih;rw[e2,ag,nS,List.reverse_append];rw[hX,fx] at ih;rw[hX];simp only[List.append_assoc] at ih;simp[bH,bn,h5,hx,dJ,fx,cI,w1,t1,b1,fR,b3,hr,jr,jt,fj,xw,aG,-eH];exact ih
   .have p8:lb=st.length:=by omega
    have ih:=Ar C n g aO hc X os md dn w hw i m (st++[x]) (by omega) (by omega) (by omega);have c1:(st.length+1)*56<=140737488355328:=by omega
    have c2:st.length+1<9223372036854775808:=by omega
    have p9:ay (st++[x])=ay st++[.int .i64 x.aj,.int .i64 x.bj,.str x.az,x.bh]:=by simp[ay,Tm.cells]
    have mh:AV.ah (ay st++[.int .i64 x.aj,.int .i64 x.bj,.str x.az,x.bh])=0:=by rw[<-p9];exact aU _
    rw[pg,show st.length+1+i=st.length+(i+1) by omega,p9] at ih;rw[e2,ag,nS,List.reverse_append];rw[hX] at ih|-;simp only[List.append_assoc] at ih;simp[bH,bn,h5,hx,dJ,fx,cI,w1,t1,b1,fR,c1,c2,hr,jr,jt,fj,ht,mh,aG];exact ih
theorem yW(C:Nat->List AV->af->Option (AV×af))(n g:Nat)(aO:List AV)(hc:AV.ah aO<=2)(X:Tm)(os:List aT)(md:Nat)(dn:∀k,2<=k->min md k=md)(w:Nat)(hw:min w 6=w):∀(i m:Nat) (st:List Tm),i<=X.aa.length->i<m->st.length+i<1000000000000->
 il 6 w (bP (aC C n bH) bn 6 m (gC (.fn g aO) (.vec 6 0 st.length 4 st.length) (.ptr 5 0) (.int .i64 ((i:Int)-1))) ⟨7,.row (ay st)::.row X.cells::.dead::os,6,md⟩)=
  some (.exit 2,FM 44 [(1,.fn g aO),(5,.vec 6 0 (st.length+i) 4 (st.length+i))],⟨7,.row (ay (st++(X.aa.take i).reverse))::.row X.cells::.dead::os,w,md⟩)
 |0,m+1,st,_,_,_=>by
   have h1:(0<=(-1:Int))=False:=by simp
   have hr:AV.ah aO<=6:=by omega
   have jr:min md 4=md:=dn 4 (by omega);have jt:min md 6=md:=dn 6 (by omega);have uB:=aU st;simp[ag,bH,hr,uB,hw]
 |i+1,m+1,st,hi,hm,hl=>by
   have hr:AV.ah aO<=6:=by omega
   have jr:min md 4=md:=dn 4 (by omega);have jt:min md 6=md:=dn 6 (by omega);obtain⟨x,hx⟩:∃x,X.aa[i]? =some x:=⟨X.aa[i]'(by omega),by simp⟩
   have ih:=yW C n g aO hc X os md dn w hw i m (st++[x]) (by omega) (by omega) (by simp;omega);obtain⟨ha,hX,h5,dJ,fx,cI⟩:=dw hx;have uB:=aU st;have DS:=cG st;have w1:IntKind.i64.wrap ((i:Int)-1)=(i:Int)-1:=wrap_i64 (by omega) (by omega);have t1:(0<=(i:Int))=True:=eq_true (by omega);have b1:(st.length+1)*56<=140737488355328:=by omega
   have b2:st.length+1<9223372036854775808:=by omega
   have nS:X.aa.take (i+1)=X.aa.take i++[x]:=by rw[List.take_add_one,hx];rfl
   have p9:ay (st++[x])=ay st++[.int .i64 x.aj,.int .i64 x.bj,.str x.az,x.bh]:=by simp[ay,Tm.cells]
   have yO:List.take (st.length*4) (ay st)=ay st:=List.take_of_length_le (by omega);have mh:AV.ah (ay st++[.int .i64 x.aj,.int .i64 x.bj,.str x.az,x.bh])=0:=by rw[<-p9];exact aU _
   rw[nS,List.reverse_append];simp only[List.length_append,List.length_cons,List.length_nil,Nat.zero_add,List.append_assoc,p9] at ih;have e1:st.length+1+i=st.length+(i+1):=by omega
   rw[e1] at ih;have e2:((i+1:Nat):Int)-1=(i:Int):=by omega
   rw[e2,ag];rw[hX] at ih|-;simp[bH,bn,h5,hx,dJ,fx,cI,uB,DS,w1,t1,b1,b2,hr,yO,mh,jr,jt,aG];exact ih
theorem HG{R:List AV}{st:List Tm}{lb:Nat}(hR:R.length=lb*4)(ht:R.take (st.length*4)=ay st)(p8:st.length+1<=lb)(x:Tm):
 (putAt R (st.length*4) x.cells).length=lb*4/\(putAt R (st.length*4) x.cells).take ((st++[x]).length*4)=ay (st++[x]):=by
 have hc:x.cells.length=4:=rfl;have h1:st.length*4+x.cells.length<=R.length:=by omega
 refine⟨?_,?_⟩
 .rw[mT x.cells R _ h1];simp only[List.length_append,List.length_take,List.length_drop];omega
 .have:=kL x.cells h1;rw[List.length_append,show (st.length+[x].length)*4=st.length*4+x.cells.length by simp[hc];omega,this,ht];simp[ay]
theorem xI(C:Nat->List AV->af->Option (AV×af))(n g:Nat)(aO:List AV)(hc:AV.ah aO<=2)(X:Tm)(os:List aT)(md:Nat)(dn:∀k,2<=k->min md k=md)(w:Nat)(hw:min w 6=w)(lb:Nat):∀(i m:Nat) (st:List Tm) (R:List AV),i<=X.aa.length->i<m->st.length+i<=lb->lb<1000000000000->R.length=lb*4->R.take (st.length*4)=ay st->AV.ah R=0->
 ∃R',R'.length=lb*4/\R'.take ((st.length+i)*4)=ay (st++(X.aa.take i).reverse)/\AV.ah R'=0/\
 il 6 w (bP (aC C n bH) bn 6 m (gC (.fn g aO) (.vec 4 0 st.length 4 lb) (.ptr 5 0) (.int .i64 ((i:Int)-1))) ⟨6,.row X.cells::.row R::os,6,md⟩)=
  some (.exit 2,FM 44 [(1,.fn g aO),(5,.vec 4 0 (st.length+i) 4 lb)],⟨6,.row X.cells::.row R'::os,w,md⟩)
 |0,m+1,st,R,_,_,_,_,hR,ht,fj=>by
   have h1:(0<=(-1:Int))=False:=by simp
   have hr:AV.ah aO<=6:=by omega
   have jr:min md 4=md:=dn 4 (by omega);have jt:min md 6=md:=dn 6 (by omega);refine⟨R,hR,by simpa using ht,fj,?_⟩;simp[ag,bH,hr,hw]
 |i+1,m+1,st,R,hi,hm,p8,hl,hR,ht,fj=>by
   have hr:AV.ah aO<=6:=by omega
   have jr:min md 4=md:=dn 4 (by omega);have jt:min md 6=md:=dn 6 (by omega);obtain⟨x,hx⟩:∃x,X.aa[i]? =some x:=⟨X.aa[i]'(by omega),by simp⟩
   obtain⟨p1,p2⟩:=HG hR ht (by omega) x;have p3:=fH fj x (st.length*4) (by omega);obtain⟨R',r1,r2,r3,ih⟩:=xI C n g aO hc X os md dn w hw lb i m (st++[x]) (putAt R (st.length*4) x.cells) (by omega) (by omega) (by simp;omega) hl p1 p2 p3;have e1:(st++[x]).length+i=st.length+(i+1):=by simp;omega
   have nS:X.aa.take (i+1)=X.aa.take i++[x]:=by rw[List.take_add_one,hx];rfl
   refine⟨R',r1,?_,r3,?_⟩
   .rw[nS,List.reverse_append,<-e1,r2];simp[List.append_assoc]
   obtain⟨ha,hX,h5,dJ,fx,cI⟩:=dw hx;have w1:IntKind.i64.wrap ((i:Int)-1)=(i:Int)-1:=wrap_i64 (by omega) (by omega);have t1:(0<=(i:Int))=True:=eq_true (by omega);have b1:st.length*4<=R.length:=by omega
   have b2:st.length+1<=lb:=by omega
   have b3:(st.length+1)*4<=R.length:=by omega
   have xw:putAt [.int .i64 0,.int .i64 0,.str [],.aF] 0 [.int .i64 x.aj,.int .i64 x.bj,.str x.az,x.bh]=[.int .i64 x.aj,.int .i64 x.bj,.str x.az,x.bh]:=rfl;have pg:(st++[x]).length=st.length+1:=by simp
   rw[pg,show st.length+1+i=st.length+(i+1) by omega] at ih;have e2:((i+1:Nat):Int)-1=(i:Int):=by omega
   rw[e2,ag];rw[hX,fx] at ih;rw[hX];simp[bH,bn,h5,hx,dJ,fx,cI,w1,t1,b1,b2,b3,hr,jr,jt,fj,xw,aG,-eH];exact ih
theorem xT(C:Nat->List AV->af->Option (AV×af))(n g:Nat)(aO:List AV)(hc:AV.ah aO<=2)(X:Tm)(os:List aT)(md:Nat)(dn:∀k,2<=k->min md k=md)(w:Nat)(hw:min w 6=w)(lb:Nat):∀(i m:Nat) (st:List Tm) (R:List AV),i<=X.aa.length->i<m->st.length<=lb->lb<st.length+i->st.length+i<1000000000000->R.length=lb*4->R.take (st.length*4)=ay st->AV.ah R=0->
 il 6 w (bP (aC C n bH) bn 6 m (gC (.fn g aO) (.vec 4 0 st.length 4 lb) (.ptr 5 0) (.int .i64 ((i:Int)-1))) ⟨6,.row X.cells::.row R::os,6,md⟩)=
  some (.exit 2,FM 44 [(1,.fn g aO),(5,.vec 6 0 (st.length+i) 4 (st.length+i))],⟨7,.row (ay (st++(X.aa.take i).reverse))::.row X.cells::.dead::os,w,md⟩)
 |0,m,st,R,_,_,h1,h2,_,_,_,_=>by omega
 |i+1,0,st,R,_,h,_,_,_,_,_,_=>by omega
 |i+1,m+1,st,R,hi,hm,h1,h2,hl,hR,ht,fj=>by
   have hr:AV.ah aO<=6:=by omega
   have jr:min md 4=md:=dn 4 (by omega);have jt:min md 6=md:=dn 6 (by omega);obtain⟨x,hx⟩:∃x,X.aa[i]? =some x:=⟨X.aa[i]'(by omega),by simp⟩
   have nS:X.aa.take (i+1)=X.aa.take i++[x]:=by rw[List.take_add_one,hx];rfl
   obtain⟨ha,hX,h5,dJ,fx,cI⟩:=dw hx;have w1:IntKind.i64.wrap ((i:Int)-1)=(i:Int)-1:=wrap_i64 (by omega) (by omega);have t1:(0<=(i:Int))=True:=eq_true (by omega);have b1:st.length*4<=R.length:=by omega
   have xw:putAt [.int .i64 0,.int .i64 0,.str [],.aF] 0 [.int .i64 x.aj,.int .i64 x.bj,.str x.az,x.bh]=[.int .i64 x.aj,.int .i64 x.bj,.str x.az,x.bh]:=rfl;have pg:(st++[x]).length=st.length+1:=by simp
   have e2:((i+1:Nat):Int)-1=(i:Int):=by omega
   by_cases fR:st.length+1<=lb
   .obtain⟨p1,p2⟩:=HG hR ht (by omega) x;have p3:=fH fj x (st.length*4) (by omega);have ih:=xT C n g aO hc X os md dn w hw lb i m (st++[x]) (putAt R (st.length*4) x.cells) (by omega) (by omega) (by omega) (by omega) (by omega) p1 p2 p3;have b3:(st.length+1)*4<=R.length:=by omega
    rw[pg,show st.length+1+i=st.length+(i+1) by omega] at ih;rw[e2,ag,nS,List.reverse_append];rw[hX,fx] at ih;rw[hX];simp only[List.append_assoc] at ih;simp[bH,bn,h5,hx,dJ,fx,cI,w1,t1,b1,fR,b3,hr,jr,jt,fj,xw,aG,-eH];exact ih
   .have p8:lb=st.length:=by omega
    have ih:=yW C n g aO hc X os md dn w hw i m (st++[x]) (by omega) (by omega) (by omega);have c1:(st.length+1)*56<=140737488355328:=by omega
    have c2:st.length+1<9223372036854775808:=by omega
    have p9:ay (st++[x])=ay st++[.int .i64 x.aj,.int .i64 x.bj,.str x.az,x.bh]:=by simp[ay,Tm.cells]
    have mh:AV.ah (ay st++[.int .i64 x.aj,.int .i64 x.bj,.str x.az,x.bh])=0:=by rw[<-p9];exact aU _
    rw[pg,show st.length+1+i=st.length+(i+1) by omega,p9] at ih;rw[e2,ag,nS,List.reverse_append];rw[hX] at ih|-;simp only[List.append_assoc] at ih;simp[bH,bn,h5,hx,dJ,fx,cI,w1,t1,b1,fR,c1,c2,hr,jr,jt,fj,ht,mh,aG];exact ih
theorem An(C:Nat->List AV->af->Option (AV×af))(n g:Nat)(aO:List AV)(hc:AV.ah aO<=1)(X:Tm)(os:List aT)(md:Nat)(dn:∀k,1<=k->min md k=md)(w:Nat)(hw:min w 4=w):∀(i m:Nat) (st:List Tm),i<=X.aa.length->i<m->st.length+i<1000000000000->
 il 4 w (bP (aC C n bH) bn 4 m (gC (.fn g aO) (.vec 4 0 st.length 4 st.length) (.ptr 3 0) (.int .i64 ((i:Int)-1))) ⟨5,.row (ay st)::.row X.cells::.dead::os,4,md⟩)=
  some (.exit 2,FM 44 [(1,.fn g aO),(5,.vec 4 0 (st.length+i) 4 (st.length+i))],⟨5,.row (ay (st++(X.aa.take i).reverse))::.row X.cells::.dead::os,w,md⟩)
 |0,m+1,st,_,_,_=>by
   have h1:(0<=(-1:Int))=False:=by simp
   have hr:AV.ah aO<=4:=by omega
   have jr:min md 2=md:=dn 2 (by omega);have jt:min md 4=md:=dn 4 (by omega);have uB:=aU st;simp[ag,bH,hr,uB,hw]
 |i+1,m+1,st,hi,hm,hl=>by
   have hr:AV.ah aO<=4:=by omega
   have jr:min md 2=md:=dn 2 (by omega);have jt:min md 4=md:=dn 4 (by omega);obtain⟨x,hx⟩:∃x,X.aa[i]? =some x:=⟨X.aa[i]'(by omega),by simp⟩
   have ih:=An C n g aO hc X os md dn w hw i m (st++[x]) (by omega) (by omega) (by simp;omega);obtain⟨ha,hX,h5,dJ,fx,cI⟩:=dw hx;have uB:=aU st;have DS:=cG st;have w1:IntKind.i64.wrap ((i:Int)-1)=(i:Int)-1:=wrap_i64 (by omega) (by omega);have t1:(0<=(i:Int))=True:=eq_true (by omega);have b1:(st.length+1)*56<=140737488355328:=by omega
   have b2:st.length+1<9223372036854775808:=by omega
   have nS:X.aa.take (i+1)=X.aa.take i++[x]:=by rw[List.take_add_one,hx];rfl
   have p9:ay (st++[x])=ay st++[.int .i64 x.aj,.int .i64 x.bj,.str x.az,x.bh]:=by simp[ay,Tm.cells]
   have yO:List.take (st.length*4) (ay st)=ay st:=List.take_of_length_le (by omega);have mh:AV.ah (ay st++[.int .i64 x.aj,.int .i64 x.bj,.str x.az,x.bh])=0:=by rw[<-p9];exact aU _
   rw[nS,List.reverse_append];simp only[List.length_append,List.length_cons,List.length_nil,Nat.zero_add,List.append_assoc,p9] at ih;have e1:st.length+1+i=st.length+(i+1):=by omega
   rw[e1] at ih;have e2:((i+1:Nat):Int)-1=(i:Int):=by omega
   rw[e2,ag];rw[hX] at ih|-;simp[bH,bn,h5,hx,dJ,fx,cI,uB,DS,w1,t1,b1,b2,hr,yO,mh,jr,jt,aG];exact ih
theorem Hl{R:List AV}{st:List Tm}{lb:Nat}(hR:R.length=lb*4)(ht:R.take (st.length*4)=ay st)(p8:st.length+1<=lb)(x:Tm):
 (putAt R (st.length*4) x.cells).length=lb*4/\(putAt R (st.length*4) x.cells).take ((st++[x]).length*4)=ay (st++[x]):=by
 have hc:x.cells.length=4:=rfl;have h1:st.length*4+x.cells.length<=R.length:=by omega
 refine⟨?_,?_⟩
 .rw[mT x.cells R _ h1];simp only[List.length_append,List.length_take,List.length_drop];omega
 .have:=kL x.cells h1;rw[List.length_append,show (st.length+[x].length)*4=st.length*4+x.cells.length by simp[hc];omega,this,ht];simp[ay]
theorem xJ(C:Nat->List AV->af->Option (AV×af))(n g:Nat)(aO:List AV)(hc:AV.ah aO<=1)(X:Tm)(os:List aT)(md:Nat)(dn:∀k,1<=k->min md k=md)(w:Nat)(hw:min w 4=w)(lb:Nat):∀(i m:Nat) (st:List Tm) (R:List AV),i<=X.aa.length->i<m->st.length+i<=lb->lb<1000000000000->R.length=lb*4->R.take (st.length*4)=ay st->AV.ah R=0->
 ∃R',R'.length=lb*4/\R'.take ((st.length+i)*4)=ay (st++(X.aa.take i).reverse)/\AV.ah R'=0/\
 il 4 w (bP (aC C n bH) bn 4 m (gC (.fn g aO) (.vec 2 0 st.length 4 lb) (.ptr 3 0) (.int .i64 ((i:Int)-1))) ⟨4,.row X.cells::.row R::os,4,md⟩)=
  some (.exit 2,FM 44 [(1,.fn g aO),(5,.vec 2 0 (st.length+i) 4 lb)],⟨4,.row X.cells::.row R'::os,w,md⟩)
 |0,m+1,st,R,_,_,_,_,hR,ht,fj=>by
   have h1:(0<=(-1:Int))=False:=by simp
   have hr:AV.ah aO<=4:=by omega
   have jr:min md 2=md:=dn 2 (by omega);have jt:min md 4=md:=dn 4 (by omega);refine⟨R,hR,by simpa using ht,fj,?_⟩;simp[ag,bH,hr,hw]
 |i+1,m+1,st,R,hi,hm,p8,hl,hR,ht,fj=>by
   have hr:AV.ah aO<=4:=by omega
   have jr:min md 2=md:=dn 2 (by omega);have jt:min md 4=md:=dn 4 (by omega);obtain⟨x,hx⟩:∃x,X.aa[i]? =some x:=⟨X.aa[i]'(by omega),by simp⟩
   obtain⟨p1,p2⟩:=Hl hR ht (by omega) x;have p3:=fH fj x (st.length*4) (by omega);obtain⟨R',r1,r2,r3,ih⟩:=xJ C n g aO hc X os md dn w hw lb i m (st++[x]) (putAt R (st.length*4) x.cells) (by omega) (by omega) (by simp;omega) hl p1 p2 p3;have e1:(st++[x]).length+i=st.length+(i+1):=by simp;omega
   have nS:X.aa.take (i+1)=X.aa.take i++[x]:=by rw[List.take_add_one,hx];rfl
   refine⟨R',r1,?_,r3,?_⟩
   .rw[nS,List.reverse_append,<-e1,r2];simp[List.append_assoc]
   obtain⟨ha,hX,h5,dJ,fx,cI⟩:=dw hx;have w1:IntKind.i64.wrap ((i:Int)-1)=(i:Int)-1:=wrap_i64 (by omega) (by omega);have t1:(0<=(i:Int))=True:=eq_true (by omega);have b1:st.length*4<=R.length:=by omega
   have b2:st.length+1<=lb:=by omega
   have b3:(st.length+1)*4<=R.length:=by omega
   have xw:putAt [.int .i64 0,.int .i64 0,.str [],.aF] 0 [.int .i64 x.aj,.int .i64 x.bj,.str x.az,x.bh]=[.int .i64 x.aj,.int .i64 x.bj,.str x.az,x.bh]:=rfl;have pg:(st++[x]).length=st.length+1:=by simp
   rw[pg,show st.length+1+i=st.length+(i+1) by omega] at ih;have e2:((i+1:Nat):Int)-1=(i:Int):=by omega
   rw[e2,ag];rw[hX,fx] at ih;rw[hX];simp[bH,bn,h5,hx,dJ,fx,cI,w1,t1,b1,b2,b3,hr,jr,jt,fj,xw,aG,-eH];exact ih
theorem xL(C:Nat->List AV->af->Option (AV×af))(n g:Nat)(aO:List AV)(hc:AV.ah aO<=1)(X:Tm)(os:List aT)(md:Nat)(dn:∀k,1<=k->min md k=md)(w:Nat)(hw:min w 4=w)(lb:Nat):∀(i m:Nat) (st:List Tm) (R:List AV),i<=X.aa.length->i<m->st.length<=lb->lb<st.length+i->st.length+i<1000000000000->R.length=lb*4->R.take (st.length*4)=ay st->AV.ah R=0->
 il 4 w (bP (aC C n bH) bn 4 m (gC (.fn g aO) (.vec 2 0 st.length 4 lb) (.ptr 3 0) (.int .i64 ((i:Int)-1))) ⟨4,.row X.cells::.row R::os,4,md⟩)=
  some (.exit 2,FM 44 [(1,.fn g aO),(5,.vec 4 0 (st.length+i) 4 (st.length+i))],⟨5,.row (ay (st++(X.aa.take i).reverse))::.row X.cells::.dead::os,w,md⟩)
 |0,m,st,R,_,_,h1,h2,_,_,_,_=>by omega
 |i+1,0,st,R,_,h,_,_,_,_,_,_=>by omega
 |i+1,m+1,st,R,hi,hm,h1,h2,hl,hR,ht,fj=>by
   have hr:AV.ah aO<=4:=by omega
   have jr:min md 2=md:=dn 2 (by omega);have jt:min md 4=md:=dn 4 (by omega);obtain⟨x,hx⟩:∃x,X.aa[i]? =some x:=⟨X.aa[i]'(by omega),by simp⟩
   have nS:X.aa.take (i+1)=X.aa.take i++[x]:=by rw[List.take_add_one,hx];rfl
   obtain⟨ha,hX,h5,dJ,fx,cI⟩:=dw hx;have w1:IntKind.i64.wrap ((i:Int)-1)=(i:Int)-1:=wrap_i64 (by omega) (by omega);have t1:(0<=(i:Int))=True:=eq_true (by omega);have b1:st.length*4<=R.length:=by omega
   have xw:putAt [.int .i64 0,.int .i64 0,.str [],.aF] 0 [.int .i64 x.aj,.int .i64 x.bj,.str x.az,x.bh]=[.int .i64 x.aj,.int .i64 x.bj,.str x.az,x.bh]:=rfl;have pg:(st++[x]).length=st.length+1:=by simp
   have e2:((i+1:Nat):Int)-1=(i:Int):=by omega
   by_cases fR:st.length+1<=lb
   .obtain⟨p1,p2⟩:=Hl hR ht (by omega) x;have p3:=fH fj x (st.length*4) (by omega);have ih:=xL C n g aO hc X os md dn w hw lb i m (st++[x]) (putAt R (st.length*4) x.cells) (by omega) (by omega) (by omega) (by omega) (by omega) p1 p2 p3;have b3:(st.length+1)*4<=R.length:=by omega
    rw[pg,show st.length+1+i=st.length+(i+1) by omega] at ih;rw[e2,ag,nS,List.reverse_append];rw[hX,fx] at ih;rw[hX];simp only[List.append_assoc] at ih;simp[bH,bn,h5,hx,dJ,fx,cI,w1,t1,b1,fR,b3,hr,jr,jt,fj,xw,aG,-eH];exact ih
   .have p8:lb=st.length:=by omega
    have ih:=An C n g aO hc X os md dn w hw i m (st++[x]) (by omega) (by omega) (by omega);have c1:(st.length+1)*56<=140737488355328:=by omega
    have c2:st.length+1<9223372036854775808:=by omega
    have p9:ay (st++[x])=ay st++[.int .i64 x.aj,.int .i64 x.bj,.str x.az,x.bh]:=by simp[ay,Tm.cells]
    have mh:AV.ah (ay st++[.int .i64 x.aj,.int .i64 x.bj,.str x.az,x.bh])=0:=by rw[<-p9];exact aU _
    rw[pg,show st.length+1+i=st.length+(i+1) by omega,p9] at ih;rw[e2,ag,nS,List.reverse_append];rw[hX] at ih|-;simp only[List.append_assoc] at ih;simp[bH,bn,h5,hx,dJ,fx,cI,w1,t1,b1,fR,c1,c2,hr,jr,jt,fj,ht,mh,aG];exact ih
theorem zK(C:Nat->List AV->af->Option (AV×af))(n g:Nat)(aO:List AV)(hc:AV.ah aO<=1)(X:Tm)(os:List aT)(md:Nat)(dn:∀k,1<=k->min md k=md)(w:Nat)(hw:min w 5=w):∀(i m:Nat) (st:List Tm),i<=X.aa.length->i<m->st.length+i<1000000000000->
 il 5 w (bP (aC C n bH) bn 5 m (gC (.fn g aO) (.vec 5 0 st.length 4 st.length) (.ptr 4 0) (.int .i64 ((i:Int)-1))) ⟨6,.row (ay st)::.row X.cells::.dead::os,5,md⟩)=
  some (.exit 2,FM 44 [(1,.fn g aO),(5,.vec 5 0 (st.length+i) 4 (st.length+i))],⟨6,.row (ay (st++(X.aa.take i).reverse))::.row X.cells::.dead::os,w,md⟩)
 |0,m+1,st,_,_,_=>by
   have h1:(0<=(-1:Int))=False:=by simp
   have hr:AV.ah aO<=5:=by omega
   have jr:min md 3=md:=dn 3 (by omega);have jt:min md 5=md:=dn 5 (by omega);have uB:=aU st;simp[ag,bH,hr,uB,hw]
 |i+1,m+1,st,hi,hm,hl=>by
   have hr:AV.ah aO<=5:=by omega
   have jr:min md 3=md:=dn 3 (by omega);have jt:min md 5=md:=dn 5 (by omega);obtain⟨x,hx⟩:∃x,X.aa[i]? =some x:=⟨X.aa[i]'(by omega),by simp⟩
   have ih:=zK C n g aO hc X os md dn w hw i m (st++[x]) (by omega) (by omega) (by simp;omega);obtain⟨ha,hX,h5,dJ,fx,cI⟩:=dw hx;have uB:=aU st;have DS:=cG st;have w1:IntKind.i64.wrap ((i:Int)-1)=(i:Int)-1:=wrap_i64 (by omega) (by omega);have t1:(0<=(i:Int))=True:=eq_true (by omega);have b1:(st.length+1)*56<=140737488355328:=by omega
   have b2:st.length+1<9223372036854775808:=by omega
   have nS:X.aa.take (i+1)=X.aa.take i++[x]:=by rw[List.take_add_one,hx];rfl
   have p9:ay (st++[x])=ay st++[.int .i64 x.aj,.int .i64 x.bj,.str x.az,x.bh]:=by simp[ay,Tm.cells]
   have yO:List.take (st.length*4) (ay st)=ay st:=List.take_of_length_le (by omega);have mh:AV.ah (ay st++[.int .i64 x.aj,.int .i64 x.bj,.str x.az,x.bh])=0:=by rw[<-p9];exact aU _
   rw[nS,List.reverse_append];simp only[List.length_append,List.length_cons,List.length_nil,Nat.zero_add,List.append_assoc,p9] at ih;have e1:st.length+1+i=st.length+(i+1):=by omega
   rw[e1] at ih;have e2:((i+1:Nat):Int)-1=(i:Int):=by omega
   rw[e2,ag];rw[hX] at ih|-;simp[bH,bn,h5,hx,dJ,fx,cI,uB,DS,w1,t1,b1,b2,hr,yO,mh,jr,jt,aG];exact ih
theorem Hv{R:List AV}{st:List Tm}{lb:Nat}(hR:R.length=lb*4)(ht:R.take (st.length*4)=ay st)(p8:st.length+1<=lb)(x:Tm):
 (putAt R (st.length*4) x.cells).length=lb*4/\(putAt R (st.length*4) x.cells).take ((st++[x]).length*4)=ay (st++[x]):=by
 have hc:x.cells.length=4:=rfl;have h1:st.length*4+x.cells.length<=R.length:=by omega
 refine⟨?_,?_⟩
 .rw[mT x.cells R _ h1];simp only[List.length_append,List.length_take,List.length_drop];omega
 .have:=kL x.cells h1;rw[List.length_append,show (st.length+[x].length)*4=st.length*4+x.cells.length by simp[hc];omega,this,ht];simp[ay]
theorem xG(C:Nat->List AV->af->Option (AV×af))(n g:Nat)(aO:List AV)(hc:AV.ah aO<=1)(X:Tm)(os:List aT)(md:Nat)(dn:∀k,1<=k->min md k=md)(w:Nat)(hw:min w 5=w)(lb:Nat):∀(i m:Nat) (st:List Tm) (R:List AV),i<=X.aa.length->i<m->st.length+i<=lb->lb<1000000000000->R.length=lb*4->R.take (st.length*4)=ay st->AV.ah R=0->
 ∃R',R'.length=lb*4/\R'.take ((st.length+i)*4)=ay (st++(X.aa.take i).reverse)/\AV.ah R'=0/\
 il 5 w (bP (aC C n bH) bn 5 m (gC (.fn g aO) (.vec 3 0 st.length 4 lb) (.ptr 4 0) (.int .i64 ((i:Int)-1))) ⟨5,.row X.cells::.row R::os,5,md⟩)=
  some (.exit 2,FM 44 [(1,.fn g aO),(5,.vec 3 0 (st.length+i) 4 lb)],⟨5,.row X.cells::.row R'::os,w,md⟩)
 |0,m+1,st,R,_,_,_,_,hR,ht,fj=>by
   have h1:(0<=(-1:Int))=False:=by simp
   have hr:AV.ah aO<=5:=by omega
   have jr:min md 3=md:=dn 3 (by omega);have jt:min md 5=md:=dn 5 (by omega);refine⟨R,hR,by simpa using ht,fj,?_⟩;simp[ag,bH,hr,hw]
 |i+1,m+1,st,R,hi,hm,p8,hl,hR,ht,fj=>by
   have hr:AV.ah aO<=5:=by omega
   have jr:min md 3=md:=dn 3 (by omega);have jt:min md 5=md:=dn 5 (by omega);obtain⟨x,hx⟩:∃x,X.aa[i]? =some x:=⟨X.aa[i]'(by omega),by simp⟩
   obtain⟨p1,p2⟩:=Hv hR ht (by omega) x;have p3:=fH fj x (st.length*4) (by omega);obtain⟨R',r1,r2,r3,ih⟩:=xG C n g aO hc X os md dn w hw lb i m (st++[x]) (putAt R (st.length*4) x.cells) (by omega) (by omega) (by simp;omega) hl p1 p2 p3;have e1:(st++[x]).length+i=st.length+(i+1):=by simp;omega
   have nS:X.aa.take (i+1)=X.aa.take i++[x]:=by rw[List.take_add_one,hx];rfl
   refine⟨R',r1,?_,r3,?_⟩
   .rw[nS,List.reverse_append,<-e1,r2];simp[List.append_assoc]
   obtain⟨ha,hX,h5,dJ,fx,cI⟩:=dw hx;have w1:IntKind.i64.wrap ((i:Int)-1)=(i:Int)-1:=wrap_i64 (by omega) (by omega);have t1:(0<=(i:Int))=True:=eq_true (by omega);have b1:st.length*4<=R.length:=by omega
   have b2:st.length+1<=lb:=by omega
   have b3:(st.length+1)*4<=R.length:=by omega
   have xw:putAt [.int .i64 0,.int .i64 0,.str [],.aF] 0 [.int .i64 x.aj,.int .i64 x.bj,.str x.az,x.bh]=[.int .i64 x.aj,.int .i64 x.bj,.str x.az,x.bh]:=rfl;have pg:(st++[x]).length=st.length+1:=by simp
   rw[pg,show st.length+1+i=st.length+(i+1) by omega] at ih;have e2:((i+1:Nat):Int)-1=(i:Int):=by omega
   rw[e2,ag];rw[hX,fx] at ih;rw[hX];simp[bH,bn,h5,hx,dJ,fx,cI,w1,t1,b1,b2,b3,hr,jr,jt,fj,xw,aG,-eH];exact ih
theorem xS(C:Nat->List AV->af->Option (AV×af))(n g:Nat)(aO:List AV)(hc:AV.ah aO<=1)(X:Tm)(os:List aT)(md:Nat)(dn:∀k,1<=k->min md k=md)(w:Nat)(hw:min w 5=w)(lb:Nat):∀(i m:Nat) (st:List Tm) (R:List AV),i<=X.aa.length->i<m->st.length<=lb->lb<st.length+i->st.length+i<1000000000000->R.length=lb*4->R.take (st.length*4)=ay st->AV.ah R=0->
 il 5 w (bP (aC C n bH) bn 5 m (gC (.fn g aO) (.vec 3 0 st.length 4 lb) (.ptr 4 0) (.int .i64 ((i:Int)-1))) ⟨5,.row X.cells::.row R::os,5,md⟩)=
  some (.exit 2,FM 44 [(1,.fn g aO),(5,.vec 5 0 (st.length+i) 4 (st.length+i))],⟨6,.row (ay (st++(X.aa.take i).reverse))::.row X.cells::.dead::os,w,md⟩)
 |0,m,st,R,_,_,h1,h2,_,_,_,_=>by omega
 |i+1,0,st,R,_,h,_,_,_,_,_,_=>by omega
 |i+1,m+1,st,R,hi,hm,h1,h2,hl,hR,ht,fj=>by
   have hr:AV.ah aO<=5:=by omega
   have jr:min md 3=md:=dn 3 (by omega);have jt:min md 5=md:=dn 5 (by omega);obtain⟨x,hx⟩:∃x,X.aa[i]? =some x:=⟨X.aa[i]'(by omega),by simp⟩
   have nS:X.aa.take (i+1)=X.aa.take i++[x]:=by rw[List.take_add_one,hx];rfl
   obtain⟨ha,hX,h5,dJ,fx,cI⟩:=dw hx;have w1:IntKind.i64.wrap ((i:Int)-1)=(i:Int)-1:=wrap_i64 (by omega) (by omega);have t1:(0<=(i:Int))=True:=eq_true (by omega);have b1:st.length*4<=R.length:=by omega
   have xw:putAt [.int .i64 0,.int .i64 0,.str [],.aF] 0 [.int .i64 x.aj,.int .i64 x.bj,.str x.az,x.bh]=[.int .i64 x.aj,.int .i64 x.bj,.str x.az,x.bh]:=rfl;have pg:(st++[x]).length=st.length+1:=by simp
   have e2:((i+1:Nat):Int)-1=(i:Int):=by omega
   by_cases fR:st.length+1<=lb
   .obtain⟨p1,p2⟩:=Hv hR ht (by omega) x;have p3:=fH fj x (st.length*4) (by omega);have ih:=xS C n g aO hc X os md dn w hw lb i m (st++[x]) (putAt R (st.length*4) x.cells) (by omega) (by omega) (by omega) (by omega) (by omega) p1 p2 p3;have b3:(st.length+1)*4<=R.length:=by omega
    rw[pg,show st.length+1+i=st.length+(i+1) by omega] at ih;rw[e2,ag,nS,List.reverse_append];rw[hX,fx] at ih;rw[hX];simp only[List.append_assoc] at ih;simp[bH,bn,h5,hx,dJ,fx,cI,w1,t1,b1,fR,b3,hr,jr,jt,fj,xw,aG,-eH];exact ih
   .have p8:lb=st.length:=by omega
    have ih:=zK C n g aO hc X os md dn w hw i m (st++[x]) (by omega) (by omega) (by omega);have c1:(st.length+1)*56<=140737488355328:=by omega
    have c2:st.length+1<9223372036854775808:=by omega
    have p9:ay (st++[x])=ay st++[.int .i64 x.aj,.int .i64 x.bj,.str x.az,x.bh]:=by simp[ay,Tm.cells]
    have mh:AV.ah (ay st++[.int .i64 x.aj,.int .i64 x.bj,.str x.az,x.bh])=0:=by rw[<-p9];exact aU _
    rw[pg,show st.length+1+i=st.length+(i+1) by omega,p9] at ih;rw[e2,ag,nS,List.reverse_append];rw[hX] at ih|-;simp only[List.append_assoc] at ih;simp[bH,bn,h5,hx,dJ,fx,cI,w1,t1,b1,fR,c1,c2,hr,jr,jt,fj,ht,mh,aG];exact ih
theorem tC{σ:Type}(C:Nat->List AV->af->Option (AV×af))(n g:Nat)(aO:List AV)(hc:AV.ah aO<=2)(fs:Tm->σ->Bool×σ)(tl:σ->List aT)(T:Tm)(mf:Nat->Nat)
 (KC:Tm->Prop) (KD:∀x,KC x->∀y∈x.aa,KC y) (Ob:σ->Prop) (KE:∀s x,Ob s->(fs x s).1=true->Ob (fs x s).2) (qe:Nat->Prop) (hmf:∀md,qe md->qe (mf md)) (dn:∀md,qe md->∀k,2<=k->min md k=md) (w:Nat) (hw:min w 4=w)
 (hA:∀s x R md,KC x->Ob s->qe md->C g (x.aL::aO) ⟨5,.row x.cells::.row R::.row T.cells::tl s,4,md⟩=some (.bool (fs x s).1,⟨5,.row x.cells::.row R::.row T.cells::tl (fs x s).2,4,mf md⟩))
 (hB:∀s x R md,KC x->Ob s->qe md->C g (x.aL::aO) ⟨6,.row x.cells::.row R::.dead::.row T.cells::tl s,4,md⟩=some (.bool (fs x s).1,⟨6,.row x.cells::.row R::.dead::.row T.cells::tl (fs x s).2,4,mf md⟩)):
 ∀(d m:Nat) (rs:List Tm) (R:List AV) (lb:Nat) (s:σ) (md:Nat),Tm.br rs<d->d<=m->d<=n->Tm.br rs<1000000000->lb<1000000000->rs.length<=lb->R.length=lb*4->R.take (rs.length*4)=ay rs.reverse->AV.ah R=0->(∀x∈rs,KC x)->Ob s->qe md->
 (∃Y cH,qe cH/\il 4 w (bP (aC C n dr) dL 4 m (pC (.fn g aO) (.vec 3 0 rs.length 4 lb)) ⟨4,.row R::.row T.cells::tl s,4,md⟩)=
  some (if (fN fs d rs s).1 then .exit 0 else .ret,if (fN fs d rs s).1 then FM 44 [] else FM 44 [(4,.bool false)],⟨4,Y::.row T.cells::tl (fN fs d rs s).2,w,cH⟩))/\
 (∃Y cH,qe cH/\il 4 w (bP (aC C n dr) dL 4 m (pC (.fn g aO) (.vec 4 0 rs.length 4 lb)) ⟨5,.row R::.dead::.row T.cells::tl s,4,md⟩)=
  some (if (fN fs d rs s).1 then .exit 0 else .ret,if (fN fs d rs s).1 then FM 44 [] else FM 44 [(4,.bool false)],⟨4,Y::.row T.cells::tl (fN fs d rs s).2,w,cH⟩))
 |0,m,rs,R,lb,s,md,h,_,_,_,_,_,_,_,_,_,_,_=>by omega
 |d+1,0,rs,R,lb,s,md,_,h,_,_,_,_,_,_,_,_,_,_=>by omega
 |d+1,m+1,[],R,lb,s,md,_,_,_,_,_,_,hR,ht,fj,GC,SM,cT=>by
   have hr:AV.ah aO<=4:=by omega
   refine⟨⟨.row R,md,cT,?_⟩,⟨.dead,md,cT,?_⟩⟩
   .simp[ag,dr,fN,hr,fj,hw]
   .simp[ag,dr,fN,hr,fj,hw]
 |d+1,m+1,x::rs,R,lb,s,md,hd,hm,hn,iE,p8,dI,hR,ht,fj,GC,SM,cT=>by
   have hr:AV.ah aO<=4:=by omega
   have mH:AV.ah aO<=5:=by omega
   have hsx:=bJ x;simp only[Tm.br] at hd iE;have ZO:=dE x.aa;have hlr:=dE rs;have hs2:Tm.br (x.aa++rs)=Tm.br x.aa+Tm.br rs:=mm _ _;rw[List.length_cons] at dI ht;rw[List.reverse_cons] at ht;have oI:rs.reverse.length=rs.length:=List.length_reverse;rw[<-oI] at ht;obtain⟨t1,t2⟩:=Fc ht;rw[oI] at t1 t2;have uD:=hmf md cT;have w1:IntKind.i64.wrap (rs.length:Int)=(rs.length:Int):=wrap_i64 (by omega) (by omega);have b1:(0<(rs.length:Int)+1)=True:=eq_true (by omega);have b2:rs.length*4+4<=R.length:=by omega
   have m1:min md 4=md:=dn md cT 4 (by omega);have m2:min md 5=md:=dn md cT 5 (by omega);have b3:((rs.length:Int)<(rs.length:Int)+1)=True:=eq_true (by omega)
   have oG:ic (rs.length+1) lb none (some (.int .i64 (rs.length:Int))) none=some (0,rs.length,none):=by
    have a1:(rs.length:Int)<=((max (rs.length+1) lb:Nat):Int):=by omega
    simp[ic,sliceB,a1]
   have dJ:=Tm.bm x;have G3:=hA s x R md (GC x (by simp)) SM cT;have KF:=hB s x R md (GC x (by simp)) SM cT;rw[dJ] at G3 KF;have dq:=Tm.aY x;have cI:=ar x
   cases hf:(fs x s).1 with
   |false=>
     rw[hf] at G3 KF;have e:fN fs (d+1) (x::rs) s=(false,(fs x s).2):=by simp[fN,hf]
     rw[e];rw[dq] at G3 KF t2;refine⟨⟨.row R,mf md,uD,?_⟩,⟨.dead,mf md,uD,?_⟩⟩
     .rw[ag];simp[dr,w1,b1,b2,b3,m1,m2,t2,oG,G3,hr,mH,fj,cI,hw]
     .rw[ag];simp[dr,w1,b1,b2,b3,m1,m2,t2,oG,KF,hr,mH,fj,cI,hw]
   |true=>
     rw[hf] at G3 KF;have QS:=KE s x SM hf
     have uU:∀y∈x.aa++rs,KC y:=λy hy=>by
      rcases List.mem_append.1 hy with hy|hy
      .exact KD x (GC x (by simp)) y hy
      .exact GC y (by simp[hy])
     have e:fN fs (d+1) (x::rs) s=fN fs d (x.aa++rs) (fs x s).2:=by simp[fN,hf]
     rw[e];have hw4:min 4 5=4:=rfl;have hw5:min 4 6=4:=rfl;have KM:x.aa.take x.aa.length=x.aa:=List.take_length;have qS:rs.reverse++x.aa.reverse=(x.aa++rs).reverse:=by simp
     have qh:rs.length+x.aa.length=(x.aa++rs).length:=by simp;omega
     have w2:IntKind.i64.wrap ((x.aa.length:Int)-1)=(x.aa.length:Int)-1:=wrap_i64 (by omega) (by omega)
     have eF:∀(fr:List AV) (h:af) (o:dY),o.ev fr=x.bh->bG fr h (.vj o)=some (.int .i64 x.aa.length,h):=by intro fr h o ho;rw[dZ,ho];cases x<;>simp[Tm.bh,Tm.aa]
     have Gt:R.take (rs.reverse.length*4)=ay rs.reverse:=by rw[oI];exact t1
     by_cases fR:rs.length+x.aa.length<=lb
     .refine⟨?_,?_⟩
      .obtain⟨R',r1,r2,r3,eq⟩:=xP C n g aO hc x (.row T.cells::tl (fs x s).2) (mf md) (dn _ uD) 4 hw4 lb x.aa.length n rs.reverse R (Nat.le_refl _) (by omega) (by rw[oI];exact fR) (by omega) hR Gt fj;obtain⟨⟨Y,cH,k1,k2⟩,_⟩:=tC C n g aO hc fs tl T mf KC KD Ob KE qe hmf dn w hw hA hB d m (x.aa++rs) R' lb (fs x s).2 (mf md) (by omega) (by omega) (by omega) (by omega) p8 (by rw[<-qh];exact fR) r1 (by rw[<-qh,<-qS,<-oI];rw[KM] at r2;exact r2) r3 uU QS uD;refine⟨Y,cH,k1,?_⟩;rw[oI] at eq;rw[ag];rw[<-qh] at k2;rw[dq] at G3 t2 eq;simp only[bn] at eq;simp[dr,bn,dL,w1,w2,b1,b2,b3,m1,m2,t2,oG,G3,hr,mH,fj,cI,hw,eF,eq,r3];exact k2
      .obtain⟨R',r1,r2,r3,eq⟩:=xI C n g aO hc x (.dead::.row T.cells::tl (fs x s).2) (mf md) (dn _ uD) 4 hw5 lb x.aa.length n rs.reverse R (Nat.le_refl _) (by omega) (by rw[oI];exact fR) (by omega) hR Gt fj;obtain⟨_,⟨Y,cH,k1,k2⟩⟩:=tC C n g aO hc fs tl T mf KC KD Ob KE qe hmf dn w hw hA hB d m (x.aa++rs) R' lb (fs x s).2 (mf md) (by omega) (by omega) (by omega) (by omega) p8 (by rw[<-qh];exact fR) r1 (by rw[<-qh,<-qS,<-oI];rw[KM] at r2;exact r2) r3 uU QS uD;refine⟨Y,cH,k1,?_⟩;rw[oI] at eq;rw[ag];rw[<-qh] at k2;rw[dq] at KF t2 eq;simp only[bn] at eq;simp[dr,bn,dL,w1,w2,b1,b2,b3,m1,m2,t2,oG,KF,hr,mH,fj,cI,hw,eF,eq,r3];exact k2
     .have ZP:(ay (x.aa++rs).reverse).length=(x.aa++rs).length*4:=by rw[cG,List.length_reverse]
      have Oc:=aU (x.aa++rs).reverse;obtain⟨_,⟨Y,cH,k1,k2⟩⟩:=tC C n g aO hc fs tl T mf KC KD Ob KE qe hmf dn w hw hA hB d m (x.aa++rs) (ay (x.aa++rs).reverse) (x.aa++rs).length (fs x s).2 (mf md) (by omega) (by omega) (by omega) (by omega) (by omega) (Nat.le_refl _) ZP (List.take_of_length_le (by omega)) Oc uU QS uD;rw[<-qh] at k2;have uE:=Oc;rw[List.reverse_append] at uE;refine⟨⟨Y,cH,k1,?_⟩,⟨Y,cH,k1,?_⟩⟩
      .have eq:=xH C n g aO hc x (.row T.cells::tl (fs x s).2) (mf md) (dn _ uD) 4 hw4 lb x.aa.length n rs.reverse R (Nat.le_refl _) (by omega) (by omega) (by omega) (by omega) hR Gt fj;rw[KM,qS,oI] at eq;rw[ag];rw[dq] at G3 t2 eq;simp only[bn] at eq;simp[dr,bn,dL,w1,w2,b1,b2,b3,m1,m2,t2,oG,G3,hr,mH,fj,cI,hw,eF,eq,uE];rw[List.reverse_append] at k2;exact k2
      .have eq:=xT C n g aO hc x (.dead::.row T.cells::tl (fs x s).2) (mf md) (dn _ uD) 4 hw5 lb x.aa.length n rs.reverse R (Nat.le_refl _) (by omega) (by omega) (by omega) (by omega) hR Gt fj;rw[KM,qS,oI] at eq;rw[ag];rw[dq] at KF t2 eq;simp only[bn] at eq;simp[dr,bn,dL,w1,w2,b1,b2,b3,m1,m2,t2,oG,KF,hr,mH,fj,cI,hw,eF,eq,uE];rw[List.reverse_append] at k2;exact k2
theorem tO{σ:Type}(C:Nat->List AV->af->Option (AV×af))(n g:Nat)(aO:List AV)(hc:AV.ah aO<=1)(fs:Tm->σ->Bool×σ)(tl:σ->List aT)(T:Tm)(mf:Nat->Nat)
 (KC:Tm->Prop) (KD:∀x,KC x->∀y∈x.aa,KC y) (Ob:σ->Prop) (KE:∀s x,Ob s->(fs x s).1=true->Ob (fs x s).2) (qe:Nat->Prop) (hmf:∀md,qe md->qe (mf md)) (dn:∀md,qe md->∀k,1<=k->min md k=md) (w:Nat) (hw:min w 3=w)
 (hA:∀s x R md,KC x->Ob s->qe md->C g (x.aL::aO) ⟨4,.row x.cells::.row R::.row T.cells::tl s,3,md⟩=some (.bool (fs x s).1,⟨4,.row x.cells::.row R::.row T.cells::tl (fs x s).2,3,mf md⟩))
 (hB:∀s x R md,KC x->Ob s->qe md->C g (x.aL::aO) ⟨5,.row x.cells::.row R::.dead::.row T.cells::tl s,3,md⟩=some (.bool (fs x s).1,⟨5,.row x.cells::.row R::.dead::.row T.cells::tl (fs x s).2,3,mf md⟩)):
 ∀(d m:Nat) (rs:List Tm) (R:List AV) (lb:Nat) (s:σ) (md:Nat),Tm.br rs<d->d<=m->d<=n->Tm.br rs<1000000000->lb<1000000000->rs.length<=lb->R.length=lb*4->R.take (rs.length*4)=ay rs.reverse->AV.ah R=0->(∀x∈rs,KC x)->Ob s->qe md->
 (∃Y cH,qe cH/\il 3 w (bP (aC C n dr) dL 3 m (pC (.fn g aO) (.vec 2 0 rs.length 4 lb)) ⟨3,.row R::.row T.cells::tl s,3,md⟩)=
  some (if (fN fs d rs s).1 then .exit 0 else .ret,if (fN fs d rs s).1 then FM 44 [] else FM 44 [(4,.bool false)],⟨3,Y::.row T.cells::tl (fN fs d rs s).2,w,cH⟩))/\
 (∃Y cH,qe cH/\il 3 w (bP (aC C n dr) dL 3 m (pC (.fn g aO) (.vec 3 0 rs.length 4 lb)) ⟨4,.row R::.dead::.row T.cells::tl s,3,md⟩)=
  some (if (fN fs d rs s).1 then .exit 0 else .ret,if (fN fs d rs s).1 then FM 44 [] else FM 44 [(4,.bool false)],⟨3,Y::.row T.cells::tl (fN fs d rs s).2,w,cH⟩))
 |0,m,rs,R,lb,s,md,h,_,_,_,_,_,_,_,_,_,_,_=>by omega
 |d+1,0,rs,R,lb,s,md,_,h,_,_,_,_,_,_,_,_,_,_=>by omega
 |d+1,m+1,[],R,lb,s,md,_,_,_,_,_,_,hR,ht,fj,GC,SM,cT=>by
   have hr:AV.ah aO<=3:=by omega
   refine⟨⟨.row R,md,cT,?_⟩,⟨.dead,md,cT,?_⟩⟩
   .simp[ag,dr,fN,hr,fj,hw]
   .simp[ag,dr,fN,hr,fj,hw]
 |d+1,m+1,x::rs,R,lb,s,md,hd,hm,hn,iE,p8,dI,hR,ht,fj,GC,SM,cT=>by
   have hr:AV.ah aO<=3:=by omega
   have mH:AV.ah aO<=4:=by omega
   have hsx:=bJ x;simp only[Tm.br] at hd iE;have ZO:=dE x.aa;have hlr:=dE rs;have hs2:Tm.br (x.aa++rs)=Tm.br x.aa+Tm.br rs:=mm _ _;rw[List.length_cons] at dI ht;rw[List.reverse_cons] at ht;have oI:rs.reverse.length=rs.length:=List.length_reverse;rw[<-oI] at ht;obtain⟨t1,t2⟩:=Fc ht;rw[oI] at t1 t2;have uD:=hmf md cT;have w1:IntKind.i64.wrap (rs.length:Int)=(rs.length:Int):=wrap_i64 (by omega) (by omega);have b1:(0<(rs.length:Int)+1)=True:=eq_true (by omega);have b2:rs.length*4+4<=R.length:=by omega
   have m1:min md 3=md:=dn md cT 3 (by omega);have m2:min md 4=md:=dn md cT 4 (by omega);have b3:((rs.length:Int)<(rs.length:Int)+1)=True:=eq_true (by omega)
   have oG:ic (rs.length+1) lb none (some (.int .i64 (rs.length:Int))) none=some (0,rs.length,none):=by
    have a1:(rs.length:Int)<=((max (rs.length+1) lb:Nat):Int):=by omega
    simp[ic,sliceB,a1]
   have dJ:=Tm.bm x;have G3:=hA s x R md (GC x (by simp)) SM cT;have KF:=hB s x R md (GC x (by simp)) SM cT;rw[dJ] at G3 KF;have dq:=Tm.aY x;have cI:=ar x
   cases hf:(fs x s).1 with
   |false=>
     rw[hf] at G3 KF;have e:fN fs (d+1) (x::rs) s=(false,(fs x s).2):=by simp[fN,hf]
     rw[e];rw[dq] at G3 KF t2;refine⟨⟨.row R,mf md,uD,?_⟩,⟨.dead,mf md,uD,?_⟩⟩
     .rw[ag];simp[dr,w1,b1,b2,b3,m1,m2,t2,oG,G3,hr,mH,fj,cI,hw]
     .rw[ag];simp[dr,w1,b1,b2,b3,m1,m2,t2,oG,KF,hr,mH,fj,cI,hw]
   |true=>
     rw[hf] at G3 KF;have QS:=KE s x SM hf
     have uU:∀y∈x.aa++rs,KC y:=λy hy=>by
      rcases List.mem_append.1 hy with hy|hy
      .exact KD x (GC x (by simp)) y hy
      .exact GC y (by simp[hy])
     have e:fN fs (d+1) (x::rs) s=fN fs d (x.aa++rs) (fs x s).2:=by simp[fN,hf]
     rw[e];have hw4:min 3 4=3:=rfl;have hw5:min 3 5=3:=rfl;have KM:x.aa.take x.aa.length=x.aa:=List.take_length;have qS:rs.reverse++x.aa.reverse=(x.aa++rs).reverse:=by simp
     have qh:rs.length+x.aa.length=(x.aa++rs).length:=by simp;omega
     have w2:IntKind.i64.wrap ((x.aa.length:Int)-1)=(x.aa.length:Int)-1:=wrap_i64 (by omega) (by omega)
     have eF:∀(fr:List AV) (h:af) (o:dY),o.ev fr=x.bh->bG fr h (.vj o)=some (.int .i64 x.aa.length,h):=by intro fr h o ho;rw[dZ,ho];cases x<;>simp[Tm.bh,Tm.aa]
     have Gt:R.take (rs.reverse.length*4)=ay rs.reverse:=by rw[oI];exact t1
     by_cases fR:rs.length+x.aa.length<=lb
     .refine⟨?_,?_⟩
      .obtain⟨R',r1,r2,r3,eq⟩:=xJ C n g aO hc x (.row T.cells::tl (fs x s).2) (mf md) (dn _ uD) 3 hw4 lb x.aa.length n rs.reverse R (Nat.le_refl _) (by omega) (by rw[oI];exact fR) (by omega) hR Gt fj;obtain⟨⟨Y,cH,k1,k2⟩,_⟩:=tO C n g aO hc fs tl T mf KC KD Ob KE qe hmf dn w hw hA hB d m (x.aa++rs) R' lb (fs x s).2 (mf md) (by omega) (by omega) (by omega) (by omega) p8 (by rw[<-qh];exact fR) r1 (by rw[<-qh,<-qS,<-oI];rw[KM] at r2;exact r2) r3 uU QS uD;refine⟨Y,cH,k1,?_⟩;rw[oI] at eq;rw[ag];rw[<-qh] at k2;rw[dq] at G3 t2 eq;simp only[bn] at eq;simp[dr,bn,dL,w1,w2,b1,b2,b3,m1,m2,t2,oG,G3,hr,mH,fj,cI,hw,eF,eq,r3];exact k2
      .obtain⟨R',r1,r2,r3,eq⟩:=xG C n g aO hc x (.dead::.row T.cells::tl (fs x s).2) (mf md) (dn _ uD) 3 hw5 lb x.aa.length n rs.reverse R (Nat.le_refl _) (by omega) (by rw[oI];exact fR) (by omega) hR Gt fj;obtain⟨_,⟨Y,cH,k1,k2⟩⟩:=tO C n g aO hc fs tl T mf KC KD Ob KE qe hmf dn w hw hA hB d m (x.aa++rs) R' lb (fs x s).2 (mf md) (by omega) (by omega) (by omega) (by omega) p8 (by rw[<-qh];exact fR) r1 (by rw[<-qh,<-qS,<-oI];rw[KM] at r2;exact r2) r3 uU QS uD;refine⟨Y,cH,k1,?_⟩;rw[oI] at eq;rw[ag];rw[<-qh] at k2;rw[dq] at KF t2 eq;simp only[bn] at eq;simp[dr,bn,dL,w1,w2,b1,b2,b3,m1,m2,t2,oG,KF,hr,mH,fj,cI,hw,eF,eq,r3];exact k2
     .have ZP:(ay (x.aa++rs).reverse).length=(x.aa++rs).length*4:=by rw[cG,List.length_reverse]
      have Oc:=aU (x.aa++rs).reverse;obtain⟨_,⟨Y,cH,k1,k2⟩⟩:=tO C n g aO hc fs tl T mf KC KD Ob KE qe hmf dn w hw hA hB d m (x.aa++rs) (ay (x.aa++rs).reverse) (x.aa++rs).length (fs x s).2 (mf md) (by omega) (by omega) (by omega) (by omega) (by omega) (Nat.le_refl _) ZP (List.take_of_length_le (by omega)) Oc uU QS uD;rw[<-qh] at k2;have uE:=Oc;rw[List.reverse_append] at uE;refine⟨⟨Y,cH,k1,?_⟩,⟨Y,cH,k1,?_⟩⟩
      .have eq:=xL C n g aO hc x (.row T.cells::tl (fs x s).2) (mf md) (dn _ uD) 3 hw4 lb x.aa.length n rs.reverse R (Nat.le_refl _) (by omega) (by omega) (by omega) (by omega) hR Gt fj;rw[KM,qS,oI] at eq;rw[ag];rw[dq] at G3 t2 eq;simp only[bn] at eq;simp[dr,bn,dL,w1,w2,b1,b2,b3,m1,m2,t2,oG,G3,hr,mH,fj,cI,hw,eF,eq,uE];rw[List.reverse_append] at k2;exact k2
      .have eq:=xS C n g aO hc x (.dead::.row T.cells::tl (fs x s).2) (mf md) (dn _ uD) 3 hw5 lb x.aa.length n rs.reverse R (Nat.le_refl _) (by omega) (by omega) (by omega) (by omega) hR Gt fj;rw[KM,qS,oI] at eq;rw[ag];rw[dq] at KF t2 eq;simp only[bn] at eq;simp[dr,bn,dL,w1,w2,b1,b2,b3,m1,m2,t2,oG,KF,hr,mH,fj,cI,hw,eF,eq,uE];rw[List.reverse_append] at k2;exact k2
def cntF(_:Tm)(k:Nat):Bool×Nat:=(decide (k+1<=2000),k+1)
def EL(t:Tm):Nat:=(fN cntF (t.size+1) [t] 0).2
theorem Nn:∀(d:Nat) (rs:List Tm) (k:Nat),Tm.br rs<d->k<=2000->(fN cntF d rs k).2=min (k+Tm.br rs) 2001
 |0,rs,k,h,_=>by omega
 |d+1,[],k,_,hk=>by simp[fN,Tm.br];omega
 |d+1,x::rs,k,h,hk=>by
   have hs:=bJ x;have h2:=mm x.aa rs;simp only[Tm.br] at h|-;unfold fN;simp only[cntF,decide_eq_true_eq];split
   .rename_i hc;rw[Nn d (x.aa++rs) (k+1) (by omega) hc,h2];omega
   .omega
theorem Mp(t:Tm):EL t=min t.size 2001:=by unfold EL;rw[Nn _ _ _ (by simp[Tm.br]) (by omega)];simp[Tm.br]
theorem aeT(n:Nat)(x:Tm)(k:Nat)(hk:k<=2000)(R:aT)(T T0:aT)(md:Nat):aH (cD []) (n+1) 101 [x.aL,.ptr 1 0] ⟨5,.row x.cells::R::T::.row [.int .i64 k]::[T0],4,md⟩=
 some (.bool (cntF x k).1,⟨5,.row x.cells::R::T::.row [.int .i64 ((cntF x k).2:Nat)]::[T0],4,min md 1⟩):=by
 have dJ:=Tm.bm x;have dq:=Tm.aY x;have cI:=ar x;have w1:IntKind.i64.wrap ((k:Int)+1)=(k:Int)+1:=wrap_i64 (by omega) (by omega);rw[dJ,dq];by_cases hc:k+1<=2000
 .have VK:((k:Int)+1<=2000)=True:=eq_true (by omega);simp[Jo,OR,cntF,hc,VK,w1,cI]
 .have VK:((k:Int)+1<=2000)=False:=eq_false (by omega);simp[Jo,OR,cntF,hc,VK,w1,cI]
theorem acb(n:Nat)(x:Tm)(k:Nat)(hk:k<=2000)(R:aT)(D T T0:aT)(md:Nat):aH (cD []) (n+1) 101 [x.aL,.ptr 1 0] ⟨6,.row x.cells::R::D::T::.row [.int .i64 k]::[T0],4,md⟩=
 some (.bool (cntF x k).1,⟨6,.row x.cells::R::D::T::.row [.int .i64 ((cntF x k).2:Nat)]::[T0],4,min md 1⟩):=by
 have dJ:=Tm.bm x;have dq:=Tm.aY x;have cI:=ar x;have w1:IntKind.i64.wrap ((k:Int)+1)=(k:Int)+1:=wrap_i64 (by omega) (by omega);rw[dJ,dq];by_cases hc:k+1<=2000
 .have VK:((k:Int)+1<=2000)=True:=eq_true (by omega);simp[Jo,OR,cntF,hc,VK,w1,cI]
 .have VK:((k:Int)+1<=2000)=False:=eq_false (by omega);simp[Jo,OR,cntF,hc,VK,w1,cI]
theorem Va(t:Tm)(hs:t.size<1000000000)(n:Nat)(hn:t.size+1<=n+1):∃Y cH,il 4 2 (bP (aC (aH (cD []) (n+1)) (n+1) dr) dL 4 (n+1) (pC (.fn 101 [.ptr 1 0]) (.vec 3 0 1 4 1)) ⟨4,[.row t.cells,.row t.cells,.row [.int .i64 0],.row t.cells],4,2⟩)=
 some (if (fN cntF (t.size+1) [t] 0).1 then .exit 0 else .ret,if (fN cntF (t.size+1) [t] 0).1 then FM 44 [] else FM 44 [(4,.bool false)],⟨4,[Y,.row t.cells,.row [.int .i64 (EL t:Nat)],.row t.cells],2,cH⟩):=by
 have h:=tC (aH (cD []) (n+1)) (n+1) 101 [.ptr 1 0] (by simp[AV.ah,AV.aJ]) cntF (λk=>[.row [.int .i64 (k:Nat)],.row t.cells]) t (min · 1)
  (λ_=>True) (λ_ _ _ _=>trivial) (·<=2000) (λs x _ h=>by simpa[cntF] using h) (λmd=>md=1\/md=2) (λmd h=>by omega) (λmd h k hk=>by omega) 2 rfl
  (λs x R md _ xW _=>aeT n x s xW _ _ _ md) (λs x R md _ xW _=>acb n x s xW _ _ _ _ md)
  (t.size+1) (n+1) [t] t.cells 1 0 2 (by simp[Tm.br]) hn hn (by simp[Tm.br];exact hs) (by omega) (by simp) rfl (by simp[ay];rfl) (by simp[Tm.cells,AV.ah,AV.aJ,ar]) (λ_ _=>trivial) (by omega) (.inr rfl)
 obtain⟨⟨Y,cH,_,e⟩,_⟩:=h;exact⟨Y,cH,e⟩
def Cp:aW:=⟨59,λ|[v]=>(match fK v with|some t=>if t.size<1000000000 then some (.int .i64 (EL t:Nat)) else none|none=>none)|_=>none⟩
theorem zj:Cp.f=59:=(rfl)
theorem Zf(t:Tm)(h:t.size<1000000000):Cp.S [t.aL]=some (.int .i64 (EL t:Nat)):=by simp only[Cp,cd,if_pos h]
theorem Yu:aX Tryz.prog Cp:=λaa v hv=>by
 unfold Cp at hv|-;dsimp only at hv|-;split at hv
 .rename_i x;split at hv
  .rename_i t ht;split at hv
   .rename_i hl;cases hv;rw[cf ht];refine bL (n:=t.size+5) (h':=h0) (bK (ss:=[]) (by simp)) ?_ rfl (by simp[AV.ah,Tm.bC]);obtain⟨Y,cH,eq⟩:=Va t hl (t.size+2) (by omega);have dq:=Tm.aY t;have cI:=ar t;rw[Tm.bm,dq];rw[dq] at eq;simp only[dL] at eq
    cases hb:(fN cntF (t.size+1) [t] 0).1 with
    |true=>rw[hb] at eq;simp only[if_true] at eq;simp[adb,c59,Hk,c61,dL,cI,eq]
    |false=>rw[hb] at eq;simp only[Bool.false_eq_true,if_false] at eq;simp[adb,c59,Hk,c61,dL,cI,eq]
   .cases hv
  .cases hv
 .cases hv
theorem aw(h:af)(n0 d:Nat)(t:Tm):jL h n0 (d+1) t.bh=some (t.bh,[]):=A5 (ux t)
mutual
def Tm.eZ:Tm->Nat
 |.nl ..=>1
 |.mk _ _ _ us=>1+Tm.iX us
def Tm.iX:List Tm->Nat
 |[]=>0
 |t::r=>max t.eZ (Tm.iX r)
end
theorem pS(t:Tm):t.eZ=1+Tm.iX t.aa:=by cases t<;>rfl
def nz(Od d:Nat):List Tm->Nat
 |[]=>d
 |x::r=>if Od<=d+1 then d else nz Od (max d (min x.eZ (Od-1))) r
theorem Lj(Od:Nat):∀(us:List Tm) (d:Nat),min (nz Od d us+1) Od=min (max d (Tm.iX us)+1) Od
 |[],d=>by simp[nz,Tm.iX]
 |x::r,d=>by
   unfold nz;simp only[Tm.iX];split
   .omega
   .rw[Lj Od r];omega
def jT(m:Nat):aW:=⟨102,λ|[v,.int .i64 n]=>(match fK v with|some t=>if n=m/\t.size<1000000000 then some (.int .i64 (min t.eZ m:Nat)) else none|none=>none)|_=>none⟩
theorem pj(m:Nat):(jT m).f=102:=(rfl)
theorem Fo(m:Nat)(t:Tm)(h:t.size<1000000000):(jT m).S [t.aL,.int .i64 (m:Nat)]=some (.int .i64 (min t.eZ m:Nat)):=by simp only[jT,cd];exact if_pos ⟨trivial,h⟩
theorem Qo(m k:Nat)(v:AV)(h:k≠m):(jT m).S [v,.int .i64 (k:Nat)]=none:=by
 simp only[jT];split
 .rw[if_neg (by omega)]
 .rfl
theorem Ig(n m:Nat)(hm:m<=100)(jr:1<=m)(T:aT)(us:List Tm)(hs:Tm.br us<1000000000):∀(post pre:List Tm) (k d:Nat),us=pre++post->post.length<k->d<=100->
 ∃md,il 1 0 (bP (aC (aH (cD [jT (m-1)]) (n+1)) (n+1) pd) o8 1 k (aav (.int .i64 m) (.int .i64 d) (.sl (us.map Tm.aL)) (.int .i64 us.length) (.int .i64 pre.length)) ⟨1,[T],1,0⟩)=
   some (.exit 0,FM 30 [(1,.int .i64 m),(5,.int .i64 (nz m d post:Nat))],⟨1,[T],0,md⟩)
 |[],pre,k+1,d,e,_,_=>by simp at e;subst e;have h5:AV.ah (us.map Tm.aL)=0:=bw _;exact⟨0,by simp[ag,pd,h5,nz]⟩
 |x::post,pre,k+1,d,e,hk,hd=>by
   have hlu:=dE us;have h1:us[pre.length]? =some x:=by rw[e];simp
   have h5:AV.ah (us.map Tm.aL)=0:=bw _;have h6:((pre.length:Int)<(us.length:Int))=True:=eq_true (by rw[e,List.length_append,List.length_cons];omega);have DP:pre.length<us.length:=by rw[e];simp
   have h3:IntKind.i64.wrap ((pre.length:Int)+1)=(pre.length:Int)+1:=wrap_i64 (by omega) (by omega);have dJ:=Tm.bm x;have dq:=Tm.aY x;have cI:=ar x
   have QL:x.size<1000000000:=by have:=mm pre (x::post);rw[<-e] at this;simp only[Tm.br] at this;omega
   have w1:IntKind.i64.wrap ((m:Int)-1)=((m-1:Nat):Int):=by rw[wrap_i64 (by omega) (by omega)];omega
   by_cases hb:m<=d+1
   .have B2:(((m-1:Nat):Int)<=(d:Int))=True:=eq_true (by omega);refine⟨0,?_⟩;rw[ag];simp[pd,h1,h5,h6,dJ,dq,cI,w1,B2,nz,hb]
   .have B2:(((m-1:Nat):Int)<=(d:Int))=False:=eq_false (by omega);have hc:=Fo (m-1) x QL;rw[dJ,dq] at hc
    have GA:(if d<min x.eZ (m-1) then ((min x.eZ (m-1):Nat):Int) else (d:Int))=((max d (min x.eZ (m-1)):Nat):Int):=by split<;>omega
    obtain⟨md,ih⟩:=Ig n m hm jr T us hs post (pre++[x]) k (max d (min x.eZ (m-1))) (by simp[e]) (by rw[List.length_cons] at hk;omega) (by omega);refine⟨md,?_⟩;simp only[List.length_append,List.length_cons,List.length_nil,Nat.zero_add] at ih;rw[show ((pre.length+1:Nat):Int)=(pre.length:Int)+1 by omega] at ih;rw[ag]
    have hfd:nz m d (x::post)=nz m (max d (min x.eZ (m-1))) post:=by rw[nz,if_neg hb]
    rw[hfd];generalize min x.eZ (m-1)=q at hc GA ih;generalize max d q=q2 at GA ih;simp[pd,o8,h1,h3,h5,h6,dJ,dq,cI,w1,B2,hc,GA,aw,pj];exact ih
theorem JN(m:Nat)(jr:1<=m)(hm:m<=100)(hp:aX Tryz.prog (jT (m-1))):aX Tryz.prog (jT m):=λaa v hv=>by
 have hv0:=hv;unfold jT at hv;dsimp only at hv;split at hv
 .rename_i x n;split at hv
  .rename_i t ht;split at hv
   .rename_i hc;obtain⟨rfl,hs⟩:=hc;cases hv;rw[cf ht];have fW:=Qo (m-1) m t.aL (by omega);refine bL (n:=t.size+5) (h':=h0) (bK (ss:=[jT (m-1)]) (by simp[hp])) ?_ rfl (by simp[AV.ah,AV.aJ,Tm.bC]);rw[pj];have dJ:=Tm.bm t;have dq:=Tm.aY t;have cI:=ar t;have iE:=bJ t;have ZO:=dE t.aa;have hde:=pS t;have hfe:=Lj m t.aa 0;rw[Nat.zero_max,Nat.add_comm (Tm.iX t.aa) 1,<-hde] at hfe;rw[dJ,dq] at fW|-
    have hr:nz m 0 t.aa<=100:=by
     have key:∀(us:List Tm) (d:Nat),d<=100->nz m d us<=100:=by
      intro us
      induction us with
      |nil=>intro d h;exact h
      |cons x r ih=>
        intro d h;unfold nz;split
        .exact h
        .exact ih _ (by omega)
     exact key _ 0 (by omega)
    have w2:IntKind.i64.wrap ((nz m 0 t.aa:Int)+1)=(nz m 0 t.aa:Int)+1:=wrap_i64 (by omega) (by omega)
    have hmn:(if (m:Int)<(nz m 0 t.aa:Int)+1 then (m:Int) else (nz m 0 t.aa:Int)+1)=((min t.eZ m:Nat):Int):=by split<;>omega
    obtain⟨md,lp⟩:=Ig (t.size+3) m hm jr (.row t.cells) t.aa (by omega) t.aa [] (t.size+4) 0 rfl (by omega) (by omega);simp only[List.length_nil,show ((0:Nat):Int)=0 from rfl,o8] at lp;rw[dq] at lp
    have ha:(t.bh=.aF/\t.aa=[])\/t.bh=.sl (t.aa.map Tm.aL):=by
     cases t with
     |nl k n s=>exact .inl ⟨rfl,rfl⟩
     |mk k n s us=>exact .inr rfl
    generalize t.aa=us at *;generalize t.bh=a at *;rcases ha with⟨rfl,rfl⟩|rfl
    .simp[nz] at w2 hmn;simp[Fb,Mi,o8,pd,ag,fW,pj,w2,hmn]
    .have h5:AV.ah (us.map Tm.aL)=0:=bw _;simp[Fb,Mi,o8,fW,pj,w2,hmn,lp,h5]
   .cases hv
  .cases hv
 .cases hv
theorem JK:aX Tryz.prog (jT 0):=λaa v hv=>by
 unfold jT at hv;dsimp only at hv;split at hv
 .rename_i x n;split at hv
  .rename_i t ht;split at hv
   .rename_i hc;obtain⟨rfl,hs⟩:=hc;cases hv;rw[cf ht];refine bL (n:=5) (h':=h0) (bK (ss:=[]) (by simp)) ?_ rfl (by simp[AV.ah,AV.aJ,Tm.bC]);rw[pj];have dJ:=Tm.bm t;have dq:=Tm.aY t;have cI:=ar t
    have ha:(t.bh=.aF)\/∃us:List Tm,t.bh=.sl (us.map Tm.aL):=by
     cases t with
     |nl k n s=>exact .inl rfl
     |mk k n s us=>exact .inr ⟨us,rfl⟩
    have w0:IntKind.i64.wrap (-1)=-1:=rfl;have w1:IntKind.i64.wrap (0-1)=-1:=rfl;have w2:IntKind.i64.wrap (0+1)=1:=rfl;have w3:IntKind.i64.wrap 1=1:=rfl;rw[dJ,dq];generalize t.bh=a at *;rcases ha with rfl|⟨us,rfl⟩
    .simp[Fb,Mi,o8,pd,ag,w0,w1,w2,w3]
    .have h5:AV.ah (us.map Tm.aL)=0:=bw _
     cases us with
     |nil=>simp[Fb,Mi,o8,pd,ag,w0,w1,w2,w3]
     |cons y r=>have h6:AV.ah (r.map Tm.aL)=0:=bw _;have DV:=Tm.bm y;have rH:=Tm.aY y;have qj:=ar y;have t1:((0:Int)<(r.length:Int)+1)=True:=eq_true (by omega);simp[Fb,Mi,o8,pd,ag,w0,w1,w2,w3,h6,DV,rH,qj,t1]
   .cases hv
  .cases hv
 .cases hv
theorem Cb:∀m,m<=100->aX Tryz.prog (jT m)
 |0,_=>JK
 |m+1,h=>JN (m+1) (by omega) h (Cb m (by omega))
def vG:aW:=⟨60,λ|[v]=>(match fK v with|some t=>if t.size<1000000000 then some (.int .i64 (min t.eZ 65:Nat)) else none|none=>none)|_=>none⟩
theorem vg:vG.f=60:=(rfl)
theorem TX(t:Tm)(h:t.size<1000000000):vG.S [t.aL]=some (.int .i64 (min t.eZ 65:Nat)):=by simp only[vG,cd,if_pos h]
theorem Uh:aX Tryz.prog vG:=λaa v hv=>by
 unfold vG at hv|-;dsimp only at hv|-;split at hv
 .rename_i x;split at hv
  .rename_i t ht;split at hv
   .rename_i hl;cases hv;rw[cf ht];refine bL (n:=3) (h':=h0) (bK (ss:=[jT 65]) (by simp[Cb 65 (by omega)])) ?_ rfl (by simp[AV.ah,Tm.bC]);have hc:=Fo 65 t hl;have dJ:=Tm.bm t;have dq:=Tm.aY t;have cI:=ar t;rw[dJ,dq] at hc|-;rw[show ((65:Nat):Int)=65 from rfl] at hc;simp[aiD,c60,hc,cI,aw,pj]
   .cases hv
  .cases hv
 .cases hv
mutual
def Tm.eO:Tm->Nat
 |.nl _ _ s=>1+s.length
 |.mk _ _ s us=>1+s.length+Tm.fv us
def Tm.fv:List Tm->Nat
 |[]=>0
 |t::r=>t.eO+Tm.fv r
end
theorem py(t:Tm):t.eO=1+t.az.length+Tm.fv t.aa:=by cases t<;>rfl
theorem G6:∀a b:List Tm,Tm.fv (a++b)=Tm.fv a+Tm.fv b
 |[],b=>by simp[Tm.fv]
 |t::r,b=>by simp[Tm.fv,G6 r b];omega
mutual
theorem mC:∀t:Tm,t.size<=t.eO
 |.nl _ _ s=>by simp[Tm.size,Tm.eO]
 |.mk _ _ s us=>by have:=El us;simp[Tm.size,Tm.eO];omega
theorem El:∀l:List Tm,Tm.br l<=Tm.fv l
 |[]=>by simp[Tm.br,Tm.fv]
 |t::r=>by have:=mC t;have:=El r;simp[Tm.br,Tm.fv];omega
end
mutual
def Tm.gu(p:Tm->Bool):Tm->Bool
 |.nl k n s=>p (.nl k n s)
 |.mk k n s us=>p (.mk k n s us)&&Tm.ft p us
def Tm.ft(p:Tm->Bool):List Tm->Bool
 |[]=>true
 |t::r=>Tm.gu p t&&Tm.ft p r
end
theorem gq(p:Tm->Bool)(t:Tm):t.gu p=(p t&&Tm.ft p t.aa):=by cases t<;>simp[Tm.gu,Tm.aa,Tm.ft]
theorem MU(p:Tm->Bool):∀a b:List Tm,Tm.ft p (a++b)=(Tm.ft p a&&Tm.ft p b)
 |[],b=>by simp[Tm.ft]
 |t::r,b=>by simp[Tm.ft,MU p r b,Bool.and_assoc]
def Sr(p:Tm->Bool)(x:Tm)(_:Unit):Bool×Unit:=(p x,())
theorem Ly(p:Tm->Bool):∀(d:Nat) (rs:List Tm),Tm.br rs<d->(fN (Sr p) d rs ()).1=Tm.ft p rs
 |0,rs,h=>by omega
 |d+1,[],_=>by simp[fN,Tm.ft]
 |d+1,x::rs,h=>by
   have hs:=bJ x;have h2:=mm x.aa rs;simp only[Tm.br] at h;have e:fN (Sr p) (d+1) (x::rs) ()=if p x=true then fN (Sr p) d (x.aa++rs) () else (false,()):=rfl
   rw[e];simp only[Tm.ft,gq];by_cases hp:p x=true
   .rw[if_pos hp,hp,Ly p d (x.aa++rs) (by omega),MU];simp
   .simp[hp]
def dp(t:Tm):Bool:=decide (t.size<=2000)&&decide (t.eZ<=64)&&t.gu eT
mutual
theorem zG:∀(us:List Tm) (y:Tm),y∈us->y.eO<=Tm.fv us
 |[],y,h=>by simp at h
 |t::r,y,h=>by
   simp only[Tm.fv];rcases List.mem_cons.1 h with rfl|h
   .omega
   .have:=zG r y h;omega
end
theorem SU(t:Tm)(hs:t.eO<1000000000)(ss:List aW)(hss:∀(n:Nat) (x:Tm) (h:af),x.eO<1000000000->aH (cD ss) (n+1) 62 [x.aL] h=some (.bool (eT x),h))(n:Nat)(hn:t.size+1<=n+1)(T0:aT):∃Y cH,il 3 1 (bP (aC (aH (cD ss) (n+1)) (n+1) dr) dL 3 (n+1) (pC (.fn 62 []) (.vec 2 0 1 4 1)) ⟨3,[.row t.cells,.row t.cells,T0],3,1⟩)=
 some (if t.gu eT then .exit 0 else .ret,if t.gu eT then FM 44 [] else FM 44 [(4,.bool false)],⟨3,[Y,.row t.cells,T0],1,cH⟩):=by
 have hsb:=mC t
 have h:=tO (aH (cD ss) (n+1)) (n+1) 62 [] (by simp[AV.ah]) (Sr eT) (λ_=>[T0]) t id
  (λx=>x.eO<1000000000) (λx hx y hy=>by have:=py x;have:=zG x.aa y hy;omega) (λ_=>True) (λ_ _ _ _=>trivial) (λmd=>md=1) (λmd h=>h) (λmd h k hk=>by omega) 1 rfl
  (λs x R md hx _ _=>hss n x _ hx) (λs x R md hx _ _=>hss n x _ hx)
  (t.size+1) (n+1) [t] t.cells 1 () 1 (by simp[Tm.br]) hn hn (by simp[Tm.br];omega) (by omega) (by simp) rfl (by simp[ay];rfl) (by simp[Tm.cells,AV.ah,AV.aJ,ar]) (λx hx=>by simp at hx;subst hx;exact hs) trivial rfl
 obtain⟨⟨Y,cH,_,e⟩,_⟩:=h;rw[Ly eT _ _ (by simp[Tm.br])] at e;have ea:Tm.ft eT [t]=t.gu eT:=by simp[Tm.ft]
 rw[ea] at e;exact⟨Y,cH,e⟩
def fu:aW:=⟨27,λ|[v]=>(match fK v with|some t=>if t.eO<1000000000 then some (.bool (dp t)) else none|none=>none)|_=>none⟩
theorem bF:fu.f=27:=(rfl)
theorem s9(t:Tm)(h:t.eO<1000000000):fu.S [t.aL]=some (.bool (dp t)):=by simp only[fu,cd,if_pos h]
theorem Zq(n:Nat)(x:Tm)(h:af)(hx:x.eO<1000000000):aH (cD [Cp,vG,MR]) (n+1) 62 [x.aL] h=some (.bool (eT x),h):=by have hb:=py x;have ho:=aaN x (by omega);have dJ:=Tm.bm x;have dq:=Tm.aY x;rw[dJ,dq] at ho|-;simp[ho,aw,zj,vg,Ez]
theorem wy:aX Tryz.prog fu:=λaa v hv=>by
 unfold fu at hv|-;dsimp only at hv|-;split at hv
 .rename_i x;split at hv
  .rename_i t ht;split at hv
   .rename_i hl;cases hv;rw[cf ht];refine bL (n:=t.size+5) (h':=h0) (bK (ss:=[Cp,vG,MR]) (by simp[Yu,Uh,aaB])) ?_ rfl (by simp[AV.ah,Tm.bC]);have hsb:=mC t;have c1:=Zf t (by omega);have c2:=TX t (by omega);have dJ:=Tm.bm t;have dq:=Tm.aY t;have cI:=ar t;obtain⟨Y,cH,eq⟩:=SU t hl [Cp,vG,MR] Zq (t.size+2) (by omega) (.row t.cells);rw[dJ,dq] at c1 c2|-;rw[dq] at eq;simp only[dL] at eq;unfold dp;by_cases h1:t.size<=2000
    .have KJ:(((EL t:Nat):Int)<=2000)=True:=eq_true (by rw[Mp];omega);by_cases h2:t.eZ<=64
     .have DW:(((min t.eZ 65:Nat):Int)<=64)=True:=eq_true (by omega);generalize min t.eZ 65=q at c2 DW
      cases hb:t.gu eT with
      |true=>rw[hb] at eq;simp only[if_true] at eq;simp[Rg,c27,Hk,c61,dL,cI,aw,c1,c2,h1,KJ,h2,DW,eq,zj,vg,Ez]
      |false=>rw[hb] at eq;simp only[Bool.false_eq_true,if_false] at eq;simp[Rg,c27,Hk,c61,dL,cI,aw,c1,c2,h1,KJ,h2,DW,eq,zj,vg,Ez]
     .have DW:(((min t.eZ 65:Nat):Int)<=64)=False:=eq_false (by omega);generalize min t.eZ 65=q at c2 DW;simp[Rg,c27,cI,aw,c1,c2,h1,KJ,h2,DW,zj,vg,Ez]
    .have KJ:(((EL t:Nat):Int)<=2000)=False:=eq_false (by rw[Mp];omega);simp[Rg,c27,cI,aw,c1,h1,KJ,zj,vg,Ez]
   .cases hv
  .cases hv
 .cases hv
mutual
def rT:Tm->Tm->Bool
 |.nl k n s,b=>decide (k=b.aj)&&decide (n=b.bj)&&(s==b.az)&&b.aa.isEmpty
 |.mk k n s us,b=>decide (k=b.aj)&&decide (n=b.bj)&&(s==b.az)&&oA us b.aa
def oA:List Tm->List Tm->Bool
 |[],ws=>ws.isEmpty
 |x::r,ws=>match ws with
   |[]=>false
   |y::q=>rT x y&&oA r q
end
theorem xb(ws:List Tm):oA [] ws=ws.isEmpty:=by simp[oA]
theorem Ge(x y:Tm)(r q:List Tm):oA (x::r) (y::q)=(rT x y&&oA r q):=by simp[oA]
theorem Wi(a b:Tm):rT a b=(decide (a.aj=b.aj)&&decide (a.bj=b.bj)&&(a.az==b.az)&&oA a.aa b.aa):=by
 cases a with
 |nl k n s=>show _=(_&&oA [] b.aa);rw[xb,rT];rfl
 |mk k n s us=>rw[rT];rfl
theorem IL:∀(us ws:List Tm),us.length≠ws.length->oA us ws=false
 |[],[],h=>absurd rfl h
 |[],_::_,_=>by simp[xb]
 |_::_,[],_=>by simp[oA]
 |x::r,y::q,h=>by have:=IL r q (by simpa using h);rw[Ge,this,Bool.and_false]
theorem mq:∀{us:List Tm} {y:Tm},y∈us->y.size<=Tm.br us
 |t::r,y,h=>by
   simp only[Tm.br];rcases List.mem_cons.1 h with rfl|h
   .omega
   .have:=mq h;omega
end
section
open Go.RowKit Go.Shelf
attribute [local go_sem] Oper.semAt_some
def EN{len:Nat}(xs:List (Fin len)):Prop:=∀j (h:j<xs.length),(xs[j]).1+j+1=len
theorem YV(F:Fence)(n:Nat)(agV:F.fn 108)(hro:F.round=none)(hn:1<=n)(l b o b2 o2 len cap:Nat)(dI:len<=9223372036854775807)(vs:Nat->Nat->Value)(J Jx:List (Fin len)->World->Prop)
 (hY:∀pre x W,J pre W->pre.length<len->YieldAt F (n-1) Tryz.prog l #[.int .i64 (x.1:Int),.agg #[vs x.1 0,vs x.1 1,vs x.1 2,vs x.1 3]] W λe W'=>(e=.returned (.bool true)/\J (pre++[x]) W'/\(W'.heap[b]? =W.heap[b]?/\W'.heap[b2]? =W.heap[b2]?))\/(e=.returned (.bool false)/\Jx (pre++[x]) W'))
 (W:World) (hb:W.cell? ⟨b,o,none⟩=some (.slice (some ⟨b2,o2,none⟩) len cap)) (hc:∀k j,k<len->j<4->W.cell? ⟨b2,o2+(k*4+j),none⟩=some (vs k j)) (h0:J [] W):
 CallsIn F n Tryz.prog 108 #[.func (.yield l) #[] #[],.pointer (some ⟨b,o,none⟩)] W λe W'=>(∃v,e=.returned v)/\
  ((∃ys,(EN ys/\ys.length=len)/\J ys W')\/(∃pre,True/\Jx pre W')):=by
 refine callsIn_of_wp Tryz.func108 rfl agV ?_ hro;simp only[Tryz.ntmps108,List.size_toArray,List.length_cons,List.length_nil,Nat.reduceAdd,Nat.reduceSub,Array.replicate_succ,Array.replicate_zero,List.push_toArray,List.append_toArray,List.nil_append,List.cons_append]
 gi_wp2
 gi_loopw [3] (λi wr=>∃pre:List (Fin len),EN pre/\pre.length<=len/\i=.int .i64 ((len:Int)-1-pre.length)/\J pre wr/\(wr.heap[b]? =W.heap[b]?/\wr.heap[b2]? =W.heap[b2]?))
  (λi _=>(intOf i+1).toNat)
 case atStart=>exact⟨[],λj h=>by simp at h,Nat.zero_le _,by simp,h0,rfl,rfl⟩
 case round=>
  obtain⟨pre,hp,hk,rfl,hJs,hs1,hs2⟩:=hrel
  have hbr:wr.cell? ⟨b,o,none⟩=some (.slice (some ⟨b2,o2,none⟩) len cap):=by rw[<-hb];unfold World.cell?;rw[hs1]
  by_cases cY:pre.length<len
  .obtain⟨m,hm⟩:∃m,m=len-1-pre.length:=⟨_,rfl⟩
   have Da:m<len:=by omega
   have hi:(len:Int)-1-(pre.length:Int)=(m:Int):=by omega
   rw[hi];clear hi
   have hcr:∀j,j<4->wr.cell? ⟨b2,o2+m*4+j,none⟩=some (vs m j):=λj hj=>by rw[<-hc m j Da hj];unfold World.cell?;rw[hs2,Nat.add_assoc]
   have c0:wr.cell? ⟨b2,o2+m*4,none⟩=some (vs m 0):=hcr 0 (by omega);have c1:=hcr 1 (by omega);have c2:=hcr 2 (by omega);have c3:=hcr 3 (by omega);have hmi:(m:Int)<(len:Int):=by omega
   have tp:J pre wr->EN (pre++[⟨m,Da⟩])/\(pre++[(⟨m,Da⟩:Fin len)]).length<=len/\(m:Int)-1=(len:Int)-1-(pre++[(⟨m,Da⟩:Fin len)]).length:=λ_=>by
    refine⟨λj hj=>?_,by simp;omega,by simp;omega⟩;by_cases h:j<pre.length
    .rw[List.getElem_append_left h];exact hp j h
    .have:j=pre.length:=by simp at hj;omega
     subst this;simp;omega
   clear hm;obtain⟨fn,tmps,assign,body,hy,hR⟩:=hY pre ⟨m,Da⟩ wr hJs cY;dsimp only at hy
   gi_wp2
   refine hR.mono ?_;rintro e W3 (⟨rfl,hJ3,hk3,hk4⟩|⟨rfl,anK⟩)
   .gi_wp2
    go_roundw
    case rel=>obtain⟨n1,n2,n3⟩:=tp hJs;exact⟨_,n1,n2,by rw[n3],hJ3,hk3.trans hs1,hk4.trans hs2⟩
    case measure=>simp[intOf]
   .gi_wp2
    refine bodyPost_ret (results_none rfl _ _ _) rfl ?_;exact⟨⟨_,rfl⟩,.inr ⟨_,trivial,anK⟩⟩
  .have hi:(len:Int)-1-(pre.length:Int)=-1:=by omega
   rw[hi]
   gi_wp2
   go_end0
   exact⟨⟨_,rfl⟩,.inl ⟨pre,⟨hp,by omega⟩,hJs⟩⟩
theorem Jv(F:Fence)(n:Nat)(agV:F.fn 108)(hro:F.round=none)(l b o:Nat)(ad:Option Addr)(cap:Nat){len:Nat}(J:List (Fin len)->World->Prop)
 (W:World) (hb:W.cell? ⟨b,o,none⟩=some (.slice ad 0 cap)) (h0:J [] W):
 CallsIn F n Tryz.prog 108 #[.func (.yield l) #[] #[],.pointer (some ⟨b,o,none⟩)] W λe W'=>(∃v,e=.returned v)/\J [] W':=by
 refine callsIn_of_wp Tryz.func108 rfl agV ?_ hro;simp only[Tryz.ntmps108,List.size_toArray,List.length_cons,List.length_nil,Nat.reduceAdd,Nat.reduceSub,Array.replicate_succ,Array.replicate_zero,List.push_toArray,List.append_toArray,List.nil_append,List.cons_append]
 gi_wp2
 gi_loopw [3] (λi wr=>i=.int .i64 (-1)/\J [] wr)
  (λ_ _=>0)
 case atStart=>exact⟨rfl,h0⟩
 case round=>
  obtain⟨rfl,hJs⟩:=hrel
  gi_wp2
  go_end0
  exact⟨⟨_,rfl⟩,hJs⟩
theorem On(n:Nat)(hn:1<=n)(b o len:Nat)(dI:len<=9223372036854775807)(vs:Nat->Nat->Value){csl:Value}{Kp:World->World->Prop}(W0:World)(hb:W0.cell? ⟨b,o,none⟩=some csl)(hbl:b<W0.heap.size)
 (oG:(∃ad cap,csl=.slice ad 0 cap/\len=0)\/∃b2 o2 cap,csl=.slice (some ⟨b2,o2,none⟩) len cap/\b2<W0.heap.size/\(∀A B,Kp A B->B.heap[b2]? =A.heap[b2]?)/\∀k j,k<len->j<4->W0.cell? ⟨b2,o2+(k*4+j),none⟩=some (vs k j))
 (hKp:∀A B,Kp A B->B.heap[b]? =A.heap[b]?):
 SeqStopsK Fence.wide n Tryz.prog 108 #[.pointer (some ⟨b,o,none⟩)] (λx:Fin len=>#[.int .i64 (x.1:Int),.agg #[vs x.1 0,vs x.1 1,vs x.1 2,vs x.1 3]]) Kp (λys=>EN ys/\ys.length=len) (λ_=>True) len W0:=by
 intro l J Jx W hW _ _ hY h0;have B2:W.cell? ⟨b,o,none⟩=some csl:=(hW.cell (p:=⟨b,o,none⟩) hbl).trans hb;rcases oG with⟨ad,cap,rfl,rfl⟩|⟨b2,o2,cap,rfl,hb2,CR,hc⟩
 .exact (Jv Fence.wide n trivial rfl l b o ad cap J W B2 h0).mono λe W' ⟨he,hj⟩=>⟨he,.inl ⟨[],⟨λj h=>by simp at h,rfl⟩,hj⟩⟩
 .refine YV Fence.wide n trivial rfl hn l b o b2 o2 len cap dI vs J Jx (λpre x W1 hJ hl=>?_) W B2 (λk j hk hj=>(hW.cell (p:=⟨b2,o2+(k*4+j),none⟩) hb2).trans (hc k j hk hj)) h0;obtain⟨fn,tmps,assign,body,e1,e2⟩:=hY pre x W1 hJ hl;refine⟨fn,tmps,assign,body,e1,e2.mono λe W' h=>?_⟩;rcases h with⟨h1,h2,h3⟩|h
  .exact .inl ⟨h1,h2,hKp _ _ h3,CR _ _ h3⟩
  .exact .inr h
end
section
open Sz
def eW:List Tm->Tm->Tm
 |[],t=>t
 |x::r,t=>.mk 2 0 [46] [x,eW r t]
theorem Ln(A:AV)(hA:A.aJ=0)(hb:basic A=true):aH (cD []) 3 66 [A] h0=some (.fn 108 [.ptr 0 0],⟨1,[.row [A]],0,0⟩):=by
 have h1:=λ(h:af) (n0 d:Nat)=>A5 (h:=h) (n0:=n0) (d:=d) hb
 have h2:=qz hb;simp[aip,c66,h1,h2,hA]
def NN:aW:=⟨66,λ|[.aF]=>some (.fn 108 [.ip [.aF]])|[.sl xs]=>some (.fn 108 [.ip [.sl xs]])|_=>none⟩
theorem SG:NN.f=66:=(rfl)
theorem Ze:aX Tryz.prog NN:=λaa v hv=>by
 unfold NN at hv|-;dsimp only at hv|-;split at hv
 .cases hv;exact Ny (bK (ss:=[]) (by simp)) (Ln _ rfl rfl) rfl rfl
 .cases hv;exact Ny (bK (ss:=[]) (by simp)) (Ln _ rfl rfl) rfl rfl
 .cases hv
theorem VV(A:AV)(h:A=.aF\/∃xs,A=.sl xs):NN.S [A]=some (.fn 108 [.ip [A]]):=by rcases h with rfl|⟨xs,rfl⟩<;>rfl
def aga:bZ:=.kT [⟨(some 3),.op (.box (.tmp 1)),none⟩,⟨(some 4),.op (.box (.const (.agg [(.int .i64 0),(.int .i64 0),(.str []),.aF]))),none⟩]
def ae1:bZ:=.kT [⟨(some 7),.op (.Hy (.tmp 0)),none⟩,⟨(some 8),.call 66 [(.tmp 7)],none⟩]
def ad6:bZ:=.block 1 (.kT [⟨(some 11),.op (.ld (some 4) (.tmp 6)),none⟩,⟨(some 12),.op (.ld (some 4) (.tmp 3)),none⟩,
 ⟨(some 13),.op (.AS 4 2 [(.int .i64 0),(.int .i64 0),(.str []),.aF,(.int .i64 0),(.int .i64 0),(.str []),.aF] [(0,(.tmp 11)),(1,(.tmp 12))]),none⟩,
 ⟨(some 14),.call 47 [(.const (.str [46])),(.tmp 13)],none⟩,⟨none,.op (.st 4 (.tmp 3) (.tmp 14)),none⟩])
def aeh:bZ:=.seq (.kT [⟨(some 15),.op (.ld (some 4) (.tmp 3)),none⟩,⟨none,.op (.st 4 (.tmp 4) (.tmp 15)),none⟩]) (.ret (mk 16 [4]))
def zT:List AV:=[.int .i64 0,.int .i64 0,.str [],.aF]
def Z2:List aW:=[rV,NN]
theorem af2:∀s∈Z2,aX Tryz.prog s:=by simp[Z2,vz,Ze]
def MB(A:AV)(t:Tm):List AV:=FM 16 [(8,.fn 108 [.ip [A]]),(7,A),(4,.ptr 1 0),(3,.ptr 0 0),(0,A),(1,t.aL)]
theorem Y7(A:AV)(t:Tm):aC (aH (cD Z2) 3) 3 aga (FM 16 [(0,A),(1,t.aL)]) h0=some (.normal,FM 16 [(4,.ptr 1 0),(3,.ptr 0 0),(0,A),(1,t.aL)],⟨2,[.row zT,.row t.cells],0,0⟩):=by have e:=t.bm;have r0:=ar t;simp[aga,e,Tm.cells,zT,r0]
theorem Zt(A:AV)(h:A=.aF\/∃xs,A=.sl xs)(t:Tm):aC (aH (cD Z2) 3) 3 ae1 (FM 16 [(4,.ptr 1 0),(3,.ptr 0 0),(0,A),(1,t.aL)]) ⟨2,[.row zT,.row t.cells],0,0⟩=some (.normal,MB A t,⟨2,[.row zT,.row t.cells],0,0⟩):=by
 have g:=VV A h;have fz:∀(h:af) (n0 d:Nat),jL h n0 (d+1) A=some (A,[]):=λh' _ _=>by rcases h with rfl|⟨xs,rfl⟩<;>rfl
 simp[ae1,Z2,qF,SG,fz,g,MB]
theorem Wl(A:AV)(t x u:Tm)(i:Nat):aC (aH (cD Z2) 3) 3 ad6 ((((MB A t).set 9 (.int .i64 (i:Int))).set 10 x.aL).set 6 (.ip x.aL.cells)) ⟨2,[.row zT,.row u.cells],2,2⟩=
 some (.normal,FM 16 [(14,(Tm.mk 2 0 [46] [x,u]).aL),(13,.vec 2 0 2 4 2),(12,u.aL),(11,x.aL),(6,.ip x.aL.cells),(10,x.aL),(9,.int .i64 (i:Int)),(8,.fn 108 [.ip [A]]),(7,A),(4,.ptr 1 0),(3,.ptr 0 0),(0,A),(1,t.aL)],⟨3,[.dead,.row zT,.row (Tm.mk 2 0 [46] [x,u]).cells],2,0⟩):=by
 have ex:=x.bm;have eu:=u.bm;have r1:=ar x;have r2:=ar u;have cs:=lK [46] [x,u] (by simp);have c1:=qz (ux x);have c2:=qz (ux u);have ec:(cE [46] [x,u]).aL=.agg [.int .i64 2,.int .i64 0,.str [46],.sl [x.aL,u.aL]]:=by simp[cE,Tm.aL,Tm.uR]
 have em:(Tm.mk 2 0 [46] [x,u]).aL=.agg [.int .i64 2,.int .i64 0,.str [46],.sl [x.aL,u.aL]]:=by simp[Tm.aL,Tm.uR]
 have k1:(Tm.mk 2 0 [46] [x,u]).aj=2:=rfl;have k2:(Tm.mk 2 0 [46] [x,u]).bj=0:=rfl;have k3:(Tm.mk 2 0 [46] [x,u]).az=[46]:=rfl;have k4:(Tm.mk 2 0 [46] [x,u]).bh=.sl [x.aL,u.aL]:=rfl;rw[ec] at cs;simp only[List.map_cons,List.map_nil,ex,eu,Tm.cells] at cs;have f1:=λ(h:af) (n0 d:Nat)=>aw h n0 d x
 have f2:=λ(h:af) (n0 d:Nat)=>aw h n0 d u
 simp[ad6,Z2,MB,Yp,qF,SG,ex,eu,r1,r2,f1,f2,Tm.cells,cs,c1,c2,AV.cells,em,k1,k2,k3,k4]
theorem Wo(A:AV)(t u:Tm):aC (aH (cD Z2) 3) 3 aeh (MB A t) ⟨2,[.row zT,.row u.cells],2,2⟩=some (.ret,FM 16 [(4,.ptr 1 0)],⟨2,[.row u.cells,.row u.cells],2,1⟩):=by have eu:=u.bm;have r2:=ar u;simp[aeh,MB,eu,r2,Tm.cells,zT]
end
section
open Go.RowKit Sz
variable {X:World->Prop}
theorem enters(f:Nat){fn:Func}(AU:Tryz.prog.funcs[f]? =some fn)(AQ:(fn.name== "runtime.NumGoroutine")=false)(wq:fn.body.isSome=true)(aV:Array Value)(w:World):(callFunc f aV).run Tryz.prog w=.ok (.enter f aV) w:=by
 obtain⟨c,hc⟩:=Option.isSome_iff_exists.1 wq;have eR:¬fn.name= "runtime.NumGoroutine" :=by simpa using AQ
 simp[callFunc,AU,eR,hc]
theorem afB:∃i z,Tryz.prog.info? 31=some i/\i.zero=some z/\z.cells.size=i.size/\i.size=4:=by
 have h:(Tryz.prog.info? 31).map (λi=>(i.zero.map (·.cells.size),i.size))=some (some 4,4):=by kernel_rfl
 obtain⟨i,hi,e⟩:=Option.map_eq_some_iff.1 h;simp only[Prod.mk.injEq,Option.map_eq_some_iff] at e;obtain⟨⟨z,hz,IV⟩,hs⟩:=e;exact⟨i,z,hi,hz,by omega,hs⟩
mutual
theorem Tm.fM:∀t:Tm,t.aL.fM=true
 |.nl k n s=>rfl
 |.mk k n s us=>by have:=Tm.oR us;simp[Tm.aL,AV.fM,AV.oR,this]
theorem Tm.oR:∀l:List Tm,AV.vo (Tm.uR l)=true
 |[]=>rfl
 |t::r=>by
   have h1:=Tm.fM t;have h2:=Tm.oR r;have h3:t.aL.cells.isEmpty=false:=by rw[t.bm];rfl
   simp[Tm.uR,AV.vo,h1,h2,h3]
end
theorem Tm.XV(t:Tm):∀v∈t.cells,v.fM=true:=by have h:=t.fM;rw[t.bm] at h;intro v hv;obtain⟨j,hj,rfl⟩:=List.getElem_of_mem hv;exact lW (by simpa[AV.fM] using h) j hj
theorem YI{a b:List AV}{w m id:Nat}:live ⟨2,[.row a,.row b],w,m⟩ id↔id<2:=by
 refine⟨λ⟨o,hg,_⟩=>af.dR hg,λh=>?_⟩
 match id,h with
 |0,_=>exact⟨.row b,rfl,λe=>by cases e⟩
 |1,_=>exact⟨.row a,rfl,λe=>by cases e⟩
theorem ahX{a b cs:List AV}{w m id:Nat}(h:(⟨2,[.row a,.row b],w,m⟩:af).get id=some (.row cs)):cs=a\/cs=b:=by
 have:=af.dR h
 match id,this with
 |0,_=>exact .inr (by cases h;rfl)
 |1,_=>exact .inl (by cases h;rfl)
theorem aiF{a b:List AV}{es:List (AV×AV)}{w m id:Nat}(h:(⟨2,[.row a,.row b],w,m⟩:af).get id=some (.map es)):False:=by
 have:=af.dR h
 match id,this with
 |0,_=>cases h
 |1,_=>cases h
def CF(us:List Tm)(t:Tm)(pre:List (Fin (us.map Tm.aL).length)):Tm:=pre.foldl (λu x=>.mk 2 0 [46] [us[x.1]'(by simpa using x.2),u]) t
theorem FB(us:List Tm)(t:Tm)(pre:List (Fin (us.map Tm.aL).length))(x:Fin (us.map Tm.aL).length):CF us t (pre++[x])=.mk 2 0 [46] [us[x.1]'(by simpa using x.2),CF us t pre]:=by simp[CF]
theorem Ul(us:List Tm)(t:Tm)(xs:List (Fin (us.map Tm.aL).length))(h1:EN xs)(h2:xs.length=(us.map Tm.aL).length):CF us t xs=eW us t:=by
 have hl:(us.map Tm.aL).length=us.length:=by simp
 have key:∀k,k<=xs.length->CF us t (xs.take k)=eW (us.drop (us.length-k)) t:=by
  intro k
  induction k with
  |zero=>intro _;simp[CF,eW]
  |succ k ih=>
    intro hk;have hx:=h1 k (by omega);rw[List.take_succ_eq_append_getElem (by omega),FB,ih (by omega)];have cY:us.length-(k+1)<us.length:=by omega
    rw[List.drop_eq_getElem_cons cY];have e1:us.length-(k+1)+1=us.length-k:=by omega
    have e2:(xs[k]).1=us.length-(k+1):=by omega
    simp only[e1,eW,e2]
 have:=key xs.length (Nat.le_refl _);rw[List.take_length,h2,hl,Nat.sub_self,List.drop_zero] at this;exact this
theorem OW{φ:eJ}{h:af}{w:World}{A:AV}{us:List Tm}(hA:(A=.aF/\us=[])\/A=.sl (us.map Tm.aL)){csl:Value}(hv:fe φ h w A csl):
 ∃vs:Nat->Nat->Value,(∀j (hj:j<(us.map Tm.aL).length),fe φ h w (us.map Tm.aL)[j] (.agg #[vs j 0,vs j 1,vs j 2,vs j 3]))/\
   ((∃ad cap,csl=.slice ad 0 cap/\(us.map Tm.aL).length=0)\/∃b2 o2 cap,csl=.slice (some ⟨b2,o2,none⟩) (us.map Tm.aL).length cap/\Pr φ h w b2/\∀k j,k<(us.map Tm.aL).length->j<4->w.cell? ⟨b2,o2+(k*4+j),none⟩=some (vs k j)):=by
 rcases hA with⟨rfl,rfl⟩|rfl
 .obtain⟨ad,rfl⟩:=hv.nh;exact⟨λ_ _=>default,λj hj=>by simp at hj,.inl ⟨ad,0,rfl,rfl⟩⟩
 .rcases hv.tU with⟨ad,cap,e1,rfl⟩|⟨b2,o2,cap,sz,vs,rfl,hp,kI,_,h1,iE,mG,KB⟩
  .refine⟨λ_ _=>default,λj hj=>?_,.inl ⟨ad,cap,rfl,by rw[e1];rfl⟩⟩;rw[e1] at hj;simp at hj
  .have hs4:∀k,k<(us.map Tm.aL).length->sz=4:=λk hk=>by
    have:=iE k hk;rw[List.getElem_map,Tm.bm] at this;simpa[AV.cells?,Tm.cells] using this.symm
   refine⟨vs,λj hj=>?_,.inr ⟨b2,o2,cap,rfl,hp,λk j hk hj=>?_⟩⟩
   .have:=KB j hj;rw[List.getElem_map,Tm.bm] at this|-;refine .agg _ _ rfl (λk=>?_) λk hk=>?_
    .match k with
     |0=>exact h1 j 0
     |1=>exact h1 j 1
     |2=>exact h1 j 2
     |3=>exact h1 j 3
     |k+4=>rfl
    .have hk4:k<4:=hk;have:=this k hk
     match k,hk4 with
     |0,_=>exact this
     |1,_=>exact this
     |2,_=>exact this
     |3,_=>exact this
   .have e:=hs4 k hk;subst e;have:=mG k j hk hj;rw[Nat.add_assoc] at this;exact this
theorem Pb(us:List Tm)(t:Tm)(A:AV)(hA:(A=.aF/\us=[])\/A=.sl (us.map Tm.aL))(hl:us.length<1000000000000){φ:eJ}{w:World}{aV:Array Value}(hr:HR φ h0 w)(hG:ir Tryz.prog X φ h0 w)(ha:kU φ h0 w [A,t.aL] aV):
 Calls Tryz.prog 33 aV w (lL φ h0 w (eW us t).aL ⟨2,[.row (eW us t).cells,.row (eW us t).cells],2,1⟩):=by
 obtain⟨hC,uT⟩:=zO (jF (X:=X) (ss:=Z2) λs hs=>(af2 s hs).lift) 3;have G3:A=.aF\/∃xs,A=.sl xs:=hA.imp (·.1) λh=>⟨_,h⟩
 have iE:aV.size=2:=ha.1;have DS:(MB A t).length=16:=by simp[MB,FM]
 refine (callsIn_wide (n:=3)).1 ?_;refine callsIn_of_wp_marks Tryz.func33 rfl trivial ?_ rfl;have f0:=Qt ha 16 (by simp);refine wpIn_seq ?_;refine lO (l0:=none) hC uT mixed 3 _ aga (by kernel_rfl) (Y7 A t) f0 hr hG λφ1 a1 w1 f1 r1 x1 d1=>?_
 show Code.wpIn _ _ _ _ _ _ _;refine wpIn_seq (wpIn_seq ?_);refine lO (l0:=none) hC uT mixed 3 _ ae1 (by kernel_rfl) (Zt A G3 t) f1 r1 (hG.ext x1) λφ2 a2 w2 f2 r2 x2 d2=>?_
 show Code.wpIn _ _ _ _ _ _ _;refine wpIn_block ?_;obtain⟨r3,x3⟩:=r2.uK 2 2;have f3:=f2.ext x3;have hx:=(x1.trans x2).trans x3;have hG3:=hG.ext hx
 -- the iterator
 have hg8:=f3.2 8;have anP:fe φ2 ⟨2,[.row zT,.row t.cells],2,2⟩ w2 (.fn 108 [.ip [A]]) (a2.tmps.getD 8 undef):=hg8;obtain⟨eY,e8,nQ,hcv⟩:=anP.D5;have anQ:=hcv 0 (by simp);obtain⟨b,o,vb,eb,hpb,_,_,mG,hvb⟩:=(RV.Pp anQ)
 have agX:=mG 0 (by simp);have anS:=hvb 0 (by simp);obtain⟨vs,hEs,oG⟩:=OW hA anS
 have anT:eY=#[.pointer (some ⟨b,o,none⟩)]:=by
  obtain⟨l⟩:=eY
  match l,nQ with
  |[c],_=>simpa using eb
 obtain⟨i,z,hi,hz,IV,his⟩:=afB;have kp:∀b',Pr φ2 ⟨2,[.row zT,.row t.cells],2,2⟩ w2 b'->∀A' B',KpR φ2 ⟨2,[.row zT,.row t.cells],2,2⟩ w2 A' B'->B'.heap[b']? =A'.heap[b']?:=λb' B2 A' B' h=>h b' B2.1 B2.2.1
 refine I8 (X:=X) (C:=aH (cD Z2) 3) (m:=3) hC uT mixed (by omega) r3 hG3 f3 (gf:=108) (lb:=#[.pointer (some ⟨b,o,none⟩)]) (by rw[<-anT];exact e8) (enters 108 Tryz.func108 (by kernel_rfl) rfl) ⟨rfl,rfl,rfl⟩ ⟨rfl,rfl,rfl⟩ hi hz IV (by rw[DS];decide) (by rw[DS];decide) (by rw[DS];decide) (by decide)
  (Es:=us.map Tm.aL) (vs:=λj=>#[vs j 0,vs j 1,vs j 2,vs j 3]) hEs (λv hv=>?_)
  (On (3-1) (by omega) b o (us.map Tm.aL).length (by simp;omega) vs w2 agX hpb.1 (oG.imp_right λ⟨b2,o2,cap,e1,e2,e3⟩=>⟨b2,o2,cap,e1,e2.1,kp b2 e2,e3⟩) (kp b hpb))
  (acB:=ad6) (by kernel_rfl) (λpre=>⟨2,[.row zT,.row (CF us t pre).cells],2,2⟩) rfl (λ_=>rfl) (λpre x=>?_) ?_
 .obtain⟨u,_,rfl⟩:=List.mem_map.1 hv;refine⟨u.cells,u.bm,by rw[his];rfl,?_⟩;have:=u.bC;rw[u.bm] at this;simpa[AV.aJ] using this
 .have hxl:x.1<us.length:=by simpa using x.2
  have hex:(us.map Tm.aL)[x.1]=(us[x.1]).aL:=by simp
  rw[hex];refine⟨_,_,Wl A t us[x.1] (CF us t pre) x.1,Nat.le_refl _,?_,?_,?_,?_⟩
  .rw[FB];rfl
  .intro id h;rw[YI] at h|-;exact h
  .intro id cs h v hv;rcases ahX h with rfl|rfl
   .simp only[zT,List.mem_cons,List.not_mem_nil,or_false] at hv;rcases hv with rfl|rfl|rfl|rfl<;>rfl
   .exact Tm.XV _ v hv
  .intro id es h;exact (aiF h).elim
 .rintro D xs W φ' hD ⟨aka,dI⟩ fD rD xD hK;rw[Ul us t xs aka dI] at *;show Code.wpIn _ _ _ _ _ _ _;refine lO (l0:=none) hC uT mixed 3 _ aeh (by kernel_rfl) (Wo A t (eW us t)) (a:={a2 with defers:={target:=.collected D,args:=#[]}::a2.defers}) fD rD (hG3.ext xD) λφ4 a4 w4 f4 r4 x4 d4=>?_
  have hd:a4.defers=[{target:=.collected D,args:=#[]}]:=by rw[d4];show _::a2.defers=_;rw[d2,d1]
  show LeavesInM _ _ _ _ a4.tmps _ a4.defers .returning w4;rw[hd]
  have hK4:w4.heap[D]? =some (.deferred (some [])):=by
   refine (x4.pr D ⟨(Array.getElem?_eq_some_iff.1 hK).1,λid hl e=>?_,λDR=>?_⟩).2.trans hK
   .have qh:id<2:=YI.1 hl;have e1:=xD.CD id qh;have e2:=r3.fA (YI.2 qh);rw[e1] at e;omega
   .rw[xD.gh.1] at DR;have:=(r3.gh D DR).1;omega
  have hws:=hx.size;refine aa7 (rs:=[.cell 4 (some 4)]) hr (by kernel_rfl) f4 r4 ((hx.trans xD).trans x4) hK4 (by omega) (λid cs h v hv=>?_) (λid es h=>(aiF h).elim) (λk=>?_) ?_
  .rcases ahX h with rfl|rfl<;>exact Tm.XV _ v hv
  .by_cases hk:k<16
   .rw[Dm _ hk];by_cases h4:k=4
    .subst h4;rfl
    .have:lk [(4,AV.ptr 1 0)] k=.undef:=by
      unfold lk;simp[lk,Ne.symm h4]
     rw[this];rfl
   .have:(FM 16 [(4,AV.ptr 1 0)]).getD k .undef=.undef:=by
     rw[List.getD_eq_getElem?_getD,List.getElem?_eq_none (by rw[nN];omega)];rfl
    rw[this];rfl
  .rw[(eW us t).bm];rfl
theorem Hh(us:List Tm)(t:Tm)(A:AV)(hA:(A=.aF/\us=[])\/A=.sl (us.map Tm.aL))(hl:us.length<1000000000000):gD Tryz.prog X 33 [A,t.aL] (eW us t).aL:=
 w6 (h':=⟨2,[.row (eW us t).cells,.row (eW us t).cells],2,1⟩) (Tm.bC _) (by rcases hA with⟨rfl,_⟩|rfl<;>simp[AV.ah,AV.aJ,Tm.bC]) λφ w aV hr hG ha=>.inl ⟨enters 33 Tryz.func33 (by kernel_rfl) rfl _ _,Pb us t A hA hl hr hG ha⟩
def Fu:aW:=⟨33,λ
 |[.aF,v]=>(match fK v with|some t=>some t.aL|none=>none)
 |[.sl xs,v]=>(match lU xs,fK v with|some us,some t=>if us.length<1000000000000 then some (eW us t).aL else none|_,_=>none)
 |_=>none⟩
theorem abo:Fu.f=33:=(rfl)
theorem EX(us:List Tm)(t:Tm)(h:us.length<1000000000000):Fu.S [.sl (us.map Tm.aL),t.aL]=some (eW us t).aL:=by unfold Fu;dsimp only;rw[<-jb,l7,cd];exact if_pos h
theorem Zz:aX Tryz.prog Fu:=λargs v hv=>by
 unfold Fu at hv|-;dsimp only at hv|-;split at hv
 .split at hv
  .rename_i t ht;cases hv;rw[cf ht];exact Hh [] t .aF (.inl ⟨rfl,rfl⟩) (by simp)
  .cases hv
 .split at hv
  .rename_i us t hu ht;split at hv
   .rename_i hl;cases hv;rw[cf ht,td hu];exact Hh us t _ (.inr rfl) hl
   .cases hv
  .cases hv
 .cases hv
end
section
open Sz
def rq:Nat->Tm->List Tm×Tm
 |0,t=>([],t)
 |n+1,t=>match t.aa with
   |[x,r]=>if t.aj=2/\t.az=[46] then (x::(rq n r).1,(rq n r).2) else ([],t)
   |_=>([],t)
def a8(t:Tm):List Tm×Tm:=rq t.size t
theorem Mt:∀(n:Nat) (t:Tm),t.size<=n->rq n t=a8 t:=by
 have key:∀(n m:Nat) (t:Tm),t.size<=n->t.size<=m->rq n t=rq m t:=by
  intro n
  induction n with
  |zero=>intro m t h;have:=bJ t;omega
  |succ n ih=>
    intro m t h1 h2
    cases m with
    |zero=>have:=bJ t;omega
    |succ m=>
      have hs:=bJ t;unfold rq;split
      .rename_i x r he;rw[he] at hs;simp[Tm.br] at hs;rw[ih m r (by omega) (by omega)]
      .rfl
 exact λn t h=>key n t.size t h (Nat.le_refl _)
def hO(t:Tm):Bool:=decide (t.aj=2)&&decide (t.az=[46])&&decide (t.aa.length=2)
theorem pn{t:Tm}(h:hO t=false):a8 t=([],t):=by
 unfold a8
 cases hs:t.size with
 |zero=>rfl
 |succ n=>
   unfold rq;split
   .rename_i x r he;rw[if_neg];intro hk;simp[hO,he,hk] at h
   .rfl
theorem kf{t:Tm}(h:hO t=true):∃x r,t.aa=[x,r]/\a8 t=(x::(a8 r).1,(a8 r).2):=by
 simp only[hO,Bool.and_eq_true,decide_eq_true_eq] at h;obtain⟨⟨h1,h2⟩,h3⟩:=h
 match ha:t.aa,h3 with
 |[x,r],_=>
   refine⟨x,r,rfl,?_⟩
   have e:a8 t=rq (t.size-1+1) t:=by have:=bJ t;unfold a8;congr 1;omega
   rw[e];unfold rq;rw[ha];simp only[h1,h2,and_self,if_true];have hs:=bJ t;rw[ha] at hs;simp[Tm.br] at hs;rw[Mt _ r (by omega)]
end
section
open Sz Go.RowKit
theorem Aa{w w':World}(h:w'=w):Below w.heap.size w w':=h▸Below.refl _ _
def ow:aW:=⟨123,λ|[.str s,.str p]=>some (.str (Lib.trimPrefix s p))|_=>none⟩
theorem oc:ow.f=123:=(rfl)
theorem EB(s p:List UInt8):ow.S [.str s,.str p]=some (.str (Lib.trimPrefix s p)):=rfl
theorem Ek:aX Tryz.prog ow:=λaa v hv=>by
 unfold ow at hv|-;dsimp only at hv|-;split at hv
 .rename_i s p;cases hv;exact Iq (enters 123 Tryz.func123 rfl rfl) λw _=>(Tryz.strings_TrimPrefix ⟨s.toArray⟩ ⟨p.toArray⟩ w).mono λe w' ⟨h1,h2⟩=>⟨by simpa using h1,Aa h2⟩
 .cases hv
def j8:aW:=⟨84,λ|[.str s,.str p]=>some (.bool (Lib.hasPrefix s p))|_=>none⟩
theorem eQ:j8.f=84:=(rfl)
theorem xQ(s p:List UInt8):j8.S [.str s,.str p]=some (.bool (Lib.hasPrefix s p)):=rfl
theorem GU:aX Tryz.prog j8:=λaa v hv=>by
 unfold j8 at hv|-;dsimp only at hv|-;split at hv
 .rename_i s p;cases hv;exact T5 (enters 84 Tryz.func84 rfl rfl) λw _=>(Tryz.strings_HasPrefix ⟨s.toArray⟩ ⟨p.toArray⟩ w).mono λe w' ⟨h1,h2⟩=>⟨by simpa using h1,Aa h2⟩
 .cases hv
def lF(c:Nat):List UInt8->Int
 |[]=>-1
 |b::r=>if Nat.beq b.toNat c then 0 else match lF c r with|.ofNat n=>.ofNat (n+1)|.negSucc _=>-1
theorem Rw(c:UInt8):∀l,Lib.indexByte l c=lF c.toNat l
 |[]=>rfl
 |b::r=>by
   unfold Lib.indexByte lF;rw[Rw c r]
   have e:Nat.beq b.toNat c.toNat=(b==c):=by
    by_cases h:b=c
    .subst h;simp[Nat.beq_refl]
    .have h2:(b==c)=false:=by simpa using h
     rw[h2]
     cases h3:Nat.beq b.toNat c.toNat with
     |false=>rfl
     |true=>exact absurd (UInt8.toNat_inj.1 (Nat.eq_of_beq_eq_true h3)) h
   rw[e]
   cases hb:b==c with
   |true=>rfl
   |false=>
     simp only[Bool.false_eq_true,if_false]
     cases h:lF c.toNat r with
     |ofNat n=>
       have:((Int.ofNat n)==-1)=false:=by simp
       rw[this];rfl
     |negSucc n=>
       have hn:n=0:=by
        have:∀l k,lF c.toNat l=.negSucc k->k=0:=λl=>by
         induction l with
         |nil=>intro k hk;cases hk;rfl
         |cons b r ih=>
           intro k hk;unfold lF at hk;split at hk
           .cases hk
           .split at hk
            .cases hk
            .cases hk;rfl
        exact this r n h
       subst hn;rfl
def iB:aW:=⟨65,λ|[.str s,.int .u8 c]=>if 0<=c/\c<256 then some (.int .i64 (lF c.toNat s)) else none|_=>none⟩
theorem aK:iB.f=65:=(rfl)
theorem fy(s:List UInt8)(c:UInt8):iB.S [.str s,.int .u8 c.toNat]=some (.int .i64 (lF c.toNat s)):=by have:c.toNat<256:=c.toNat_lt;unfold iB;dsimp only;rw[if_pos (by omega),Int.toNat_natCast]
theorem nV:aX Tryz.prog iB:=λaa v hv=>by
 unfold iB at hv|-;dsimp only at hv|-;split at hv
 .rename_i s c;split at hv
  .rename_i hc;cases hv;refine kv (enters 65 Tryz.func65 rfl rfl) λφ h w aV hr hG ha=>?_
   obtain⟨cx,cy,rfl,h1,h2⟩:=ov ha;rw[fS h1,int_eq h2];refine (Tryz.strings_IndexByte ⟨s.toArray⟩ c w).mono λe w' ⟨he,hw⟩=>?_
   refine⟨Aa hw,_,he,?_⟩
   have e1:c.toNat.toUInt8.toNat=c.toNat:=by show (UInt8.ofNat c.toNat).toNat=_;rw[UInt8.toNat_ofNat'];omega
   rw[Rw,e1];exact .int _ _
  .cases hv
 .cases hv
def SP:Nat->Nat->List UInt8
 |0,_=>[]
 |f+1,u=>if u<10 then [UInt8.ofNat (48+u)] else SP f (u / 10)++[UInt8.ofNat (48+u%10)]
theorem ES:∀(f u:Nat),u<10^(f+1)->SP (f+1) u=Lib.decDigits u
 |0,u,h=>by
   have:u<10:=by simpa using h
   rw[Lib.decDigits,dif_pos this];simp[SP,this]
 |f+1,u,h=>by
   rw[Lib.decDigits];unfold SP;by_cases h1:u<10
   .rw[if_pos h1,dif_pos h1]
   .rw[if_neg h1,dif_neg h1,ES f (u / 10) (by rw[Nat.pow_succ] at h;omega)]
def cn(n:Int):List UInt8:=if n<0 then 45::SP 20 n.natAbs else SP 20 n.toNat
theorem sj(n:Int)(h1:-9223372036854775808<=n)(h2:n<9223372036854775808):cn n=Lib.itoa n:=by unfold cn Lib.itoa;rw[ES 19 _ (by omega),ES 19 _ (by omega)]
def bV(w:World):Prop:=Lib.TabIs Tryz.prog w "internal/strconv.uint64pow10" .u64 Lib.pow10Tab/\∃te pe,w.cell? ⟨2,0,none⟩=some (.iface te pe)
theorem GK{P:Program}{W:World}{az nm:String}{d:DataW Unit}{ax:List (String×DataW Unit)}{g t:Nat}{ms:Array (String×TypeId)}
 (hg:P.globalNamed az=some g) (hty:(P.globals[g]?).map (·.type)=some t) (ht:P.underlying t=some (.interface ms))
 (h:laidMet P ((az,.iface nm d)::ax) W):∃te pe,W.cell? ⟨g,0,none⟩=some (.iface te pe):=by
 obtain⟨ps,⟨g',t',cs,fuel,p,q,B4,ht',anX,hd,_,_⟩,_⟩:=h;obtain rfl:=Option.some.inj (hg.symm.trans B4);obtain rfl:=Option.some.inj (hty.symm.trans ht')
 cases fuel with
 |zero=>simp[DataW.trod] at hd
 |succ fuel=>
   have hc:=World.var?_cell hg anX 0
   match nQ:cs.toList with
   |[]=>rw[nQ] at hd;simp[DataW.trod,ht] at hd
   |[v]=>
     have h0:cs[0]? =some v:=by rw[<-Array.getElem?_toList,nQ];rfl
     rw[h0] at hc;rw[nQ] at hd
     cases v with
     |iface u v=>exact⟨u,v,hc⟩
     |_=>simp[DataW.trod,ht] at hd
   |v::v'::r=>rw[nQ] at hd;simp[DataW.trod,ht] at hd
theorem YD{φ:eJ}{h:af}{w:World}(hG:ir Tryz.prog bV φ h w):∃te pe,w.cell? ⟨2,0,none⟩=some (.iface te pe):=by
 obtain⟨w1,h1,h2⟩:=hG;obtain⟨te,pe,hc⟩:=h1.2.2;refine⟨te,pe,?_⟩
 have cY:2<w1.heap.size:=by
  unfold World.cell? at hc;split at hc
  .rename_i hb;exact (Array.getElem?_eq_some_iff.1 hb).1
  .cases hc
 rw[cell?_of_block (h2 2 cY).2.2];exact hc
def Ab:aW:=⟨175,λ|[.int .i64 n,.int .i64 b]=>if b=10/\-9223372036854775808<=n/\n<9223372036854775808 then some (.str (cn n)) else none|_=>none⟩
theorem TR:Ab.f=175:=(rfl)
theorem OB(n:Int)(h:-9223372036854775808<=n/\n<9223372036854775808):Ab.S [.int .i64 n,.int .i64 10]=some (.str (cn n)):=if_pos ⟨rfl,h⟩
theorem PU:dU Tryz.prog bV Ab:=λaa v hv=>by
 unfold Ab at hv|-;dsimp only at hv|-;split at hv
 .rename_i n b;split at hv
  .rename_i hn;obtain⟨rfl,hn⟩:=hn;cases hv;rw[sj n hn.1 hn.2];refine kv (enters 175 Tryz.func175 rfl rfl) λφ h w aV hr hG ha=>?_
   obtain⟨cx,cy,rfl,h1,h2⟩:=ov ha;rw[int_eq h1,int_eq h2];refine (Tryz.strconv_FormatInt_10 n hn.1 (by omega) w (hG.tab λw h=>h.1)).mono λe w' ⟨he,k,os,hw⟩=>?_
   subst hw;exact⟨PM _ _ _,_,he,.Y0 _⟩
  .cases hv
 .cases hv
theorem Eb{φ:eJ}{h:af}{w:World}{x y z:AV}{aV:Array Value}(ha:kU φ h w [x,y,z] aV):∃cx cy cz,aV=#[cx,cy,cz]/\fe φ h w x cx/\fe φ h w y cy/\fe φ h w z cz:=by
 obtain⟨h1,h2⟩:=Xf ha;obtain⟨l⟩:=aV
 match l,h1 with
 |[cx,cy,cz],_=>exact⟨cx,cy,cz,rfl,h2 0 (by simp),h2 1 (by simp),h2 2 (by simp)⟩
def Jk(s:List UInt8):Option AV:=match Lib.parseIntB 64 s with
 |.ok v=>some (.tuple [.int .i64 v,.nu])
 |.range=>some (.tuple [.int .i64 (Lib.intSat 64 s),.iface 217 .undef])
 |_=>none
def Fw:aW:=⟨125,λ|[.str s,.int .i64 b,.int .i64 c]=>if b=10/\c=64/\s.length<281474976710656 then Jk s else none|_=>none⟩
theorem yX:Fw.f=125:=(rfl)
theorem TI(s:List UInt8)(h:s.length<281474976710656):Fw.S [.str s,.int .i64 10,.int .i64 64]=Jk s:=if_pos ⟨rfl,rfl,h⟩
theorem Vw:dU Tryz.prog bV Fw:=λaa v hv=>by
 unfold Fw at hv|-;dsimp only at hv|-;split at hv
 .rename_i s b c;split at hv
  .rename_i hn;obtain⟨rfl,rfl,hn⟩:=hn;unfold Jk at hv;split at hv
   .rename_i v' hp;cases hv;refine kv (enters 125 Tryz.func125 rfl rfl) λφ h w aV hr hG ha=>?_
    obtain⟨cx,cy,cz,rfl,h1,h2,h3⟩:=Eb ha;rw[fS h1,int_eq h2,int_eq h3];refine (Tryz.strconv_ParseInt_10_at64_ok ⟨s.toArray⟩ (by rw[Lib.size_eq];simp;omega) v' (by simpa using hp) w).mono λe w' ⟨he,hw⟩=>?_
    refine⟨?_,_,he,?_⟩
    .rcases hw with rfl|⟨t,rfl⟩
     .exact Below.refl _ _
     .exact Lib.bytesWorld_below _ _ _
    .refine .tuple _ _ rfl λj hj=>?_
     match j,hj with
     |0,_=>exact .int _ _
     |1,_=>exact .nu
   .rename_i hp;cases hv;refine kv (enters 125 Tryz.func125 rfl rfl) λφ h w aV hr hG ha=>?_
    obtain⟨cx,cy,cz,rfl,h1,h2,h3⟩:=Eb ha;rw[fS h1,int_eq h2,int_eq h3];obtain⟨te,pe,oV⟩:=YD hG;refine (Tryz.strconv_ParseInt_10_at64_range ⟨s.toArray⟩ (by rw[Lib.size_eq];simp;omega) (by simpa using hp) _ w oV (.inr ⟨te,pe,rfl⟩)).mono λe w' ⟨N,he,_,_,hw⟩=>?_
    refine⟨hw,_,he,?_⟩;refine .tuple _ _ rfl λj hj=>?_
    match j,hj with
    |0,_=>simpa using (RV.int (φ:=φ) (nx:=h.next) (pr:=Pr φ h w') (w:=w') .i64 (Lib.intSat 64 s))
    |1,_=>exact .iface _ _ _ (.undef _)
   .cases hv
  .cases hv
 .cases hv
def digits:List UInt8:=[48,49,50,51,52,53,54,55,56,57]
def Ik(s:List UInt8):List UInt8:=(s.reverse.dropWhile (digits.contains ·)).reverse.dropWhile (digits.contains ·)
def trimS:aW:=⟨124,λ|[.str s,.str c]=>if s.length<9223372036854775807/\c=digits then some (.str (Ik s)) else none|_=>none⟩
theorem DN:trimS.f=124:=(rfl)
theorem WQ(s:List UInt8)(h:s.length<9223372036854775807):trimS.S [.str s,.str digits]=some (.str (Ik s)):=if_pos ⟨h,rfl⟩
theorem Zp:aX Tryz.prog trimS:=λaa v hv=>by
 unfold trimS at hv|-;dsimp only at hv|-;split at hv
 .rename_i s c;split at hv
  .rename_i hl;obtain⟨hl,rfl⟩:=hl;cases hv;refine Iq (enters 124 Tryz.func124 rfl rfl) λw _=>(Any.strings_Trim_laid Tryz.aaZ (by kernel_rfl) ⟨s.toArray⟩ ⟨digits.toArray⟩ w (by rw[Lib.size_eq];simp;omega) (by decide) (ascii_of_all (by decide))).mono λe w' ⟨h1,h2⟩=>⟨?_,h2⟩
   rw[h1];rfl
  .cases hv
 .cases hv
end
section
open Sz
def dN(c:UInt8):Bool:=decide (48<=c.toNat)&&decide (c.toNat<=57)
def cZ:List UInt8->Bool
 |[]=>true
 |c::r=>dN c&&cZ r
@[irreducible] def afJ(aM:Nat)(c:UInt8):Nat:=aM*10+(c.toNat-48)
theorem aa2(aM:Nat)(c:UInt8):afJ aM c=aM*10+(c.toNat-48):=by unfold afJ;rfl
def oC:Nat->List UInt8->Nat
 |aM,[]=>aM
 |aM,c::r=>oC (afJ aM c) r
theorem ox(aM:Nat):oC aM []=aM:=by rw[oC]
theorem kP(aM:Nat)(c:UInt8)(r:List UInt8):oC aM (c::r)=oC (aM*10+(c.toNat-48)) r:=by rw[oC,aa2]
attribute [irreducible] oC
theorem Xt(c:UInt8):digits.contains c=dN c:=by
 have h:∀n:Fin 256,digits.contains (UInt8.ofNat n.1)=dN (UInt8.ofNat n.1):=by decide+kernel
 have:=h ⟨c.toNat,c.toNat_lt⟩;simpa using this
theorem Fm:∀a b,cZ (a++b)=(cZ a&&cZ b)
 |[],b=>by simp[cZ]
 |x::r,b=>by simp[cZ,Fm r b,Bool.and_assoc]
theorem EC:∀{l:List UInt8},cZ l=true↔∀c∈l,dN c=true
 |[]=>by simp[cZ]
 |x::r=>by simp[cZ,EC (l:=r)]
theorem dropWhile_nil{p:UInt8->Bool}:∀{l:List UInt8},l.dropWhile p=[]↔∀c∈l,p c=true
 |[]=>by simp
 |x::r=>by
   rw[List.dropWhile_cons];split
   .rename_i h;rw[dropWhile_nil];simp[h]
   .rename_i h;simp[h]
theorem Is(s:List UInt8):(Ik s=[])↔cZ s=true:=by
 unfold Ik;have e:(λc=>digits.contains c)=dN:=funext Xt;simp only[e];rw[EC,dropWhile_nil];constructor
 .intro h c hc;have hs:s.reverse=s.reverse.takeWhile dN++s.reverse.dropWhile dN:=(List.takeWhile_append_dropWhile).symm;have VK:c∈s.reverse:=by simpa using hc
  rw[hs,List.mem_append] at VK;rcases VK with h1|h1
  .have key:∀(l:List UInt8),c∈l.takeWhile dN->dN c=true:=by
    intro l
    induction l with
    |nil=>simp
    |cons x r ih=>
      rw[List.takeWhile_cons];split
      .rename_i hx;intro hm;rcases List.mem_cons.1 hm with rfl|hm
       .exact hx
       .exact ih hm
      .simp
   exact key _ h1
  .exact h c (by simpa using h1)
 .intro h c hc
  have:c∈s:=by
   have h1:c∈s.reverse.dropWhile dN:=by simpa using hc
   have:=(List.dropWhile_sublist dN (l:=s.reverse)).subset h1;simpa using this
  exact h c this
theorem Ke:∀(l:List UInt8) (aM:Nat),aM<=oC aM l
 |[],aM=>by rw[ox];exact Nat.le_refl aM
 |c::r,aM=>by have:=Ke r (aM*10+(c.toNat-48));rw[kP];omega
theorem tz(M:Nat)(hM:M<=18446744073709551615):∀(l:List UInt8) (aM:Nat),cZ l=true->oC aM l<=M->Lib.parseUintM M aM l=.ok (oC aM l)
 |[],aM,_,_=>by rw[ox,Lib.parseUintM]
 |c::r,aM,h,hv=>by simp only[cZ,dN,Bool.and_eq_true,decide_eq_true_eq] at h;have h2:=Ke r (aM*10+(c.toNat-48));rw[kP] at hv|-;unfold Lib.parseUintM;rw[if_pos h.1,if_neg (by omega),if_neg (by omega),tz M hM r _ h.2 hv]
def gv(s:List UInt8):Int×Int:=
 let d:=Lib.trimPrefix s [45]
 if d=[] then (0,2) else if cZ d=false then (0,2) else match Lib.parseIntB 64 s with|.ok v=>(v,0)|_=>(0,3)
theorem FZ(r:List UInt8):Lib.trimPrefix (45::r) [45]=r:=by simp[Lib.trimPrefix,Lib.hasPrefix]
theorem tJ(c:UInt8)(r:List UInt8)(h:c≠45):Lib.trimPrefix (c::r) [45]=c::r:=by
 have:Lib.hasPrefix (c::r) [45]=false:=by simp[Lib.hasPrefix,List.isPrefixOf,Ne.symm h]
 simp[Lib.trimPrefix,this]
theorem XN:Lib.trimPrefix [] [45]=[]:=by decide
theorem ac5:dN 45=false:=by decide
theorem ahR{c:UInt8}(h:c≠45):c.toNat≠45:=λh2=>h (UInt8.toNat_inj.1 h2)
theorem S5(r:List UInt8)(hr:r≠[])(hd:cZ r=true)(hv:oC 0 r<=9223372036854775808):Lib.parseIntB 64 (45::r)=.ok (-(oC 0 r:Int)):=by have e:=tz 18446744073709551615 (Nat.le_refl _) r 0 hd (by omega);unfold Lib.parseIntB Lib.parseUintB;simp only[show (45:UInt8).toNat=45 from rfl,or_true,if_true,hr,if_false];rw[show (2^64-1:Nat)=18446744073709551615 by decide,e];simp only[not_true,false_and,if_false,true_and];rw[if_neg (by omega)]
theorem HI(s:List UInt8)(hr:s≠[])(hd:cZ s=true)(hv:oC 0 s<=9223372036854775807):Lib.parseIntB 64 s=.ok (oC 0 s:Int):=by
 cases s with
 |nil=>exact absurd rfl hr
 |cons c r=>
   have e:=tz 18446744073709551615 (Nat.le_refl _) (c::r) 0 hd (by omega)
   have hc:48<=c.toNat/\c.toNat<=57:=by simp only[cZ,dN,Bool.and_eq_true,decide_eq_true_eq] at hd;exact hd.1
   unfold Lib.parseIntB Lib.parseUintB;simp only[show (c.toNat=43)=False from eq_false (by omega),show (c.toNat=45)=False from eq_false (by omega),or_false,if_false,hr];rw[show (2^64-1:Nat)=18446744073709551615 by decide,e];simp only[not_false_iff,true_and,false_and,if_false];rw[if_neg (by omega)]
theorem xu:∀(n u:Nat),u<=n->cZ (Lib.decDigits u)=true/\Lib.decDigits u≠[]/\oC 0 (Lib.decDigits u)=u:=by
 have hap:∀(a b:List UInt8) (k:Nat),oC k (a++b)=oC (oC k a) b:=by
  intro a
  induction a with
  |nil=>intro b k;rw[ox];rfl
  |cons x r ih=>intro b k;rw[List.cons_append,kP,kP];exact ih b _
 have hdg:∀d,d<10->dN (UInt8.ofNat (48+d))=true/\(UInt8.ofNat (48+d)).toNat=48+d:=by
  intro d hd;have e:(UInt8.ofNat (48+d)).toNat=48+d:=by rw[UInt8.toNat_ofNat'];omega
  refine⟨?_,e⟩;simp only[dN,e,Bool.and_eq_true,decide_eq_true_eq];omega
 intro n
 induction n with
 |zero=>
   intro u hu;have:u=0:=by omega
   subst this;rw[Lib.decDigits];simp[cZ,kP,ox];decide
 |succ n ih=>
   intro u hu;rw[Lib.decDigits];by_cases h:u<10
   .rw[dif_pos h];have:=hdg u h;refine⟨by simp only[cZ,Bool.and_true];exact this.1,by simp,?_⟩;rw[kP,ox,this.2];omega
   .rw[dif_neg h];obtain⟨h1,h2,h3⟩:=ih (u / 10) (by omega);have:=hdg (u%10) (by omega);refine⟨by rw[Fm,h1];simp only[cZ,Bool.and_true,Bool.true_and];exact this.1,by simp,?_⟩;rw[hap,h3];rw[kP,ox,this.2];omega
theorem PO(n:Int)(h1:-9223372036854775808<=n)(h2:n<9223372036854775808):gv (Lib.itoa n)=(n,0):=by
 unfold Lib.itoa;by_cases hn:n<0
 .rw[if_pos hn];obtain⟨d1,d2,d3⟩:=xu n.natAbs n.natAbs (Nat.le_refl _);unfold gv;rw[FZ];dsimp only;rw[if_neg d2,d1,S5 _ d2 d1 (by omega),d3];simp;omega
 .rw[if_neg hn];obtain⟨d1,d2,d3⟩:=xu n.toNat n.toNat (Nat.le_refl _);unfold gv
  cases hs:Lib.decDigits n.toNat with
  |nil=>exact absurd hs d2
  |cons c r=>
    rw[hs] at d1 d2 d3;have hc:c≠45:=λe=>by subst e;simp[cZ,ac5] at d1
    rw[tJ c r hc];dsimp only;rw[if_neg d2,d1,HI _ d2 d1 (by omega),d3];simp;omega
theorem acd(n:Int)(h1:-9223372036854775808<=n)(h2:n<9223372036854775808):jx (Lib.itoa n)=true/\(Lib.itoa n).length<=20:=by
 have dl:∀(k u:Nat),u<10^(k+1)->(Lib.decDigits u).length<=k+1:=by
  intro k
  induction k with
  |zero=>intro u hu;rw[Lib.decDigits,dif_pos (by simpa using hu)];simp
  |succ k ih=>
    intro u hu;rw[Lib.decDigits];by_cases h:u<10
    .rw[dif_pos h];simp
    .rw[dif_neg h];have:=ih (u / 10) (by rw[Nat.pow_succ] at hu;omega);simp;omega
 have ok:∀l:List UInt8,cZ l=true->jx l=true:=by
  intro l
  induction l with
  |nil=>intro _;rfl
  |cons c r ih=>
    intro h;simp only[cZ,dN,Bool.and_eq_true,decide_eq_true_eq] at h;simp only[jx,Bool.and_eq_true];refine⟨?_,ih h.2⟩;have h1:¬(c.toNat<32):=by omega
    have h2:¬(126<c.toNat):=by omega
    simp[Ou,h1,h2]
 unfold Lib.itoa;by_cases hn:n<0
 .rw[if_pos hn];obtain⟨d1,_,_⟩:=xu n.natAbs n.natAbs (Nat.le_refl _);have:=dl 18 n.natAbs (by omega);refine⟨?_,by simp;omega⟩;simp only[jx,ok _ d1,Bool.and_true];decide
 .rw[if_neg hn];obtain⟨d1,_,_⟩:=xu n.toNat n.toNat (Nat.le_refl _);have:=dl 18 n.toNat (by omega);exact⟨ok _ d1,by omega⟩
def ll(c:UInt8):Bool:=decide (97<=c.toNat)&&decide (c.toNat<=122)
def lB(c:UInt8):Bool:=(decide (65<=c.toNat)&&decide (c.toNat<=90))||decide (c.toNat=95)
def ml(c:UInt8):Bool:=ll c||lB c||dN c
def U8:List UInt8:=[43,45,42,47,92,94,60,62,61,126,58,46,63,64,35,38,36]
def tM(c:UInt8):Bool:=U8.any λd=>decide (d.toNat=c.toNat)
def iV(c:UInt8):Bool:=decide (c.toNat=32)||decide (c.toNat=9)||decide (c.toNat=10)||decide (c.toNat=13)
def rk:List UInt8:=[40,41,91,93,123,125,44,124]
def nk(c:UInt8):Bool:=rk.any λd=>decide (d.toNat=c.toNat)
def runN(p:UInt8->Bool):List UInt8->Nat
 |[]=>0
 |c::r=>if p c then runN p r+1 else 0
theorem qL(p:UInt8->Bool):∀l,runN p l<=l.length
 |[]=>Nat.le_refl _
 |c::r=>by
   unfold runN;split
   .have:=qL p r;simp;omega
   .simp
def lS(c:UInt8):Bool:=!decide (c.toNat=10)
def dW:Nat->List UInt8->Nat
 |0,_=>0
 |_+1,[]=>0
 |n+1,c::r=>if iV c then dW n r+1 else if c.toNat=37 then runN lS (c::r)+dW n ((c::r).drop (runN lS (c::r))) else 0
def iY:List UInt8->Bool
 |[]=>false
 |c::r=>decide (c.toNat=46)&&(match r with|[]=>true|d::_=>iV d||decide (d.toNat=37))
def kA:List UInt8->Nat
 |[]=>0
 |c::r=>if tM c&&!iY (c::r) then kA r+1 else 0
def GQ(d:UInt8):Option UInt8:=if d.toNat=110 then some 10 else if d.toNat=116 then some 9 else if d.toNat=92 then some 92 else if d.toNat=39 then some 39 else none
def jl:Nat->List UInt8->List UInt8->Nat->Option (List UInt8)×Nat
 |0,_,_,k=>(none,k)
 |_+1,[],_,k=>(none,k)
 |n+1,c::r,aM,k=>
   if c.toNat=39 then (match r with
    |d::r'=>if d.toNat=39 then jl n r' (aM++[39]) (k+2) else (some aM,k+1)
    |[]=>(some aM,k+1))
   else if c.toNat<32\/126<c.toNat then (none,k)
   else if c.toNat=92 then (match r with
    |d::r'=>(match GQ d with|some b=>jl n r' (aM++[b]) (k+2)|none=>(none,k))
    |[]=>(none,k))
   else jl n r (aM++[c]) (k+1)
section
variable {n j:Nat}{c d:UInt8}{r aM:List UInt8}
theorem Kj:jl (n+1) [] aM j=(none,j):=by unfold jl;rfl
theorem I4(hc:c.toNat=39):jl (n+1) [c] aM j=(some aM,j+1):=by unfold jl;rw[if_pos hc]
theorem Ql(hc:c.toNat=39)(hd:d.toNat=39):jl (n+1) (c::d::r) aM j=jl n r (aM++[39]) (j+2):=by
 conv=>lhs;unfold jl
 rw[if_pos hc];dsimp only;rw[if_pos hd]
theorem J1(hc:c.toNat=39)(hd:¬d.toNat=39):jl (n+1) (c::d::r) aM j=(some aM,j+1):=by unfold jl;rw[if_pos hc];dsimp only;rw[if_neg hd]
theorem JU(hc:¬c.toNat=39)(h:c.toNat<32\/126<c.toNat):jl (n+1) (c::r) aM j=(none,j):=by unfold jl;rw[if_neg hc,if_pos h]
theorem Pe(hc:c.toNat=92):jl (n+1) [c] aM j=(none,j):=by unfold jl;rw[if_neg (by omega),if_neg (by omega),if_pos hc]
theorem Kl{b:UInt8}(hc:c.toNat=92)(hd:GQ d=some b):jl (n+1) (c::d::r) aM j=jl n r (aM++[b]) (j+2):=by
 conv=>lhs;unfold jl
 rw[if_neg (by omega),if_neg (by omega),if_pos hc];dsimp only;rw[hd]
theorem P1(hc:c.toNat=92)(hd:GQ d=none):jl (n+1) (c::d::r) aM j=(none,j):=by unfold jl;rw[if_neg (by omega),if_neg (by omega),if_pos hc];dsimp only;rw[hd]
theorem RP(h1:¬c.toNat=39)(h2:¬(c.toNat<32\/126<c.toNat))(h3:¬c.toNat=92):jl (n+1) (c::r) aM j=jl n r (aM++[c]) (j+1):=by
 conv=>lhs;unfold jl
 rw[if_neg h1,if_neg h2,if_neg h3]
theorem J9:∀(n:Nat) (l aM:List UInt8) (j:Nat),l.length<n->(jl n l aM j).2<=j+l.length/\j<=(jl n l aM j).2
 |0,l,aM,j,h=>by omega
 |n+1,[],aM,j,_=>by rw[Kj];simp
 |n+1,c::r,aM,j,h=>by
   simp only[List.length_cons] at h|-;by_cases h1:c.toNat=39
   .cases r with
    |nil=>rw[I4 h1];simp
    |cons d r'=>
      simp only[List.length_cons] at h|-;by_cases h2:d.toNat=39
      .rw[Ql h1 h2];have:=J9 n r' (aM++[39]) (j+2) (by omega);omega
      .rw[J1 h1 h2];dsimp only;omega
   .by_cases h2:c.toNat<32\/126<c.toNat
    .rw[JU h1 h2];dsimp only;omega
    .by_cases h3:c.toNat=92
     .cases r with
      |nil=>rw[Pe h3];simp
      |cons d r'=>
        simp only[List.length_cons] at h|-
        cases hd:GQ d with
        |none=>rw[P1 h3 hd];dsimp only;omega
        |some b=>rw[Kl h3 hd];have:=J9 n r' (aM++[b]) (j+2) (by omega);omega
     .rw[RP h1 h2 h3];have:=J9 n r (aM++[c]) (j+1) (by omega);omega
end
structure Tok where
 aj:Int
 aI:List UInt8
 bj:Int
 js:Bool
 bQ:Int
 deriving DecidableEq
def Tok.cells(t:Tok):List AV:=[.int .i64 t.aj,.str t.aI,.int .i64 t.bj,.bool t.js,.int .i64 t.bQ]
def Tok.aL(t:Tok):AV:=.agg t.cells
def AF:Tok:=⟨0,[],0,false,0⟩
def cC:List UInt8->Tok×Nat×Int
 |[]=>(AF,0,2)
 |c::r=>
   if ll c then (⟨1,(c::r).take (runN ml (c::r)),0,false,0⟩,runN ml (c::r),0)
   else if lB c then (⟨3,(c::r).take (runN ml (c::r)),0,false,0⟩,runN ml (c::r),0)
   else if dN c then (⟨4,[],(gv ((c::r).take (runN dN (c::r)))).1,false,0⟩,runN dN (c::r),(gv ((c::r).take (runN dN (c::r)))).2)
   else if c.toNat=39 then (match jl (r.length+1) r [] 1 with
    |(some t,k)=>(⟨2,t,0,false,0⟩,k,0)
    |(none,k)=>(AF,k,2))
   else if iY (c::r) then (⟨6,[],0,false,0⟩,1,0)
   else if tM c then (⟨1,(c::r).take (kA (c::r)),0,false,0⟩,kA (c::r),0)
   else if c.toNat=59\/c.toNat=33 then (⟨1,[c],0,false,0⟩,1,0)
   else (match r with
    |d::_=>if (c.toNat=91/\d.toNat=93)\/(c.toNat=123/\d.toNat=125) then (⟨1,[c,d],0,false,0⟩,2,0) else if nk c then (⟨5,[c],0,false,0⟩,1,0) else (AF,0,2)
    |[]=>if nk c then (⟨5,[c],0,false,0⟩,1,0) else (AF,0,2))
def rE:Nat->List UInt8->Nat->List Tok->List Tok×Int×Int
 |0,_,j,_=>([],j,3)
 |n+1,s,j,aM=>
   if s.length<=j then (aM,s.length,0)
   else if (cC (s.drop j)).2.2≠0 then ([],j,(cC (s.drop j)).2.2)
   else if (((cC (s.drop j)).1.aj=1\/(cC (s.drop j)).1.aj=2)/\64<(cC (s.drop j)).1.aI.length)\/aM.length=1024 then ([],j,3)
   else rE n s (j+(cC (s.drop j)).2.1+dW (s.length+1) (s.drop (j+(cC (s.drop j)).2.1)))
    (aM++[⟨(cC (s.drop j)).1.aj,(cC (s.drop j)).1.aI,(cC (s.drop j)).1.bj,decide ((s[j+(cC (s.drop j)).2.1]?.map UInt8.toNat)=some 40),j⟩])
def fw(s:List UInt8):List Tok×Int×Int:=if 4096<s.length then ([],4096,3) else rE (s.length+1) s (dW (s.length+1) s) []
theorem pX{p:UInt8->Bool}{c:UInt8}{r:List UInt8}(h:p c=true):1<=runN p (c::r):=by unfold runN;rw[if_pos h];omega
theorem Lh:∀l,kA l<=l.length
 |[]=>Nat.le_refl _
 |c::r=>by
   unfold kA;split
   .have:=Lh r;simp;omega
   .simp
theorem j5:∀l:List UInt8,(cC l).2.1<=l.length/\((cC l).2.2=0->1<=(cC l).2.1)
 |[]=>⟨Nat.le_refl _,λh=>by simp[cC] at h⟩
 |c::r=>by
   unfold cC;dsimp only;by_cases h1:ll c=true
   .rw[if_pos h1];exact⟨qL _ _,λ_=>pX (by unfold ml;rw[h1];rfl)⟩
   rw[if_neg h1];by_cases h2:lB c=true
   .rw[if_pos h2];exact⟨qL _ _,λ_=>pX (by unfold ml;rw[h2];simp)⟩
   rw[if_neg h2];by_cases h3:dN c=true
   .rw[if_pos h3];exact⟨qL _ _,λ_=>pX h3⟩
   rw[if_neg h3];by_cases h4:c.toNat=39
   .rw[if_pos h4];obtain⟨b1,b2⟩:=J9 (r.length+1) r [] 1 (by omega);generalize jl (r.length+1) r [] 1=q at *;obtain⟨a,k⟩:=q;have b3:k<=1+r.length:=b1;have b4:1<=k:=b2
    cases a with
    |none=>exact⟨(show k<=r.length+1 by omega),λh=>by simp at h⟩
    |some t=>exact⟨(show k<=r.length+1 by omega),λ_=>b4⟩
   rw[if_neg h4];by_cases h5:iY (c::r)=true
   .rw[if_pos h5];exact⟨by simp,λ_=>Nat.le_refl _⟩
   rw[if_neg h5];by_cases h6:tM c=true
   .rw[if_pos h6];refine⟨Lh _,λ_=>?_⟩;unfold kA;rw[if_pos (by rw[h6];simp[h5])];omega
   rw[if_neg h6];by_cases h7:c.toNat=59\/c.toNat=33
   .rw[if_pos h7];exact⟨by simp,λ_=>Nat.le_refl _⟩
   rw[if_neg h7]
   cases r with
   |nil=>
     dsimp only;split
     .exact⟨by simp,λ_=>Nat.le_refl _⟩
     .exact⟨by simp,λh=>by simp at h⟩
   |cons d r'=>
     dsimp only;split
     .exact⟨by simp,λ_=>(show 1<=2 by omega)⟩
     .split
      .exact⟨by simp,λ_=>Nat.le_refl _⟩
      .exact⟨by simp,λh=>by simp at h⟩
structure a7 where
 n:List UInt8
 k:List UInt8
 l:Int
def a7.cells(o:a7):List AV:=[.str o.n,.str o.k,.int .i64 o.l]
def a7.aL(o:a7):AV:=.agg o.cells
def oM:AV->Option a7
 |.agg [.str a,.str b,.int .i64 l]=>some ⟨a,b,l⟩
 |_=>none
def qQ:List AV->Option (List a7)
 |[]=>some []
 |v::r=>match oM v,qQ r with
   |some o,some os=>some (o::os)
   |_,_=>none
theorem Ey(o:a7):oM o.aL=some o:=rfl
theorem qK:∀l:List a7,qQ (l.map a7.aL)=some l
 |[]=>rfl
 |o::r=>by show (match oM o.aL,qQ (r.map a7.aL) with|some o,some os=>some (o::os)|_,_=>none)=_;rw[Ey,qK r]
theorem mB{v:AV}{o:a7}(h:oM v=some o):v=o.aL:=by
 unfold oM at h;split at h
 .cases h;rfl
 .cases h
theorem uv:∀{vs:List AV} {l:List a7},qQ vs=some l->vs=l.map a7.aL
 |[],l,h=>by cases h;rfl
 |v::r,l,h=>by
   unfold qQ at h;split at h
   .rename_i o os h1 h2;cases h;rw[mB h1,uv h2];rfl
   .cases h
theorem ee:∀l:List a7,AV.ah (l.map a7.aL)=0
 |[]=>rfl
 |o::r=>by simp[AV.ah,ee r,a7.aL,a7.cells,AV.aJ]
theorem UB(l:List a7):∀x∈l.map a7.aL,C6 3 x:=by intro x hx;obtain⟨o,_,rfl⟩:=List.mem_map.1 hx;exact⟨rfl,rfl,(λh=>by cases h),λ_=>rfl,rfl⟩
def mR(b:List UInt8):Bool:=b==[102,121]||b==[102,120]
def kH(b:List UInt8):Bool:=b==[120,102,120]||b==[120,102,121]||b==[121,102,120]
def wa:aW:=⟨106,λ|[v]=>(oM v).map λo=>.bool (mR o.k)|_=>none⟩
theorem iQ:wa.f=106:=(rfl)
theorem xf(a b:List UInt8)(l:Int):wa.S [.agg [.str a,.str b,.int .i64 l]]=some (.bool (mR b)):=(rfl)
theorem BZ:aX Tryz.prog wa:=λaa v hv=>by
 unfold wa at hv|-;dsimp only at hv|-;split at hv
 .rename_i x;obtain⟨o,ho,rfl⟩:=Option.map_eq_some_iff.1 hv;rw[mB ho];refine bL (n:=5) (h':=h0) (bK (ss:=[]) (by simp)) ?_ rfl (by simp[AV.ah,AV.aJ,a7.aL,a7.cells]);obtain⟨a,b,l⟩:=o;cases e1:b==[102,121]<;>cases e2:b==[102,120]<;>simp[afK,abH,mR,a7.aL,a7.cells,e1,e2]
 .cases hv
def vU:aW:=⟨158,λ|[v]=>(oM v).map λo=>.bool (kH o.k)|_=>none⟩
theorem kb:vU.f=158:=(rfl)
theorem Lk(a b:List UInt8)(l:Int):vU.S [.agg [.str a,.str b,.int .i64 l]]=some (.bool (kH b)):=(rfl)
theorem MW:aX Tryz.prog vU:=λaa v hv=>by
 unfold vU at hv|-;dsimp only at hv|-;split at hv
 .rename_i x;obtain⟨o,ho,rfl⟩:=Option.map_eq_some_iff.1 hv;rw[mB ho];refine bL (n:=5) (h':=h0) (bK (ss:=[]) (by simp)) ?_ rfl (by simp[AV.ah,AV.aJ,a7.aL,a7.cells]);obtain⟨a,b,l⟩:=o;cases e1:b==[120,102,120]<;>cases e2:b==[120,102,121]<;>cases e3:b==[121,102,120]<;>simp[ae2,aa3,kH,a7.aL,a7.cells,e1,e2,e3]
 .cases hv
def rO(a b:List UInt8)(l:Int):Bool:=
 if a==[44] then b==[120,102,121]&&decide (l=1000)
 else if a==[] then false else if decide (64<a.length) then false else if a==[124] then false else if a==[91,93] then false else if a==[123,125] then false
 else (kH b||mR b)&&decide (1<=l)&&decide (l<=1200)
def QG:aW:=⟨118,λ|[v]=>(oM v).map λo=>.bool (rO o.n o.k o.l)|_=>none⟩
theorem yx:QG.f=118:=(rfl)
theorem ab5(a b:List UInt8)(l:Int):QG.S [.agg [.str a,.str b,.int .i64 l]]=some (.bool (rO a b l)):=(rfl)
theorem abV:aX Tryz.prog QG:=λaa v hv=>by
 unfold QG at hv|-;dsimp only at hv|-;split at hv
 .rename_i x;obtain⟨o,ho,rfl⟩:=Option.map_eq_some_iff.1 hv;rw[mB ho];refine bL (n:=20) (h':=h0) (bK (ss:=[wa,vU]) (by simp[BZ,MW])) ?_ rfl (by simp[AV.ah,AV.aJ,a7.aL,a7.cells]);obtain⟨a,b,l⟩:=o;have hA:=xf a b l;have hB:=Lk a b l
  have hl:decide ((64:Int)<(a.length:Int))=decide (64<a.length):=by congr 1;exact propext ⟨λh=>by omega,λh=>by omega⟩
  cases e1:a==[44] with
  |true=>cases e2:b==[120,102,121]<;>simp[iQ,kb,ym,GV,rO,a7.aL,a7.cells,e1,e2]
  |false=>
  cases e2:a==[] with
  |true=>simp[iQ,kb,ym,GV,rO,a7.aL,a7.cells,e1,e2]
  |false=>
  cases e3:decide (64<a.length) with
  |true=>simp[iQ,kb,ym,GV,rO,a7.aL,a7.cells,e1,e2,e3,hl]
  |false=>
  cases e4:a==[124] with
  |true=>simp[iQ,kb,ym,GV,rO,a7.aL,a7.cells,e1,e2,e3,hl,e4,Ks,Jg,c157,Ot,AK,yY,ag]
  |false=>
  cases e5:a==[91,93] with
  |true=>simp[iQ,kb,ym,GV,rO,a7.aL,a7.cells,e1,e2,e3,hl,e4,e5,Ks,Jg,c157,Ot,AK,yY,ag,IntKind.wrap,IntKind.signed,IntKind.bits]
  |false=>
  cases e6:a==[123,125] with
  |true=>simp[iQ,kb,ym,GV,rO,a7.aL,a7.cells,e1,e2,e3,hl,e4,e5,e6,Ks,Jg,c157,Ot,AK,yY,ag,IntKind.wrap,IntKind.signed,IntKind.bits]
  |false=>
  cases e7:kH b<;>cases e8:mR b<;>cases e9:decide (1<=l)<;>simp only[e7,e8] at hA hB<;>
   simp[iQ,kb,ym,GV,rO,a7.aL,a7.cells,e1,e2,e3,hl,e4,e5,e6,e7,e8,e9,hA,hB,iQ,kb,Ks,Jg,c157,Ot,AK,yY,ag,IntKind.wrap,IntKind.signed,IntKind.bits]
 .cases hv
def mw{α:Type}(p:α->Bool):List α->Option Nat
 |[]=>none
 |x::r=>if p x then some 0 else (mw p r).map (·+1)
theorem zX{α:Type}{p:α->Bool}:∀{l:List α} {i:Nat},mw p l=some i->i<l.length
 |[],i,h=>by cases h
 |x::r,i,h=>by
   simp only[mw] at h;split at h
   .cases h;simp
   .obtain⟨j,hj,rfl⟩:=Option.map_eq_some_iff.1 h;have:=zX hj;simp;omega
def xY(a b:a7):Bool:=a.n==b.n&&mR a.k==mR b.k
def yF:aW:=⟨117,λ|[v,w]=>(match oM v,oM w with|some a,some b=>some (.bool (xY a b))|_,_=>none)|_=>none⟩
theorem pN:yF.f=117:=(rfl)
theorem Tg(a b:List UInt8)(l:Int)(a' b':List UInt8)(l':Int):yF.S [.agg [.str a,.str b,.int .i64 l],.agg [.str a',.str b',.int .i64 l']]=some (.bool (xY ⟨a,b,l⟩ ⟨a',b',l'⟩)):=(rfl)
theorem Tn:aX Tryz.prog yF:=λaa v hv=>by
 unfold yF at hv|-;dsimp only at hv|-;split at hv
 .rename_i x y;split at hv
  .rename_i o p h1 h2;cases hv;rw[mB h1,mB h2];refine bL (n:=5) (h':=h0) (bK (ss:=[wa]) (by simp[BZ])) ?_ rfl (by simp[AV.ah,AV.aJ,a7.aL,a7.cells]);obtain⟨a,b,l⟩:=o;obtain⟨a',b',l'⟩:=p;have hA:=xf a b l;have hB:=xf a' b' l';cases e1:a==a'<;>simp[agl,c117,a7.aL,a7.cells,xY,e1,hA,hB,iQ]
  .cases hv
 .cases hv
theorem Hg(C:Nat->List AV->af->Option (AV×af))(n:Nat)(l:List a7)(g:Nat)(aO:List AV)(hn:Nat)(os:List aT)(p:a7->Bool)(kI:AV.ah aO<=hn)(hl:l.length<4611686018427387904)
 (hg:∀o∈l,C g (.agg [.str o.n,.str o.k,.int .i64 o.l]::aO) ⟨hn,os,hn,hn⟩=some (.bool (p o),⟨hn,os,hn,hn⟩)):∀post pre m,l=pre++post->post.length<m->
 bP (aC C n xq) qO hn m (aat (.sl (l.map a7.aL)) (.fn g aO) (.int .i64 l.length) (.int .i64 pre.length)) ⟨hn,os,hn,hn⟩=
  match mw p post with
  |some i=>some (.ret,FM 19 [(4,.int .i64 (pre.length+i:Nat))],⟨hn,os,hn,hn⟩)
  |none=>some (.exit 0,FM 19 [],⟨hn,os,hn,hn⟩)
 |[],pre,m+1,e,_=>by subst e;have h5:AV.ah (pre.map a7.aL)=0:=ee _;simp[mw,ag,xq,h5]
 |o::post,pre,m+1,e,hm=>by
   have ho:=hg o (by simp[e]);have ih:=Hg C n l g aO hn os p kI hl hg post (pre++[o]) m (by simp[e]) (by rw[List.length_cons] at hm;omega);have h1:l[pre.length]? =some o:=by rw[e];simp
   have h3:IntKind.i64.wrap ((pre.length:Int)+1)=(pre.length:Int)+1:=by rw[w7 (by rw[e] at hl;simp at hl;omega)];simp
   have h4:o.aL=.agg [.str o.n,.str o.k,.int .i64 o.l]:=rfl;have h5:AV.ah (l.map a7.aL)=0:=ee l;have h6:((pre.length:Int)<(l.length:Int))=True:=eq_true (by rw[e,List.length_append,List.length_cons];omega);simp only[List.length_append,List.length_cons,List.length_nil,Nat.zero_add,Int.natCast_add,Int.natCast_one] at ih;rw[ag]
   cases hp:p o with
   |true=>rw[hp] at ho;simp[mw,xq,qO,ho,h1,h3,h4,h5,h6,hp,kI]
   |false=>
     rw[hp] at ho;simp[mw,xq,qO,ho,h1,h3,h4,h5,h6,hp,kI];refine Eq.trans ih ?_
     cases mw p post with
     |none=>rfl
     |some i=>show some (Ex.ret,FM 19 [(4,AV.int .i64 ((pre.length+1+i:Nat):Int))],_)=some (Ex.ret,FM 19 [(4,AV.int .i64 ((pre.length+(i+1):Nat):Int))],_);rw[show pre.length+(i+1)=pre.length+1+i by omega]
def LO:Option Nat->Int
 |some i=>i
 |none=>-1
theorem xO(ss:List aW)(n:Nat)(l:List a7)(g:Nat)(aO:List AV)(hn:Nat)(os:List aT)(wl md:Nat)(p:a7->Bool)(kI:AV.ah aO<=hn)(hl:l.length<4611686018427387904)(hm:l.length<n)
 (hg:∀o∈l,aH (cD ss) n g (.agg [.str o.n,.str o.k,.int .i64 o.l]::aO) ⟨hn,os,hn,hn⟩=some (.bool (p o),⟨hn,os,hn,hn⟩)):
 eD ss n 104 [.sl (l.map a7.aL),.fn g aO] ⟨hn,os,wl,md⟩=some (.int .i64 (LO (mw p l)),⟨hn,os,wl,md⟩):=by
 have h:=Hg (aH (cD ss) n) n l g aO hn os p kI hl hg l [] n rfl hm;simp only[List.length_nil,qO,Int.natCast_zero] at h;have h5:AV.ah (l.map a7.aL)=0:=ee l
 cases hf:mw p l with
 |none=>rw[hf] at h;simp[QD,Uc,qO,h5,kI,h,LO]
 |some i=>rw[hf] at h;simp only[Nat.zero_add] at h;simp[QD,Uc,qO,h5,kI,h,LO]
def vB:List a7->List a7->Bool
 |_,[]=>true
 |pre,o::post=>if !rO o.n o.k o.l then false else if (mw (λx=>xY x o) pre).isSome then false else vB (pre++[o]) post
def eN(l:List a7):Bool:=decide (l.length<=128)&&vB [] l
theorem ML(l:List a7)(n:Nat)(hl:l.length<4611686018427387904)(hn:l.length<n):∀post pre m,l=pre++post->post.length<m->
 ∃md,il 1 0 (bP (aC (aH (cD [QG,yF]) (n+10)) (n+10) yH) uk 1 m (Zk (.ptr 0 0) (.sl (l.map a7.aL)) (.int .i64 l.length) (.int .i64 pre.length)) ⟨1,[.row [.sl (l.map a7.aL)]],1,0⟩)=
   some (if vB pre post then .exit 0 else .ret,if vB pre post then FM 31 [] else FM 31 [(2,.bool false)],⟨1,[.row [.sl (l.map a7.aL)]],0,md⟩)
 |[],pre,m+1,e,_=>by subst e;exact⟨0,by simp[vB,ag,yH]⟩
 |o::post,pre,m+1,e,hm=>by
   obtain⟨md,ih⟩:=ML l n hl hn post (pre++[o]) m (by simp[e]) (by rw[List.length_cons] at hm;omega);refine⟨if !rO o.n o.k o.l then 0 else if (mw (λx=>xY x o) pre).isSome then 0 else md,?_⟩;have h1:l[pre.length]? =some o:=by rw[e];simp
   have h3:IntKind.i64.wrap ((pre.length:Int)+1)=(pre.length:Int)+1:=by rw[w7 (by rw[e] at hl;simp at hl;omega)];simp
   have h4:o.aL=.agg [.str o.n,.str o.k,.int .i64 o.l]:=rfl;have h5:AV.ah (l.map a7.aL)=0:=ee l;have h6:((pre.length:Int)<(l.length:Int))=True:=eq_true (by rw[e,List.length_append,List.length_cons];omega);have h7:l.take pre.length=pre:=by rw[e];simp
   have h8:=Md (UB l);have h9:pre.length<=l.length:=by rw[e];simp
   have hM:=ab5 o.n o.k o.l
   have hf:=xO [QG,yF] (n+8) pre 116 [.ptr 1 0] 2 [.row [.str o.n,.str o.k,.int .i64 o.l],.row [.sl (l.map a7.aL)]] 2 2 (λx=>xY x o) (by simp[AV.ah,AV.aJ]) (by omega) (by omega)
    (λx hx=>by have hA:=Tg x.n x.k x.l o.n o.k o.l;simp[afi,c116,hA,pN,yx])
   simp only[List.length_append,List.length_cons,List.length_nil,Nat.zero_add,Int.natCast_add,Int.natCast_one] at ih;rw[ag]
   cases hm:rO o.n o.k o.l with
   |false=>rw[hm] at hM;simp[vB,yH,uk,h1,h3,h4,h5,h6,hm,hM,yx,pN]
   |true=>
     rw[hm] at hM
     cases hs:mw (λx=>xY x o) pre with
     |none=>rw[hs] at hf;simp[vB,yH,uk,h1,h3,h4,h5,h6,hm,hM,hs,h8,h9,h7,hf,LO,yx,pN,ic,sliceB,Ym,c119,<-List.map_take];exact ih
     |some i=>rw[hs] at hf;simp[vB,yH,uk,h1,h3,h4,h5,h6,hm,hM,hs,h8,h9,h7,hf,LO,yx,pN,ic,sliceB,Ym,c119,<-List.map_take]
def ue:aW:=⟨70,λ|[.agg [.sl xs]]=>(match qQ xs with|some l=>if l.length<4611686018427387904 then some (.bool (eN l)) else none|none=>none)|_=>none⟩
theorem wB:ue.f=70:=(rfl)
theorem FT(l:List a7)(h:l.length<4611686018427387904):ue.S [.agg [.sl (l.map a7.aL)]]=some (.bool (eN l)):=by simp only[ue,qK,if_pos h]
theorem FO:aX Tryz.prog ue:=λaa v hv=>by
 unfold ue at hv|-;dsimp only at hv|-;split at hv
 .rename_i xs;split at hv
  .rename_i l hd;split at hv
   .rename_i hl;cases hv;rw[uv hd];refine bL (n:=l.length+12) (h':=h0) (bK (ss:=[QG,yF]) (by simp[abV,Tn])) ?_ rfl (by simp[AV.ah,AV.aJ,ee]);have h5:AV.ah (l.map a7.aL)=0:=ee l;by_cases h:l.length<=128
    .obtain⟨md,e⟩:=ML l (l.length+1) hl (by omega) l [] (l.length+11) rfl (by omega);simp only[List.length_nil,uk,Zk,Int.natCast_zero] at e;have hd:((128:Int)<(l.length:Int))=False:=eq_false (by omega)
     cases hg:vB [] l with
     |true=>rw[hg] at e;simp only[if_true] at e;simp[RM,c70,uk,h5,e,eN,h,hd,hg,yx,pN]
     |false=>rw[hg] at e;simp only[Bool.false_eq_true,if_false] at e;simp[RM,c70,uk,h5,e,eN,h,hd,hg,yx,pN]
    .have hd:((128:Int)<(l.length:Int))=True:=eq_true (by omega);simp[RM,c70,eN,h,hd,yx,pN]
   .cases hv
  .cases hv
 .cases hv
def fL:a7:=⟨[],[],0⟩
def aS(l:List a7)(az:List UInt8)(ahead:Bool):a7×Bool:=
 match mw (λo=>o.n==az&&mR o.k==ahead) l with
 |none=>(fL,false)
 |some i=>if eN l then (l.getD i fL,true) else (fL,false)
def RE:aW:=⟨63,λ|[.agg [.sl xs],.str s,.bool b]=>(match qQ xs with|some l=>if l.length<4611686018427387904 then some (.tuple [(aS l s b).1.aL,.bool (aS l s b).2]) else none|none=>none)|_=>none⟩
theorem W7(l:List a7)(s:List UInt8)(b:Bool)(h:l.length<4611686018427387904):RE.S [.agg [.sl (l.map a7.aL)],.str s,.bool b]=some (.tuple [(aS l s b).1.aL,.bool (aS l s b).2]):=by simp only[RE,qK,if_pos h]
theorem XC:aX Tryz.prog RE:=λaa v hv=>by
 unfold RE at hv|-;dsimp only at hv|-;split at hv
 .rename_i xs s b;split at hv
  .rename_i l hd;split at hv
   .rename_i hl;cases hv;rw[uv hd];refine bL (n:=l.length+12) (h':=h0) (bK (ss:=[wa,ue]) (by simp[BZ,FO])) ?_ (by simp[AV.aJ,AV.ah,a7.aL,a7.cells]) (by simp[AV.ah,AV.aJ,ee]);have h5:AV.ah (l.map a7.aL)=0:=ee l
    have hf:=xO [wa,ue] (l.length+10) l 105 [.ptr 1 0,.ptr 2 0] 4 [.row [.str [],.str [],.int .i64 0],.row [.bool b],.row [.str s],.row [.sl (l.map a7.aL)]] 0 0 (λo=>o.n==s&&mR o.k==b) (by simp[AV.ah,AV.aJ]) hl (by omega)
     (λx hx=>by have hA:=xf x.n x.k x.l;cases e1:x.n==s<;>simp[adU,c105,e1,hA,iQ,wB])
    have hg:=FT l hl
    cases hs:mw (λo=>o.n==s&&mR o.k==b) l with
    |none=>rw[hs] at hf;simp[Ri,c63,hf,aS,hs,a7.aL,a7.cells,fL,LO,iQ,wB]
    |some i=>
      rw[hs] at hf;have hi:=zX hs;have h1:l[i]? =some l[i]:=List.getElem?_eq_getElem hi;have h4:l[i].aL=.agg [.str l[i].n,.str l[i].k,.int .i64 l[i].l]:=rfl;have eR:((i:Int)<0)=False:=eq_false (by omega);have hgd:l.getD i fL=l[i]:=by simp[List.getD,h1]
      cases hgk:eN l with
      |false=>rw[hgk] at hg;simp[Ri,c63,hf,aS,hs,a7.aL,a7.cells,fL,hg,hgk,eR,LO,iQ,wB]
      |true=>rw[hgk] at hg;simp[Ri,c63,hf,aS,hs,hg,hgk,h1,h4,eR,hgd,LO,iQ,wB]
   .cases hv
  .cases hv
 .cases hv
def aZ:AV->Option (List a7)
 |.aF=>some []
 |.sl xs=>qQ xs
 |_=>none
theorem bb{x:AV}{l:List a7}(h:aZ x=some l):(x=.aF/\l=[])\/x=.sl (l.map a7.aL):=by
 cases x<;>simp[aZ] at h
 .exact .inl ⟨rfl,h⟩
 .exact .inr (by rw[uv h])
theorem fb{x:AV}{l:List a7}(h:aZ x=some l):x.aJ=0:=by
 rcases bb h with⟨rfl,_⟩|rfl
 .rfl
 .simp[AV.aJ,ee]
theorem Bu(l:List a7):aZ (.sl (l.map a7.aL))=some l:=qK l
def Pm:aW:=⟨70,λ|[.agg [.aF]]=>some (.bool true)|_=>none⟩
theorem UC:Pm.S [.agg [.aF]]=some (.bool true):=(rfl)
theorem UE:aX Tryz.prog Pm:=λaa v hv=>by
 unfold Pm at hv|-;dsimp only at hv|-;split at hv
 .cases hv;refine bL (n:=10) (h':=h0) (bK (ss:=[]) (by simp)) ?_ rfl rfl;simp[RM,c70,uk,yH,ag]
 .cases hv
def Qx:aW:=⟨63,λ|[.agg [.aF],.str _,.bool _]=>some (.tuple [fL.aL,.bool false])|_=>none⟩
theorem TH(s:List UInt8)(b:Bool):Qx.S [.agg [.aF],.str s,.bool b]=some (.tuple [fL.aL,.bool false]):=(rfl)
theorem S0:aX Tryz.prog Qx:=λaa v hv=>by
 unfold Qx at hv|-;dsimp only at hv|-;split at hv
 .cases hv;refine bL (n:=10) (h':=h0) (bK (ss:=[]) (by simp)) ?_ rfl (by simp[AV.ah,AV.aJ]);simp[Ri,c63,QD,Uc,qO,xq,ag,fL,a7.aL,a7.cells]
 .cases hv
def qA:aW:=⟨70,λ|[.agg [x]]=>(match aZ x with|some l=>if l.length<4611686018427387904 then some (.bool (eN l)) else none|none=>none)|_=>none⟩
theorem nJ:qA.f=70:=(rfl)
theorem Fy{x:AV}{l:List a7}(hx:aZ x=some l)(h:l.length<4611686018427387904):qA.S [.agg [x]]=some (.bool (eN l)):=by simp only[qA,hx,if_pos h]
theorem Gb:aX Tryz.prog qA:=λaa v hv=>by
 unfold qA at hv|-;dsimp only at hv|-;split at hv
 .split at hv
  .rename_i l hd;split at hv
   .rename_i hl;cases hv;rcases bb hd with⟨rfl,rfl⟩|rfl
    .exact UE _ _ UC
    .exact FO _ _ (FT l hl)
   .cases hv
  .cases hv
 .cases hv
def yg:aW:=⟨63,λ|[.agg [x],.str s,.bool b]=>(match aZ x with|some l=>if l.length<4611686018427387904 then some (.tuple [(aS l s b).1.aL,.bool (aS l s b).2]) else none|none=>none)|_=>none⟩
theorem zL:yg.f=63:=(rfl)
theorem Hm{x:AV}{l:List a7}(hx:aZ x=some l)(s:List UInt8)(b:Bool)(h:l.length<4611686018427387904):yg.S [.agg [x],.str s,.bool b]=some (.tuple [(aS l s b).1.aL,.bool (aS l s b).2]):=by simp only[yg,hx,if_pos h]
theorem Hi:aX Tryz.prog yg:=λaa v hv=>by
 unfold yg at hv|-;dsimp only at hv|-;split at hv
 .split at hv
  .rename_i l hd;split at hv
   .rename_i hl;cases hv;rcases bb hd with⟨rfl,rfl⟩|rfl
    .exact S0 _ _ (TH _ _)
    .exact XC _ _ (W7 l _ _ hl)
   .cases hv
  .cases hv
 .cases hv
def KQ:aW:=⟨29,λ|[.agg [x],.str s]=>(match aZ x with|some l=>if l.length<4611686018427387904 then some (.tuple [(aS l s false).1.aL,.bool (aS l s false).2]) else none|none=>none)|_=>none⟩
theorem hP:KQ.f=29:=(rfl)
theorem BE{x:AV}{l:List a7}(hx:aZ x=some l)(s:List UInt8)(h:l.length<4611686018427387904):KQ.S [.agg [x],.str s]=some (.tuple [(aS l s false).1.aL,.bool (aS l s false).2]):=by simp only[KQ,hx,if_pos h]
theorem Gi:aX Tryz.prog KQ:=λaa v hv=>by
 unfold KQ at hv|-;dsimp only at hv|-;split at hv
 .rename_i x s;split at hv
  .rename_i l hd;split at hv
   .rename_i hl;cases hv;have hr:=fb hd;refine bL (n:=6) (h':=h0) (bK (ss:=[yg]) (by simp[Hi])) ?_ (by simp[AV.aJ,AV.ah,a7.aL,a7.cells]) (by simp[AV.ah,AV.aJ,hr]);have q:=Hm hd s false hl;simp only[a7.aL,a7.cells] at q|-;rcases bb hd with⟨rfl,rfl⟩|rfl
    .simp[adi,c29,zL,q]
    .simp[adi,c29,zL,q]
   .cases hv
  .cases hv
 .cases hv
def pW:aW:=⟨30,λ|[.agg [x],.str s]=>(match aZ x with|some l=>if l.length<4611686018427387904 then some (.tuple [(aS l s true).1.aL,.bool (aS l s true).2]) else none|none=>none)|_=>none⟩
theorem fQ:pW.f=30:=(rfl)
theorem AA{x:AV}{l:List a7}(hx:aZ x=some l)(s:List UInt8)(h:l.length<4611686018427387904):pW.S [.agg [x],.str s]=some (.tuple [(aS l s true).1.aL,.bool (aS l s true).2]):=by simp only[pW,hx,if_pos h]
theorem Dy:aX Tryz.prog pW:=λaa v hv=>by
 unfold pW at hv|-;dsimp only at hv|-;split at hv
 .rename_i x s;split at hv
  .rename_i l hd;split at hv
   .rename_i hl;cases hv;have hr:=fb hd;refine bL (n:=6) (h':=h0) (bK (ss:=[yg]) (by simp[Hi])) ?_ (by simp[AV.aJ,AV.ah,a7.aL,a7.cells]) (by simp[AV.ah,AV.aJ,hr]);have q:=Hm hd s true hl;simp only[a7.aL,a7.cells] at q|-;rcases bb hd with⟨rfl,rfl⟩|rfl
    .simp[ads,c30,zL,q]
    .simp[ads,c30,zL,q]
   .cases hv
  .cases hv
 .cases hv
def aB(o:a7):Int×Int:=
 if o.k=[120,102,120] then (o.l-1,o.l-1) else if o.k=[120,102,121] then (o.l-1,o.l) else if o.k=[121,102,120] then (o.l,o.l-1)
 else if o.k=[102,121] then (0,o.l) else if o.k=[102,120] then (0,o.l-1) else (0,0)
def oP:aW:=⟨122,λ|[v]=>(match oM v with|some o=>if 0<=o.l/\o.l<=1200 then some (.tuple [.int .i64 (aB o).1,.int .i64 (aB o).2]) else none|none=>none)|_=>none⟩
theorem dD:oP.f=122:=(rfl)
theorem kJ(o:a7)(h:0<=o.l/\o.l<=1200):oP.S [.agg [.str o.n,.str o.k,.int .i64 o.l]]=some (.tuple [.int .i64 (aB o).1,.int .i64 (aB o).2]):=if_pos h
theorem xm:aX Tryz.prog oP:=λaa v hv=>by
 unfold oP at hv|-;dsimp only at hv|-;split at hv
 .rename_i x;split at hv
  .rename_i o hd;split at hv
   .rename_i hl;cases hv;rw[mB hd];refine bL (n:=6) (h':=h0) (bK (ss:=[]) (by simp)) ?_ (by simp[AV.aJ,AV.ah]) (by simp[AV.ah,AV.aJ,a7.aL,a7.cells]);have w:IntKind.i64.wrap (o.l-1)=o.l-1:=wrap_i64 (by omega) (by omega);obtain⟨n,k,l⟩:=o;dsimp only at w;have hb:∀a b:List UInt8,a≠b->(a==b)=false:=λa b h=>by simpa using h
    unfold aB;dsimp only;by_cases h1:k=[120,102,120]
    .subst h1;simp[Bm,JR,a7.aL,a7.cells,w]
    rw[if_neg h1];have e1:=hb _ _ h1;by_cases h2:k=[120,102,121]
    .subst h2;simp[Bm,JR,a7.aL,a7.cells,w]
    rw[if_neg h2];have e2:=hb _ _ h2;by_cases h3:k=[121,102,120]
    .subst h3;simp[Bm,JR,a7.aL,a7.cells,w]
    rw[if_neg h3];have e3:=hb _ _ h3;by_cases h4:k=[102,121]
    .subst h4;simp[Bm,JR,a7.aL,a7.cells,w]
    rw[if_neg h4];have e4:=hb _ _ h4;by_cases h5:k=[102,120]
    .subst h5;simp[Bm,JR,a7.aL,a7.cells,w]
    rw[if_neg h5];have e5:=hb _ _ h5;simp[Bm,JR,a7.aL,a7.cells,w,h1,h2,h3,h4,h5,e1,e2,e3,e4,e5]
   .cases hv
  .cases hv
 .cases hv
theorem Q8{a b:List UInt8}{l:Int}(h:rO a b l=true):1<=l/\l<=1200:=by
 unfold rO at h;split at h
 .simp only[Bool.and_eq_true,decide_eq_true_eq] at h;omega
 .simp at h;omega
theorem Iz:∀(post pre:List a7),vB pre post=true->∀o∈post,rO o.n o.k o.l=true
 |[],_,_,o,h=>by simp at h
 |x::r,pre,hg,o,h=>by
   unfold vB at hg
   cases hm:rO x.n x.k x.l with
   |false=>rw[hm] at hg;simp at hg
   |true=>
     rw[hm] at hg;simp only[Bool.not_true,Bool.false_eq_true,if_false] at hg;split at hg
     .cases hg
     .rcases List.mem_cons.1 h with rfl|h
      .exact hm
      .exact Iz r _ hg o h
theorem y7{l:List a7}(h:eN l=true):∀o∈l,rO o.n o.k o.l=true:=by unfold eN at h;rw[Bool.and_eq_true] at h;exact Iz l [] h.2
theorem kK(l:List a7)(s:List UInt8)(b:Bool):0<=(aS l s b).1.l/\(aS l s b).1.l<=1200:=by
 unfold aS;split
 .exact⟨Int.le_refl 0,by simp[fL]⟩
 .rename_i i hi;split
  .rename_i hg;have cY:=zX hi;have hd:l.getD i fL=l[i]:=by simp[List.getD,List.getElem?_eq_getElem cY]
   dsimp only;rw[hd];have:=Q8 (y7 hg l[i] (List.getElem_mem cY));omega
  .exact⟨Int.le_refl 0,by simp[fL]⟩
structure dc where
 aj:Int
 aI:List UInt8
 bj:Int
 js:Bool
 Z6:Bool
def YM:dc:=⟨0,[],0,false,false⟩
def abl(t:Tok):List Tok->Bool
 |[]=>false
 |u::_=>decide (u.bQ=t.bQ+1)
def mZ:List Tok->List dc
 |[]=>[]
 |t::r=>⟨t.aj,t.aI,t.bj,t.js,abl t r⟩::mZ r
theorem jd:∀l,(mZ l).length=l.length
 |[]=>rfl
 |t::r=>by simp[mZ,jd r]
theorem HW:∀(l:List Tok) (k:Nat),(mZ l).drop k=mZ (l.drop k)
 |[],k=>by simp[mZ]
 |t::r,0=>rfl
 |t::r,k+1=>by show (mZ r).drop k=mZ (r.drop k);exact HW r k
structure St where
 bQ:Nat
 ax:List dc
 next:Nat
 ae:List (List UInt8×Int)
def aP(st:St):dc:=st.ax.headD YM
def aA(st:St):St:=⟨st.bQ+1,st.ax.tail,st.next,st.ae⟩
def eC(x:dc):Bool:=decide (x.aj=1)||decide (x.aj=2)
def cX(T:List a7)(x:dc):a7×Bool:=if !eC x&&(!decide (x.aj=5)||!decide (x.aI=[44])) then (fL,false) else aS T x.aI false
abbrev PR:=Tm×Int×Bool
def Gy:Tm:=.nl 0 0 []
def kC(s:List UInt8):Tm:=.nl 2 0 s
def ba(s:List UInt8)(st:St):Bool×St:=if (aP st).aj=5/\(aP st).aI=s then (true,aA st) else (false,st)
def mz(s:List UInt8):List (List UInt8×Int)->Option Int
 |[]=>none
 |p::r=>if p.1=s then some p.2 else mz s r
def l6(s:List UInt8)(st:St):Tm×St:=match mz s st.ae with
 |some n=>(.nl 0 n [],st)
 |none=>(.nl 0 st.next [],⟨st.bQ,st.ax,st.next+1,if s=[95] then st.ae else st.ae++[(s,(st.next:Int))]⟩)
def iH(T:List a7)(st:St):Bool:=
 if (aP st).aj=0\/(aP st).aj=6 then false
 else if (aP st).aj=5 then decide ((aP st).aI=[40])||decide ((aP st).aI=[91])||decide ((aP st).aI=[123])
 else if !eC (aP st)||(aP st).js then true
 else !(aS T (aP st).aI false).2||(aS T (aP st).aI true).2
section
variable (rec:Int->St->PR×St)
def bN:Nat->List Tm->St->(List Tm×Bool)×St
 |0,aM,st=>((aM,false),st)
 |M+1,aM,st=>
   if (rec 999 st).1.2.2 then
    (if (ba [44] (rec 999 st).2).1 then bN M (aM++[(rec 999 st).1.1]) (ba [44] (rec 999 st).2).2
     else ((aM++[(rec 999 st).1.1],true),(rec 999 st).2))
   else ((aM,false),(rec 999 st).2)
def mU(l:List Tm)(st:St):(Tm×Bool)×St:=
 if (ba [124] st).1 then
  (if (rec 999 (ba [124] st).2).1.2.2 then ((eW l (rec 999 (ba [124] st).2).1.1,(ba [93] (rec 999 (ba [124] st).2).2).1),(ba [93] (rec 999 (ba [124] st).2).2).2)
   else ((eW l (rec 999 (ba [124] st).2).1.1,false),(rec 999 (ba [124] st).2).2))
 else ((eW l (kC [91,93]),(ba [93] st).1),(ba [93] st).2)
def my(M:Nat)(st:St):(Tm×Bool)×St:=
 if (bN rec M [] st).1.2 then mU rec (bN rec M [] st).1.1 (bN rec M [] st).2
 else ((kC [91,93],false),(bN rec M [] st).2)
def BI(T:List a7)(s:List UInt8):Int:=max (aS T s false).1.l (aS T s true).1.l
def cr(T:List a7)(x:dc)(n:Int)(st:St):PR×St:=
 if x.aj=2 then ((kC x.aI,0,true),st)
 else if (aS T x.aI true).2&&decide ((aS T x.aI true).1.l<=n)&&iH T st then
  ((cE x.aI [(rec (aB (aS T x.aI true).1).2 st).1.1],(aS T x.aI true).1.l,(rec (aB (aS T x.aI true).1).2 st).1.2.2),(rec (aB (aS T x.aI true).1).2 st).2)
 else ((kC x.aI,BI T x.aI,decide (BI T x.aI<=n)),st)
def jq(c:List UInt8)(f:Tm->Tm)(st:St):PR×St:=
 if (rec 1200 st).1.2.2 then ((f (rec 1200 st).1.1,0,(ba c (rec 1200 st).2).1),(ba c (rec 1200 st).2).2)
 else ((f (rec 1200 st).1.1,0,false),(rec 1200 st).2)
def pL(M:Nat)(s:List UInt8)(st:St):PR×St:=
 if (bN rec M [] st).1.2 then ((cE s (bN rec M [] st).1.1,0,(ba [41] (bN rec M [] st).2).1),(ba [41] (bN rec M [] st).2).2)
 else ((cE s [],0,false),(bN rec M [] st).2)
def fm(T:List a7)(M:Nat)(n:Int)(st:St):PR×St:=
 if (aP st).aj=4 then ((.nl 1 (aP st).bj [],0,true),aA st)
 else if (aP st).aj=3 then (((l6 (aP st).aI (aA st)).1,0,true),(l6 (aP st).aI (aA st)).2)
 else if (aP st).aj=5/\(aP st).aI=[40] then jq rec [41] (λt=>t) (aA st)
 else if (aP st).aj=5/\(aP st).aI=[91] then (((my rec M (aA st)).1.1,0,(my rec M (aA st)).1.2),(my rec M (aA st)).2)
 else if (aP st).aj=5/\(aP st).aI=[123] then jq rec [125] (λt=>cE [123,125] [t]) (aA st)
 else if !eC (aP st) then ((Gy,0,false),aA st)
 else if (aP st).js then pL rec M (aP st).aI (aA (aA st))
 else if (aP st).aj=1/\(aP st).aI=[45]/\(aP (aA st)).aj=4/\(aP st).Z6=true then ((.nl 1 (-(aP (aA st)).bj) [],0,true),aA (aA st))
 else cr rec T (aP st) n (aA st)
def gp(T:List a7):Nat->Int->PR->St->PR×St
 |0,_,r,st=>(r,st)
 |M+1,n,r,st=>
   if !r.2.2 then (r,st)
   else if !(cX T (aP st)).2||decide (n<(cX T (aP st)).1.l)||decide ((aB (cX T (aP st)).1).1<r.2.1) then (r,st)
   else gp T M n (cE (aP st).aI [r.1,(rec (aB (cX T (aP st)).1).2 (aA st)).1.1],(cX T (aP st)).1.l,(rec (aB (cX T (aP st)).1).2 (aA st)).1.2.2) (rec (aB (cX T (aP st)).1).2 (aA st)).2
end
def mi(T:List a7):Nat->Int->St->PR×St
 |0,_,st=>((Gy,0,false),st)
 |N+1,n,st=>gp (mi T N) T (N+1) n (fm (mi T N) T (N+1) n st).1 (fm (mi T N) T (N+1) n st).2
theorem KP{st:St}(h:st.ax=[]):aP st=YM:=by simp[aP,h]
theorem dv(st:St):(aA st).ax.length=st.ax.length-1:=by simp[aA]
theorem ca{st:St}(h:(aP st).aj≠0):0<st.ax.length:=by
 cases hr:st.ax with
 |nil=>exact absurd (by rw[KP hr];rfl) h
 |cons x r=>simp
def yD(x:dc):Bool:=(decide (x.aI.length<=64)||!eC x)&&(decide (0<=x.bj)&&decide (x.bj<9223372036854775808))
def Ju(l:List (List UInt8×Int)):Bool:=l.all λp=>!decide (p.1=[95])
structure Lv(st dH:St):Prop where
 suf:∃k,dH.ax=st.ax.drop k
 nx:st.next<=dH.next
 nm:dH.ae.length+st.next<=st.ae.length+dH.next
 pre:∃q,dH.ae=st.ae++q
 S7:Ju st.ae=true->Ju dH.ae=true
 rg:(∀p∈st.ae,0<=p.2/\p.2<st.next)->∀p∈dH.ae,0<=p.2/\p.2<dH.next
structure Ok(st dH:St):Prop where
 lv:Lv st dH
 pos:dH.ax.length<st.ax.length
 tot:dH.bQ+dH.ax.length=st.bQ+st.ax.length
 nxr:dH.next+dH.ax.length<=st.next+st.ax.length
theorem Lv.refl(st:St):Lv st st:=⟨⟨0,rfl⟩,Nat.le_refl _,Nat.le_refl _,⟨[],by simp⟩,id,id⟩
theorem Lv.trans{a b c:St}(h:Lv a b)(g:Lv b c):Lv a c:=by obtain⟨k,hk⟩:=h.suf;obtain⟨j,hj⟩:=g.suf;obtain⟨p,hp⟩:=h.pre;obtain⟨q,hq⟩:=g.pre;have:=h.nx;have:=g.nx;have:=h.nm;have:=g.nm;exact⟨⟨k+j,by rw[hj,hk,List.drop_drop]⟩,by omega,by omega,⟨p++q,by rw[hq,hp,List.append_assoc]⟩,λe=>g.S7 (h.S7 e),λe=>g.rg (h.rg e)⟩
theorem Lv.len{a b:St}(h:Lv a b):b.ax.length<=a.ax.length:=by obtain⟨k,hk⟩:=h.suf;rw[hk,List.length_drop];omega
theorem Lv.all{a b:St}(h:Lv a b)(p:dc->Bool)(ha:a.ax.all p=true):b.ax.all p=true:=by obtain⟨k,hk⟩:=h.suf;rw[hk,List.all_eq_true];exact λx hx=>List.all_eq_true.1 ha x (List.mem_of_mem_drop hx)
theorem j9(st:St):Lv st (aA st):=⟨⟨1,by simp[aA]⟩,Nat.le_refl _,Nat.le_refl _,⟨[],by simp[aA]⟩,id,id⟩
theorem mL{st:St}(h:0<st.ax.length):Ok st (aA st):=by
 have:=dv st;refine⟨j9 st,by omega,?_,?_⟩
 .show st.bQ+1+_=_;omega
 .show st.next+_<=_
  omega
theorem Ok.trans{a b c:St}(h:Ok a b)(g:Ok b c):Ok a c:=by have:=h.pos;have:=g.pos;have:=h.tot;have:=g.tot;have:=h.nxr;have:=g.nxr;exact⟨h.lv.trans g.lv,by omega,by omega,by omega⟩
theorem qq(s:List UInt8)(st:St):Lv st (ba s st).2:=by
 unfold ba;split
 .exact j9 st
 .exact Lv.refl st
theorem fU{s:List UInt8}{st:St}(h:(ba s st).1=true):Ok st (ba s st).2:=by
 unfold ba at h|-;split
 .rename_i hc;exact mL (ca (by rw[hc.1];decide))
 .rename_i hc;rw[if_neg hc] at h;cases h
theorem qC{s:List UInt8}{st:St}(h:(ba s st).1=false):(ba s st).2=st:=by
 unfold ba at h|-;split
 .rename_i hc;rw[if_pos hc] at h;cases h
 .rfl
theorem PT(s:List UInt8)(st:St):Lv st (l6 s st).2:=by
 unfold l6;split
 .exact Lv.refl st
 .refine⟨⟨0,rfl⟩,Nat.le_succ _,?_,?_,λh=>?_,λh p hp=>?_⟩
  .dsimp only;split<;>simp<;>omega
  .dsimp only;split
   .exact⟨[],by simp⟩
   .exact⟨_,rfl⟩
  .dsimp only;split
   .exact h
   .rename_i hs;unfold Ju at h|-;rw[List.all_append,h];simp[hs]
  .dsimp only at hp|-;split at hp
   .have:=h p hp;omega
   .rcases List.mem_append.1 hp with hp|hp
    .have:=h p hp;omega
    .simp only[List.mem_singleton] at hp;subst hp;dsimp only;omega
theorem Wf{s:List UInt8}{st:St}(h:0<st.ax.length):Ok st (l6 s (aA st)).2:=by
 have h1:=dv st;have hv:=PT s (aA st)
 have hr:(l6 s (aA st)).2.ax=(aA st).ax/\(l6 s (aA st)).2.bQ=(aA st).bQ/\(l6 s (aA st)).2.next<=(aA st).next+1:=by
  unfold l6;split
  .exact⟨rfl,rfl,Nat.le_succ _⟩
  .exact⟨rfl,rfl,Nat.le_refl _⟩
 refine⟨(j9 st).trans hv,by rw[hr.1];omega,?_,?_⟩
 .rw[hr.1,hr.2.1];show st.bQ+1+_=_;omega
 .rw[hr.1];have:(aA st).next=st.next:=rfl
  omega
structure CO(rec:Int->St->PR×St):Prop where
 lv:∀n st,Lv st (rec n st).2
 ok:∀n st,(rec n st).1.2.2=true->Ok st (rec n st).2
section
variable {rec:Int->St->PR×St}(H:CO rec)
include H
theorem mN:∀(M:Nat) (aM:List Tm) (st:St),Lv st (bN rec M aM st).2/\((bN rec M aM st).1.2=true->Ok st (bN rec M aM st).2)
 |0,aM,st=>⟨Lv.refl st,λh=>by cases h⟩
 |M+1,aM,st=>by
   unfold bN;by_cases h1:(rec 999 st).1.2.2=true
   .rw[if_pos h1];by_cases h2:(ba [44] (rec 999 st).2).1=true
    .rw[if_pos h2];obtain⟨i1,i2⟩:=mN M (aM++[(rec 999 st).1.1]) (ba [44] (rec 999 st).2).2;exact⟨((H.lv 999 st).trans (qq _ _)).trans i1,λh=>((H.ok 999 st h1).trans (fU h2)).trans (i2 h)⟩
    .rw[if_neg h2];exact⟨H.lv 999 st,λ_=>H.ok 999 st h1⟩
   .rw[if_neg h1];exact⟨H.lv 999 st,λh=>by cases h⟩
theorem abe(l:List Tm)(st:St):Lv st (mU rec l st).2/\((mU rec l st).1.2=true->Ok st (mU rec l st).2):=by
 unfold mU;by_cases h1:(ba [124] st).1=true
 .rw[if_pos h1];by_cases h2:(rec 999 (ba [124] st).2).1.2.2=true
  .rw[if_pos h2];exact⟨((qq _ _).trans (H.lv _ _)).trans (qq _ _),λh=>((fU h1).trans (H.ok _ _ h2)).trans (fU h)⟩
  .rw[if_neg h2];exact⟨(qq _ _).trans (H.lv _ _),λh=>by cases h⟩
 .rw[if_neg h1];exact⟨qq _ _,λh=>fU h⟩
theorem Jp(M:Nat)(st:St):Lv st (my rec M st).2/\((my rec M st).1.2=true->Ok st (my rec M st).2):=by
 obtain⟨i1,i2⟩:=mN H M [] st;unfold my;by_cases h1:(bN rec M [] st).1.2=true
 .rw[if_pos h1];obtain⟨j1,j2⟩:=abe H (bN rec M [] st).1.1 (bN rec M [] st).2;exact⟨i1.trans j1,λh=>(i2 h1).trans (j2 h)⟩
 .rw[if_neg h1];exact⟨i1,λh=>by cases h⟩
theorem zC(c:List UInt8)(f:Tm->Tm)(st:St):Lv st (jq rec c f st).2/\((jq rec c f st).1.2.2=true->Ok st (jq rec c f st).2):=by
 unfold jq;by_cases h1:(rec 1200 st).1.2.2=true
 .rw[if_pos h1];exact⟨(H.lv _ _).trans (qq _ _),λh=>(H.ok _ _ h1).trans (fU h)⟩
 .rw[if_neg h1];exact⟨H.lv _ _,λh=>by cases h⟩
theorem So(M:Nat)(s:List UInt8)(st:St):Lv st (pL rec M s st).2/\((pL rec M s st).1.2.2=true->Ok st (pL rec M s st).2):=by
 obtain⟨i1,i2⟩:=mN H M [] st;unfold pL;by_cases h1:(bN rec M [] st).1.2=true
 .rw[if_pos h1];exact⟨i1.trans (qq _ _),λh=>(i2 h1).trans (fU h)⟩
 .rw[if_neg h1];exact⟨i1,λh=>by cases h⟩
theorem wI(T:List a7)(M:Nat)(n:Int)(st:St):Lv st (fm rec T M n st).2/\((fm rec T M n st).1.2.2=true->Ok st (fm rec T M n st).2):=by
 unfold fm;by_cases k4:(aP st).aj=4
 .rw[if_pos k4];exact⟨j9 st,λ_=>mL (ca (by omega))⟩
 rw[if_neg k4];by_cases k3:(aP st).aj=3
 .rw[if_pos k3];exact⟨(j9 st).trans (PT _ _),λ_=>Wf (ca (by omega))⟩
 rw[if_neg k3];by_cases c1:(aP st).aj=5/\(aP st).aI=[40]
 .rw[if_pos c1];obtain⟨i1,i2⟩:=zC H [41] (λt=>t) (aA st);exact⟨(j9 st).trans i1,λh=>(mL (ca (by omega))).trans (i2 h)⟩
 rw[if_neg c1];by_cases c2:(aP st).aj=5/\(aP st).aI=[91]
 .rw[if_pos c2];obtain⟨i1,i2⟩:=Jp H M (aA st);exact⟨(j9 st).trans i1,λh=>(mL (ca (by omega))).trans (i2 h)⟩
 rw[if_neg c2];by_cases c3:(aP st).aj=5/\(aP st).aI=[123]
 .rw[if_pos c3];obtain⟨i1,i2⟩:=zC H [125] (λt=>cE [123,125] [t]) (aA st);exact⟨(j9 st).trans i1,λh=>(mL (ca (by omega))).trans (i2 h)⟩
 rw[if_neg c3];by_cases c4:(!eC (aP st))=true
 .rw[if_pos c4];exact⟨j9 st,λh=>by cases h⟩
 rw[if_neg c4];have hk:(aP st).aj≠0:=λh=>c4 (by unfold eC;rw[h];rfl)
 by_cases c5:(aP st).js=true
 .rw[if_pos c5];obtain⟨i1,i2⟩:=So H M (aP st).aI (aA (aA st));refine⟨((j9 st).trans (j9 _)).trans i1,λh=>?_⟩;have j:=i2 h;have hp:=mL (ca hk)
  have:0<(aA st).ax.length:=by have h1:=dv (aA st);have h2:=j.pos;omega
  exact (hp.trans (mL this)).trans j
 rw[if_neg c5];by_cases c6:(aP st).aj=1/\(aP st).aI=[45]/\(aP (aA st)).aj=4/\(aP st).Z6=true
 .rw[if_pos c6];exact⟨(j9 st).trans (j9 _),λ_=>(mL (ca hk)).trans (mL (ca (by omega)))⟩
 rw[if_neg c6];have ha:=mL (ca hk);unfold cr;by_cases d1:(aP st).aj=2
 .rw[if_pos d1];exact⟨j9 st,λ_=>ha⟩
 rw[if_neg d1];by_cases d2:((aS T (aP st).aI true).2&&decide ((aS T (aP st).aI true).1.l<=n)&&iH T (aA st))=true
 .rw[if_pos d2];exact⟨(j9 st).trans (H.lv _ _),λh=>ha.trans (H.ok _ _ h)⟩
 .rw[if_neg d2];exact⟨j9 st,λ_=>ha⟩
theorem pb(T:List a7):∀(M:Nat) (n:Int) (r:PR) (st:St),Lv st (gp rec T M n r st).2/\((gp rec T M n r st).1.2.2=true->r.2.2=true/\(st=(gp rec T M n r st).2\/Ok st (gp rec T M n r st).2))
 |0,n,r,st=>⟨Lv.refl st,λh=>⟨h,.inl rfl⟩⟩
 |M+1,n,r,st=>by
   unfold gp;by_cases h0:(!r.2.2)=true
   .rw[if_pos h0];exact⟨Lv.refl st,λh=>⟨h,.inl rfl⟩⟩
   rw[if_neg h0];by_cases h1:(!(cX T (aP st)).2||decide (n<(cX T (aP st)).1.l)||decide ((aB (cX T (aP st)).1).1<r.2.1))=true
   .rw[if_pos h1];exact⟨Lv.refl st,λh=>⟨h,.inl rfl⟩⟩
   rw[if_neg h1];obtain⟨i1,i2⟩:=pb T M n (cE (aP st).aI [r.1,(rec (aB (cX T (aP st)).1).2 (aA st)).1.1],(cX T (aP st)).1.l,(rec (aB (cX T (aP st)).1).2 (aA st)).1.2.2) (rec (aB (cX T (aP st)).1).2 (aA st)).2;refine⟨((j9 st).trans (H.lv _ _)).trans i1,λh=>⟨by simpa using h0,.inr ?_⟩⟩;obtain⟨j1,j2⟩:=i2 h
   have hk:(aP st).aj≠0:=λh=>h1 (by
    have:(cX T (aP st)).2=false:=by unfold cX eC;rw[h];rfl
    rw[this];rfl)
   have a:=(mL (ca hk)).trans (H.ok _ _ j1);rcases j2 with j2|j2
   .rw[<-j2];exact a
   .exact a.trans j2
end
theorem wC(T:List a7):∀N,CO (mi T N)
 |0=>⟨λn st=>Lv.refl st,λn st h=>by cases h⟩
 |N+1=>by
   have H:=wC T N;refine⟨λn st=>?_,λn st h=>?_⟩
   .unfold mi;exact (wI H T (N+1) n st).1.trans (pb H T (N+1) n _ _).1
   .unfold mi at h|-;obtain⟨j1,j2⟩:=(pb H T (N+1) n _ _).2 h;have a:=(wI H T (N+1) n st).2 j1;rcases j2 with j2|j2
    .rw[<-j2];exact a
    .exact a.trans j2
end
section
open Sz Go.RowKit
def uf:List AV->Option (List (List UInt8))
 |[]=>some []
 |.str s::r=>(uf r).map (s::·)
 |_=>none
def Af:AV->Option (List (List UInt8))
 |.aF=>some []
 |.sl xs=>uf xs
 |_=>none
theorem Cw:∀l:List (List UInt8),uf (l.map .str)=some l
 |[]=>rfl
 |s::r=>by simp[uf,Cw r]
theorem B7:∀(xs:List AV) (l:List (List UInt8)),uf xs=some l->xs=l.map .str
 |[],l,h=>by simp[uf] at h;subst h;rfl
 |x::r,l,h=>by cases x<;>simp[uf] at h;obtain⟨t,h1,rfl⟩:=h;simp[B7 r t h1]
theorem QI(l:List (List UInt8)):Af (.sl (l.map .str))=some l:=Cw l
theorem MM{v:AV}{l:List (List UInt8)}(h:Af v=some l):v=.sl (l.map .str)\/(v=.aF/\l=[]):=by
 cases v<;>simp[Af] at h
 .exact .inr ⟨rfl,h⟩
 .exact .inl (by rw[B7 _ _ h])
theorem wA(l:List (List UInt8)):AV.ah (l.map .str)=0:=by
 induction l with
 |nil=>rfl
 |cons s r ih=>simp[AV.ah,AV.aJ,ih]
def Iw:aW:=⟨176,λ|[x,.str p]=>(match Af x with|some l=>if (Lib.join l p).length<=140737488355328/\l.length<=140737488355328 then some (.str (Lib.join l p)) else none|none=>none)|_=>none⟩
theorem o6:Iw.f=176:=(rfl)
theorem Fx(x:AV)(l:List (List UInt8))(p:List UInt8)(hx:Af x=some l)(h:(Lib.join l p).length<=140737488355328/\l.length<=140737488355328):Iw.S [x,.str p]=some (.str (Lib.join l p)):=by unfold Iw;dsimp only;rw[hx];exact if_pos h
theorem WR:aX Tryz.prog Iw:=λaa v hv=>by
 unfold Iw at hv|-;dsimp only at hv|-;split at hv
 .rename_i x p;split at hv
  .rename_i l hx;split at hv
   .rename_i hl;cases hv
    obtain⟨k1,k2⟩:=U0 (P:=Tryz.prog) (f:=176) (xs:=l) (p:=p) (r:=Lib.join l p) (enters 176 Tryz.func176 rfl rfl) (λhe a c w=>by
     subst he;exact (Tryz.strings_Join_none a c ⟨p.toArray⟩ w).mono λe w' ⟨h1,h2⟩=>⟨h1,Aa h2⟩)
     (λbk o c w hc hb kI=>by
      have e1:(l.map λx=>(⟨x.toArray⟩:ByteArray)).map (λx=>x.data.toList)=l:=by rw[List.map_map];exact (List.map_congr_left λx _=>by simp).trans (List.map_id l)
      have:=Tryz.strings_Join bk o c (l.map λx=>⟨x.toArray⟩) ⟨p.toArray⟩ w hc hb (by simpa using hl.2) (by simpa using kI) (by rw[e1];exact hl.1);rw[e1,List.length_map] at this;exact this)
    rcases MM hx with rfl|⟨rfl,rfl⟩
    .exact k1
    .exact k2 rfl
   .cases hv
  .cases hv
 .cases hv
end
end Go.Proofs.YtjmeonoabiliiaaGreatDoor
