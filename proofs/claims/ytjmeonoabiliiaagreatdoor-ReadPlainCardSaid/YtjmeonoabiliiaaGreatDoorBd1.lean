import Derived.Test.YtjmeonoabiliiaaGreatDoorAt
import Derived.Test.YtjmeonoabiliiaaGreatDoorEnv
import Derived.Test.YtjmeonoabiliiaaGreatDoorFast
import Derived.Test.YtjmeonoabiliiaaGreatDoorArg
import Derived.RangeFuncNested
import Derived.RangeFuncBound
import Derived.RangeFuncCalls
import Derived.RangeFuncLeaves
import Derived.Shelf.Abstract
import Derived.Shelf.RegionOpen
import Derived.WalkKit
import Derived.OwnWalkIn
import Derived.TacticsInMore
import Derived.LoopNIn
import Derived.LoopIn
import Derived.Test.YtjmeonoabiliiaaGreatDoorProg
import Derived.Test.YtjmeonoabiliiaaGreatDoorIter
import Derived.Test.YtjmeonoabiliiaaGreatDoorShelf
import Derived.Lib.ItoaNum
import Derived.LaidSub
import Derived.MakeChecks
import Derived.Shelf.Strings.SlTrimAscii
set_option linter.all false
set_option maxHeartbeats 16000000
set_option maxRecDepth 100000
namespace Go.Proofs.YtjmeonoabiliiaaGreatDoor
open Go
section
open Sz
inductive Tm where
 |nl (k n:Int) (s:List UInt8)
 |mk (k n:Int) (s:List UInt8) (us:List Tm)
mutual
def Tm.aV:Tm->AV
 |.nl k n s=>.agg [.int .i64 k,.int .i64 n,.str s,.aJ]
 |.mk k n s us=>.agg [.int .i64 k,.int .i64 n,.str s,.sl (Tm.uJ us)]
def Tm.uJ:List Tm->List AV
 |[]=>[]
 |t::r=>t.aV::Tm.uJ r
end
theorem kF:∀l:List Tm,Tm.uJ l=l.map Tm.aV
 |[]=>rfl
 |t::r=>by simp[Tm.uJ,kF r]
def Tm.au:Tm->Int|.nl k _ _=>k|.mk k _ _ _=>k
def Tm.cF:Tm->Int|.nl _ n _=>n|.mk _ n _ _=>n
def Tm.bH:Tm->List UInt8|.nl _ _ s=>s|.mk _ _ s _=>s
def Tm.ag:Tm->List Tm|.nl ..=>[]|.mk _ _ _ us=>us
def Tm.ca:Tm->AV|.nl ..=>.aJ|.mk _ _ _ us=>.sl (us.map Tm.aV)
def Tm.cells(t:Tm):List AV:=[.int .i64 t.au,.int .i64 t.cF,.str t.bH,t.ca]
theorem Tm.dx(t:Tm):t.cells=[.int .i64 t.au,.int .i64 t.cF,.str t.bH,t.ca]:=rfl
theorem Tm.dj(t:Tm):t.aV=.agg t.cells:=by
 cases t with
 |nl k n s=>rfl
 |mk k n s us=>simp only[Tm.aV,Tm.cells,Tm.au,Tm.cF,Tm.bH,Tm.ca,kF]
mutual
theorem Tm.cm:∀t:Tm,t.aV.aK=0
 |.nl k n s=>rfl
 |.mk k n s us=>by simp[Tm.aV,AV.aK,AV.aw,Tm.zS us]
theorem Tm.zS:∀l:List Tm,AV.aw (Tm.uJ l)=0
 |[]=>rfl
 |t::r=>by simp[Tm.uJ,AV.aw,Tm.cm t,Tm.zS r]
end
theorem bF(l:List Tm):AV.aw (l.map Tm.aV)=0:=by rw[<-kF];exact Tm.zS l
theorem ay(t:Tm):t.ca.aK=0:=by
 cases t with
 |nl k n s=>rfl
 |mk k n s us=>simp[Tm.ca,AV.aK,bF]
mutual
def kC:AV->Option Tm
 |.agg [.int .i64 k,.int .i64 n,.str s,.aJ]=>some (.nl k n s)
 |.agg [.int .i64 k,.int .i64 n,.str s,.sl xs]=>(lX xs).map (.mk k n s)
 |_=>none
def lX:List AV->Option (List Tm)
 |[]=>some []
 |v::r=>match kC v,lX r with
   |some t,some l=>some (t::l)
   |_,_=>none
end
mutual
theorem fh:∀t:Tm,kC t.aV=some t
 |.nl k n s=>by simp[Tm.aV,kC]
 |.mk k n s us=>by simp[Tm.aV,kC,nz us]
theorem nz:∀l:List Tm,lX (Tm.uJ l)=some l
 |[]=>by simp[Tm.uJ,lX]
 |t::r=>by simp[Tm.uJ,lX,fh t,nz r]
end
theorem FT:∀(n:Nat) (v:AV) (t:Tm),SizeOf.sizeOf v<=n->kC v=some t->v=t.aV
 |0,v,t,h,_=>by cases v<;>simp at h
 |n+1,v,t,h,e=>by
   have hl:∀(xs:List AV) (l:List Tm),SizeOf.sizeOf xs<=n->lX xs=some l->xs=Tm.uJ l:=by
    intro xs
    induction xs with
    |nil=>intro l _ e;simp[lX] at e;subst e;rfl
    |cons x r ih=>
      intro l hx e;simp only[lX] at e;split at e
      .rename_i t l' h1 h2;cases e;simp only[List.cons.sizeOf_spec] at hx;rw[FT n x t (by omega) h1,ih l' (by omega) h2];rfl
      .cases e
   unfold kC at e;split at e
   .cases e;rfl
   .rename_i k q s xs;obtain⟨us,h1,rfl⟩:=Option.map_eq_some_iff.1 e;simp only[AV.agg.sizeOf_spec,List.cons.sizeOf_spec,AV.sl.sizeOf_spec] at h;rw[hl xs us (by omega) h1];rfl
   .cases e
theorem eI{v:AV}{t:Tm}(h:kC v=some t):v=t.aV:=FT _ v t (Nat.le_refl _) h
def Qu(c:UInt8):Bool:=!((decide (c.toNat<32)||decide (126<c.toNat))&&decide (c.toNat≠9)&&decide (c.toNat≠10))
def mI:List UInt8->Bool
 |[]=>true
 |c::r=>Qu c&&mI r
def oe(s:List UInt8):Bool:=mI s&&decide (s.length<=64)
def u8s(s:List UInt8):List AV:=s.map λb=>.int .u8 b.toNat
theorem C4:∀s:List UInt8,AV.aw (u8s s)=0
 |[]=>rfl
 |c::r=>by have:=C4 r;unfold u8s at this|-;simp[AV.aw,AV.aK,this]
theorem Gg(C:Nat->List AV->ai->Option (AV×ai))(n:Nat)(s:List UInt8)(hs:s.length<4611686018427387904):∀post pre m,s=pre++post->post.length<m->
 gu 0 0 (bL (aH C n pM) nL 0 m (X5 (.str s) (.sl (u8s s)) (.int .i64 s.length) (.int .i64 pre.length)) ⟨0,[],0,0⟩)=
  if mI post then some (.exit 0,FM 30 [(0,.str s)],⟨0,[],0,0⟩) else some (.ret,FM 30 [(2,.bool false)],⟨0,[],0,0⟩)
 |[],pre,m+1,e,_=>by simp at e;subst e;simp[ak,pM,mI]
 |c::post,pre,m+1,e,hm=>by
   have ih:=Gg C n s hs post (pre++[c]) m (by simp[e]) (by rw[List.length_cons] at hm;omega);have h1:(u8s s)[pre.length]? =some (.int .u8 c.toNat):=by unfold u8s;rw[e];simp
   have h3:IntKind.i64.wrap ((pre.length:Int)+1)=(pre.length:Int)+1:=by rw[mm (by rw[e] at hs;simp at hs;omega)];simp
   have h5:=C4 s;have h6:((pre.length:Int)<(s.length:Int))=True:=eq_true (by rw[e,List.length_append,List.length_cons];omega);simp only[List.length_append,List.length_cons,List.length_nil,Nat.zero_add,Int.natCast_add,Int.natCast_one] at ih;have ho:Qu c=!((decide (c.toNat<32)||decide (126<c.toNat))&&decide (c.toNat≠9)&&decide (c.toNat≠10)):=rfl;rw[ak];by_cases a1:c.toNat<32
   .have b1:((c.toNat:Int)<32)=True:=eq_true (by omega);by_cases a3:c.toNat=9
    .have b3:((c.toNat:Int)=9)=True:=eq_true (by omega);have ho:Qu c=true:=by rw[ho];simp[a3]
     simp[pM,nL,h1,h3,h5,h6,b1,b3,mI,ho];exact ih
    .have b3:((c.toNat:Int)=9)=False:=eq_false (by omega);by_cases a4:c.toNat=10
     .have b4:((c.toNat:Int)=10)=True:=eq_true (by omega);have ho:Qu c=true:=by rw[ho];simp[a4]
      simp[pM,nL,h1,h3,h5,h6,b1,b3,b4,mI,ho];exact ih
     .have b4:((c.toNat:Int)=10)=False:=eq_false (by omega);have ho:Qu c=false:=by rw[ho];simp[a1,a3,a4]
      simp[pM,nL,h1,h3,h5,h6,b1,b3,b4,mI,ho]
   .have b1:((c.toNat:Int)<32)=False:=eq_false (by omega);by_cases a2:126<c.toNat
    .have b2:(126<(c.toNat:Int))=True:=eq_true (by omega);have b3:((c.toNat:Int)=9)=False:=eq_false (by omega);have b4:((c.toNat:Int)=10)=False:=eq_false (by omega)
     have ho:Qu c=false:=by
      rw[ho];have:c.toNat≠9:=by omega
      have:c.toNat≠10:=by omega
      simp[*]
     simp[pM,nL,h1,h3,h5,h6,b1,b2,b3,b4,mI,ho]
    .have b2:(126<(c.toNat:Int))=False:=eq_false (by omega);have ho:Qu c=true:=by rw[ho];simp[a1,a2]
     simp[pM,nL,h1,h3,h5,h6,b1,b2,mI,ho];exact ih
def yS:aX:=⟨103,λ|[.str s]=>if s.length<4611686018427387904 then some (.bool (oe s)) else none|_=>none⟩
theorem gR:yS.f=103:=(rfl)
theorem NH(s:List UInt8)(h:s.length<4611686018427387904):yS.S [.str s]=some (.bool (oe s)):=if_pos h
theorem NB:aY Tryz.prog yS:=λag v hv=>by
 unfold yS at hv|-;dsimp only at hv|-;split at hv
 .rename_i s;split at hv
  .rename_i hs;cases hv;refine bG (n:=s.length+2) (h':=h0) (bA (ss:=[]) (by simp)) ?_ rfl rfl;have lp:=Gg (aF (cY []) (s.length+1)) (s.length+1) s hs s [] (s.length+1) rfl (by omega);simp only[List.length_nil,show ((0:Nat):Int)=0 from rfl,nL] at lp;have h5:=C4 s;have e5:(s.map λb=>AV.int .u8 b.toNat)=u8s s:=rfl;have e6:(u8s s).length=s.length:=by simp[u8s]
   unfold oe
   cases ha:mI s with
   |false=>rw[ha] at lp;simp at lp;simp[TP,VL,nL,e5,e6,h5,lp]
   |true=>
     rw[ha] at lp;simp at lp;by_cases hl:s.length<=64;have BP:((s.length:Int)<=64)=True:=eq_true (by omega)
     rotate_left
     have BP:((s.length:Int)<=64)=False:=eq_false (by omega)
     rotate_left
     all_goals simp[TP,VL,nL,e5,e6,h5,lp,hl,BP]
  .cases hv
 .cases hv
def og(t:Tm):Bool:=
 if t.au=0 then decide (0<=t.cF)&&decide (t.cF<=2147483647)&&decide (t.bH=[])&&decide (t.ag.length=0)
 else if t.au=1 then decide (t.bH=[])&&decide (t.ag.length=0)
 else if t.au=2 then decide (t.cF=0)&&oe t.bH&&decide (t.ag.length<=8)
 else false
theorem T5(t:Tm):∃k n s a,t.aV=.agg [.int .i64 k,.int .i64 n,.str s,a]/\t.au=k/\t.cF=n/\t.bH=s/\a.aK=0/\((a=.aJ/\t.ag=[])\/a=.sl (t.ag.map Tm.aV)):=by
 cases t with
 |nl k n s=>exact⟨k,n,s,.aJ,rfl,rfl,rfl,rfl,rfl,.inl ⟨rfl,rfl⟩⟩
 |mk k n s us=>exact⟨k,n,s,_,(Tm.mk k n s us).dj,rfl,rfl,rfl,ay _,.inr rfl⟩
def KC:aX:=⟨62,λ|[v]=>(match kC v with|some t=>if t.bH.length<4611686018427387904 then some (.bool (og t)) else none|none=>none)|_=>none⟩
theorem C6:KC.f=62:=(rfl)
theorem X7(t:Tm)(h:t.bH.length<4611686018427387904):KC.S [t.aV]=some (.bool (og t)):=by simp only[KC,fh,if_pos h]
theorem XS:aY Tryz.prog KC:=λag v hv=>by
 unfold KC at hv|-;dsimp only at hv|-;split at hv
 .rename_i x;split at hv
  .rename_i t ht;split at hv
   .rename_i hl;cases hv;rw[eI ht];refine bG (n:=5) (h':=h0) (bA (ss:=[yS]) (by simp[NB])) ?_ rfl (by simp[AV.aw,Tm.cm]);obtain⟨k,n,s,a,e,e1,e2,e3,hr,ha⟩:=T5 t;have hg:=NH s (by rw[<-e3];exact hl);unfold og;rw[e,e1,e2,e3]
    have WU:(a=.aJ/\t.ag.length=0)\/(∃l:List AV,a=.sl l/\l.length=t.ag.length):=by
     rcases ha with⟨h1,h2⟩|h1
     .exact .inl ⟨h1,by rw[h2];rfl⟩
     .exact .inr ⟨_,h1,by simp⟩
    generalize t.ag.length=q at WU;clear ha e1 e2 e3 ht hl e;by_cases k0:k=0
    .subst k0;by_cases c1:0<=n
     .by_cases c2:n<=2147483647
      .cases s with
       |nil=>
         rcases WU with⟨rfl,rfl⟩|⟨l,rfl,rfl⟩
         .simp[rB,LV,c1,c2,gR]
         .by_cases c4:l.length=0;have Fs:((l.length:Int)=0)=True:=eq_true (by omega)
          rotate_left
          have Fs:((l.length:Int)=0)=False:=eq_false (by omega)
          rotate_left
          all_goals
           simp only[AV.aK] at hr;simp[rB,LV,c1,c2,Fs,c4,hr,gR]
       |cons c r=>simp[rB,LV,c1,c2,gR,hr]
      .simp[rB,LV,c1,c2,gR,hr]
     .simp[rB,LV,c1,gR,hr]
    .by_cases k1:k=1
     .subst k1
      cases s with
      |nil=>
        rcases WU with⟨rfl,rfl⟩|⟨l,rfl,rfl⟩
        .simp[rB,LV,gR]
        .by_cases c4:l.length=0;have Fs:((l.length:Int)=0)=True:=eq_true (by omega)
         rotate_left
         have Fs:((l.length:Int)=0)=False:=eq_false (by omega)
         rotate_left
         all_goals
          simp only[AV.aK] at hr;simp[rB,LV,Fs,c4,hr,gR]
      |cons c r=>simp[rB,LV,gR,hr]
     .by_cases k2:k=2
      .subst k2;by_cases c1:n=0
       .cases Xs:oe s with
        |false=>rw[Xs] at hg;simp[rB,LV,c1,hg,gR,hr]
        |true=>
          rw[Xs] at hg;rcases WU with⟨rfl,rfl⟩|⟨l,rfl,rfl⟩
          .simp[rB,LV,c1,hg,gR]
          .by_cases c4:l.length<=8;have Fs:((l.length:Int)<=8)=True:=eq_true (by omega)
           rotate_left
           have Fs:((l.length:Int)<=8)=False:=eq_false (by omega)
           rotate_left
           all_goals
            simp only[AV.aK] at hr;simp[rB,LV,c1,hg,Fs,c4,hr,gR]
       .simp[rB,LV,c1,gR,hr]
      .simp[rB,LV,k0,k1,k2,gR,hr]
   .cases hv
  .cases hv
 .cases hv
theorem nF(t:Tm):basic t.ca=true:=by cases t<;>rfl
theorem Uo(t:Tm):Fl 4 t.aV:=by rw[Tm.dj];refine⟨rfl,?_,λh=>by omega,λ_=>rfl,rfl⟩;have:=nF t;simp only[AV.cells,Tm.cells,List.all_cons,List.all_nil,this];rfl
theorem rp(us:List Tm):∀x∈us.map Tm.aV,Fl 4 x:=by intro x hx;obtain⟨t,_,rfl⟩:=List.mem_map.1 hx;exact Uo t
def aG(us:List Tm):List AV:=us.flatMap Tm.cells
theorem ux(us:List Tm):(us.map Tm.aV).flatMap AV.cells=aG us:=by
 induction us with
 |nil=>rfl
 |cons t r ih=>unfold aG at ih|-;rw[List.map_cons,List.flatMap_cons,List.flatMap_cons,ih,Tm.dj];rfl
theorem bP(us:List Tm):(aG us).length=us.length*4:=by rw[<-ux,xT (rp us),List.length_map]
theorem bh(us:List Tm):AV.aw (aG us)=0:=by rw[<-ux];exact nU (xU (rp us))
theorem Vy(h:ai)(us:List Tm):aT h 4 (.sl (us.map Tm.aV))=some (us.length,aG us):=by
 have e:aT h 4 (.sl (us.map Tm.aV))=if ((us.map Tm.aV).all λx=>(x.cells?.map List.length)==some 4) then some ((us.map Tm.aV).length,(us.map Tm.aV).flatMap AV.cells) else none:=rfl
 rw[e,if_pos (J7 (rp us)),List.length_map,ux]
def We:aX:=⟨48,λ|[.int .i64 n]=>some (Tm.nl 1 n []).aV|_=>none⟩
theorem VF:We.f=48:=(rfl)
theorem P2(n:Int):We.S [.int .i64 n]=some (.agg [.int .i64 1,.int .i64 n,.str [],.aJ]):=rfl
theorem Yq:aY Tryz.prog We:=λag v hv=>by
 unfold We at hv|-;dsimp only at hv|-;split at hv
 .cases hv;refine bG (n:=3) (h':=h0) (bA (ss:=[]) (by simp)) ?_ rfl rfl;simp[afS,c48,Tm.aV]
 .cases hv
def C7:aX:=⟨32,λ|[.int .i64 n]=>some (Tm.nl 0 n []).aV|_=>none⟩
theorem wZ:C7.f=32:=(rfl)
theorem Pg(n:Int):C7.S [.int .i64 n]=some (.agg [.int .i64 0,.int .i64 n,.str [],.aJ]):=rfl
theorem Xx:aY Tryz.prog C7:=λag v hv=>by
 unfold C7 at hv|-;dsimp only at hv|-;split at hv
 .cases hv;refine bG (n:=3) (h':=h0) (bA (ss:=[]) (by simp)) ?_ rfl rfl;simp[ae4,c32,Tm.aV]
 .cases hv
def F6:aX:=⟨28,λ|[.str s]=>some (Tm.nl 2 0 s).aV|_=>none⟩
theorem PU:F6.f=28:=(rfl)
theorem pA(s:List UInt8):F6.S [.str s]=some (.agg [.int .i64 2,.int .i64 0,.str s,.aJ]):=rfl
theorem JX:aY Tryz.prog F6:=λag v hv=>by
 unfold F6 at hv|-;dsimp only at hv|-;split at hv
 .cases hv;refine bG (n:=3) (h':=h0) (bA (ss:=[]) (by simp)) ?_ rfl rfl;simp[afI,c28,Tm.aV]
 .cases hv
def bM(s:List UInt8):List Tm->Tm
 |[]=>.nl 2 0 s
 |us=>.mk 2 0 s us
def ye:aX:=⟨47,λ
 |[.str s,.aJ]=>some (Tm.nl 2 0 s).aV
 |[.str s,.sl xs]=>(match lX xs with|some us=>if us.length<1000000000000 then some (bM s us).aV else none|none=>none)
 |_=>none⟩
theorem sq:ye.f=47:=(rfl)
theorem lx(s:List UInt8)(us:List Tm)(h:us.length<1000000000000):ye.S [.str s,.sl (us.map Tm.aV)]=some (bM s us).aV:=by unfold ye;dsimp only;rw[<-kF,nz];exact if_pos h
theorem rA:∀{xs:List AV} {us:List Tm},lX xs=some us->xs=us.map Tm.aV
 |[],us,e=>by simp[lX] at e;subst e;rfl
 |x::r,us,e=>by
   simp only[lX] at e;split at e
   .rename_i t l h1 h2;cases e;rw[eI h1,rA h2];rfl
   .cases e
theorem yq:aY Tryz.prog ye:=λag v hv=>by
 unfold ye at hv|-;dsimp only at hv|-;split at hv
 .cases hv;refine bG (n:=4) (h':=h0) (bA (ss:=[]) (by simp)) ?_ rfl rfl;simp[Uq,c47,Tm.aV]
 .rename_i s xs;split at hv
  .rename_i us hx;split at hv
   .rename_i hl;cases hv;rw[rA hx];refine bG (n:=4) (h':=h0) (bA (ss:=[]) (by simp)) ?_ (Tm.cm _) (by simp[AV.aw,AV.aK,bF])
    cases us with
    |nil=>simp[Uq,c47,Tm.aV,bM]
    |cons t r=>
      have h5:AV.aw (r.map Tm.aV)=0:=bF _;have h6:t.aV.aK=0:=Tm.cm _;have jn:=SE 86 (xs:=t.aV::r.map Tm.aV) (by simp);have he:=λh=>Vy h (t::r)
      have b1:(r.length+1)*56<=140737488355328:=by simp at hl;omega
      have b2:r.length+1<9223372036854775808:=by simp at hl;omega
      have e:(bM s (t::r)).aV=.agg [.int .i64 2,.int .i64 0,.str s,.sl (t.aV::r.map Tm.aV)]:=by simp[bM,Tm.aV,kF,Tm.uJ]
      have EO:=bh (t::r)
      have hf:∀(X:bp) (wl md d:Nat),jF ⟨2,[.row (aG (t::r)),X],wl,md⟩ 0 (d+2) (.vec 1 0 (r.length+1) 4 (r.length+1))=some (.sl ((t::r).map Tm.aV),[1]):=λX wl md d=>yj (by omega) rfl (by omega) (rp (t::r)) (by simp) (by rw[bP];simp) (by rw[ux,List.take_of_length_le];rw[bP];simp)
      rw[e];simp only[List.map_cons,List.length_cons] at he hf;simp[Uq,c47,afL,c86,jn,h5,h6,b1,b2,he,EO,hf,Bl]
   .cases hv
  .cases hv
 .cases hv
theorem AS:∀{a b:List AV},AV.aw a=0->AV.aw b=0->AV.aw (a++b)=0
 |[],b,_,hb=>hb
 |v::r,b,ha,hb=>by simp only[AV.aw] at ha;simp only[List.cons_append,AV.aw];rw[AS (a:=r) (by omega) hb];omega
theorem Ay:∀{a:List AV},AV.aw a=0->∀k,AV.aw (a.take k)=0/\AV.aw (a.drop k)=0
 |[],_,k=>by simp[AV.aw]
 |v::r,ha,0=>⟨by simp[AV.aw],by simpa using ha⟩
 |v::r,ha,k+1=>by simp only[AV.aw] at ha;have:=Ay (a:=r) (by omega) k;simp only[List.take_succ_cons,List.drop_succ_cons,AV.aw];exact⟨by rw[this.1];omega,this.2⟩
theorem mb{R:List AV}(h:AV.aw R=0)(x:Tm)(k:Nat)(hk:k+4<=R.length):AV.aw (putAt R k x.cells)=0:=by
 rw[qS x.cells R k (by have:x.cells.length=4:=rfl;omega)];have q1:AV.aw x.cells=0:=by simp[Tm.cells,AV.aw,AV.aK,ay]
 exact AS (AS (Ay h _).1 q1) (Ay h _).2
def fM{σ:Type}(fs:Tm->σ->Bool×σ):Nat->List Tm->σ->Bool×σ
 |0,_,s=>(true,s)
 |_+1,[],s=>(true,s)
 |d+1,x::rs,s=>if (fs x s).1 then fM fs d (x.ag++rs) (fs x s).2 else (false,(fs x s).2)
mutual
def Tm.size:Tm->Nat
 |.nl ..=>1
 |.mk _ _ _ us=>1+Tm.dw us
def Tm.dw:List Tm->Nat
 |[]=>0
 |t::r=>t.size+Tm.dw r
end
theorem gQ(t:Tm):t.size=1+Tm.dw t.ag:=by cases t<;>rfl
theorem oN:∀a b:List Tm,Tm.dw (a++b)=Tm.dw a+Tm.dw b
 |[],b=>by simp[Tm.dw]
 |t::r,b=>by simp[Tm.dw,oN r b];omega
theorem ft:∀a:List Tm,a.length<=Tm.dw a
 |[]=>by simp
 |t::r=>by have:=ft r;have:=gQ t;simp[Tm.dw];omega
theorem Kh{R:List AV}{st:List Tm}{x:Tm}(h:R.take ((st.length+1)*4)=aG (st++[x])):R.take (st.length*4)=aG st/\(R.drop (st.length*4)).take 4=x.cells:=by
 have e:aG (st++[x])=aG st++x.cells:=by simp[aG]
 have hl:=bP st;refine⟨?_,?_⟩
 .have:=congrArg (List.take (st.length*4)) h;rw[List.take_take,Nat.min_eq_left (by omega),e,List.take_left' hl] at this;exact this
 .have:=congrArg (List.drop (st.length*4)) h;rw[List.drop_take,e,List.drop_left' hl,show (st.length+1)*4-st.length*4=4 by omega] at this;exact this
theorem iw{X x:Tm}{i:Nat}(hx:X.ag[i]? =some x):X.ca=.sl (X.ag.map Tm.aV)/\X.cells=[.int .i64 X.au,.int .i64 X.cF,.str X.bH,.sl (X.ag.map Tm.aV)]/\AV.aw (X.ag.map Tm.aV)=0/\x.aV=.agg x.cells/\x.cells=[.int .i64 x.au,.int .i64 x.cF,.str x.bH,x.ca]/\x.ca.aK=0:=by
 have ha:X.ca=.sl (X.ag.map Tm.aV):=by
  cases X with
  |nl k n s=>simp[Tm.ag] at hx
  |mk k n s us=>rfl
 exact⟨ha,by rw[<-ha];rfl,bF _,Tm.dj x,rfl,ay x⟩
theorem yQ(C:Nat->List AV->ai->Option (AV×ai))(n g:Nat)(bC:List AV)(hc:AV.aw bC<=2)(X:Tm)(os:List bp)(md:Nat)(iG:∀k,2<=k->min md k=md)(w:Nat)(hw:min w 5=w):∀(i m:Nat) (st:List Tm),i<=X.ag.length->i<m->st.length+i<1000000000000->
 gu 5 w (bL (aH C n eG) dC 5 m (oh (.fn g bC) (.vec 5 0 st.length 4 st.length) (.ptr 4 0) (.int .i64 ((i:Int)-1))) ⟨6,.row (aG st)::.row X.cells::.dead::os,5,md⟩)=
  some (.exit 2,FM 44 [(1,.fn g bC),(5,.vec 5 0 (st.length+i) 4 (st.length+i))],⟨6,.row (aG (st++(X.ag.take i).reverse))::.row X.cells::.dead::os,w,md⟩)
 |0,m+1,st,_,_,_=>by
   have h1:(0<=(-1:Int))=False:=by simp
   have hr:AV.aw bC<=5:=by omega
   have tt:min md 3=md:=iG 3 (by omega);have u0:min md 5=md:=iG 5 (by omega);have EO:=bh st;simp[ak,eG,hr,EO,hw]
 |i+1,m+1,st,hi,hm,hl=>by
   have hr:AV.aw bC<=5:=by omega
   have tt:min md 3=md:=iG 3 (by omega);have u0:min md 5=md:=iG 5 (by omega);obtain⟨x,hx⟩:∃x,X.ag[i]? =some x:=⟨X.ag[i]'(by omega),by simp⟩
   have ih:=yQ C n g bC hc X os md iG w hw i m (st++[x]) (by omega) (by omega) (by simp;omega);obtain⟨ha,hX,h5,iI,fA,gm⟩:=iw hx;have EO:=bh st;have LY:=bP st;have w1:IntKind.i64.wrap ((i:Int)-1)=(i:Int)-1:=wrap_i64 (by omega) (by omega);have t1:(0<=(i:Int))=True:=eq_true (by omega);have b1:(st.length+1)*56<=140737488355328:=by omega
   have b2:st.length+1<9223372036854775808:=by omega
   have zh:X.ag.take (i+1)=X.ag.take i++[x]:=by rw[List.take_add_one,hx];rfl
   have vZ:aG (st++[x])=aG st++[.int .i64 x.au,.int .i64 x.cF,.str x.bH,x.ca]:=by simp[aG,Tm.cells]
   have Oi:List.take (st.length*4) (aG st)=aG st:=List.take_of_length_le (by omega);have xE:AV.aw (aG st++[.int .i64 x.au,.int .i64 x.cF,.str x.bH,x.ca])=0:=by rw[<-vZ];exact bh _
   rw[zh,List.reverse_append];simp only[List.length_append,List.length_cons,List.length_nil,Nat.zero_add,List.append_assoc,vZ] at ih;have e1:st.length+1+i=st.length+(i+1):=by omega
   rw[e1] at ih;have e2:((i+1:Nat):Int)-1=(i:Int):=by omega
   rw[e2,ak];rw[hX] at ih|-;simp[eG,dC,h5,hx,iI,fA,gm,EO,LY,w1,t1,b1,b2,hr,Oi,xE,tt,u0,aT];exact ih
theorem GU{R:List AV}{st:List Tm}{lb:Nat}(hR:R.length=lb*4)(ht:R.take (st.length*4)=aG st)(xH:st.length+1<=lb)(x:Tm):
 (putAt R (st.length*4) x.cells).length=lb*4/\(putAt R (st.length*4) x.cells).take ((st++[x]).length*4)=aG (st++[x]):=by
 have hc:x.cells.length=4:=rfl;have h1:st.length*4+x.cells.length<=R.length:=by omega
 refine⟨?_,?_⟩
 .rw[qS x.cells R _ h1];simp only[List.length_append,List.length_take,List.length_drop];omega
 .have:=oG x.cells h1;rw[List.length_append,show (st.length+[x].length)*4=st.length*4+x.cells.length by simp[hc];omega,this,ht];simp[aG]
theorem wE(C:Nat->List AV->ai->Option (AV×ai))(n g:Nat)(bC:List AV)(hc:AV.aw bC<=2)(X:Tm)(os:List bp)(md:Nat)(iG:∀k,2<=k->min md k=md)(w:Nat)(hw:min w 5=w)(lb:Nat):∀(i m:Nat) (st:List Tm) (R:List AV),i<=X.ag.length->i<m->st.length+i<=lb->lb<1000000000000->R.length=lb*4->R.take (st.length*4)=aG st->AV.aw R=0->
 ∃R',R'.length=lb*4/\R'.take ((st.length+i)*4)=aG (st++(X.ag.take i).reverse)/\AV.aw R'=0/\
 gu 5 w (bL (aH C n eG) dC 5 m (oh (.fn g bC) (.vec 3 0 st.length 4 lb) (.ptr 4 0) (.int .i64 ((i:Int)-1))) ⟨5,.row X.cells::.row R::os,5,md⟩)=
  some (.exit 2,FM 44 [(1,.fn g bC),(5,.vec 3 0 (st.length+i) 4 lb)],⟨5,.row X.cells::.row R'::os,w,md⟩)
 |0,m+1,st,R,_,_,_,_,hR,ht,l7=>by
   have h1:(0<=(-1:Int))=False:=by simp
   have hr:AV.aw bC<=5:=by omega
   have tt:min md 3=md:=iG 3 (by omega);have u0:min md 5=md:=iG 5 (by omega);refine⟨R,hR,by simpa using ht,l7,?_⟩;simp[ak,eG,hr,hw]
 |i+1,m+1,st,R,hi,hm,xH,hl,hR,ht,l7=>by
   have hr:AV.aw bC<=5:=by omega
   have tt:min md 3=md:=iG 3 (by omega);have u0:min md 5=md:=iG 5 (by omega);obtain⟨x,hx⟩:∃x,X.ag[i]? =some x:=⟨X.ag[i]'(by omega),by simp⟩
   obtain⟨p1,p2⟩:=GU hR ht (by omega) x;have p3:=mb l7 x (st.length*4) (by omega);obtain⟨R',r1,r2,r3,ih⟩:=wE C n g bC hc X os md iG w hw lb i m (st++[x]) (putAt R (st.length*4) x.cells) (by omega) (by omega) (by simp;omega) hl p1 p2 p3;have e1:(st++[x]).length+i=st.length+(i+1):=by simp;omega
   have zh:X.ag.take (i+1)=X.ag.take i++[x]:=by rw[List.take_add_one,hx];rfl
   refine⟨R',r1,?_,r3,?_⟩
   .rw[zh,List.reverse_append,<-e1,r2];simp[List.append_assoc]
   obtain⟨ha,hX,h5,iI,fA,gm⟩:=iw hx;have w1:IntKind.i64.wrap ((i:Int)-1)=(i:Int)-1:=wrap_i64 (by omega) (by omega);have t1:(0<=(i:Int))=True:=eq_true (by omega);have b1:st.length*4<=R.length:=by omega
   have b2:st.length+1<=lb:=by omega
   have b3:(st.length+1)*4<=R.length:=by omega
   have Oj:putAt [.int .i64 0,.int .i64 0,.str [],.aJ] 0 [.int .i64 x.au,.int .i64 x.cF,.str x.bH,x.ca]=[.int .i64 x.au,.int .i64 x.cF,.str x.bH,x.ca]:=rfl;have zi:(st++[x]).length=st.length+1:=by simp
   rw[zi,show st.length+1+i=st.length+(i+1) by omega] at ih;have e2:((i+1:Nat):Int)-1=(i:Int):=by omega
   rw[e2,ak];rw[hX,fA] at ih;rw[hX];simp[eG,dC,h5,hx,iI,fA,gm,w1,t1,b1,b2,b3,hr,tt,u0,l7,Oj,aT,-jB];exact ih
theorem wv(C:Nat->List AV->ai->Option (AV×ai))(n g:Nat)(bC:List AV)(hc:AV.aw bC<=2)(X:Tm)(os:List bp)(md:Nat)(iG:∀k,2<=k->min md k=md)(w:Nat)(hw:min w 5=w)(lb:Nat):∀(i m:Nat) (st:List Tm) (R:List AV),i<=X.ag.length->i<m->st.length<=lb->lb<st.length+i->st.length+i<1000000000000->R.length=lb*4->R.take (st.length*4)=aG st->AV.aw R=0->
 gu 5 w (bL (aH C n eG) dC 5 m (oh (.fn g bC) (.vec 3 0 st.length 4 lb) (.ptr 4 0) (.int .i64 ((i:Int)-1))) ⟨5,.row X.cells::.row R::os,5,md⟩)=
  some (.exit 2,FM 44 [(1,.fn g bC),(5,.vec 5 0 (st.length+i) 4 (st.length+i))],⟨6,.row (aG (st++(X.ag.take i).reverse))::.row X.cells::.dead::os,w,md⟩)
 |0,m,st,R,_,_,h1,h2,_,_,_,_=>by omega
 |i+1,0,st,R,_,h,_,_,_,_,_,_=>by omega
 |i+1,m+1,st,R,hi,hm,h1,h2,hl,hR,ht,l7=>by
   have hr:AV.aw bC<=5:=by omega
   have tt:min md 3=md:=iG 3 (by omega);have u0:min md 5=md:=iG 5 (by omega);obtain⟨x,hx⟩:∃x,X.ag[i]? =some x:=⟨X.ag[i]'(by omega),by simp⟩
   have zh:X.ag.take (i+1)=X.ag.take i++[x]:=by rw[List.take_add_one,hx];rfl
   obtain⟨ha,hX,h5,iI,fA,gm⟩:=iw hx;have w1:IntKind.i64.wrap ((i:Int)-1)=(i:Int)-1:=wrap_i64 (by omega) (by omega);have t1:(0<=(i:Int))=True:=eq_true (by omega);have b1:st.length*4<=R.length:=by omega
   have Oj:putAt [.int .i64 0,.int .i64 0,.str [],.aJ] 0 [.int .i64 x.au,.int .i64 x.cF,.str x.bH,x.ca]=[.int .i64 x.au,.int .i64 x.cF,.str x.bH,x.ca]:=rfl;have zi:(st++[x]).length=st.length+1:=by simp
   have e2:((i+1:Nat):Int)-1=(i:Int):=by omega
   by_cases lu:st.length+1<=lb
   .obtain⟨p1,p2⟩:=GU hR ht (by omega) x;have p3:=mb l7 x (st.length*4) (by omega);have ih:=wv C n g bC hc X os md iG w hw lb i m (st++[x]) (putAt R (st.length*4) x.cells) (by omega) (by omega) (by omega) (by omega) (by omega) p1 p2 p3;have b3:(st.length+1)*4<=R.length:=by omega
    rw[zi,show st.length+1+i=st.length+(i+1) by omega] at ih;rw[e2,ak,zh,List.reverse_append];rw[hX,fA] at ih;rw[hX];simp only[List.append_assoc] at ih;simp[eG,dC,h5,hx,iI,fA,gm,w1,t1,b1,lu,b3,hr,tt,u0,l7,Oj,aT,-jB];exact ih
   .have xH:lb=st.length:=by omega
    have ih:=yQ C n g bC hc X os md iG w hw i m (st++[x]) (by omega) (by omega) (by omega);have c1:(st.length+1)*56<=140737488355328:=by omega
    have c2:st.length+1<9223372036854775808:=by omega
    have vZ:aG (st++[x])=aG st++[.int .i64 x.au,.int .i64 x.cF,.str x.bH,x.ca]:=by simp[aG,Tm.cells]
    have xE:AV.aw (aG st++[.int .i64 x.au,.int .i64 x.cF,.str x.bH,x.ca])=0:=by rw[<-vZ];exact bh _
    rw[zi,show st.length+1+i=st.length+(i+1) by omega,vZ] at ih;rw[e2,ak,zh,List.reverse_append];rw[hX] at ih|-;simp only[List.append_assoc] at ih;simp[eG,dC,h5,hx,iI,fA,gm,w1,t1,b1,lu,c1,c2,hr,tt,u0,l7,ht,xE,aT];exact ih
theorem xM(C:Nat->List AV->ai->Option (AV×ai))(n g:Nat)(bC:List AV)(hc:AV.aw bC<=2)(X:Tm)(os:List bp)(md:Nat)(iG:∀k,2<=k->min md k=md)(w:Nat)(hw:min w 6=w):∀(i m:Nat) (st:List Tm),i<=X.ag.length->i<m->st.length+i<1000000000000->
 gu 6 w (bL (aH C n eG) dC 6 m (oh (.fn g bC) (.vec 6 0 st.length 4 st.length) (.ptr 5 0) (.int .i64 ((i:Int)-1))) ⟨7,.row (aG st)::.row X.cells::.dead::os,6,md⟩)=
  some (.exit 2,FM 44 [(1,.fn g bC),(5,.vec 6 0 (st.length+i) 4 (st.length+i))],⟨7,.row (aG (st++(X.ag.take i).reverse))::.row X.cells::.dead::os,w,md⟩)
 |0,m+1,st,_,_,_=>by
   have h1:(0<=(-1:Int))=False:=by simp
   have hr:AV.aw bC<=6:=by omega
   have tt:min md 4=md:=iG 4 (by omega);have u0:min md 6=md:=iG 6 (by omega);have EO:=bh st;simp[ak,eG,hr,EO,hw]
 |i+1,m+1,st,hi,hm,hl=>by
   have hr:AV.aw bC<=6:=by omega
   have tt:min md 4=md:=iG 4 (by omega);have u0:min md 6=md:=iG 6 (by omega);obtain⟨x,hx⟩:∃x,X.ag[i]? =some x:=⟨X.ag[i]'(by omega),by simp⟩
   have ih:=xM C n g bC hc X os md iG w hw i m (st++[x]) (by omega) (by omega) (by simp;omega);obtain⟨ha,hX,h5,iI,fA,gm⟩:=iw hx;have EO:=bh st;have LY:=bP st;have w1:IntKind.i64.wrap ((i:Int)-1)=(i:Int)-1:=wrap_i64 (by omega) (by omega);have t1:(0<=(i:Int))=True:=eq_true (by omega);have b1:(st.length+1)*56<=140737488355328:=by omega
   have b2:st.length+1<9223372036854775808:=by omega
   have zh:X.ag.take (i+1)=X.ag.take i++[x]:=by rw[List.take_add_one,hx];rfl
   have vZ:aG (st++[x])=aG st++[.int .i64 x.au,.int .i64 x.cF,.str x.bH,x.ca]:=by simp[aG,Tm.cells]
   have Oi:List.take (st.length*4) (aG st)=aG st:=List.take_of_length_le (by omega);have xE:AV.aw (aG st++[.int .i64 x.au,.int .i64 x.cF,.str x.bH,x.ca])=0:=by rw[<-vZ];exact bh _
   rw[zh,List.reverse_append];simp only[List.length_append,List.length_cons,List.length_nil,Nat.zero_add,List.append_assoc,vZ] at ih;have e1:st.length+1+i=st.length+(i+1):=by omega
   rw[e1] at ih;have e2:((i+1:Nat):Int)-1=(i:Int):=by omega
   rw[e2,ak];rw[hX] at ih|-;simp[eG,dC,h5,hx,iI,fA,gm,EO,LY,w1,t1,b1,b2,hr,Oi,xE,tt,u0,aT];exact ih
theorem Gc{R:List AV}{st:List Tm}{lb:Nat}(hR:R.length=lb*4)(ht:R.take (st.length*4)=aG st)(xH:st.length+1<=lb)(x:Tm):
 (putAt R (st.length*4) x.cells).length=lb*4/\(putAt R (st.length*4) x.cells).take ((st++[x]).length*4)=aG (st++[x]):=by
 have hc:x.cells.length=4:=rfl;have h1:st.length*4+x.cells.length<=R.length:=by omega
 refine⟨?_,?_⟩
 .rw[qS x.cells R _ h1];simp only[List.length_append,List.length_take,List.length_drop];omega
 .have:=oG x.cells h1;rw[List.length_append,show (st.length+[x].length)*4=st.length*4+x.cells.length by simp[hc];omega,this,ht];simp[aG]
theorem wy(C:Nat->List AV->ai->Option (AV×ai))(n g:Nat)(bC:List AV)(hc:AV.aw bC<=2)(X:Tm)(os:List bp)(md:Nat)(iG:∀k,2<=k->min md k=md)(w:Nat)(hw:min w 6=w)(lb:Nat):∀(i m:Nat) (st:List Tm) (R:List AV),i<=X.ag.length->i<m->st.length+i<=lb->lb<1000000000000->R.length=lb*4->R.take (st.length*4)=aG st->AV.aw R=0->
 ∃R',R'.length=lb*4/\R'.take ((st.length+i)*4)=aG (st++(X.ag.take i).reverse)/\AV.aw R'=0/\
 gu 6 w (bL (aH C n eG) dC 6 m (oh (.fn g bC) (.vec 4 0 st.length 4 lb) (.ptr 5 0) (.int .i64 ((i:Int)-1))) ⟨6,.row X.cells::.row R::os,6,md⟩)=
  some (.exit 2,FM 44 [(1,.fn g bC),(5,.vec 4 0 (st.length+i) 4 lb)],⟨6,.row X.cells::.row R'::os,w,md⟩)
 |0,m+1,st,R,_,_,_,_,hR,ht,l7=>by
   have h1:(0<=(-1:Int))=False:=by simp
   have hr:AV.aw bC<=6:=by omega
   have tt:min md 4=md:=iG 4 (by omega);have u0:min md 6=md:=iG 6 (by omega);refine⟨R,hR,by simpa using ht,l7,?_⟩;simp[ak,eG,hr,hw]
 |i+1,m+1,st,R,hi,hm,xH,hl,hR,ht,l7=>by
   have hr:AV.aw bC<=6:=by omega
   have tt:min md 4=md:=iG 4 (by omega);have u0:min md 6=md:=iG 6 (by omega);obtain⟨x,hx⟩:∃x,X.ag[i]? =some x:=⟨X.ag[i]'(by omega),by simp⟩
   obtain⟨p1,p2⟩:=Gc hR ht (by omega) x;have p3:=mb l7 x (st.length*4) (by omega);obtain⟨R',r1,r2,r3,ih⟩:=wy C n g bC hc X os md iG w hw lb i m (st++[x]) (putAt R (st.length*4) x.cells) (by omega) (by omega) (by simp;omega) hl p1 p2 p3;have e1:(st++[x]).length+i=st.length+(i+1):=by simp;omega
   have zh:X.ag.take (i+1)=X.ag.take i++[x]:=by rw[List.take_add_one,hx];rfl
   refine⟨R',r1,?_,r3,?_⟩
   .rw[zh,List.reverse_append,<-e1,r2];simp[List.append_assoc]
   obtain⟨ha,hX,h5,iI,fA,gm⟩:=iw hx;have w1:IntKind.i64.wrap ((i:Int)-1)=(i:Int)-1:=wrap_i64 (by omega) (by omega);have t1:(0<=(i:Int))=True:=eq_true (by omega);have b1:st.length*4<=R.length:=by omega
   have b2:st.length+1<=lb:=by omega
   have b3:(st.length+1)*4<=R.length:=by omega
   have Oj:putAt [.int .i64 0,.int .i64 0,.str [],.aJ] 0 [.int .i64 x.au,.int .i64 x.cF,.str x.bH,x.ca]=[.int .i64 x.au,.int .i64 x.cF,.str x.bH,x.ca]:=rfl;have zi:(st++[x]).length=st.length+1:=by simp
   rw[zi,show st.length+1+i=st.length+(i+1) by omega] at ih;have e2:((i+1:Nat):Int)-1=(i:Int):=by omega
   rw[e2,ak];rw[hX,fA] at ih;rw[hX];simp[eG,dC,h5,hx,iI,fA,gm,w1,t1,b1,b2,b3,hr,tt,u0,l7,Oj,aT,-jB];exact ih
theorem wH(C:Nat->List AV->ai->Option (AV×ai))(n g:Nat)(bC:List AV)(hc:AV.aw bC<=2)(X:Tm)(os:List bp)(md:Nat)(iG:∀k,2<=k->min md k=md)(w:Nat)(hw:min w 6=w)(lb:Nat):∀(i m:Nat) (st:List Tm) (R:List AV),i<=X.ag.length->i<m->st.length<=lb->lb<st.length+i->st.length+i<1000000000000->R.length=lb*4->R.take (st.length*4)=aG st->AV.aw R=0->
 gu 6 w (bL (aH C n eG) dC 6 m (oh (.fn g bC) (.vec 4 0 st.length 4 lb) (.ptr 5 0) (.int .i64 ((i:Int)-1))) ⟨6,.row X.cells::.row R::os,6,md⟩)=
  some (.exit 2,FM 44 [(1,.fn g bC),(5,.vec 6 0 (st.length+i) 4 (st.length+i))],⟨7,.row (aG (st++(X.ag.take i).reverse))::.row X.cells::.dead::os,w,md⟩)
 |0,m,st,R,_,_,h1,h2,_,_,_,_=>by omega
 |i+1,0,st,R,_,h,_,_,_,_,_,_=>by omega
 |i+1,m+1,st,R,hi,hm,h1,h2,hl,hR,ht,l7=>by
   have hr:AV.aw bC<=6:=by omega
   have tt:min md 4=md:=iG 4 (by omega);have u0:min md 6=md:=iG 6 (by omega);obtain⟨x,hx⟩:∃x,X.ag[i]? =some x:=⟨X.ag[i]'(by omega),by simp⟩
   have zh:X.ag.take (i+1)=X.ag.take i++[x]:=by rw[List.take_add_one,hx];rfl
   obtain⟨ha,hX,h5,iI,fA,gm⟩:=iw hx;have w1:IntKind.i64.wrap ((i:Int)-1)=(i:Int)-1:=wrap_i64 (by omega) (by omega);have t1:(0<=(i:Int))=True:=eq_true (by omega);have b1:st.length*4<=R.length:=by omega
   have Oj:putAt [.int .i64 0,.int .i64 0,.str [],.aJ] 0 [.int .i64 x.au,.int .i64 x.cF,.str x.bH,x.ca]=[.int .i64 x.au,.int .i64 x.cF,.str x.bH,x.ca]:=rfl;have zi:(st++[x]).length=st.length+1:=by simp
   have e2:((i+1:Nat):Int)-1=(i:Int):=by omega
   by_cases lu:st.length+1<=lb
   .obtain⟨p1,p2⟩:=Gc hR ht (by omega) x;have p3:=mb l7 x (st.length*4) (by omega);have ih:=wH C n g bC hc X os md iG w hw lb i m (st++[x]) (putAt R (st.length*4) x.cells) (by omega) (by omega) (by omega) (by omega) (by omega) p1 p2 p3;have b3:(st.length+1)*4<=R.length:=by omega
    rw[zi,show st.length+1+i=st.length+(i+1) by omega] at ih;rw[e2,ak,zh,List.reverse_append];rw[hX,fA] at ih;rw[hX];simp only[List.append_assoc] at ih;simp[eG,dC,h5,hx,iI,fA,gm,w1,t1,b1,lu,b3,hr,tt,u0,l7,Oj,aT,-jB];exact ih
   .have xH:lb=st.length:=by omega
    have ih:=xM C n g bC hc X os md iG w hw i m (st++[x]) (by omega) (by omega) (by omega);have c1:(st.length+1)*56<=140737488355328:=by omega
    have c2:st.length+1<9223372036854775808:=by omega
    have vZ:aG (st++[x])=aG st++[.int .i64 x.au,.int .i64 x.cF,.str x.bH,x.ca]:=by simp[aG,Tm.cells]
    have xE:AV.aw (aG st++[.int .i64 x.au,.int .i64 x.cF,.str x.bH,x.ca])=0:=by rw[<-vZ];exact bh _
    rw[zi,show st.length+1+i=st.length+(i+1) by omega,vZ] at ih;rw[e2,ak,zh,List.reverse_append];rw[hX] at ih|-;simp only[List.append_assoc] at ih;simp[eG,dC,h5,hx,iI,fA,gm,w1,t1,b1,lu,c1,c2,hr,tt,u0,l7,ht,xE,aT];exact ih
theorem yM(C:Nat->List AV->ai->Option (AV×ai))(n g:Nat)(bC:List AV)(hc:AV.aw bC<=1)(X:Tm)(os:List bp)(md:Nat)(iG:∀k,1<=k->min md k=md)(w:Nat)(hw:min w 4=w):∀(i m:Nat) (st:List Tm),i<=X.ag.length->i<m->st.length+i<1000000000000->
 gu 4 w (bL (aH C n eG) dC 4 m (oh (.fn g bC) (.vec 4 0 st.length 4 st.length) (.ptr 3 0) (.int .i64 ((i:Int)-1))) ⟨5,.row (aG st)::.row X.cells::.dead::os,4,md⟩)=
  some (.exit 2,FM 44 [(1,.fn g bC),(5,.vec 4 0 (st.length+i) 4 (st.length+i))],⟨5,.row (aG (st++(X.ag.take i).reverse))::.row X.cells::.dead::os,w,md⟩)
 |0,m+1,st,_,_,_=>by
   have h1:(0<=(-1:Int))=False:=by simp
   have hr:AV.aw bC<=4:=by omega
   have tt:min md 2=md:=iG 2 (by omega);have u0:min md 4=md:=iG 4 (by omega);have EO:=bh st;simp[ak,eG,hr,EO,hw]
 |i+1,m+1,st,hi,hm,hl=>by
   have hr:AV.aw bC<=4:=by omega
   have tt:min md 2=md:=iG 2 (by omega);have u0:min md 4=md:=iG 4 (by omega);obtain⟨x,hx⟩:∃x,X.ag[i]? =some x:=⟨X.ag[i]'(by omega),by simp⟩
   have ih:=yM C n g bC hc X os md iG w hw i m (st++[x]) (by omega) (by omega) (by simp;omega);obtain⟨ha,hX,h5,iI,fA,gm⟩:=iw hx;have EO:=bh st;have LY:=bP st;have w1:IntKind.i64.wrap ((i:Int)-1)=(i:Int)-1:=wrap_i64 (by omega) (by omega);have t1:(0<=(i:Int))=True:=eq_true (by omega);have b1:(st.length+1)*56<=140737488355328:=by omega
   have b2:st.length+1<9223372036854775808:=by omega
   have zh:X.ag.take (i+1)=X.ag.take i++[x]:=by rw[List.take_add_one,hx];rfl
   have vZ:aG (st++[x])=aG st++[.int .i64 x.au,.int .i64 x.cF,.str x.bH,x.ca]:=by simp[aG,Tm.cells]
   have Oi:List.take (st.length*4) (aG st)=aG st:=List.take_of_length_le (by omega);have xE:AV.aw (aG st++[.int .i64 x.au,.int .i64 x.cF,.str x.bH,x.ca])=0:=by rw[<-vZ];exact bh _
   rw[zh,List.reverse_append];simp only[List.length_append,List.length_cons,List.length_nil,Nat.zero_add,List.append_assoc,vZ] at ih;have e1:st.length+1+i=st.length+(i+1):=by omega
   rw[e1] at ih;have e2:((i+1:Nat):Int)-1=(i:Int):=by omega
   rw[e2,ak];rw[hX] at ih|-;simp[eG,dC,h5,hx,iI,fA,gm,EO,LY,w1,t1,b1,b2,hr,Oi,xE,tt,u0,aT];exact ih
theorem FI{R:List AV}{st:List Tm}{lb:Nat}(hR:R.length=lb*4)(ht:R.take (st.length*4)=aG st)(xH:st.length+1<=lb)(x:Tm):
 (putAt R (st.length*4) x.cells).length=lb*4/\(putAt R (st.length*4) x.cells).take ((st++[x]).length*4)=aG (st++[x]):=by
 have hc:x.cells.length=4:=rfl;have h1:st.length*4+x.cells.length<=R.length:=by omega
 refine⟨?_,?_⟩
 .rw[qS x.cells R _ h1];simp only[List.length_append,List.length_take,List.length_drop];omega
 .have:=oG x.cells h1;rw[List.length_append,show (st.length+[x].length)*4=st.length*4+x.cells.length by simp[hc];omega,this,ht];simp[aG]
theorem wz(C:Nat->List AV->ai->Option (AV×ai))(n g:Nat)(bC:List AV)(hc:AV.aw bC<=1)(X:Tm)(os:List bp)(md:Nat)(iG:∀k,1<=k->min md k=md)(w:Nat)(hw:min w 4=w)(lb:Nat):∀(i m:Nat) (st:List Tm) (R:List AV),i<=X.ag.length->i<m->st.length+i<=lb->lb<1000000000000->R.length=lb*4->R.take (st.length*4)=aG st->AV.aw R=0->
 ∃R',R'.length=lb*4/\R'.take ((st.length+i)*4)=aG (st++(X.ag.take i).reverse)/\AV.aw R'=0/\
 gu 4 w (bL (aH C n eG) dC 4 m (oh (.fn g bC) (.vec 2 0 st.length 4 lb) (.ptr 3 0) (.int .i64 ((i:Int)-1))) ⟨4,.row X.cells::.row R::os,4,md⟩)=
  some (.exit 2,FM 44 [(1,.fn g bC),(5,.vec 2 0 (st.length+i) 4 lb)],⟨4,.row X.cells::.row R'::os,w,md⟩)
 |0,m+1,st,R,_,_,_,_,hR,ht,l7=>by
   have h1:(0<=(-1:Int))=False:=by simp
   have hr:AV.aw bC<=4:=by omega
   have tt:min md 2=md:=iG 2 (by omega);have u0:min md 4=md:=iG 4 (by omega);refine⟨R,hR,by simpa using ht,l7,?_⟩;simp[ak,eG,hr,hw]
 |i+1,m+1,st,R,hi,hm,xH,hl,hR,ht,l7=>by
   have hr:AV.aw bC<=4:=by omega
   have tt:min md 2=md:=iG 2 (by omega);have u0:min md 4=md:=iG 4 (by omega);obtain⟨x,hx⟩:∃x,X.ag[i]? =some x:=⟨X.ag[i]'(by omega),by simp⟩
   obtain⟨p1,p2⟩:=FI hR ht (by omega) x;have p3:=mb l7 x (st.length*4) (by omega);obtain⟨R',r1,r2,r3,ih⟩:=wz C n g bC hc X os md iG w hw lb i m (st++[x]) (putAt R (st.length*4) x.cells) (by omega) (by omega) (by simp;omega) hl p1 p2 p3;have e1:(st++[x]).length+i=st.length+(i+1):=by simp;omega
   have zh:X.ag.take (i+1)=X.ag.take i++[x]:=by rw[List.take_add_one,hx];rfl
   refine⟨R',r1,?_,r3,?_⟩
   .rw[zh,List.reverse_append,<-e1,r2];simp[List.append_assoc]
   obtain⟨ha,hX,h5,iI,fA,gm⟩:=iw hx;have w1:IntKind.i64.wrap ((i:Int)-1)=(i:Int)-1:=wrap_i64 (by omega) (by omega);have t1:(0<=(i:Int))=True:=eq_true (by omega);have b1:st.length*4<=R.length:=by omega
   have b2:st.length+1<=lb:=by omega
   have b3:(st.length+1)*4<=R.length:=by omega
   have Oj:putAt [.int .i64 0,.int .i64 0,.str [],.aJ] 0 [.int .i64 x.au,.int .i64 x.cF,.str x.bH,x.ca]=[.int .i64 x.au,.int .i64 x.cF,.str x.bH,x.ca]:=rfl;have zi:(st++[x]).length=st.length+1:=by simp
   rw[zi,show st.length+1+i=st.length+(i+1) by omega] at ih;have e2:((i+1:Nat):Int)-1=(i:Int):=by omega
   rw[e2,ak];rw[hX,fA] at ih;rw[hX];simp[eG,dC,h5,hx,iI,fA,gm,w1,t1,b1,b2,b3,hr,tt,u0,l7,Oj,aT,-jB];exact ih
theorem wB(C:Nat->List AV->ai->Option (AV×ai))(n g:Nat)(bC:List AV)(hc:AV.aw bC<=1)(X:Tm)(os:List bp)(md:Nat)(iG:∀k,1<=k->min md k=md)(w:Nat)(hw:min w 4=w)(lb:Nat):∀(i m:Nat) (st:List Tm) (R:List AV),i<=X.ag.length->i<m->st.length<=lb->lb<st.length+i->st.length+i<1000000000000->R.length=lb*4->R.take (st.length*4)=aG st->AV.aw R=0->
 gu 4 w (bL (aH C n eG) dC 4 m (oh (.fn g bC) (.vec 2 0 st.length 4 lb) (.ptr 3 0) (.int .i64 ((i:Int)-1))) ⟨4,.row X.cells::.row R::os,4,md⟩)=
  some (.exit 2,FM 44 [(1,.fn g bC),(5,.vec 4 0 (st.length+i) 4 (st.length+i))],⟨5,.row (aG (st++(X.ag.take i).reverse))::.row X.cells::.dead::os,w,md⟩)
 |0,m,st,R,_,_,h1,h2,_,_,_,_=>by omega
 |i+1,0,st,R,_,h,_,_,_,_,_,_=>by omega
 |i+1,m+1,st,R,hi,hm,h1,h2,hl,hR,ht,l7=>by
   have hr:AV.aw bC<=4:=by omega
   have tt:min md 2=md:=iG 2 (by omega);have u0:min md 4=md:=iG 4 (by omega);obtain⟨x,hx⟩:∃x,X.ag[i]? =some x:=⟨X.ag[i]'(by omega),by simp⟩
   have zh:X.ag.take (i+1)=X.ag.take i++[x]:=by rw[List.take_add_one,hx];rfl
   obtain⟨ha,hX,h5,iI,fA,gm⟩:=iw hx;have w1:IntKind.i64.wrap ((i:Int)-1)=(i:Int)-1:=wrap_i64 (by omega) (by omega);have t1:(0<=(i:Int))=True:=eq_true (by omega);have b1:st.length*4<=R.length:=by omega
   have Oj:putAt [.int .i64 0,.int .i64 0,.str [],.aJ] 0 [.int .i64 x.au,.int .i64 x.cF,.str x.bH,x.ca]=[.int .i64 x.au,.int .i64 x.cF,.str x.bH,x.ca]:=rfl;have zi:(st++[x]).length=st.length+1:=by simp
   have e2:((i+1:Nat):Int)-1=(i:Int):=by omega
   by_cases lu:st.length+1<=lb
   .obtain⟨p1,p2⟩:=FI hR ht (by omega) x;have p3:=mb l7 x (st.length*4) (by omega);have ih:=wB C n g bC hc X os md iG w hw lb i m (st++[x]) (putAt R (st.length*4) x.cells) (by omega) (by omega) (by omega) (by omega) (by omega) p1 p2 p3;have b3:(st.length+1)*4<=R.length:=by omega
    rw[zi,show st.length+1+i=st.length+(i+1) by omega] at ih;rw[e2,ak,zh,List.reverse_append];rw[hX,fA] at ih;rw[hX];simp only[List.append_assoc] at ih;simp[eG,dC,h5,hx,iI,fA,gm,w1,t1,b1,lu,b3,hr,tt,u0,l7,Oj,aT,-jB];exact ih
   .have xH:lb=st.length:=by omega
    have ih:=yM C n g bC hc X os md iG w hw i m (st++[x]) (by omega) (by omega) (by omega);have c1:(st.length+1)*56<=140737488355328:=by omega
    have c2:st.length+1<9223372036854775808:=by omega
    have vZ:aG (st++[x])=aG st++[.int .i64 x.au,.int .i64 x.cF,.str x.bH,x.ca]:=by simp[aG,Tm.cells]
    have xE:AV.aw (aG st++[.int .i64 x.au,.int .i64 x.cF,.str x.bH,x.ca])=0:=by rw[<-vZ];exact bh _
    rw[zi,show st.length+1+i=st.length+(i+1) by omega,vZ] at ih;rw[e2,ak,zh,List.reverse_append];rw[hX] at ih|-;simp only[List.append_assoc] at ih;simp[eG,dC,h5,hx,iI,fA,gm,w1,t1,b1,lu,c1,c2,hr,tt,u0,l7,ht,xE,aT];exact ih
theorem yh(C:Nat->List AV->ai->Option (AV×ai))(n g:Nat)(bC:List AV)(hc:AV.aw bC<=1)(X:Tm)(os:List bp)(md:Nat)(iG:∀k,1<=k->min md k=md)(w:Nat)(hw:min w 5=w):∀(i m:Nat) (st:List Tm),i<=X.ag.length->i<m->st.length+i<1000000000000->
 gu 5 w (bL (aH C n eG) dC 5 m (oh (.fn g bC) (.vec 5 0 st.length 4 st.length) (.ptr 4 0) (.int .i64 ((i:Int)-1))) ⟨6,.row (aG st)::.row X.cells::.dead::os,5,md⟩)=
  some (.exit 2,FM 44 [(1,.fn g bC),(5,.vec 5 0 (st.length+i) 4 (st.length+i))],⟨6,.row (aG (st++(X.ag.take i).reverse))::.row X.cells::.dead::os,w,md⟩)
 |0,m+1,st,_,_,_=>by
   have h1:(0<=(-1:Int))=False:=by simp
   have hr:AV.aw bC<=5:=by omega
   have tt:min md 3=md:=iG 3 (by omega);have u0:min md 5=md:=iG 5 (by omega);have EO:=bh st;simp[ak,eG,hr,EO,hw]
 |i+1,m+1,st,hi,hm,hl=>by
   have hr:AV.aw bC<=5:=by omega
   have tt:min md 3=md:=iG 3 (by omega);have u0:min md 5=md:=iG 5 (by omega);obtain⟨x,hx⟩:∃x,X.ag[i]? =some x:=⟨X.ag[i]'(by omega),by simp⟩
   have ih:=yh C n g bC hc X os md iG w hw i m (st++[x]) (by omega) (by omega) (by simp;omega);obtain⟨ha,hX,h5,iI,fA,gm⟩:=iw hx;have EO:=bh st;have LY:=bP st;have w1:IntKind.i64.wrap ((i:Int)-1)=(i:Int)-1:=wrap_i64 (by omega) (by omega);have t1:(0<=(i:Int))=True:=eq_true (by omega);have b1:(st.length+1)*56<=140737488355328:=by omega
   have b2:st.length+1<9223372036854775808:=by omega
   have zh:X.ag.take (i+1)=X.ag.take i++[x]:=by rw[List.take_add_one,hx];rfl
   have vZ:aG (st++[x])=aG st++[.int .i64 x.au,.int .i64 x.cF,.str x.bH,x.ca]:=by simp[aG,Tm.cells]
   have Oi:List.take (st.length*4) (aG st)=aG st:=List.take_of_length_le (by omega);have xE:AV.aw (aG st++[.int .i64 x.au,.int .i64 x.cF,.str x.bH,x.ca])=0:=by rw[<-vZ];exact bh _
   rw[zh,List.reverse_append];simp only[List.length_append,List.length_cons,List.length_nil,Nat.zero_add,List.append_assoc,vZ] at ih;have e1:st.length+1+i=st.length+(i+1):=by omega
   rw[e1] at ih;have e2:((i+1:Nat):Int)-1=(i:Int):=by omega
   rw[e2,ak];rw[hX] at ih|-;simp[eG,dC,h5,hx,iI,fA,gm,EO,LY,w1,t1,b1,b2,hr,Oi,xE,tt,u0,aT];exact ih
theorem FZ{R:List AV}{st:List Tm}{lb:Nat}(hR:R.length=lb*4)(ht:R.take (st.length*4)=aG st)(xH:st.length+1<=lb)(x:Tm):
 (putAt R (st.length*4) x.cells).length=lb*4/\(putAt R (st.length*4) x.cells).take ((st++[x]).length*4)=aG (st++[x]):=by
 have hc:x.cells.length=4:=rfl;have h1:st.length*4+x.cells.length<=R.length:=by omega
 refine⟨?_,?_⟩
 .rw[qS x.cells R _ h1];simp only[List.length_append,List.length_take,List.length_drop];omega
 .have:=oG x.cells h1;rw[List.length_append,show (st.length+[x].length)*4=st.length*4+x.cells.length by simp[hc];omega,this,ht];simp[aG]
theorem wq(C:Nat->List AV->ai->Option (AV×ai))(n g:Nat)(bC:List AV)(hc:AV.aw bC<=1)(X:Tm)(os:List bp)(md:Nat)(iG:∀k,1<=k->min md k=md)(w:Nat)(hw:min w 5=w)(lb:Nat):∀(i m:Nat) (st:List Tm) (R:List AV),i<=X.ag.length->i<m->st.length+i<=lb->lb<1000000000000->R.length=lb*4->R.take (st.length*4)=aG st->AV.aw R=0->
 ∃R',R'.length=lb*4/\R'.take ((st.length+i)*4)=aG (st++(X.ag.take i).reverse)/\AV.aw R'=0/\
 gu 5 w (bL (aH C n eG) dC 5 m (oh (.fn g bC) (.vec 3 0 st.length 4 lb) (.ptr 4 0) (.int .i64 ((i:Int)-1))) ⟨5,.row X.cells::.row R::os,5,md⟩)=
  some (.exit 2,FM 44 [(1,.fn g bC),(5,.vec 3 0 (st.length+i) 4 lb)],⟨5,.row X.cells::.row R'::os,w,md⟩)
 |0,m+1,st,R,_,_,_,_,hR,ht,l7=>by
   have h1:(0<=(-1:Int))=False:=by simp
   have hr:AV.aw bC<=5:=by omega
   have tt:min md 3=md:=iG 3 (by omega);have u0:min md 5=md:=iG 5 (by omega);refine⟨R,hR,by simpa using ht,l7,?_⟩;simp[ak,eG,hr,hw]
 |i+1,m+1,st,R,hi,hm,xH,hl,hR,ht,l7=>by
   have hr:AV.aw bC<=5:=by omega
   have tt:min md 3=md:=iG 3 (by omega);have u0:min md 5=md:=iG 5 (by omega);obtain⟨x,hx⟩:∃x,X.ag[i]? =some x:=⟨X.ag[i]'(by omega),by simp⟩
   obtain⟨p1,p2⟩:=FZ hR ht (by omega) x;have p3:=mb l7 x (st.length*4) (by omega);obtain⟨R',r1,r2,r3,ih⟩:=wq C n g bC hc X os md iG w hw lb i m (st++[x]) (putAt R (st.length*4) x.cells) (by omega) (by omega) (by simp;omega) hl p1 p2 p3;have e1:(st++[x]).length+i=st.length+(i+1):=by simp;omega
   have zh:X.ag.take (i+1)=X.ag.take i++[x]:=by rw[List.take_add_one,hx];rfl
   refine⟨R',r1,?_,r3,?_⟩
   .rw[zh,List.reverse_append,<-e1,r2];simp[List.append_assoc]
   obtain⟨ha,hX,h5,iI,fA,gm⟩:=iw hx;have w1:IntKind.i64.wrap ((i:Int)-1)=(i:Int)-1:=wrap_i64 (by omega) (by omega);have t1:(0<=(i:Int))=True:=eq_true (by omega);have b1:st.length*4<=R.length:=by omega
   have b2:st.length+1<=lb:=by omega
   have b3:(st.length+1)*4<=R.length:=by omega
   have Oj:putAt [.int .i64 0,.int .i64 0,.str [],.aJ] 0 [.int .i64 x.au,.int .i64 x.cF,.str x.bH,x.ca]=[.int .i64 x.au,.int .i64 x.cF,.str x.bH,x.ca]:=rfl;have zi:(st++[x]).length=st.length+1:=by simp
   rw[zi,show st.length+1+i=st.length+(i+1) by omega] at ih;have e2:((i+1:Nat):Int)-1=(i:Int):=by omega
   rw[e2,ak];rw[hX,fA] at ih;rw[hX];simp[eG,dC,h5,hx,iI,fA,gm,w1,t1,b1,b2,b3,hr,tt,u0,l7,Oj,aT,-jB];exact ih
theorem wG(C:Nat->List AV->ai->Option (AV×ai))(n g:Nat)(bC:List AV)(hc:AV.aw bC<=1)(X:Tm)(os:List bp)(md:Nat)(iG:∀k,1<=k->min md k=md)(w:Nat)(hw:min w 5=w)(lb:Nat):∀(i m:Nat) (st:List Tm) (R:List AV),i<=X.ag.length->i<m->st.length<=lb->lb<st.length+i->st.length+i<1000000000000->R.length=lb*4->R.take (st.length*4)=aG st->AV.aw R=0->
 gu 5 w (bL (aH C n eG) dC 5 m (oh (.fn g bC) (.vec 3 0 st.length 4 lb) (.ptr 4 0) (.int .i64 ((i:Int)-1))) ⟨5,.row X.cells::.row R::os,5,md⟩)=
  some (.exit 2,FM 44 [(1,.fn g bC),(5,.vec 5 0 (st.length+i) 4 (st.length+i))],⟨6,.row (aG (st++(X.ag.take i).reverse))::.row X.cells::.dead::os,w,md⟩)
 |0,m,st,R,_,_,h1,h2,_,_,_,_=>by omega
 |i+1,0,st,R,_,h,_,_,_,_,_,_=>by omega
 |i+1,m+1,st,R,hi,hm,h1,h2,hl,hR,ht,l7=>by
   have hr:AV.aw bC<=5:=by omega
   have tt:min md 3=md:=iG 3 (by omega);have u0:min md 5=md:=iG 5 (by omega);obtain⟨x,hx⟩:∃x,X.ag[i]? =some x:=⟨X.ag[i]'(by omega),by simp⟩
   have zh:X.ag.take (i+1)=X.ag.take i++[x]:=by rw[List.take_add_one,hx];rfl
   obtain⟨ha,hX,h5,iI,fA,gm⟩:=iw hx;have w1:IntKind.i64.wrap ((i:Int)-1)=(i:Int)-1:=wrap_i64 (by omega) (by omega);have t1:(0<=(i:Int))=True:=eq_true (by omega);have b1:st.length*4<=R.length:=by omega
   have Oj:putAt [.int .i64 0,.int .i64 0,.str [],.aJ] 0 [.int .i64 x.au,.int .i64 x.cF,.str x.bH,x.ca]=[.int .i64 x.au,.int .i64 x.cF,.str x.bH,x.ca]:=rfl;have zi:(st++[x]).length=st.length+1:=by simp
   have e2:((i+1:Nat):Int)-1=(i:Int):=by omega
   by_cases lu:st.length+1<=lb
   .obtain⟨p1,p2⟩:=FZ hR ht (by omega) x;have p3:=mb l7 x (st.length*4) (by omega);have ih:=wG C n g bC hc X os md iG w hw lb i m (st++[x]) (putAt R (st.length*4) x.cells) (by omega) (by omega) (by omega) (by omega) (by omega) p1 p2 p3;have b3:(st.length+1)*4<=R.length:=by omega
    rw[zi,show st.length+1+i=st.length+(i+1) by omega] at ih;rw[e2,ak,zh,List.reverse_append];rw[hX,fA] at ih;rw[hX];simp only[List.append_assoc] at ih;simp[eG,dC,h5,hx,iI,fA,gm,w1,t1,b1,lu,b3,hr,tt,u0,l7,Oj,aT,-jB];exact ih
   .have xH:lb=st.length:=by omega
    have ih:=yh C n g bC hc X os md iG w hw i m (st++[x]) (by omega) (by omega) (by omega);have c1:(st.length+1)*56<=140737488355328:=by omega
    have c2:st.length+1<9223372036854775808:=by omega
    have vZ:aG (st++[x])=aG st++[.int .i64 x.au,.int .i64 x.cF,.str x.bH,x.ca]:=by simp[aG,Tm.cells]
    have xE:AV.aw (aG st++[.int .i64 x.au,.int .i64 x.cF,.str x.bH,x.ca])=0:=by rw[<-vZ];exact bh _
    rw[zi,show st.length+1+i=st.length+(i+1) by omega,vZ] at ih;rw[e2,ak,zh,List.reverse_append];rw[hX] at ih|-;simp only[List.append_assoc] at ih;simp[eG,dC,h5,hx,iI,fA,gm,w1,t1,b1,lu,c1,c2,hr,tt,u0,l7,ht,xE,aT];exact ih
theorem rO{σ:Type}(C:Nat->List AV->ai->Option (AV×ai))(n g:Nat)(bC:List AV)(hc:AV.aw bC<=2)(fs:Tm->σ->Bool×σ)(tl:σ->List bp)(T:Tm)(mf:Nat->Nat)
 (IT:Tm->Prop) (IU:∀x,IT x->∀y∈x.ag,IT y) (LM:σ->Prop) (IV:∀s x,LM s->(fs x s).1=true->LM (fs x s).2) (B1:Nat->Prop) (hmf:∀md,B1 md->B1 (mf md)) (iG:∀md,B1 md->∀k,2<=k->min md k=md) (w:Nat) (hw:min w 4=w)
 (hA:∀s x R md,IT x->LM s->B1 md->C g (x.aV::bC) ⟨5,.row x.cells::.row R::.row T.cells::tl s,4,md⟩=some (.bool (fs x s).1,⟨5,.row x.cells::.row R::.row T.cells::tl (fs x s).2,4,mf md⟩))
 (hB:∀s x R md,IT x->LM s->B1 md->C g (x.aV::bC) ⟨6,.row x.cells::.row R::.dead::.row T.cells::tl s,4,md⟩=some (.bool (fs x s).1,⟨6,.row x.cells::.row R::.dead::.row T.cells::tl (fs x s).2,4,mf md⟩)):
 ∀(d m:Nat) (rs:List Tm) (R:List AV) (lb:Nat) (s:σ) (md:Nat),Tm.dw rs<d->d<=m->d<=n->Tm.dw rs<1000000000->lb<1000000000->rs.length<=lb->R.length=lb*4->R.take (rs.length*4)=aG rs.reverse->AV.aw R=0->(∀x∈rs,IT x)->LM s->B1 md->
 (∃Y cq,B1 cq/\gu 4 w (bL (aH C n gW) iO 4 m (zp (.fn g bC) (.vec 3 0 rs.length 4 lb)) ⟨4,.row R::.row T.cells::tl s,4,md⟩)=
  some (if (fM fs d rs s).1 then .exit 0 else .ret,if (fM fs d rs s).1 then FM 44 [] else FM 44 [(4,.bool false)],⟨4,Y::.row T.cells::tl (fM fs d rs s).2,w,cq⟩))/\
 (∃Y cq,B1 cq/\gu 4 w (bL (aH C n gW) iO 4 m (zp (.fn g bC) (.vec 4 0 rs.length 4 lb)) ⟨5,.row R::.dead::.row T.cells::tl s,4,md⟩)=
  some (if (fM fs d rs s).1 then .exit 0 else .ret,if (fM fs d rs s).1 then FM 44 [] else FM 44 [(4,.bool false)],⟨4,Y::.row T.cells::tl (fM fs d rs s).2,w,cq⟩))
 |0,m,rs,R,lb,s,md,h,_,_,_,_,_,_,_,_,_,_,_=>by omega
 |d+1,0,rs,R,lb,s,md,_,h,_,_,_,_,_,_,_,_,_,_=>by omega
 |d+1,m+1,[],R,lb,s,md,_,_,_,_,_,_,hR,ht,l7,WV,Qf,bV=>by
   have hr:AV.aw bC<=4:=by omega
   refine⟨⟨.row R,md,bV,?_⟩,⟨.dead,md,bV,?_⟩⟩
   .simp[ak,gW,fM,hr,l7,hw]
   .simp[ak,gW,fM,hr,l7,hw]
 |d+1,m+1,x::rs,R,lb,s,md,hd,hm,hn,kU,xH,fZ,hR,ht,l7,WV,Qf,bV=>by
   have hr:AV.aw bC<=4:=by omega
   have mw:AV.aw bC<=5:=by omega
   have hsx:=gQ x;simp only[Tm.dw] at hd kU;have hla:=ft x.ag;have hlr:=ft rs;have hs2:Tm.dw (x.ag++rs)=Tm.dw x.ag+Tm.dw rs:=oN _ _;rw[List.length_cons] at fZ ht;rw[List.reverse_cons] at ht;have qm:rs.reverse.length=rs.length:=List.length_reverse;rw[<-qm] at ht;obtain⟨t1,t2⟩:=Kh ht;rw[qm] at t1 t2;have tu:=hmf md bV;have w1:IntKind.i64.wrap (rs.length:Int)=(rs.length:Int):=wrap_i64 (by omega) (by omega);have b1:(0<(rs.length:Int)+1)=True:=eq_true (by omega);have b2:rs.length*4+4<=R.length:=by omega
   have m1:min md 4=md:=iG md bV 4 (by omega);have m2:min md 5=md:=iG md bV 5 (by omega);have b3:((rs.length:Int)<(rs.length:Int)+1)=True:=eq_true (by omega)
   have EP:jc (rs.length+1) lb none (some (.int .i64 (rs.length:Int))) none=some (0,rs.length,none):=by
    have a1:(rs.length:Int)<=((max (rs.length+1) lb:Nat):Int):=by omega
    simp[jc,sliceB,a1]
   have iI:=Tm.dj x;have Ft:=hA s x R md (WV x (by simp)) Qf bV;have IW:=hB s x R md (WV x (by simp)) Qf bV;rw[iI] at Ft IW;have jn:=Tm.dx x;have gm:=ay x
   cases hf:(fs x s).1 with
   |false=>
     rw[hf] at Ft IW;have e:fM fs (d+1) (x::rs) s=(false,(fs x s).2):=by simp[fM,hf]
     rw[e];rw[jn] at Ft IW t2;refine⟨⟨.row R,mf md,tu,?_⟩,⟨.dead,mf md,tu,?_⟩⟩
     .rw[ak];simp[gW,w1,b1,b2,b3,m1,m2,t2,EP,Ft,hr,mw,l7,gm,hw]
     .rw[ak];simp[gW,w1,b1,b2,b3,m1,m2,t2,EP,IW,hr,mw,l7,gm,hw]
   |true=>
     rw[hf] at Ft IW;have Ol:=IV s x Qf hf
     have Om:∀y∈x.ag++rs,IT y:=λy hy=>by
      rcases List.mem_append.1 hy with hy|hy
      .exact IU x (WV x (by simp)) y hy
      .exact WV y (by simp[hy])
     have e:fM fs (d+1) (x::rs) s=fM fs d (x.ag++rs) (fs x s).2:=by simp[fM,hf]
     rw[e];have hw4:min 4 5=4:=rfl;have hw5:min 4 6=4:=rfl;have hta:x.ag.take x.ag.length=x.ag:=List.take_length;have wm:rs.reverse++x.ag.reverse=(x.ag++rs).reverse:=by simp
     have n6:rs.length+x.ag.length=(x.ag++rs).length:=by simp;omega
     have w2:IntKind.i64.wrap ((x.ag.length:Int)-1)=(x.ag.length:Int)-1:=wrap_i64 (by omega) (by omega)
     have dF:∀(fr:List AV) (h:ai) (o:dU),o.ev fr=x.ca->cf fr h (.xX o)=some (.int .i64 x.ag.length,h):=by intro fr h o ho;rw[gn,ho];cases x<;>simp[Tm.ca,Tm.ag]
     have t1':R.take (rs.reverse.length*4)=aG rs.reverse:=by rw[qm];exact t1
     by_cases lu:rs.length+x.ag.length<=lb
     .refine⟨?_,?_⟩
      .obtain⟨R',r1,r2,r3,eq⟩:=wE C n g bC hc x (.row T.cells::tl (fs x s).2) (mf md) (iG _ tu) 4 hw4 lb x.ag.length n rs.reverse R (Nat.le_refl _) (by omega) (by rw[qm];exact lu) (by omega) hR t1' l7;obtain⟨⟨Y,cq,k1,k2⟩,_⟩:=rO C n g bC hc fs tl T mf IT IU LM IV B1 hmf iG w hw hA hB d m (x.ag++rs) R' lb (fs x s).2 (mf md) (by omega) (by omega) (by omega) (by omega) xH (by rw[<-n6];exact lu) r1 (by rw[<-n6,<-wm,<-qm];rw[hta] at r2;exact r2) r3 Om Ol tu;refine⟨Y,cq,k1,?_⟩;rw[qm] at eq;rw[ak];rw[<-n6] at k2;rw[jn] at Ft t2 eq;simp only[dC] at eq;simp[gW,dC,iO,w1,w2,b1,b2,b3,m1,m2,t2,EP,Ft,hr,mw,l7,gm,hw,dF,eq,r3];exact k2
      .obtain⟨R',r1,r2,r3,eq⟩:=wy C n g bC hc x (.dead::.row T.cells::tl (fs x s).2) (mf md) (iG _ tu) 4 hw5 lb x.ag.length n rs.reverse R (Nat.le_refl _) (by omega) (by rw[qm];exact lu) (by omega) hR t1' l7;obtain⟨_,⟨Y,cq,k1,k2⟩⟩:=rO C n g bC hc fs tl T mf IT IU LM IV B1 hmf iG w hw hA hB d m (x.ag++rs) R' lb (fs x s).2 (mf md) (by omega) (by omega) (by omega) (by omega) xH (by rw[<-n6];exact lu) r1 (by rw[<-n6,<-wm,<-qm];rw[hta] at r2;exact r2) r3 Om Ol tu;refine⟨Y,cq,k1,?_⟩;rw[qm] at eq;rw[ak];rw[<-n6] at k2;rw[jn] at IW t2 eq;simp only[dC] at eq;simp[gW,dC,iO,w1,w2,b1,b2,b3,m1,m2,t2,EP,IW,hr,mw,l7,gm,hw,dF,eq,r3];exact k2
     .have hRn:(aG (x.ag++rs).reverse).length=(x.ag++rs).length*4:=by rw[bP,List.length_reverse]
      have hRr:=bh (x.ag++rs).reverse;obtain⟨_,⟨Y,cq,k1,k2⟩⟩:=rO C n g bC hc fs tl T mf IT IU LM IV B1 hmf iG w hw hA hB d m (x.ag++rs) (aG (x.ag++rs).reverse) (x.ag++rs).length (fs x s).2 (mf md) (by omega) (by omega) (by omega) (by omega) (by omega) (Nat.le_refl _) hRn (List.take_of_length_le (by omega)) hRr Om Ol tu;rw[<-n6] at k2;have On:=hRr;rw[List.reverse_append] at On;refine⟨⟨Y,cq,k1,?_⟩,⟨Y,cq,k1,?_⟩⟩
      .have eq:=wv C n g bC hc x (.row T.cells::tl (fs x s).2) (mf md) (iG _ tu) 4 hw4 lb x.ag.length n rs.reverse R (Nat.le_refl _) (by omega) (by omega) (by omega) (by omega) hR t1' l7;rw[hta,wm,qm] at eq;rw[ak];rw[jn] at Ft t2 eq;simp only[dC] at eq;simp[gW,dC,iO,w1,w2,b1,b2,b3,m1,m2,t2,EP,Ft,hr,mw,l7,gm,hw,dF,eq,On];rw[List.reverse_append] at k2;exact k2
      .have eq:=wH C n g bC hc x (.dead::.row T.cells::tl (fs x s).2) (mf md) (iG _ tu) 4 hw5 lb x.ag.length n rs.reverse R (Nat.le_refl _) (by omega) (by omega) (by omega) (by omega) hR t1' l7;rw[hta,wm,qm] at eq;rw[ak];rw[jn] at IW t2 eq;simp only[dC] at eq;simp[gW,dC,iO,w1,w2,b1,b2,b3,m1,m2,t2,EP,IW,hr,mw,l7,gm,hw,dF,eq,On];rw[List.reverse_append] at k2;exact k2
theorem rW{σ:Type}(C:Nat->List AV->ai->Option (AV×ai))(n g:Nat)(bC:List AV)(hc:AV.aw bC<=1)(fs:Tm->σ->Bool×σ)(tl:σ->List bp)(T:Tm)(mf:Nat->Nat)
 (IT:Tm->Prop) (IU:∀x,IT x->∀y∈x.ag,IT y) (LM:σ->Prop) (IV:∀s x,LM s->(fs x s).1=true->LM (fs x s).2) (B1:Nat->Prop) (hmf:∀md,B1 md->B1 (mf md)) (iG:∀md,B1 md->∀k,1<=k->min md k=md) (w:Nat) (hw:min w 3=w)
 (hA:∀s x R md,IT x->LM s->B1 md->C g (x.aV::bC) ⟨4,.row x.cells::.row R::.row T.cells::tl s,3,md⟩=some (.bool (fs x s).1,⟨4,.row x.cells::.row R::.row T.cells::tl (fs x s).2,3,mf md⟩))
 (hB:∀s x R md,IT x->LM s->B1 md->C g (x.aV::bC) ⟨5,.row x.cells::.row R::.dead::.row T.cells::tl s,3,md⟩=some (.bool (fs x s).1,⟨5,.row x.cells::.row R::.dead::.row T.cells::tl (fs x s).2,3,mf md⟩)):
 ∀(d m:Nat) (rs:List Tm) (R:List AV) (lb:Nat) (s:σ) (md:Nat),Tm.dw rs<d->d<=m->d<=n->Tm.dw rs<1000000000->lb<1000000000->rs.length<=lb->R.length=lb*4->R.take (rs.length*4)=aG rs.reverse->AV.aw R=0->(∀x∈rs,IT x)->LM s->B1 md->
 (∃Y cq,B1 cq/\gu 3 w (bL (aH C n gW) iO 3 m (zp (.fn g bC) (.vec 2 0 rs.length 4 lb)) ⟨3,.row R::.row T.cells::tl s,3,md⟩)=
  some (if (fM fs d rs s).1 then .exit 0 else .ret,if (fM fs d rs s).1 then FM 44 [] else FM 44 [(4,.bool false)],⟨3,Y::.row T.cells::tl (fM fs d rs s).2,w,cq⟩))/\
 (∃Y cq,B1 cq/\gu 3 w (bL (aH C n gW) iO 3 m (zp (.fn g bC) (.vec 3 0 rs.length 4 lb)) ⟨4,.row R::.dead::.row T.cells::tl s,3,md⟩)=
  some (if (fM fs d rs s).1 then .exit 0 else .ret,if (fM fs d rs s).1 then FM 44 [] else FM 44 [(4,.bool false)],⟨3,Y::.row T.cells::tl (fM fs d rs s).2,w,cq⟩))
 |0,m,rs,R,lb,s,md,h,_,_,_,_,_,_,_,_,_,_,_=>by omega
 |d+1,0,rs,R,lb,s,md,_,h,_,_,_,_,_,_,_,_,_,_=>by omega
 |d+1,m+1,[],R,lb,s,md,_,_,_,_,_,_,hR,ht,l7,WV,Qf,bV=>by
   have hr:AV.aw bC<=3:=by omega
   refine⟨⟨.row R,md,bV,?_⟩,⟨.dead,md,bV,?_⟩⟩
   .simp[ak,gW,fM,hr,l7,hw]
   .simp[ak,gW,fM,hr,l7,hw]
 |d+1,m+1,x::rs,R,lb,s,md,hd,hm,hn,kU,xH,fZ,hR,ht,l7,WV,Qf,bV=>by
   have hr:AV.aw bC<=3:=by omega
   have mw:AV.aw bC<=4:=by omega
   have hsx:=gQ x;simp only[Tm.dw] at hd kU;have hla:=ft x.ag;have hlr:=ft rs;have hs2:Tm.dw (x.ag++rs)=Tm.dw x.ag+Tm.dw rs:=oN _ _;rw[List.length_cons] at fZ ht;rw[List.reverse_cons] at ht;have qm:rs.reverse.length=rs.length:=List.length_reverse;rw[<-qm] at ht;obtain⟨t1,t2⟩:=Kh ht;rw[qm] at t1 t2;have tu:=hmf md bV;have w1:IntKind.i64.wrap (rs.length:Int)=(rs.length:Int):=wrap_i64 (by omega) (by omega);have b1:(0<(rs.length:Int)+1)=True:=eq_true (by omega);have b2:rs.length*4+4<=R.length:=by omega
   have m1:min md 3=md:=iG md bV 3 (by omega);have m2:min md 4=md:=iG md bV 4 (by omega);have b3:((rs.length:Int)<(rs.length:Int)+1)=True:=eq_true (by omega)
   have EP:jc (rs.length+1) lb none (some (.int .i64 (rs.length:Int))) none=some (0,rs.length,none):=by
    have a1:(rs.length:Int)<=((max (rs.length+1) lb:Nat):Int):=by omega
    simp[jc,sliceB,a1]
   have iI:=Tm.dj x;have Ft:=hA s x R md (WV x (by simp)) Qf bV;have IW:=hB s x R md (WV x (by simp)) Qf bV;rw[iI] at Ft IW;have jn:=Tm.dx x;have gm:=ay x
   cases hf:(fs x s).1 with
   |false=>
     rw[hf] at Ft IW;have e:fM fs (d+1) (x::rs) s=(false,(fs x s).2):=by simp[fM,hf]
     rw[e];rw[jn] at Ft IW t2;refine⟨⟨.row R,mf md,tu,?_⟩,⟨.dead,mf md,tu,?_⟩⟩
     .rw[ak];simp[gW,w1,b1,b2,b3,m1,m2,t2,EP,Ft,hr,mw,l7,gm,hw]
     .rw[ak];simp[gW,w1,b1,b2,b3,m1,m2,t2,EP,IW,hr,mw,l7,gm,hw]
   |true=>
     rw[hf] at Ft IW;have Ol:=IV s x Qf hf
     have Om:∀y∈x.ag++rs,IT y:=λy hy=>by
      rcases List.mem_append.1 hy with hy|hy
      .exact IU x (WV x (by simp)) y hy
      .exact WV y (by simp[hy])
     have e:fM fs (d+1) (x::rs) s=fM fs d (x.ag++rs) (fs x s).2:=by simp[fM,hf]
     rw[e];have hw4:min 3 4=3:=rfl;have hw5:min 3 5=3:=rfl;have hta:x.ag.take x.ag.length=x.ag:=List.take_length;have wm:rs.reverse++x.ag.reverse=(x.ag++rs).reverse:=by simp
     have n6:rs.length+x.ag.length=(x.ag++rs).length:=by simp;omega
     have w2:IntKind.i64.wrap ((x.ag.length:Int)-1)=(x.ag.length:Int)-1:=wrap_i64 (by omega) (by omega)
     have dF:∀(fr:List AV) (h:ai) (o:dU),o.ev fr=x.ca->cf fr h (.xX o)=some (.int .i64 x.ag.length,h):=by intro fr h o ho;rw[gn,ho];cases x<;>simp[Tm.ca,Tm.ag]
     have t1':R.take (rs.reverse.length*4)=aG rs.reverse:=by rw[qm];exact t1
     by_cases lu:rs.length+x.ag.length<=lb
     .refine⟨?_,?_⟩
      .obtain⟨R',r1,r2,r3,eq⟩:=wz C n g bC hc x (.row T.cells::tl (fs x s).2) (mf md) (iG _ tu) 3 hw4 lb x.ag.length n rs.reverse R (Nat.le_refl _) (by omega) (by rw[qm];exact lu) (by omega) hR t1' l7;obtain⟨⟨Y,cq,k1,k2⟩,_⟩:=rW C n g bC hc fs tl T mf IT IU LM IV B1 hmf iG w hw hA hB d m (x.ag++rs) R' lb (fs x s).2 (mf md) (by omega) (by omega) (by omega) (by omega) xH (by rw[<-n6];exact lu) r1 (by rw[<-n6,<-wm,<-qm];rw[hta] at r2;exact r2) r3 Om Ol tu;refine⟨Y,cq,k1,?_⟩;rw[qm] at eq;rw[ak];rw[<-n6] at k2;rw[jn] at Ft t2 eq;simp only[dC] at eq;simp[gW,dC,iO,w1,w2,b1,b2,b3,m1,m2,t2,EP,Ft,hr,mw,l7,gm,hw,dF,eq,r3];exact k2
      .obtain⟨R',r1,r2,r3,eq⟩:=wq C n g bC hc x (.dead::.row T.cells::tl (fs x s).2) (mf md) (iG _ tu) 3 hw5 lb x.ag.length n rs.reverse R (Nat.le_refl _) (by omega) (by rw[qm];exact lu) (by omega) hR t1' l7;obtain⟨_,⟨Y,cq,k1,k2⟩⟩:=rW C n g bC hc fs tl T mf IT IU LM IV B1 hmf iG w hw hA hB d m (x.ag++rs) R' lb (fs x s).2 (mf md) (by omega) (by omega) (by omega) (by omega) xH (by rw[<-n6];exact lu) r1 (by rw[<-n6,<-wm,<-qm];rw[hta] at r2;exact r2) r3 Om Ol tu;refine⟨Y,cq,k1,?_⟩;rw[qm] at eq;rw[ak];rw[<-n6] at k2;rw[jn] at IW t2 eq;simp only[dC] at eq;simp[gW,dC,iO,w1,w2,b1,b2,b3,m1,m2,t2,EP,IW,hr,mw,l7,gm,hw,dF,eq,r3];exact k2
     .have hRn:(aG (x.ag++rs).reverse).length=(x.ag++rs).length*4:=by rw[bP,List.length_reverse]
      have hRr:=bh (x.ag++rs).reverse;obtain⟨_,⟨Y,cq,k1,k2⟩⟩:=rW C n g bC hc fs tl T mf IT IU LM IV B1 hmf iG w hw hA hB d m (x.ag++rs) (aG (x.ag++rs).reverse) (x.ag++rs).length (fs x s).2 (mf md) (by omega) (by omega) (by omega) (by omega) (by omega) (Nat.le_refl _) hRn (List.take_of_length_le (by omega)) hRr Om Ol tu;rw[<-n6] at k2;have On:=hRr;rw[List.reverse_append] at On;refine⟨⟨Y,cq,k1,?_⟩,⟨Y,cq,k1,?_⟩⟩
      .have eq:=wB C n g bC hc x (.row T.cells::tl (fs x s).2) (mf md) (iG _ tu) 3 hw4 lb x.ag.length n rs.reverse R (Nat.le_refl _) (by omega) (by omega) (by omega) (by omega) hR t1' l7;rw[hta,wm,qm] at eq;rw[ak];rw[jn] at Ft t2 eq;simp only[dC] at eq;simp[gW,dC,iO,w1,w2,b1,b2,b3,m1,m2,t2,EP,Ft,hr,mw,l7,gm,hw,dF,eq,On];rw[List.reverse_append] at k2;exact k2
      .have eq:=wG C n g bC hc x (.dead::.row T.cells::tl (fs x s).2) (mf md) (iG _ tu) 3 hw5 lb x.ag.length n rs.reverse R (Nat.le_refl _) (by omega) (by omega) (by omega) (by omega) hR t1' l7;rw[hta,wm,qm] at eq;rw[ak];rw[jn] at IW t2 eq;simp only[dC] at eq;simp[gW,dC,iO,w1,w2,b1,b2,b3,m1,m2,t2,EP,IW,hr,mw,l7,gm,hw,dF,eq,On];rw[List.reverse_append] at k2;exact k2
def cntF(_:Tm)(k:Nat):Bool×Nat:=(decide (k+1<=2000),k+1)
def Di(t:Tm):Nat:=(fM cntF (t.size+1) [t] 0).2
theorem Lb:∀(d:Nat) (rs:List Tm) (k:Nat),Tm.dw rs<d->k<=2000->(fM cntF d rs k).2=min (k+Tm.dw rs) 2001
 |0,rs,k,h,_=>by omega
 |d+1,[],k,_,hk=>by simp[fM,Tm.dw];omega
 |d+1,x::rs,k,h,hk=>by
   have hs:=gQ x;have h2:=oN x.ag rs;simp only[Tm.dw] at h|-;unfold fM;simp only[cntF,decide_eq_true_eq];split
   .rename_i hc;rw[Lb d (x.ag++rs) (k+1) (by omega) hc,h2];omega
   .omega
theorem Kd(t:Tm):Di t=min t.size 2001:=by unfold Di;rw[Lb _ _ _ (by simp[Tm.dw]) (by omega)];simp[Tm.dw]
theorem ack(n:Nat)(x:Tm)(k:Nat)(hk:k<=2000)(R:bp)(T T0:bp)(md:Nat):aF (cY []) (n+1) 101 [x.aV,.ptr 1 0] ⟨5,.row x.cells::R::T::.row [.int .i64 k]::[T0],4,md⟩=
 some (.bool (cntF x k).1,⟨5,.row x.cells::R::T::.row [.int .i64 ((cntF x k).2:Nat)]::[T0],4,min md 1⟩):=by
 have iI:=Tm.dj x;have jn:=Tm.dx x;have gm:=ay x;have w1:IntKind.i64.wrap ((k:Int)+1)=(k:Int)+1:=wrap_i64 (by omega) (by omega);rw[iI,jn];by_cases hc:k+1<=2000;have WW:((k:Int)+1<=2000)=True:=eq_true (by omega)
 rotate_left
 have WW:((k:Int)+1<=2000)=False:=eq_false (by omega)
 rotate_left
 all_goals simp[TU,Tv,cntF,hc,WW,w1,gm]
theorem ZE(n:Nat)(x:Tm)(k:Nat)(hk:k<=2000)(R:bp)(D T T0:bp)(md:Nat):aF (cY []) (n+1) 101 [x.aV,.ptr 1 0] ⟨6,.row x.cells::R::D::T::.row [.int .i64 k]::[T0],4,md⟩=
 some (.bool (cntF x k).1,⟨6,.row x.cells::R::D::T::.row [.int .i64 ((cntF x k).2:Nat)]::[T0],4,min md 1⟩):=by
 have iI:=Tm.dj x;have jn:=Tm.dx x;have gm:=ay x;have w1:IntKind.i64.wrap ((k:Int)+1)=(k:Int)+1:=wrap_i64 (by omega) (by omega);rw[iI,jn];by_cases hc:k+1<=2000;have WW:((k:Int)+1<=2000)=True:=eq_true (by omega)
 rotate_left
 have WW:((k:Int)+1<=2000)=False:=eq_false (by omega)
 rotate_left
 all_goals simp[TU,Tv,cntF,hc,WW,w1,gm]
theorem Sb(t:Tm)(hs:t.size<1000000000)(n:Nat)(hn:t.size+1<=n+1):∃Y cq,gu 4 2 (bL (aH (aF (cY []) (n+1)) (n+1) gW) iO 4 (n+1) (zp (.fn 101 [.ptr 1 0]) (.vec 3 0 1 4 1)) ⟨4,[.row t.cells,.row t.cells,.row [.int .i64 0],.row t.cells],4,2⟩)=
 some (if (fM cntF (t.size+1) [t] 0).1 then .exit 0 else .ret,if (fM cntF (t.size+1) [t] 0).1 then FM 44 [] else FM 44 [(4,.bool false)],⟨4,[Y,.row t.cells,.row [.int .i64 (Di t:Nat)],.row t.cells],2,cq⟩):=by
 have h:=rO (aF (cY []) (n+1)) (n+1) 101 [.ptr 1 0] (by simp[AV.aw,AV.aK]) cntF (λk=>[.row [.int .i64 (k:Nat)],.row t.cells]) t (min · 1)
  (λ_=>True) (λ_ _ _ _=>trivial) (·<=2000) (λs x _ h=>by simpa[cntF] using h) (λmd=>md=1\/md=2) (λmd h=>by omega) (λmd h k hk=>by omega) 2 rfl
  (λs x R md _ IQ _=>ack n x s IQ _ _ _ md) (λs x R md _ IQ _=>ZE n x s IQ _ _ _ _ md)
  (t.size+1) (n+1) [t] t.cells 1 0 2 (by simp[Tm.dw]) hn hn (by simp[Tm.dw];exact hs) (by omega) (by simp) rfl (by simp[aG];rfl) (by simp[Tm.cells,AV.aw,AV.aK,ay]) (λ_ _=>trivial) (by omega) (.inr rfl)
 obtain⟨⟨Y,cq,_,e⟩,_⟩:=h;exact⟨Y,cq,e⟩
def Bk:aX:=⟨59,λ|[v]=>(match kC v with|some t=>if t.size<1000000000 then some (.int .i64 (Di t:Nat)) else none|none=>none)|_=>none⟩
theorem xZ:Bk.f=59:=(rfl)
theorem Wb(t:Tm)(h:t.size<1000000000):Bk.S [t.aV]=some (.int .i64 (Di t:Nat)):=by simp only[Bk,fh,if_pos h]
theorem Vm:aY Tryz.prog Bk:=λag v hv=>by
 unfold Bk at hv|-;dsimp only at hv|-;split at hv
 .rename_i x;split at hv
  .rename_i t ht;split at hv
   .rename_i hl;cases hv;rw[eI ht];refine bG (n:=t.size+5) (h':=h0) (bA (ss:=[]) (by simp)) ?_ rfl (by simp[AV.aw,Tm.cm]);obtain⟨Y,cq,eq⟩:=Sb t hl (t.size+2) (by omega);have jn:=Tm.dx t;have gm:=ay t;rw[Tm.dj,jn];rw[jn] at eq;simp only[iO] at eq
    cases hb:(fM cntF (t.size+1) [t] 0).1 with
    |true=>rw[hb] at eq;simp only[if_true] at eq;simp[aay,c59,OL,c61,iO,gm,eq]
    |false=>rw[hb] at eq;simp only[Bool.false_eq_true,if_false] at eq;simp[aay,c59,OL,c61,iO,gm,eq]
   .cases hv
  .cases hv
 .cases hv
theorem bc(h:ai)(n0 d:Nat)(t:Tm):jF h n0 (d+1) t.ca=some (t.ca,[]):=zF (nF t)
mutual
def Tm.gz:Tm->Nat
 |.nl ..=>1
 |.mk _ _ _ us=>1+Tm.qz us
def Tm.qz:List Tm->Nat
 |[]=>0
 |t::r=>max t.gz (Tm.qz r)
end
theorem w9(t:Tm):t.gz=1+Tm.qz t.ag:=by cases t<;>rfl
def na(LN d:Nat):List Tm->Nat
 |[]=>d
 |x::r=>if LN<=d+1 then d else na LN (max d (min x.gz (LN-1))) r
theorem Jp(LN:Nat):∀(us:List Tm) (d:Nat),min (na LN d us+1) LN=min (max d (Tm.qz us)+1) LN
 |[],d=>by simp[na,Tm.qz]
 |x::r,d=>by
   unfold na;simp only[Tm.qz];split
   .omega
   .rw[Jp LN r];omega
def j6(m:Nat):aX:=⟨102,λ|[v,.int .i64 n]=>(match kC v with|some t=>if n=m/\t.size<1000000000 then some (.int .i64 (min t.gz m:Nat)) else none|none=>none)|_=>none⟩
theorem oM(m:Nat):(j6 m).f=102:=(rfl)
theorem DR(m:Nat)(t:Tm)(h:t.size<1000000000):(j6 m).S [t.aV,.int .i64 (m:Nat)]=some (.int .i64 (min t.gz m:Nat)):=by simp only[j6,fh];exact if_pos ⟨trivial,h⟩
theorem NQ(m k:Nat)(v:AV)(h:k≠m):(j6 m).S [v,.int .i64 (k:Nat)]=none:=by
 simp only[j6];split
 .rw[if_neg (by omega)]
 .rfl
theorem Gz(n m:Nat)(hm:m<=100)(tt:1<=m)(T:bp)(us:List Tm)(hs:Tm.dw us<1000000000):∀(post pre:List Tm) (k d:Nat),us=pre++post->post.length<k->d<=100->
 ∃md,gu 1 0 (bL (aH (aF (cY [j6 (m-1)]) (n+1)) (n+1) oL) oI 1 k (XM (.int .i64 m) (.int .i64 d) (.sl (us.map Tm.aV)) (.int .i64 us.length) (.int .i64 pre.length)) ⟨1,[T],1,0⟩)=
   some (.exit 0,FM 30 [(1,.int .i64 m),(5,.int .i64 (na m d post:Nat))],⟨1,[T],0,md⟩)
 |[],pre,k+1,d,e,_,_=>by simp at e;subst e;have h5:AV.aw (us.map Tm.aV)=0:=bF _;exact⟨0,by simp[ak,oL,h5,na]⟩
 |x::post,pre,k+1,d,e,hk,hd=>by
   have hlu:=ft us;have h1:us[pre.length]? =some x:=by rw[e];simp
   have h5:AV.aw (us.map Tm.aV)=0:=bF _;have h6:((pre.length:Int)<(us.length:Int))=True:=eq_true (by rw[e,List.length_append,List.length_cons];omega);have EN:pre.length<us.length:=by rw[e];simp
   have h3:IntKind.i64.wrap ((pre.length:Int)+1)=(pre.length:Int)+1:=wrap_i64 (by omega) (by omega);have iI:=Tm.dj x;have jn:=Tm.dx x;have gm:=ay x
   have WJ:x.size<1000000000:=by have:=oN pre (x::post);rw[<-e] at this;simp only[Tm.dw] at this;omega
   have w1:IntKind.i64.wrap ((m:Int)-1)=((m-1:Nat):Int):=by rw[wrap_i64 (by omega) (by omega)];omega
   by_cases hb:m<=d+1
   .have BQ:(((m-1:Nat):Int)<=(d:Int))=True:=eq_true (by omega);refine⟨0,?_⟩;rw[ak];simp[oL,h1,h5,h6,iI,jn,gm,w1,BQ,na,hb]
   .have BQ:(((m-1:Nat):Int)<=(d:Int))=False:=eq_false (by omega);have hc:=DR (m-1) x WJ;rw[iI,jn] at hc
    have LF:(if d<min x.gz (m-1) then ((min x.gz (m-1):Nat):Int) else (d:Int))=((max d (min x.gz (m-1)):Nat):Int):=by split<;>omega
    obtain⟨md,ih⟩:=Gz n m hm tt T us hs post (pre++[x]) k (max d (min x.gz (m-1))) (by simp[e]) (by rw[List.length_cons] at hk;omega) (by omega);refine⟨md,?_⟩;simp only[List.length_append,List.length_cons,List.length_nil,Nat.zero_add] at ih;rw[show ((pre.length+1:Nat):Int)=(pre.length:Int)+1 by omega] at ih;rw[ak]
    have hfd:na m d (x::post)=na m (max d (min x.gz (m-1))) post:=by rw[na,if_neg hb]
    rw[hfd];generalize min x.gz (m-1)=q at hc LF ih;generalize max d q=q2 at LF ih;simp[oL,oI,h1,h3,h5,h6,iI,jn,gm,w1,BQ,hc,LF,bc,oM];exact ih
theorem HS(m:Nat)(tt:1<=m)(hm:m<=100)(hp:aY Tryz.prog (j6 (m-1))):aY Tryz.prog (j6 m):=λag v hv=>by
 have hv0:=hv;unfold j6 at hv;dsimp only at hv;split at hv
 .rename_i x n;split at hv
  .rename_i t ht;split at hv
   .rename_i hc;obtain⟨rfl,hs⟩:=hc;cases hv;rw[eI ht];have jm:=NQ (m-1) m t.aV (by omega);refine bG (n:=t.size+5) (h':=h0) (bA (ss:=[j6 (m-1)]) (by simp[hp])) ?_ rfl (by simp[AV.aw,AV.aK,Tm.cm]);rw[oM];have iI:=Tm.dj t;have jn:=Tm.dx t;have gm:=ay t;have kU:=gQ t;have hla:=ft t.ag;have hde:=w9 t;have hfe:=Jp m t.ag 0;rw[Nat.zero_max,Nat.add_comm (Tm.qz t.ag) 1,<-hde] at hfe;rw[iI,jn] at jm|-
    have hr:na m 0 t.ag<=100:=by
     have key:∀(us:List Tm) (d:Nat),d<=100->na m d us<=100:=by
      intro us
      induction us with
      |nil=>intro d h;exact h
      |cons x r ih=>
        intro d h;unfold na;split
        .exact h
        .exact ih _ (by omega)
     exact key _ 0 (by omega)
    have w2:IntKind.i64.wrap ((na m 0 t.ag:Int)+1)=(na m 0 t.ag:Int)+1:=wrap_i64 (by omega) (by omega)
    have hmn:(if (m:Int)<(na m 0 t.ag:Int)+1 then (m:Int) else (na m 0 t.ag:Int)+1)=((min t.gz m:Nat):Int):=by split<;>omega
    obtain⟨md,lp⟩:=Gz (t.size+3) m hm tt (.row t.cells) t.ag (by omega) t.ag [] (t.size+4) 0 rfl (by omega) (by omega);simp only[List.length_nil,show ((0:Nat):Int)=0 from rfl,oI] at lp;rw[jn] at lp
    have ha:(t.ca=.aJ/\t.ag=[])\/t.ca=.sl (t.ag.map Tm.aV):=by
     cases t with
     |nl k n s=>exact .inl ⟨rfl,rfl⟩
     |mk k n s us=>exact .inr rfl
    generalize t.ag=us at *;generalize t.ca=a at *;rcases ha with⟨rfl,rfl⟩|rfl
    .simp[na] at w2 hmn;simp[DH,J9,oI,oL,ak,jm,oM,w2,hmn]
    .have h5:AV.aw (us.map Tm.aV)=0:=bF _;simp[DH,J9,oI,jm,oM,w2,hmn,lp,h5]
   .cases hv
  .cases hv
 .cases hv
theorem HK:aY Tryz.prog (j6 0):=λag v hv=>by
 unfold j6 at hv;dsimp only at hv;split at hv
 .rename_i x n;split at hv
  .rename_i t ht;split at hv
   .rename_i hc;obtain⟨rfl,hs⟩:=hc;cases hv;rw[eI ht];refine bG (n:=5) (h':=h0) (bA (ss:=[]) (by simp)) ?_ rfl (by simp[AV.aw,AV.aK,Tm.cm]);rw[oM];have iI:=Tm.dj t;have jn:=Tm.dx t;have gm:=ay t
    have ha:(t.ca=.aJ)\/∃us:List Tm,t.ca=.sl (us.map Tm.aV):=by
     cases t with
     |nl k n s=>exact .inl rfl
     |mk k n s us=>exact .inr ⟨us,rfl⟩
    have w0:IntKind.i64.wrap (-1)=-1:=rfl;have w1:IntKind.i64.wrap (0-1)=-1:=rfl;have w2:IntKind.i64.wrap (0+1)=1:=rfl;have w3:IntKind.i64.wrap 1=1:=rfl;rw[iI,jn];generalize t.ca=a at *;rcases ha with rfl|⟨us,rfl⟩
    .simp[DH,J9,oI,oL,ak,w0,w1,w2,w3]
    .have h5:AV.aw (us.map Tm.aV)=0:=bF _
     cases us with
     |nil=>simp[DH,J9,oI,oL,ak,w0,w1,w2,w3]
     |cons y r=>have h6:AV.aw (r.map Tm.aV)=0:=bF _;have WX:=Tm.dj y;have jX:=Tm.dx y;have SJ:=ay y;have t1:((0:Int)<(r.length:Int)+1)=True:=eq_true (by omega);simp[DH,J9,oI,oL,ak,w0,w1,w2,w3,h6,WX,jX,SJ,t1]
   .cases hv
  .cases hv
 .cases hv
theorem A9:∀m,m<=100->aY Tryz.prog (j6 m)
 |0,_=>HK
 |m+1,h=>HS (m+1) (by omega) h (A9 m (by omega))
def uD:aX:=⟨60,λ|[v]=>(match kC v with|some t=>if t.size<1000000000 then some (.int .i64 (min t.gz 65:Nat)) else none|none=>none)|_=>none⟩
theorem tW:uD.f=60:=(rfl)
theorem Rg(t:Tm)(h:t.size<1000000000):uD.S [t.aV]=some (.int .i64 (min t.gz 65:Nat)):=by simp only[uD,fh,if_pos h]
theorem Rv:aY Tryz.prog uD:=λag v hv=>by
 unfold uD at hv|-;dsimp only at hv|-;split at hv
 .rename_i x;split at hv
  .rename_i t ht;split at hv
   .rename_i hl;cases hv;rw[eI ht];refine bG (n:=3) (h':=h0) (bA (ss:=[j6 65]) (by simp[A9 65 (by omega)])) ?_ rfl (by simp[AV.aw,Tm.cm]);have hc:=DR 65 t hl;have iI:=Tm.dj t;have jn:=Tm.dx t;have gm:=ay t;rw[iI,jn] at hc|-;rw[show ((65:Nat):Int)=65 from rfl] at hc;simp[afN,c60,hc,gm,bc,oM]
   .cases hv
  .cases hv
 .cases hv
mutual
def Tm.ig:Tm->Nat
 |.nl _ _ s=>1+s.length
 |.mk _ _ s us=>1+s.length+Tm.hI us
def Tm.hI:List Tm->Nat
 |[]=>0
 |t::r=>t.ig+Tm.hI r
end
theorem AN(t:Tm):t.ig=1+t.bH.length+Tm.hI t.ag:=by cases t<;>rfl
theorem Fv:∀a b:List Tm,Tm.hI (a++b)=Tm.hI a+Tm.hI b
 |[],b=>by simp[Tm.hI]
 |t::r,b=>by simp[Tm.hI,Fv r b];omega
mutual
theorem rk:∀t:Tm,t.size<=t.ig
 |.nl _ _ s=>by simp[Tm.size,Tm.ig]
 |.mk _ _ s us=>by have:=CO us;simp[Tm.size,Tm.ig];omega
theorem CO:∀l:List Tm,Tm.dw l<=Tm.hI l
 |[]=>by simp[Tm.dw,Tm.hI]
 |t::r=>by have:=rk t;have:=CO r;simp[Tm.dw,Tm.hI];omega
end
mutual
def Tm.sj(p:Tm->Bool):Tm->Bool
 |.nl k n s=>p (.nl k n s)
 |.mk k n s us=>p (.mk k n s us)&&Tm.iR p us
def Tm.iR(p:Tm->Bool):List Tm->Bool
 |[]=>true
 |t::r=>Tm.sj p t&&Tm.iR p r
end
theorem Aq(p:Tm->Bool)(t:Tm):t.sj p=(p t&&Tm.iR p t.ag):=by cases t<;>simp[Tm.sj,Tm.ag,Tm.iR]
theorem KH(p:Tm->Bool):∀a b:List Tm,Tm.iR p (a++b)=(Tm.iR p a&&Tm.iR p b)
 |[],b=>by simp[Tm.iR]
 |t::r,b=>by simp[Tm.iR,KH p r b,Bool.and_assoc]
def P4(p:Tm->Bool)(x:Tm)(_:Unit):Bool×Unit:=(p x,())
theorem Jy(p:Tm->Bool):∀(d:Nat) (rs:List Tm),Tm.dw rs<d->(fM (P4 p) d rs ()).1=Tm.iR p rs
 |0,rs,h=>by omega
 |d+1,[],_=>by simp[fM,Tm.iR]
 |d+1,x::rs,h=>by
   have hs:=gQ x;have h2:=oN x.ag rs;simp only[Tm.dw] at h;have e:fM (P4 p) (d+1) (x::rs) ()=if p x=true then fM (P4 p) d (x.ag++rs) () else (false,()):=rfl
   rw[e];simp only[Tm.iR,Aq];by_cases hp:p x=true
   .rw[if_pos hp,hp,Jy p d (x.ag++rs) (by omega),KH];simp
   .simp[hp]
def fH(t:Tm):Bool:=decide (t.size<=2000)&&decide (t.gz<=64)&&t.sj og
mutual
theorem Dl:∀(us:List Tm) (y:Tm),y∈us->y.ig<=Tm.hI us
 |[],y,h=>by simp at h
 |t::r,y,h=>by
   simp only[Tm.hI];rcases List.mem_cons.1 h with rfl|h
   .omega
   .have:=Dl r y h;omega
end
theorem Qs(t:Tm)(hs:t.ig<1000000000)(ss:List aX)(hss:∀(n:Nat) (x:Tm) (h:ai),x.ig<1000000000->aF (cY ss) (n+1) 62 [x.aV] h=some (.bool (og x),h))(n:Nat)(hn:t.size+1<=n+1)(T0:bp):∃Y cq,gu 3 1 (bL (aH (aF (cY ss) (n+1)) (n+1) gW) iO 3 (n+1) (zp (.fn 62 []) (.vec 2 0 1 4 1)) ⟨3,[.row t.cells,.row t.cells,T0],3,1⟩)=
 some (if t.sj og then .exit 0 else .ret,if t.sj og then FM 44 [] else FM 44 [(4,.bool false)],⟨3,[Y,.row t.cells,T0],1,cq⟩):=by
 have Qh:=rk t
 have h:=rW (aF (cY ss) (n+1)) (n+1) 62 [] (by simp[AV.aw]) (P4 og) (λ_=>[T0]) t id
  (λx=>x.ig<1000000000) (λx hx y hy=>by have:=AN x;have:=Dl x.ag y hy;omega) (λ_=>True) (λ_ _ _ _=>trivial) (λmd=>md=1) (λmd h=>h) (λmd h k hk=>by omega) 1 rfl
  (λs x R md hx _ _=>hss n x _ hx) (λs x R md hx _ _=>hss n x _ hx)
  (t.size+1) (n+1) [t] t.cells 1 () 1 (by simp[Tm.dw]) hn hn (by simp[Tm.dw];omega) (by omega) (by simp) rfl (by simp[aG];rfl) (by simp[Tm.cells,AV.aw,AV.aK,ay]) (λx hx=>by simp at hx;subst hx;exact hs) trivial rfl
 obtain⟨⟨Y,cq,_,e⟩,_⟩:=h;rw[Jy og _ _ (by simp[Tm.dw])] at e;have ea:Tm.iR og [t]=t.sj og:=by simp[Tm.iR]
 rw[ea] at e;exact⟨Y,cq,e⟩
def xo:aX:=⟨27,λ|[v]=>(match kC v with|some t=>if t.ig<1000000000 then some (.bool (fH t)) else none|none=>none)|_=>none⟩
theorem Km:xo.f=27:=(rfl)
theorem AT(t:Tm)(h:t.ig<1000000000):xo.S [t.aV]=some (.bool (fH t)):=by simp only[xo,fh,if_pos h]
theorem Wo(n:Nat)(x:Tm)(h:ai)(hx:x.ig<1000000000):aF (cY [Bk,uD,KC]) (n+1) 62 [x.aV] h=some (.bool (og x),h):=by have hb:=AN x;have ho:=X7 x (by omega);have iI:=Tm.dj x;have jn:=Tm.dx x;rw[iI,jn] at ho|-;simp[ho,bc,xZ,tW,C6]
theorem Fx:aY Tryz.prog xo:=λag v hv=>by
 unfold xo at hv|-;dsimp only at hv|-;split at hv
 .rename_i x;split at hv
  .rename_i t ht;split at hv
   .rename_i hl;cases hv;rw[eI ht];refine bG (n:=t.size+5) (h':=h0) (bA (ss:=[Bk,uD,KC]) (by simp[Vm,Rv,XS])) ?_ rfl (by simp[AV.aw,Tm.cm]);have Qh:=rk t;have c1:=Wb t (by omega);have c2:=Rg t (by omega);have iI:=Tm.dj t;have jn:=Tm.dx t;have gm:=ay t;obtain⟨Y,cq,eq⟩:=Qs t hl [Bk,uD,KC] Wo (t.size+2) (by omega) (.row t.cells);rw[iI,jn] at c1 c2|-;rw[jn] at eq;simp only[iO] at eq;unfold fH;by_cases h1:t.size<=2000
    .have G4:(((Di t:Nat):Int)<=2000)=True:=eq_true (by rw[Kd];omega);by_cases h2:t.gz<=64
     .have Qi:(((min t.gz 65:Nat):Int)<=64)=True:=eq_true (by omega);generalize min t.gz 65=q at c2 Qi
      cases hb:t.sj og with
      |true=>rw[hb] at eq;simp only[if_true] at eq;simp[OS,c27,OL,c61,iO,gm,bc,c1,c2,h1,G4,h2,Qi,eq,xZ,tW,C6]
      |false=>rw[hb] at eq;simp only[Bool.false_eq_true,if_false] at eq;simp[OS,c27,OL,c61,iO,gm,bc,c1,c2,h1,G4,h2,Qi,eq,xZ,tW,C6]
     .have Qi:(((min t.gz 65:Nat):Int)<=64)=False:=eq_false (by omega);generalize min t.gz 65=q at c2 Qi;simp[OS,c27,gm,bc,c1,c2,h1,G4,h2,Qi,xZ,tW,C6]
    .have G4:(((Di t:Nat):Int)<=2000)=False:=eq_false (by rw[Kd];omega);simp[OS,c27,gm,bc,c1,h1,G4,xZ,tW,C6]
   .cases hv
  .cases hv
 .cases hv
mutual
def wC:Tm->Tm->Bool
 |.nl k n s,b=>decide (k=b.au)&&decide (n=b.cF)&&(s==b.bH)&&b.ag.isEmpty
 |.mk k n s us,b=>decide (k=b.au)&&decide (n=b.cF)&&(s==b.bH)&&oz us b.ag
def oz:List Tm->List Tm->Bool
 |[],ws=>ws.isEmpty
 |x::r,ws=>match ws with
   |[]=>false
   |y::q=>wC x y&&oz r q
end
theorem oY(ws:List Tm):oz [] ws=ws.isEmpty:=by simp[oz]
theorem ti(x y:Tm)(r q:List Tm):oz (x::r) (y::q)=(wC x y&&oz r q):=by simp[oz]
theorem xR(a b:Tm):wC a b=(decide (a.au=b.au)&&decide (a.cF=b.cF)&&(a.bH==b.bH)&&oz a.ag b.ag):=by
 cases a with
 |nl k n s=>show _=(_&&oz [] b.ag);rw[oY,wC];rfl
 |mk k n s us=>rw[wC];rfl
theorem GY:∀(us ws:List Tm),us.length≠ws.length->oz us ws=false
 |[],[],h=>absurd rfl h
 |[],_::_,_=>by simp[oY]
 |_::_,[],_=>by simp[oz]
 |x::r,y::q,h=>by have:=GY r q (by simpa using h);rw[ti,this,Bool.and_false]
theorem nt:∀{us:List Tm} {y:Tm},y∈us->y.size<=Tm.dw us
 |t::r,y,h=>by
   simp only[Tm.dw];rcases List.mem_cons.1 h with rfl|h
   .omega
   .have:=nt h;omega
end
section
open Go.RowKit Go.Shelf
attribute [local go_sem] Oper.semAt_some
def Dk{len:Nat}(xs:List (Fin len)):Prop:=∀j (h:j<xs.length),(xs[j]).1+j+1=len
theorem VK(F:Fence)(n:Nat)(aen:F.fn 108)(hro:F.round=none)(hn:1<=n)(l b o b2 o2 len cap:Nat)(fZ:len<=9223372036854775807)(vs:Nat->Nat->Value)(J Jx:List (Fin len)->World->Prop)
 (hY:∀pre x W,J pre W->pre.length<len->YieldAt F (n-1) Tryz.prog l #[.int .i64 (x.1:Int),.agg #[vs x.1 0,vs x.1 1,vs x.1 2,vs x.1 3]] W λe W'=>(e=.returned (.bool true)/\J (pre++[x]) W'/\(W'.heap[b]? =W.heap[b]?/\W'.heap[b2]? =W.heap[b2]?))\/(e=.returned (.bool false)/\Jx (pre++[x]) W'))
 (W:World) (hb:W.cell? ⟨b,o,none⟩=some (.slice (some ⟨b2,o2,none⟩) len cap)) (hc:∀k j,k<len->j<4->W.cell? ⟨b2,o2+(k*4+j),none⟩=some (vs k j)) (h0:J [] W):
 CallsIn F n Tryz.prog 108 #[.func (.yield l) #[] #[],.pointer (some ⟨b,o,none⟩)] W λe W'=>(∃v,e=.returned v)/\
  ((∃ys,(Dk ys/\ys.length=len)/\J ys W')\/(∃pre,True/\Jx pre W')):=by
 refine callsIn_of_wp Tryz.func108 rfl aen ?_ hro;simp only[Tryz.ntmps108,List.size_toArray,List.length_cons,List.length_nil,Nat.reduceAdd,Nat.reduceSub,Array.replicate_succ,Array.replicate_zero,List.push_toArray,List.append_toArray,List.nil_append,List.cons_append]
 gi_wp2
 gi_loopw [3] (λi wr=>∃pre:List (Fin len),Dk pre/\pre.length<=len/\i=.int .i64 ((len:Int)-1-pre.length)/\J pre wr/\(wr.heap[b]? =W.heap[b]?/\wr.heap[b2]? =W.heap[b2]?))
  (λi _=>(intOf i+1).toNat)
 case atStart=>exact⟨[],λj h=>by simp at h,Nat.zero_le _,by simp,h0,rfl,rfl⟩
 case round=>
  obtain⟨pre,hp,hk,rfl,hJs,hs1,hs2⟩:=hrel
  have hbr:wr.cell? ⟨b,o,none⟩=some (.slice (some ⟨b2,o2,none⟩) len cap):=by rw[<-hb];unfold World.cell?;rw[hs1]
  by_cases cR:pre.length<len
  .obtain⟨m,hm⟩:∃m,m=len-1-pre.length:=⟨_,rfl⟩
   have hml:m<len:=by omega
   have hi:(len:Int)-1-(pre.length:Int)=(m:Int):=by omega
   rw[hi];clear hi
   have BD:∀j,j<4->wr.cell? ⟨b2,o2+m*4+j,none⟩=some (vs m j):=λj hj=>by rw[<-hc m j hml hj];unfold World.cell?;rw[hs2,Nat.add_assoc]
   have c0:wr.cell? ⟨b2,o2+m*4,none⟩=some (vs m 0):=BD 0 (by omega);have c1:=BD 1 (by omega);have c2:=BD 2 (by omega);have c3:=BD 3 (by omega);have hmi:(m:Int)<(len:Int):=by omega
   have ni:J pre wr->Dk (pre++[⟨m,hml⟩])/\(pre++[(⟨m,hml⟩:Fin len)]).length<=len/\(m:Int)-1=(len:Int)-1-(pre++[(⟨m,hml⟩:Fin len)]).length:=λ_=>by
    refine⟨λj hj=>?_,by simp;omega,by simp;omega⟩;by_cases h:j<pre.length
    .rw[List.getElem_append_left h];exact hp j h
    .have:j=pre.length:=by simp at hj;omega
     subst this;simp;omega
   clear hm;obtain⟨fn,tmps,assign,body,hy,hR⟩:=hY pre ⟨m,hml⟩ wr hJs cR;dsimp only at hy
   gi_wp2
   refine hR.mono ?_;rintro e W3 (⟨rfl,hJ3,hk3,hk4⟩|⟨rfl,akV⟩)
   .gi_wp2
    go_roundw
    case rel=>obtain⟨n1,n2,n3⟩:=ni hJs;exact⟨_,n1,n2,by rw[n3],hJ3,hk3.trans hs1,hk4.trans hs2⟩
    case measure=>simp[intOf]
   .gi_wp2
    refine bodyPost_ret (results_none rfl _ _ _) rfl ?_;exact⟨⟨_,rfl⟩,.inr ⟨_,trivial,akV⟩⟩
  .have hi:(len:Int)-1-(pre.length:Int)=-1:=by omega
   rw[hi]
   gi_wp2
   go_end0
   exact⟨⟨_,rfl⟩,.inl ⟨pre,⟨hp,by omega⟩,hJs⟩⟩
theorem Hx(F:Fence)(n:Nat)(aen:F.fn 108)(hro:F.round=none)(l b o:Nat)(ad:Option Addr)(cap:Nat){len:Nat}(J:List (Fin len)->World->Prop)
 (W:World) (hb:W.cell? ⟨b,o,none⟩=some (.slice ad 0 cap)) (h0:J [] W):
 CallsIn F n Tryz.prog 108 #[.func (.yield l) #[] #[],.pointer (some ⟨b,o,none⟩)] W λe W'=>(∃v,e=.returned v)/\J [] W':=by
 refine callsIn_of_wp Tryz.func108 rfl aen ?_ hro;simp only[Tryz.ntmps108,List.size_toArray,List.length_cons,List.length_nil,Nat.reduceAdd,Nat.reduceSub,Array.replicate_succ,Array.replicate_zero,List.push_toArray,List.append_toArray,List.nil_append,List.cons_append]
 gi_wp2
 gi_loopw [3] (λi wr=>i=.int .i64 (-1)/\J [] wr)
  (λ_ _=>0)
 case atStart=>exact⟨rfl,h0⟩
 case round=>
  obtain⟨rfl,hJs⟩:=hrel
  gi_wp2
  go_end0
  exact⟨⟨_,rfl⟩,hJs⟩
theorem L0(n:Nat)(hn:1<=n)(b o len:Nat)(fZ:len<=9223372036854775807)(vs:Nat->Nat->Value){csl:Value}{Kp:World->World->Prop}(W0:World)(hb:W0.cell? ⟨b,o,none⟩=some csl)(hbl:b<W0.heap.size)
 (EP:(∃ad cap,csl=.slice ad 0 cap/\len=0)\/∃b2 o2 cap,csl=.slice (some ⟨b2,o2,none⟩) len cap/\b2<W0.heap.size/\(∀A B,Kp A B->B.heap[b2]? =A.heap[b2]?)/\∀k j,k<len->j<4->W0.cell? ⟨b2,o2+(k*4+j),none⟩=some (vs k j))
 (hKp:∀A B,Kp A B->B.heap[b]? =A.heap[b]?):
 SeqStopsK Fence.wide n Tryz.prog 108 #[.pointer (some ⟨b,o,none⟩)] (λx:Fin len=>#[.int .i64 (x.1:Int),.agg #[vs x.1 0,vs x.1 1,vs x.1 2,vs x.1 3]]) Kp (λys=>Dk ys/\ys.length=len) (λ_=>True) len W0:=by
 intro l J Jx W hW _ _ hY h0;have BQ:W.cell? ⟨b,o,none⟩=some csl:=(hW.cell (p:=⟨b,o,none⟩) hbl).trans hb;rcases EP with⟨ad,cap,rfl,rfl⟩|⟨b2,o2,cap,rfl,A3,hk2,hc⟩
 .exact (Hx Fence.wide n trivial rfl l b o ad cap J W BQ h0).mono λe W' ⟨he,hj⟩=>⟨he,.inl ⟨[],⟨λj h=>by simp at h,rfl⟩,hj⟩⟩
 .refine VK Fence.wide n trivial rfl hn l b o b2 o2 len cap fZ vs J Jx (λpre x W1 hJ hl=>?_) W BQ (λk j hk hj=>(hW.cell (p:=⟨b2,o2+(k*4+j),none⟩) A3).trans (hc k j hk hj)) h0;obtain⟨fn,tmps,assign,body,e1,e2⟩:=hY pre x W1 hJ hl;refine⟨fn,tmps,assign,body,e1,e2.mono λe W' h=>?_⟩;rcases h with⟨h1,h2,h3⟩|h
  .exact .inl ⟨h1,h2,hKp _ _ h3,hk2 _ _ h3⟩
  .exact .inr h
end
section
open Sz
def dm:List Tm->Tm->Tm
 |[],t=>t
 |x::r,t=>.mk 2 0 [46] [x,dm r t]
theorem Js(A:AV)(hA:A.aK=0)(hb:basic A=true):aF (cY []) 3 66 [A] h0=some (.fn 108 [.ptr 0 0],⟨1,[.row [A]],0,0⟩):=by
 have h1:=λ(h:ai) (n0 d:Nat)=>zF (h:=h) (n0:=n0) (d:=d) hb
 have h2:=mh hb;simp[afx,c66,h1,h2,hA]
def Lt:aX:=⟨66,λ|[.aJ]=>some (.fn 108 [.ip [.aJ]])|[.sl xs]=>some (.fn 108 [.ip [.sl xs]])|_=>none⟩
theorem Qb:Lt.f=66:=(rfl)
theorem V9:aY Tryz.prog Lt:=λag v hv=>by
 unfold Lt at hv|-;dsimp only at hv|-;split at hv
 .cases hv;exact Lj (bA (ss:=[]) (by simp)) (Js _ rfl rfl) rfl rfl
 .cases hv;exact Lj (bA (ss:=[]) (by simp)) (Js _ rfl rfl) rfl rfl
 .cases hv
theorem SV(A:AV)(h:A=.aJ\/∃xs,A=.sl xs):Lt.S [A]=some (.fn 108 [.ip [A]]):=by rcases h with rfl|⟨xs,rfl⟩<;>rfl
def adH:bW:=.gA [⟨(some 3),.op (.box (.tmp 1)),none⟩,⟨(some 4),.op (.box (.const (.agg [(.int .i64 0),(.int .i64 0),(.str []),.aJ]))),none⟩]
def acs:bW:=.gA [⟨(some 7),.op (.Hm (.tmp 0)),none⟩,⟨(some 8),.call 66 [(.tmp 7)],none⟩]
def abp:bW:=.block 1 (.gA [⟨(some 11),.op (.ld (some 4) (.tmp 6)),none⟩,⟨(some 12),.op (.ld (some 4) (.tmp 3)),none⟩,
 ⟨(some 13),.op (.EU 4 2 [(.int .i64 0),(.int .i64 0),(.str []),.aJ,(.int .i64 0),(.int .i64 0),(.str []),.aJ] [(0,(.tmp 11)),(1,(.tmp 12))]),none⟩,
 ⟨(some 14),.call 47 [(.const (.str [46])),(.tmp 13)],none⟩,⟨none,.op (.st 4 (.tmp 3) (.tmp 14)),none⟩])
def abG:bW:=.seq (.gA [⟨(some 15),.op (.ld (some 4) (.tmp 3)),none⟩,⟨none,.op (.st 4 (.tmp 4) (.tmp 15)),none⟩]) (.ret (mk 16 [4]))
def zT:List AV:=[.int .i64 0,.int .i64 0,.str [],.aJ]
def Xh:List aX:=[ye,Lt]
theorem adz:∀s∈Xh,aY Tryz.prog s:=by simp[Xh,yq,V9]
def Kn(A:AV)(t:Tm):List AV:=FM 16 [(8,.fn 108 [.ip [A]]),(7,A),(4,.ptr 1 0),(3,.ptr 0 0),(0,A),(1,t.aV)]
theorem VY(A:AV)(t:Tm):aH (aF (cY Xh) 3) 3 adH (FM 16 [(0,A),(1,t.aV)]) h0=some (.normal,FM 16 [(4,.ptr 1 0),(3,.ptr 0 0),(0,A),(1,t.aV)],⟨2,[.row zT,.row t.cells],0,0⟩):=by have e:=t.dj;have r0:=ay t;simp[adH,e,Tm.cells,zT,r0]
theorem Ws(A:AV)(h:A=.aJ\/∃xs,A=.sl xs)(t:Tm):aH (aF (cY Xh) 3) 3 acs (FM 16 [(4,.ptr 1 0),(3,.ptr 0 0),(0,A),(1,t.aV)]) ⟨2,[.row zT,.row t.cells],0,0⟩=some (.normal,Kn A t,⟨2,[.row zT,.row t.cells],0,0⟩):=by
 have g:=SV A h;have fz:∀(h:ai) (n0 d:Nat),jF h n0 (d+1) A=some (A,[]):=λh' _ _=>by rcases h with rfl|⟨xs,rfl⟩<;>rfl
 simp[acs,Xh,sq,Qb,fz,g,Kn]
theorem To(A:AV)(t x u:Tm)(i:Nat):aH (aF (cY Xh) 3) 3 abp ((((Kn A t).set 9 (.int .i64 (i:Int))).set 10 x.aV).set 6 (.ip x.aV.cells)) ⟨2,[.row zT,.row u.cells],2,2⟩=
 some (.normal,FM 16 [(14,(Tm.mk 2 0 [46] [x,u]).aV),(13,.vec 2 0 2 4 2),(12,u.aV),(11,x.aV),(6,.ip x.aV.cells),(10,x.aV),(9,.int .i64 (i:Int)),(8,.fn 108 [.ip [A]]),(7,A),(4,.ptr 1 0),(3,.ptr 0 0),(0,A),(1,t.aV)],⟨3,[.dead,.row zT,.row (Tm.mk 2 0 [46] [x,u]).cells],2,0⟩):=by
 have ex:=x.dj;have eu:=u.dj;have r1:=ay x;have r2:=ay u;have cs:=lx [46] [x,u] (by simp);have c1:=mh (nF x);have c2:=mh (nF u);have ec:(bM [46] [x,u]).aV=.agg [.int .i64 2,.int .i64 0,.str [46],.sl [x.aV,u.aV]]:=by simp[bM,Tm.aV,Tm.uJ]
 have em:(Tm.mk 2 0 [46] [x,u]).aV=.agg [.int .i64 2,.int .i64 0,.str [46],.sl [x.aV,u.aV]]:=by simp[Tm.aV,Tm.uJ]
 have k1:(Tm.mk 2 0 [46] [x,u]).au=2:=rfl;have k2:(Tm.mk 2 0 [46] [x,u]).cF=0:=rfl;have k3:(Tm.mk 2 0 [46] [x,u]).bH=[46]:=rfl;have k4:(Tm.mk 2 0 [46] [x,u]).ca=.sl [x.aV,u.aV]:=rfl;rw[ec] at cs;simp only[List.map_cons,List.map_nil,ex,eu,Tm.cells] at cs;have f1:=λ(h:ai) (n0 d:Nat)=>bc h n0 d x
 have f2:=λ(h:ai) (n0 d:Nat)=>bc h n0 d u
 simp[abp,Xh,Kn,Vf,sq,Qb,ex,eu,r1,r2,f1,f2,Tm.cells,cs,c1,c2,AV.cells,em,k1,k2,k3,k4]
theorem Tu(A:AV)(t u:Tm):aH (aF (cY Xh) 3) 3 abG (Kn A t) ⟨2,[.row zT,.row u.cells],2,2⟩=some (.ret,FM 16 [(4,.ptr 1 0)],⟨2,[.row u.cells,.row u.cells],2,1⟩):=by have eu:=u.dj;have r2:=ay u;simp[abG,Kn,eu,r2,Tm.cells,zT]
end
section
open Go.RowKit Sz
variable {X:World->Prop}
theorem enters(f:Nat){fn:Func}(EZ:Tryz.prog.funcs[f]? =some fn)(zg:(fn.name== "runtime.NumGoroutine")=false)(uZ:fn.body.isSome=true)(bu:Array Value)(w:World):(callFunc f bu).run Tryz.prog w=.ok (.enter f bu) w:=by
 obtain⟨c,hc⟩:=Option.isSome_iff_exists.1 uZ;have fy:¬fn.name= "runtime.NumGoroutine" :=by simpa using zg
 simp[callFunc,EZ,fy,hc]
theorem ac4:∃i z,Tryz.prog.info? 31=some i/\i.zero=some z/\z.cells.size=i.size/\i.size=4:=by
 have h:(Tryz.prog.info? 31).map (λi=>(i.zero.map (·.cells.size),i.size))=some (some 4,4):=by kernel_rfl
 obtain⟨i,hi,e⟩:=Option.map_eq_some_iff.1 h;simp only[Prod.mk.injEq,Option.map_eq_some_iff] at e;obtain⟨⟨z,hz,WM⟩,hs⟩:=e;exact⟨i,z,hi,hz,by omega,hs⟩
mutual
theorem Tm.fK:∀t:Tm,t.aV.fK=true
 |.nl k n s=>rfl
 |.mk k n s us=>by have:=Tm.ot us;simp[Tm.aV,AV.fK,AV.ot,this]
theorem Tm.ot:∀l:List Tm,AV.uh (Tm.uJ l)=true
 |[]=>rfl
 |t::r=>by
   have h1:=Tm.fK t;have h2:=Tm.ot r;have h3:t.aV.cells.isEmpty=false:=by rw[t.dj];rfl
   simp[Tm.uJ,AV.uh,h1,h2,h3]
end
theorem Tm.UJ(t:Tm):∀v∈t.cells,v.fK=true:=by have h:=t.fK;rw[t.dj] at h;intro v hv;obtain⟨j,hj,rfl⟩:=List.getElem_of_mem hv;exact lY (by simpa[AV.fK] using h) j hj
theorem Vz{a b:List AV}{w m id:Nat}:live ⟨2,[.row a,.row b],w,m⟩ id↔id<2:=by
 refine⟨λ⟨o,hg,_⟩=>ai.eK hg,λh=>?_⟩
 match id,h with
 |0,_=>exact⟨.row b,rfl,λe=>by cases e⟩
 |1,_=>exact⟨.row a,rfl,λe=>by cases e⟩
theorem ae7{a b cs:List AV}{w m id:Nat}(h:(⟨2,[.row a,.row b],w,m⟩:ai).get id=some (.row cs)):cs=a\/cs=b:=by
 have:=ai.eK h
 match id,this with
 |0,_=>exact .inr (by cases h;rfl)
 |1,_=>exact .inl (by cases h;rfl)
theorem afQ{a b:List AV}{es:List (AV×AV)}{w m id:Nat}(h:(⟨2,[.row a,.row b],w,m⟩:ai).get id=some (.map es)):False:=by
 have:=ai.eK h
 match id,this with
 |0,_=>cases h
 |1,_=>cases h
def Bw(us:List Tm)(t:Tm)(pre:List (Fin (us.map Tm.aV).length)):Tm:=pre.foldl (λu x=>.mk 2 0 [46] [us[x.1]'(by simpa using x.2),u]) t
theorem Eb(us:List Tm)(t:Tm)(pre:List (Fin (us.map Tm.aV).length))(x:Fin (us.map Tm.aV).length):Bw us t (pre++[x])=.mk 2 0 [46] [us[x.1]'(by simpa using x.2),Bw us t pre]:=by simp[Bw]
theorem Rx(us:List Tm)(t:Tm)(xs:List (Fin (us.map Tm.aV).length))(h1:Dk xs)(h2:xs.length=(us.map Tm.aV).length):Bw us t xs=dm us t:=by
 have hl:(us.map Tm.aV).length=us.length:=by simp
 have key:∀k,k<=xs.length->Bw us t (xs.take k)=dm (us.drop (us.length-k)) t:=by
  intro k
  induction k with
  |zero=>intro _;simp[Bw,dm]
  |succ k ih=>
    intro hk;have hx:=h1 k (by omega);rw[List.take_succ_eq_append_getElem (by omega),Eb,ih (by omega)];have cR:us.length-(k+1)<us.length:=by omega
    rw[List.drop_eq_getElem_cons cR];have e1:us.length-(k+1)+1=us.length-k:=by omega
    have e2:(xs[k]).1=us.length-(k+1):=by omega
    simp only[e1,dm,e2]
 have:=key xs.length (Nat.le_refl _);rw[List.take_length,h2,hl,Nat.sub_self,List.drop_zero] at this;exact this
theorem MF{φ:eL}{h:ai}{w:World}{A:AV}{us:List Tm}(hA:(A=.aJ/\us=[])\/A=.sl (us.map Tm.aV)){csl:Value}(hv:fI φ h w A csl):
 ∃vs:Nat->Nat->Value,(∀j (hj:j<(us.map Tm.aV).length),fI φ h w (us.map Tm.aV)[j] (.agg #[vs j 0,vs j 1,vs j 2,vs j 3]))/\
   ((∃ad cap,csl=.slice ad 0 cap/\(us.map Tm.aV).length=0)\/∃b2 o2 cap,csl=.slice (some ⟨b2,o2,none⟩) (us.map Tm.aV).length cap/\Pr φ h w b2/\∀k j,k<(us.map Tm.aV).length->j<4->w.cell? ⟨b2,o2+(k*4+j),none⟩=some (vs k j)):=by
 rcases hA with⟨rfl,rfl⟩|rfl
 .obtain⟨ad,rfl⟩:=hv.py;exact⟨λ_ _=>default,λj hj=>by simp at hj,.inl ⟨ad,0,rfl,rfl⟩⟩
 .rcases hv.uA with⟨ad,cap,e1,rfl⟩|⟨b2,o2,cap,sz,vs,rfl,hp,mW,_,h1,kU,nh,IS⟩
  .refine⟨λ_ _=>default,λj hj=>?_,.inl ⟨ad,cap,rfl,by rw[e1];rfl⟩⟩;rw[e1] at hj;simp at hj
  .have hs4:∀k,k<(us.map Tm.aV).length->sz=4:=λk hk=>by
    have:=kU k hk;rw[List.getElem_map,Tm.dj] at this;simpa[AV.cells?,Tm.cells] using this.symm
   refine⟨vs,λj hj=>?_,.inr ⟨b2,o2,cap,rfl,hp,λk j hk hj=>?_⟩⟩
   .have:=IS j hj;rw[List.getElem_map,Tm.dj] at this|-;refine .agg _ _ rfl (λk=>?_) λk hk=>?_
    .match k with
     |0=>exact h1 j 0
     |1=>exact h1 j 1
     |2=>exact h1 j 2
     |3=>exact h1 j 3
     |k+4=>rfl
    .have hk4:k<4:=hk;have:=this k hk
     match k,hk4 with
     |0,_=>exact this
     |1,_=>exact this
     |2,_=>exact this
     |3,_=>exact this
   .have e:=hs4 k hk;subst e;have:=nh k j hk hj;rw[Nat.add_assoc] at this;exact this
theorem MQ(us:List Tm)(t:Tm)(A:AV)(hA:(A=.aJ/\us=[])\/A=.sl (us.map Tm.aV))(hl:us.length<1000000000000){φ:eL}{w:World}{bu:Array Value}(hr:HR φ h0 w)(hG:jM Tryz.prog X φ h0 w)(ha:mo φ h0 w [A,t.aV] bu):
 Calls Tryz.prog 33 bu w (ly φ h0 w (dm us t).aV ⟨2,[.row (dm us t).cells,.row (dm us t).cells],2,1⟩):=by
 obtain⟨hC,BC⟩:=yk (oR (X:=X) (ss:=Xh) λs hs=>(adz s hs).lift) 3;have Ft:A=.aJ\/∃xs,A=.sl xs:=hA.imp (·.1) λh=>⟨_,h⟩
 have kU:bu.size=2:=ha.1;have LY:(Kn A t).length=16:=by simp[Kn,FM]
 refine (callsIn_wide (n:=3)).1 ?_;refine callsIn_of_wp_marks Tryz.func33 rfl trivial ?_ rfl;have f0:=NU ha 16 (by simp);refine wpIn_seq ?_;refine iC (l0:=none) hC BC mixed 3 _ adH (by kernel_rfl) (VY A t) f0 hr hG λφ1 a1 w1 f1 r1 x1 d1=>?_
 show Code.wpIn _ _ _ _ _ _ _;refine wpIn_seq (wpIn_seq ?_);refine iC (l0:=none) hC BC mixed 3 _ acs (by kernel_rfl) (Ws A Ft t) f1 r1 (hG.ext x1) λφ2 a2 w2 f2 r2 x2 d2=>?_
 show Code.wpIn _ _ _ _ _ _ _;refine wpIn_block ?_;obtain⟨r3,x3⟩:=r2.yN 2 2;have f3:=f2.ext x3;have hx:=(x1.trans x2).trans x3;have hG3:=hG.ext hx
 -- the iterator
 have hg8:=f3.2 8;have ak1:fI φ2 ⟨2,[.row zT,.row t.cells],2,2⟩ w2 (.fn 108 [.ip [A]]) (a2.tmps.getD 8 undef):=hg8;obtain⟨fu,e8,oC,hcv⟩:=ak1.Hc;have ak2:=hcv 0 (by simp);obtain⟨b,o,vb,eb,hpb,_,_,nh,hvb⟩:=(RV.M0 ak2)
 have aep:=nh 0 (by simp);have ak3:=hvb 0 (by simp);obtain⟨vs,hEs,EP⟩:=MF hA ak3
 have ak4:fu=#[.pointer (some ⟨b,o,none⟩)]:=by
  obtain⟨l⟩:=fu
  match l,oC with
  |[c],_=>simpa using eb
 obtain⟨i,z,hi,hz,WM,his⟩:=ac4;have kp:∀b',Pr φ2 ⟨2,[.row zT,.row t.cells],2,2⟩ w2 b'->∀A' B',KpR φ2 ⟨2,[.row zT,.row t.cells],2,2⟩ w2 A' B'->B'.heap[b']? =A'.heap[b']?:=λb' BQ A' B' h=>h b' BQ.1 BQ.2.1
 refine Hg (X:=X) (C:=aF (cY Xh) 3) (m:=3) hC BC mixed (by omega) r3 hG3 f3 (gf:=108) (lb:=#[.pointer (some ⟨b,o,none⟩)]) (by rw[<-ak4];exact e8) (enters 108 Tryz.func108 (by kernel_rfl) rfl) ⟨rfl,rfl,rfl⟩ ⟨rfl,rfl,rfl⟩ hi hz WM (by rw[LY];decide) (by rw[LY];decide) (by rw[LY];decide) (by decide)
  (Es:=us.map Tm.aV) (vs:=λj=>#[vs j 0,vs j 1,vs j 2,vs j 3]) hEs (λv hv=>?_)
  (L0 (3-1) (by omega) b o (us.map Tm.aV).length (by simp;omega) vs w2 aep hpb.1 (EP.imp_right λ⟨b2,o2,cap,e1,e2,e3⟩=>⟨b2,o2,cap,e1,e2.1,kp b2 e2,e3⟩) (kp b hpb))
  (acB:=abp) (by kernel_rfl) (λpre=>⟨2,[.row zT,.row (Bw us t pre).cells],2,2⟩) rfl (λ_=>rfl) (λpre x=>?_) ?_
 .obtain⟨u,_,rfl⟩:=List.mem_map.1 hv;refine⟨u.cells,u.dj,by rw[his];rfl,?_⟩;have:=u.cm;rw[u.dj] at this;simpa[AV.aK] using this
 .have hxl:x.1<us.length:=by simpa using x.2
  have hex:(us.map Tm.aV)[x.1]=(us[x.1]).aV:=by simp
  rw[hex];refine⟨_,_,To A t us[x.1] (Bw us t pre) x.1,Nat.le_refl _,?_,?_,?_,?_⟩
  .rw[Eb];rfl
  .intro id h;rw[Vz] at h|-;exact h
  .intro id cs h v hv;rcases ae7 h with rfl|rfl
   .simp only[zT,List.mem_cons,List.not_mem_nil,or_false] at hv;rcases hv with rfl|rfl|rfl|rfl<;>rfl
   .exact Tm.UJ _ v hv
  .intro id es h;exact (afQ h).elim
 .rintro D xs W φ' hD ⟨ahF,fZ⟩ fD rD xD hK;rw[Rx us t xs ahF fZ] at *;show Code.wpIn _ _ _ _ _ _ _;refine iC (l0:=none) hC BC mixed 3 _ abG (by kernel_rfl) (Tu A t (dm us t)) (a:={a2 with defers:={target:=.collected D,args:=#[]}::a2.defers}) fD rD (hG3.ext xD) λφ4 a4 w4 f4 r4 x4 d4=>?_
  have hd:a4.defers=[{target:=.collected D,args:=#[]}]:=by rw[d4];show _::a2.defers=_;rw[d2,d1]
  show LeavesInM _ _ _ _ a4.tmps _ a4.defers .returning w4;rw[hd]
  have hK4:w4.heap[D]? =some (.deferred (some [])):=by
   refine (x4.pr D ⟨(Array.getElem?_eq_some_iff.1 hK).1,λid hl e=>?_,λCm=>?_⟩).2.trans hK
   .have n6:id<2:=Vz.1 hl;have e1:=xD.BK id n6;have e2:=r3.gJ (Vz.2 n6);rw[e1] at e;omega
   .rw[xD.gh.1] at Cm;have:=(r3.gh D Cm).1;omega
  have hws:=hx.size;refine Yy (rs:=[.cell 4 (some 4)]) hr (by kernel_rfl) f4 r4 ((hx.trans xD).trans x4) hK4 (by omega) (λid cs h v hv=>?_) (λid es h=>(afQ h).elim) (λk=>?_) ?_
  .rcases ae7 h with rfl|rfl<;>exact Tm.UJ _ v hv
  .by_cases hk:k<16
   .rw[B0 _ hk];by_cases h4:k=4
    .subst h4;rfl
    .have:lk [(4,AV.ptr 1 0)] k=.undef:=by
      unfold lk;simp[lk,Ne.symm h4]
     rw[this];rfl
   .have:(FM 16 [(4,AV.ptr 1 0)]).getD k .undef=.undef:=by
     rw[List.getD_eq_getElem?_getD,List.getElem?_eq_none (by rw[nE];omega)];rfl
    rw[this];rfl
  .rw[(dm us t).dj];rfl
theorem FD(us:List Tm)(t:Tm)(A:AV)(hA:(A=.aJ/\us=[])\/A=.sl (us.map Tm.aV))(hl:us.length<1000000000000):jA Tryz.prog X 33 [A,t.aV] (dm us t).aV:=
 vE (h':=⟨2,[.row (dm us t).cells,.row (dm us t).cells],2,1⟩) (Tm.cm _) (by rcases hA with⟨rfl,_⟩|rfl<;>simp[AV.aw,AV.aK,Tm.cm]) λφ w bu hr hG ha=>.inl ⟨enters 33 Tryz.func33 (by kernel_rfl) rfl _ _,MQ us t A hA hl hr hG ha⟩
def D5:aX:=⟨33,λ
 |[.aJ,v]=>(match kC v with|some t=>some t.aV|none=>none)
 |[.sl xs,v]=>(match lX xs,kC v with|some us,some t=>if us.length<1000000000000 then some (dm us t).aV else none|_,_=>none)
 |_=>none⟩
theorem YS:D5.f=33:=(rfl)
theorem Dr(us:List Tm)(t:Tm)(h:us.length<1000000000000):D5.S [.sl (us.map Tm.aV),t.aV]=some (dm us t).aV:=by unfold D5;dsimp only;rw[<-kF,nz,fh];exact if_pos h
theorem Wy:aY Tryz.prog D5:=λargs v hv=>by
 unfold D5 at hv|-;dsimp only at hv|-;split at hv
 .split at hv
  .rename_i t ht;cases hv;rw[eI ht];exact FD [] t .aJ (.inl ⟨rfl,rfl⟩) (by simp)
  .cases hv
 .split at hv
  .rename_i us t hu ht;split at hv
   .rename_i hl;cases hv;rw[eI ht,rA hu];exact FD us t _ (.inr rfl) hl
   .cases hv
  .cases hv
 .cases hv
end
end Go.Proofs.YtjmeonoabiliiaaGreatDoor
namespace Go.Proofs.YtjmeonoabiliiaaGreatDoor
open Go Sz
end Go.Proofs.YtjmeonoabiliiaaGreatDoor
namespace Go.Proofs.YtjmeonoabiliiaaGreatDoor
open Go Sz
section
open Go.RowKit
theorem DS{w w':World}(h:w'=w):Below w.heap.size w w':=h▸Below.refl _ _
def nP:aX:=⟨123,λ|[.str s,.str p]=>some (.str (Lib.trimPrefix s p))|_=>none⟩
theorem qC:nP.f=123:=(rfl)
theorem Db(s p:List UInt8):nP.S [.str s,.str p]=some (.str (Lib.trimPrefix s p)):=rfl
theorem CM:aY Tryz.prog nP:=λag v hv=>by
 unfold nP at hv|-;dsimp only at hv|-;split at hv
 .rename_i s p;cases hv;exact GG (enters 123 Tryz.func123 rfl rfl) λw _=>(Tryz.strings_TrimPrefix ⟨s.toArray⟩ ⟨p.toArray⟩ w).mono λe w' ⟨h1,h2⟩=>⟨by simpa using h1,DS h2⟩
 .cases hv
def kl:aX:=⟨84,λ|[.str s,.str p]=>some (.bool (Lib.hasPrefix s p))|_=>none⟩
theorem eY:kl.f=84:=(rfl)
theorem wF(s p:List UInt8):kl.S [.str s,.str p]=some (.bool (Lib.hasPrefix s p)):=rfl
theorem Fe:aY Tryz.prog kl:=λag v hv=>by
 unfold kl at hv|-;dsimp only at hv|-;split at hv
 .rename_i s p;cases hv;exact Rl (enters 84 Tryz.func84 rfl rfl) λw _=>(Tryz.strings_HasPrefix ⟨s.toArray⟩ ⟨p.toArray⟩ w).mono λe w' ⟨h1,h2⟩=>⟨by simpa using h1,DS h2⟩
 .cases hv
def oi(c:Nat):List UInt8->Int
 |[]=>-1
 |b::r=>if Nat.beq b.toNat c then 0 else match oi c r with|.ofNat n=>.ofNat (n+1)|.negSucc _=>-1
theorem Pd(c:UInt8):∀l,Lib.indexByte l c=oi c.toNat l
 |[]=>rfl
 |b::r=>by
   unfold Lib.indexByte oi;rw[Pd c r]
   have e:Nat.beq b.toNat c.toNat=(b==c):=by
    by_cases h:b=c
    .subst h;simp[Nat.beq_refl]
    .have h2:(b==c)=false:=by simpa using h
     rw[h2]
     cases h3:Nat.beq b.toNat c.toNat with
     |false=>rfl
     |true=>exact absurd (UInt8.toNat_inj.1 (Nat.eq_of_beq_eq_true h3)) h
   rw[e]
   cases hb:b==c with
   |true=>rfl
   |false=>
     simp only[Bool.false_eq_true,if_false]
     cases h:oi c.toNat r with
     |ofNat n=>
       have:((Int.ofNat n)==-1)=false:=by simp
       rw[this];rfl
     |negSucc n=>
       have hn:n=0:=by
        have:∀l k,oi c.toNat l=.negSucc k->k=0:=λl=>by
         induction l with
         |nil=>intro k hk;cases hk;rfl
         |cons b r ih=>
           intro k hk;unfold oi at hk;split at hk
           .cases hk
           .split at hk
            .cases hk
            .cases hk;rfl
        exact this r n h
       subst hn;rfl
def jC:aX:=⟨65,λ|[.str s,.int .u8 c]=>if 0<=c/\c<256 then some (.int .i64 (oi c.toNat s)) else none|_=>none⟩
theorem a7:jC.f=65:=(rfl)
theorem gO(s:List UInt8)(c:UInt8):jC.S [.str s,.int .u8 c.toNat]=some (.int .i64 (oi c.toNat s)):=by have:c.toNat<256:=c.toNat_lt;unfold jC;dsimp only;rw[if_pos (by omega),Int.toNat_natCast]
theorem qp:aY Tryz.prog jC:=λag v hv=>by
 unfold jC at hv|-;dsimp only at hv|-;split at hv
 .rename_i s c;split at hv
  .rename_i hc;cases hv;refine pn (enters 65 Tryz.func65 rfl rfl) λφ h w bu hr hG ha=>?_
   obtain⟨cx,cy,rfl,h1,h2⟩:=C3 ha;rw[hP h1,int_eq h2];refine (Tryz.strings_IndexByte ⟨s.toArray⟩ c w).mono λe w' ⟨he,hw⟩=>?_
   refine⟨DS hw,_,he,?_⟩
   have e1:c.toNat.toUInt8.toNat=c.toNat:=by show (UInt8.ofNat c.toNat).toNat=_;rw[UInt8.toNat_ofNat'];omega
   rw[Pd,e1];exact .int _ _
  .cases hv
 .cases hv
def cX(w:World):Prop:=Lib.TabIs Tryz.prog w "internal/strconv.uint64pow10" .u64 Lib.pow10Tab/\∃te pe,w.cell? ⟨2,0,none⟩=some (.iface te pe)
theorem E6{P:Program}{W:World}{bH nm:String}{d:DataW Unit}{aC:List (String×DataW Unit)}{g t:Nat}{ms:Array (String×TypeId)}
 (hg:P.globalNamed bH=some g) (hty:(P.globals[g]?).map (·.type)=some t) (ht:P.underlying t=some (.interface ms))
 (h:laidMet P ((bH,.iface nm d)::aC) W):∃te pe,W.cell? ⟨g,0,none⟩=some (.iface te pe):=by
 obtain⟨ps,⟨g',t',cs,fuel,p,q,EY,ht',ak7,hd,_,_⟩,_⟩:=h;obtain rfl:=Option.some.inj (hg.symm.trans EY);obtain rfl:=Option.some.inj (hty.symm.trans ht')
 cases fuel with
 |zero=>simp[DataW.trod] at hd
 |succ fuel=>
   have hc:=World.var?_cell hg ak7 0
   match oC:cs.toList with
   |[]=>rw[oC] at hd;simp[DataW.trod,ht] at hd
   |[v]=>
     have h0:cs[0]? =some v:=by rw[<-Array.getElem?_toList,oC];rfl
     rw[h0] at hc;rw[oC] at hd
     cases v with
     |iface u v=>exact⟨u,v,hc⟩
     |_=>simp[DataW.trod,ht] at hd
   |v::v'::r=>rw[oC] at hd;simp[DataW.trod,ht] at hd
theorem Vu{φ:eL}{h:ai}{w:World}(hG:jM Tryz.prog cX φ h w):∃te pe,w.cell? ⟨2,0,none⟩=some (.iface te pe):=by
 obtain⟨w1,h1,h2⟩:=hG;obtain⟨te,pe,hc⟩:=h1.2.2;refine⟨te,pe,?_⟩
 have cR:2<w1.heap.size:=by
  unfold World.cell? at hc;split at hc
  .rename_i hb;exact (Array.getElem?_eq_some_iff.1 hb).1
  .cases hc
 rw[cell?_of_block (h2 2 cR).2.2];exact hc
theorem CB{φ:eL}{h:ai}{w:World}{x y z:AV}{bu:Array Value}(ha:mo φ h w [x,y,z] bu):∃cx cy cz,bu=#[cx,cy,cz]/\fI φ h w x cx/\fI φ h w y cy/\fI φ h w z cz:=by
 obtain⟨h1,h2⟩:=aaA ha;obtain⟨l⟩:=bu
 match l,h1 with
 |[cx,cy,cz],_=>exact⟨cx,cy,cz,rfl,h2 0 (by simp),h2 1 (by simp),h2 2 (by simp)⟩
def Hq(s:List UInt8):Option AV:=match Lib.parseIntB 64 s with
 |.ok v=>some (.tuple [.int .i64 v,.mR])
 |.range=>some (.tuple [.int .i64 (Lib.intSat 64 s),.iface 217 .undef])
 |_=>none
def D7:aX:=⟨125,λ|[.str s,.int .i64 b,.int .i64 c]=>if b=10/\c=64/\s.length<281474976710656 then Hq s else none|_=>none⟩
theorem Cz:D7.f=125:=(rfl)
theorem Q2(s:List UInt8)(h:s.length<281474976710656):D7.S [.str s,.int .i64 10,.int .i64 64]=Hq s:=if_pos ⟨rfl,rfl,h⟩
theorem SA:fi Tryz.prog cX D7:=λag v hv=>by
 unfold D7 at hv|-;dsimp only at hv|-;split at hv
 .rename_i s b c;split at hv
  .rename_i hn;obtain⟨rfl,rfl,hn⟩:=hn;unfold Hq at hv;split at hv
   .rename_i v' hp;cases hv;refine pn (enters 125 Tryz.func125 rfl rfl) λφ h w bu hr hG ha=>?_
    obtain⟨cx,cy,cz,rfl,h1,h2,h3⟩:=CB ha;rw[hP h1,int_eq h2,int_eq h3];refine (Tryz.strconv_ParseInt_10_at64_ok ⟨s.toArray⟩ (by rw[Lib.size_eq];simp;omega) v' (by simpa using hp) w).mono λe w' ⟨he,hw⟩=>?_
    refine⟨?_,_,he,?_⟩
    .rcases hw with rfl|⟨t,rfl⟩
     .exact Below.refl _ _
     .exact Lib.bytesWorld_below _ _ _
    .refine .tuple _ _ rfl λj hj=>?_
     match j,hj with
     |0,_=>exact .int _ _
     |1,_=>exact .mR
   .rename_i hp;cases hv;refine pn (enters 125 Tryz.func125 rfl rfl) λφ h w bu hr hG ha=>?_
    obtain⟨cx,cy,cz,rfl,h1,h2,h3⟩:=CB ha;rw[hP h1,int_eq h2,int_eq h3];obtain⟨te,pe,tp⟩:=Vu hG;refine (Tryz.strconv_ParseInt_10_at64_range ⟨s.toArray⟩ (by rw[Lib.size_eq];simp;omega) (by simpa using hp) _ w tp (.inr ⟨te,pe,rfl⟩)).mono λe w' ⟨N,he,_,_,hw⟩=>?_
    refine⟨hw,_,he,?_⟩;refine .tuple _ _ rfl λj hj=>?_
    match j,hj with
    |0,_=>simpa using (RV.int (φ:=φ) (nx:=h.next) (pr:=Pr φ h w') (w:=w') .i64 (Lib.intSat 64 s))
    |1,_=>exact .iface _ _ _ (.undef _)
   .cases hv
  .cases hv
 .cases hv
def digits:List UInt8:=[48,49,50,51,52,53,54,55,56,57]
def GF(s:List UInt8):List UInt8:=(s.reverse.dropWhile (digits.contains ·)).reverse.dropWhile (digits.contains ·)
def trimS:aX:=⟨124,λ|[.str s,.str c]=>if s.length<9223372036854775807/\c=digits then some (.str (GF s)) else none|_=>none⟩
theorem IL:trimS.f=124:=(rfl)
theorem TL(s:List UInt8)(h:s.length<9223372036854775807):trimS.S [.str s,.str digits]=some (.str (GF s)):=if_pos ⟨h,rfl⟩
theorem Wn:aY Tryz.prog trimS:=λag v hv=>by
 unfold trimS at hv|-;dsimp only at hv|-;split at hv
 .rename_i s c;split at hv
  .rename_i hl;obtain⟨hl,rfl⟩:=hl;cases hv;refine GG (enters 124 Tryz.func124 rfl rfl) λw _=>(Any.strings_Trim_laid Tryz.Yk (by kernel_rfl) ⟨s.toArray⟩ ⟨digits.toArray⟩ w (by rw[Lib.size_eq];simp;omega) (by decide) (ascii_of_all (by decide))).mono λe w' ⟨h1,h2⟩=>⟨?_,h2⟩
   rw[h1];rfl
  .cases hv
 .cases hv
end
section
def eA(c:UInt8):Bool:=decide (48<=c.toNat)&&decide (c.toNat<=57)
def eh:List UInt8->Bool
 |[]=>true
 |c::r=>eA c&&eh r
@[irreducible] def adk(aB:Nat)(c:UInt8):Nat:=aB*10+(c.toNat-48)
theorem Yo(aB:Nat)(c:UInt8):adk aB c=aB*10+(c.toNat-48):=by unfold adk;rfl
def nT:Nat->List UInt8->Nat
 |aB,[]=>aB
 |aB,c::r=>nT (adk aB c) r
theorem uj(aB:Nat):nT aB []=aB:=by rw[nT]
theorem rh(aB:Nat)(c:UInt8)(r:List UInt8):nT aB (c::r)=nT (aB*10+(c.toNat-48)) r:=by rw[nT,Yo]
attribute [irreducible] nT
theorem Um(c:UInt8):digits.contains c=eA c:=by
 have h:∀n:Fin 256,digits.contains (UInt8.ofNat n.1)=eA (UInt8.ofNat n.1):=by decide+kernel
 have:=h ⟨c.toNat,c.toNat_lt⟩;simpa using this
theorem Dc:∀{l:List UInt8},eh l=true↔∀c∈l,eA c=true
 |[]=>by simp[eh]
 |x::r=>by simp[eh,Dc (l:=r)]
theorem dropWhile_nil{p:UInt8->Bool}:∀{l:List UInt8},l.dropWhile p=[]↔∀c∈l,p c=true
 |[]=>by simp
 |x::r=>by
   rw[List.dropWhile_cons];split
   .rename_i h;rw[dropWhile_nil];simp[h]
   .rename_i h;simp[h]
theorem GI(s:List UInt8):(GF s=[])↔eh s=true:=by
 unfold GF;have e:(λc=>digits.contains c)=eA:=funext Um;simp only[e];rw[Dc,dropWhile_nil];constructor
 .intro h c hc;have hs:s.reverse=s.reverse.takeWhile eA++s.reverse.dropWhile eA:=(List.takeWhile_append_dropWhile).symm;have WW:c∈s.reverse:=by simpa using hc
  rw[hs,List.mem_append] at WW;rcases WW with h1|h1
  .have key:∀(l:List UInt8),c∈l.takeWhile eA->eA c=true:=by
    intro l
    induction l with
    |nil=>simp
    |cons x r ih=>
      rw[List.takeWhile_cons];split
      .rename_i hx;intro hm;rcases List.mem_cons.1 hm with rfl|hm
       .exact hx
       .exact ih hm
      .simp
   exact key _ h1
  .exact h c (by simpa using h1)
 .intro h c hc
  have:c∈s:=by
   have h1:c∈s.reverse.dropWhile eA:=by simpa using hc
   have:=(List.dropWhile_sublist eA (l:=s.reverse)).subset h1;simpa using this
  exact h c this
theorem Ce:∀(l:List UInt8) (aB:Nat),aB<=nT aB l
 |[],aB=>by rw[uj];exact Nat.le_refl aB
 |c::r,aB=>by have:=Ce r (aB*10+(c.toNat-48));rw[rh];omega
theorem o6(M:Nat)(hM:M<=18446744073709551615):∀(l:List UInt8) (aB:Nat),eh l=true->nT aB l<=M->Lib.parseUintM M aB l=.ok (nT aB l)
 |[],aB,_,_=>by rw[uj,Lib.parseUintM]
 |c::r,aB,h,hv=>by simp only[eh,eA,Bool.and_eq_true,decide_eq_true_eq] at h;have h2:=Ce r (aB*10+(c.toNat-48));rw[rh] at hv|-;unfold Lib.parseUintM;rw[if_pos h.1,if_neg (by omega),if_neg (by omega),o6 M hM r _ h.2 hv]
def jf(s:List UInt8):Int×Int:=
 let d:=Lib.trimPrefix s [45]
 if d=[] then (0,2) else if eh d=false then (0,2) else match Lib.parseIntB 64 s with|.ok v=>(v,0)|_=>(0,3)
theorem EC(r:List UInt8):Lib.trimPrefix (45::r) [45]=r:=by simp[Lib.trimPrefix,Lib.hasPrefix]
theorem C2(c:UInt8)(r:List UInt8)(h:c≠45):Lib.trimPrefix (c::r) [45]=c::r:=by
 have:Lib.hasPrefix (c::r) [45]=false:=by simp[Lib.hasPrefix,List.isPrefixOf,Ne.symm h]
 simp[Lib.trimPrefix,this]
theorem UD:Lib.trimPrefix [] [45]=[]:=by decide
theorem ae3{c:UInt8}(h:c≠45):c.toNat≠45:=λh2=>h (UInt8.toNat_inj.1 h2)
theorem QD(r:List UInt8)(hr:r≠[])(hd:eh r=true)(hv:nT 0 r<=9223372036854775808):Lib.parseIntB 64 (45::r)=.ok (-(nT 0 r:Int)):=by have e:=o6 18446744073709551615 (Nat.le_refl _) r 0 hd (by omega);unfold Lib.parseIntB Lib.parseUintB;simp only[show (45:UInt8).toNat=45 from rfl,or_true,if_true,hr,if_false];rw[show (2^64-1:Nat)=18446744073709551615 by decide,e];simp only[not_true,false_and,if_false,true_and];rw[if_neg (by omega)]
theorem Q9(s:List UInt8)(hr:s≠[])(hd:eh s=true)(hv:nT 0 s<=9223372036854775807):Lib.parseIntB 64 s=.ok (nT 0 s:Int):=by
 cases s with
 |nil=>exact absurd rfl hr
 |cons c r=>
   have e:=o6 18446744073709551615 (Nat.le_refl _) (c::r) 0 hd (by omega)
   have hc:48<=c.toNat/\c.toNat<=57:=by simp only[eh,eA,Bool.and_eq_true,decide_eq_true_eq] at hd;exact hd.1
   unfold Lib.parseIntB Lib.parseUintB;simp only[show (c.toNat=43)=False from eq_false (by omega),show (c.toNat=45)=False from eq_false (by omega),or_false,if_false,hr];rw[show (2^64-1:Nat)=18446744073709551615 by decide,e];simp only[not_false_iff,true_and,false_and,if_false];rw[if_neg (by omega)]
def mG(c:UInt8):Bool:=decide (97<=c.toNat)&&decide (c.toNat<=122)
def l5(c:UInt8):Bool:=(decide (65<=c.toNat)&&decide (c.toNat<=90))||decide (c.toNat=95)
def jG(c:UInt8):Bool:=mG c||l5 c||eA c
def Fj:List UInt8:=[43,45,42,47,92,94,60,62,61,126,58,46,63,64,35,38,36]
def wP(c:UInt8):Bool:=Fj.any λd=>decide (d.toNat=c.toNat)
def kB(c:UInt8):Bool:=decide (c.toNat=32)||decide (c.toNat=9)||decide (c.toNat=10)||decide (c.toNat=13)
def uu:List UInt8:=[40,41,91,93,123,125,44,124]
def jD(c:UInt8):Bool:=uu.any λd=>decide (d.toNat=c.toNat)
def runN(p:UInt8->Bool):List UInt8->Nat
 |[]=>0
 |c::r=>if p c then runN p r+1 else 0
theorem kS(p:UInt8->Bool):∀l,runN p l<=l.length
 |[]=>Nat.le_refl _
 |c::r=>by
   unfold runN;split
   .have:=kS p r;simp;omega
   .simp
def gU(c:UInt8):Bool:=!decide (c.toNat=10)
def dE:Nat->List UInt8->Nat
 |0,_=>0
 |_+1,[]=>0
 |n+1,c::r=>if kB c then dE n r+1 else if c.toNat=37 then runN gU (c::r)+dE n ((c::r).drop (runN gU (c::r))) else 0
def ox:List UInt8->Bool
 |[]=>false
 |c::r=>decide (c.toNat=46)&&(match r with|[]=>true|d::_=>kB d||decide (d.toNat=37))
def mL:List UInt8->Nat
 |[]=>0
 |c::r=>if wP c&&!ox (c::r) then mL r+1 else 0
def wS(d:UInt8):Option UInt8:=if d.toNat=110 then some 10 else if d.toNat=116 then some 9 else if d.toNat=92 then some 92 else if d.toNat=39 then some 39 else none
def iJ:Nat->List UInt8->List UInt8->Nat->Option (List UInt8)×Nat
 |0,_,_,k=>(none,k)
 |_+1,[],_,k=>(none,k)
 |n+1,c::r,aB,k=>
   if c.toNat=39 then (match r with
    |d::r'=>if d.toNat=39 then iJ n r' (aB++[39]) (k+2) else (some aB,k+1)
    |[]=>(some aB,k+1))
   else if c.toNat<32\/126<c.toNat then (none,k)
   else if c.toNat=92 then (match r with
    |d::r'=>(match wS d with|some b=>iJ n r' (aB++[b]) (k+2)|none=>(none,k))
    |[]=>(none,k))
   else iJ n r (aB++[c]) (k+1)
section
variable {n j:Nat}{c d:UInt8}{r aB:List UInt8}
theorem Cg:iJ (n+1) [] aB j=(none,j):=by unfold iJ;rfl
theorem He(hc:c.toNat=39):iJ (n+1) [c] aB j=(some aB,j+1):=by unfold iJ;rw[if_pos hc]
theorem Iy(hc:c.toNat=39)(hd:d.toNat=39):iJ (n+1) (c::d::r) aB j=iJ n r (aB++[39]) (j+2):=by
 conv=>lhs;unfold iJ
 rw[if_pos hc];dsimp only;rw[if_pos hd]
theorem Ic(hc:c.toNat=39)(hd:¬d.toNat=39):iJ (n+1) (c::d::r) aB j=(some aB,j+1):=by unfold iJ;rw[if_pos hc];dsimp only;rw[if_neg hd]
theorem B7(hc:¬c.toNat=39)(h:c.toNat<32\/126<c.toNat):iJ (n+1) (c::r) aB j=(none,j):=by unfold iJ;rw[if_neg hc,if_pos h]
theorem HD(hc:c.toNat=92):iJ (n+1) [c] aB j=(none,j):=by unfold iJ;rw[if_neg (by omega),if_neg (by omega),if_pos hc]
theorem Iz{b:UInt8}(hc:c.toNat=92)(hd:wS d=some b):iJ (n+1) (c::d::r) aB j=iJ n r (aB++[b]) (j+2):=by
 conv=>lhs;unfold iJ
 rw[if_neg (by omega),if_neg (by omega),if_pos hc];dsimp only;rw[hd]
theorem Ib(hc:c.toNat=92)(hd:wS d=none):iJ (n+1) (c::d::r) aB j=(none,j):=by unfold iJ;rw[if_neg (by omega),if_neg (by omega),if_pos hc];dsimp only;rw[hd]
theorem Px(h1:¬c.toNat=39)(h2:¬(c.toNat<32\/126<c.toNat))(h3:¬c.toNat=92):iJ (n+1) (c::r) aB j=iJ n r (aB++[c]) (j+1):=by
 conv=>lhs;unfold iJ
 rw[if_neg h1,if_neg h2,if_neg h3]
theorem Ir:∀(n:Nat) (l aB:List UInt8) (j:Nat),l.length<n->(iJ n l aB j).2<=j+l.length/\j<=(iJ n l aB j).2
 |0,l,aB,j,h=>by omega
 |n+1,[],aB,j,_=>by rw[Cg];simp
 |n+1,c::r,aB,j,h=>by
   simp only[List.length_cons] at h|-;by_cases h1:c.toNat=39
   .cases r with
    |nil=>rw[He h1];simp
    |cons d r'=>
      simp only[List.length_cons] at h|-;by_cases h2:d.toNat=39
      .rw[Iy h1 h2];have:=Ir n r' (aB++[39]) (j+2) (by omega);omega
      .rw[Ic h1 h2];dsimp only;omega
   .by_cases h2:c.toNat<32\/126<c.toNat
    .rw[B7 h1 h2];dsimp only;omega
    .by_cases h3:c.toNat=92
     .cases r with
      |nil=>rw[HD h3];simp
      |cons d r'=>
        simp only[List.length_cons] at h|-
        cases hd:wS d with
        |none=>rw[Ib h3 hd];dsimp only;omega
        |some b=>rw[Iz h3 hd];have:=Ir n r' (aB++[b]) (j+2) (by omega);omega
     .rw[Px h1 h2 h3];have:=Ir n r (aB++[c]) (j+1) (by omega);omega
end
structure Tok where
 au:Int
 aD:List UInt8
 cF:Int
 jq:Bool
 aZ:Int
 deriving DecidableEq
def Tok.cells(t:Tok):List AV:=[.int .i64 t.au,.str t.aD,.int .i64 t.cF,.bool t.jq,.int .i64 t.aZ]
def Tok.aV(t:Tok):AV:=.agg t.cells
def kO:Tok:=⟨0,[],0,false,0⟩
def jg:List UInt8->Tok×Nat×Int
 |[]=>(kO,0,2)
 |c::r=>
   if mG c then (⟨1,(c::r).take (runN jG (c::r)),0,false,0⟩,runN jG (c::r),0)
   else if l5 c then (⟨3,(c::r).take (runN jG (c::r)),0,false,0⟩,runN jG (c::r),0)
   else if eA c then (⟨4,[],(jf ((c::r).take (runN eA (c::r)))).1,false,0⟩,runN eA (c::r),(jf ((c::r).take (runN eA (c::r)))).2)
   else if c.toNat=39 then (match iJ (r.length+1) r [] 1 with
    |(some t,k)=>(⟨2,t,0,false,0⟩,k,0)
    |(none,k)=>(kO,k,2))
   else if ox (c::r) then (⟨6,[],0,false,0⟩,1,0)
   else if wP c then (⟨1,(c::r).take (mL (c::r)),0,false,0⟩,mL (c::r),0)
   else if c.toNat=59\/c.toNat=33 then (⟨1,[c],0,false,0⟩,1,0)
   else (match r with
    |d::_=>if (c.toNat=91/\d.toNat=93)\/(c.toNat=123/\d.toNat=125) then (⟨1,[c,d],0,false,0⟩,2,0) else if jD c then (⟨5,[c],0,false,0⟩,1,0) else (kO,0,2)
    |[]=>if jD c then (⟨5,[c],0,false,0⟩,1,0) else (kO,0,2))
def qK:Nat->List UInt8->Nat->List Tok->List Tok×Int×Int
 |0,_,j,_=>([],j,3)
 |n+1,s,j,aB=>
   if s.length<=j then (aB,s.length,0)
   else if (jg (s.drop j)).2.2≠0 then ([],j,(jg (s.drop j)).2.2)
   else if (((jg (s.drop j)).1.au=1\/(jg (s.drop j)).1.au=2)/\64<(jg (s.drop j)).1.aD.length)\/aB.length=1024 then ([],j,3)
   else qK n s (j+(jg (s.drop j)).2.1+dE (s.length+1) (s.drop (j+(jg (s.drop j)).2.1)))
    (aB++[⟨(jg (s.drop j)).1.au,(jg (s.drop j)).1.aD,(jg (s.drop j)).1.cF,decide ((s[j+(jg (s.drop j)).2.1]?.map UInt8.toNat)=some 40),j⟩])
def a8(s:List UInt8):List Tok×Int×Int:=if 4096<s.length then ([],4096,3) else qK (s.length+1) s (dE (s.length+1) s) []
theorem pz{p:UInt8->Bool}{c:UInt8}{r:List UInt8}(h:p c=true):1<=runN p (c::r):=by unfold runN;rw[if_pos h];omega
theorem CI:∀l,mL l<=l.length
 |[]=>Nat.le_refl _
 |c::r=>by
   unfold mL;split
   .have:=CI r;simp;omega
   .simp
theorem rJ:∀l:List UInt8,(jg l).2.1<=l.length/\((jg l).2.2=0->1<=(jg l).2.1)
 |[]=>⟨Nat.le_refl _,λh=>by simp[jg] at h⟩
 |c::r=>by
   unfold jg;dsimp only;by_cases h1:mG c=true
   .rw[if_pos h1];exact⟨kS _ _,λ_=>pz (by unfold jG;rw[h1];rfl)⟩
   rw[if_neg h1];by_cases h2:l5 c=true
   .rw[if_pos h2];exact⟨kS _ _,λ_=>pz (by unfold jG;rw[h2];simp)⟩
   rw[if_neg h2];by_cases h3:eA c=true
   .rw[if_pos h3];exact⟨kS _ _,λ_=>pz h3⟩
   rw[if_neg h3];by_cases h4:c.toNat=39
   .rw[if_pos h4];obtain⟨b1,b2⟩:=Ir (r.length+1) r [] 1 (by omega);generalize iJ (r.length+1) r [] 1=q at *;obtain⟨a,k⟩:=q;have b3:k<=1+r.length:=b1;have b4:1<=k:=b2
    cases a with
    |none=>exact⟨(show k<=r.length+1 by omega),λh=>by simp at h⟩
    |some t=>exact⟨(show k<=r.length+1 by omega),λ_=>b4⟩
   rw[if_neg h4];by_cases h5:ox (c::r)=true
   .rw[if_pos h5];exact⟨by simp,λ_=>Nat.le_refl _⟩
   rw[if_neg h5];by_cases h6:wP c=true
   .rw[if_pos h6];refine⟨CI _,λ_=>?_⟩;unfold mL;rw[if_pos (by rw[h6];simp[h5])];omega
   rw[if_neg h6];by_cases h7:c.toNat=59\/c.toNat=33
   .rw[if_pos h7];exact⟨by simp,λ_=>Nat.le_refl _⟩
   rw[if_neg h7]
   cases r with
   |nil=>
     dsimp only;split
     .exact⟨by simp,λ_=>Nat.le_refl _⟩
     .exact⟨by simp,λh=>by simp at h⟩
   |cons d r'=>
     dsimp only;split
     .exact⟨by simp,λ_=>(show 1<=2 by omega)⟩
     .split
      .exact⟨by simp,λ_=>Nat.le_refl _⟩
      .exact⟨by simp,λh=>by simp at h⟩
structure bj where
 n:List UInt8
 k:List UInt8
 l:Int
def bj.cells(o:bj):List AV:=[.str o.n,.str o.k,.int .i64 o.l]
def bj.aV(o:bj):AV:=.agg o.cells
def nv:AV->Option bj
 |.agg [.str a,.str b,.int .i64 l]=>some ⟨a,b,l⟩
 |_=>none
def qh:List AV->Option (List bj)
 |[]=>some []
 |v::r=>match nv v,qh r with
   |some o,some os=>some (o::os)
   |_,_=>none
theorem MB(o:bj):nv o.aV=some o:=rfl
theorem pZ:∀l:List bj,qh (l.map bj.aV)=some l
 |[]=>rfl
 |o::r=>by show (match nv o.aV,qh (r.map bj.aV) with|some o,some os=>some (o::os)|_,_=>none)=_;rw[MB,pZ r]
theorem kR{v:AV}{o:bj}(h:nv v=some o):v=o.aV:=by
 unfold nv at h;split at h
 .cases h;rfl
 .cases h
theorem tg:∀{vs:List AV} {l:List bj},qh vs=some l->vs=l.map bj.aV
 |[],l,h=>by cases h;rfl
 |v::r,l,h=>by
   unfold qh at h;split at h
   .rename_i o os h1 h2;cases h;rw[kR h1,tg h2];rfl
   .cases h
theorem dy:∀l:List bj,AV.aw (l.map bj.aV)=0
 |[]=>rfl
 |o::r=>by simp[AV.aw,dy r,bj.aV,bj.cells,AV.aK]
theorem vG(l:List bj):∀x∈l.map bj.aV,Fl 3 x:=by intro x hx;obtain⟨o,_,rfl⟩:=List.mem_map.1 hx;exact⟨rfl,rfl,(λh=>by cases h),λ_=>rfl,rfl⟩
def gx(b:List UInt8):Bool:=b==[102,121]||b==[102,120]
def dq(b:List UInt8):Bool:=b==[120,102,120]||b==[120,102,121]||b==[121,102,120]
def uR:aX:=⟨106,λ|[v]=>(nv v).map λo=>.bool (gx o.k)|_=>none⟩
theorem iX:uR.f=106:=(rfl)
theorem vO(a b:List UInt8)(l:Int):uR.S [.agg [.str a,.str b,.int .i64 l]]=some (.bool (gx b)):=(rfl)
theorem AU:aY Tryz.prog uR:=λag v hv=>by
 unfold uR at hv|-;dsimp only at hv|-;split at hv
 .rename_i x;obtain⟨o,ho,rfl⟩:=Option.map_eq_some_iff.1 hv;rw[kR ho];refine bG (n:=5) (h':=h0) (bA (ss:=[]) (by simp)) ?_ rfl (by simp[AV.aw,AV.aK,bj.aV,bj.cells]);obtain⟨a,b,l⟩:=o;cases e1:b==[102,121]<;>cases e2:b==[102,120]<;>simp[adl,Y7,gx,bj.aV,bj.cells,e1,e2]
 .cases hv
def uN:aX:=⟨158,λ|[v]=>(nv v).map λo=>.bool (dq o.k)|_=>none⟩
theorem kq:uN.f=158:=(rfl)
theorem Jq(a b:List UInt8)(l:Int):uN.S [.agg [.str a,.str b,.int .i64 l]]=some (.bool (dq b)):=(rfl)
theorem KJ:aY Tryz.prog uN:=λag v hv=>by
 unfold uN at hv|-;dsimp only at hv|-;split at hv
 .rename_i x;obtain⟨o,ho,rfl⟩:=Option.map_eq_some_iff.1 hv;rw[kR ho];refine bG (n:=5) (h':=h0) (bA (ss:=[]) (by simp)) ?_ rfl (by simp[AV.aw,AV.aK,bj.aV,bj.cells]);obtain⟨a,b,l⟩:=o;cases e1:b==[120,102,120]<;>cases e2:b==[120,102,121]<;>cases e3:b==[121,102,120]<;>simp[acu,Yr,dq,bj.aV,bj.cells,e1,e2,e3]
 .cases hv
def mS(a b:List UInt8)(l:Int):Bool:=
 if a==[44] then b==[120,102,121]&&decide (l=1000)
 else if a==[] then false else if decide (64<a.length) then false else if a==[124] then false else if a==[91,93] then false else if a==[123,125] then false
 else (dq b||gx b)&&decide (1<=l)&&decide (l<=1200)
def N6:aX:=⟨118,λ|[v]=>(nv v).map λo=>.bool (mS o.n o.k o.l)|_=>none⟩
theorem xe:N6.f=118:=(rfl)
theorem Zy(a b:List UInt8)(l:Int):N6.S [.agg [.str a,.str b,.int .i64 l]]=some (.bool (mS a b l)):=(rfl)
theorem Zp:aY Tryz.prog N6:=λag v hv=>by
 unfold N6 at hv|-;dsimp only at hv|-;split at hv
 .rename_i x;obtain⟨o,ho,rfl⟩:=Option.map_eq_some_iff.1 hv;rw[kR ho];refine bG (n:=20) (h':=h0) (bA (ss:=[uR,uN]) (by simp[AU,KJ])) ?_ rfl (by simp[AV.aw,AV.aK,bj.aV,bj.cells]);obtain⟨a,b,l⟩:=o;have hA:=vO a b l;have hB:=Jq a b l
  have hl:decide ((64:Int)<(a.length:Int))=decide (64<a.length):=by congr 1;exact propext ⟨λh=>by omega,λh=>by omega⟩
  cases e1:a==[44] with
  |true=>cases e2:b==[120,102,121]<;>simp[iX,kq,w7,Fg,mS,bj.aV,bj.cells,e1,e2]
  |false=>
  cases e2:a==[] with
  |true=>simp[iX,kq,w7,Fg,mS,bj.aV,bj.cells,e1,e2]
  |false=>
  cases e3:decide (64<a.length) with
  |true=>simp[iX,kq,w7,Fg,mS,bj.aV,bj.cells,e1,e2,e3,hl]
  |false=>
  cases e4:a==[124] with
  |true=>simp[iX,kq,w7,Fg,mS,bj.aV,bj.cells,e1,e2,e3,hl,e4,ID,Hk,c157,L4,zb,xN,ak]
  |false=>
  cases e5:a==[91,93] with
  |true=>simp[iX,kq,w7,Fg,mS,bj.aV,bj.cells,e1,e2,e3,hl,e4,e5,ID,Hk,c157,L4,zb,xN,ak,IntKind.wrap,IntKind.signed,IntKind.bits]
  |false=>
  cases e6:a==[123,125] with
  |true=>simp[iX,kq,w7,Fg,mS,bj.aV,bj.cells,e1,e2,e3,hl,e4,e5,e6,ID,Hk,c157,L4,zb,xN,ak,IntKind.wrap,IntKind.signed,IntKind.bits]
  |false=>
  cases e7:dq b<;>cases e8:gx b<;>cases e9:decide (1<=l)<;>simp only[e7,e8] at hA hB<;>
   simp[iX,kq,w7,Fg,mS,bj.aV,bj.cells,e1,e2,e3,hl,e4,e5,e6,e7,e8,e9,hA,hB,iX,kq,ID,Hk,c157,L4,zb,xN,ak,IntKind.wrap,IntKind.signed,IntKind.bits]
 .cases hv
def fm{α:Type}(p:α->Bool):List α->Option Nat
 |[]=>none
 |x::r=>if p x then some 0 else (fm p r).map (·+1)
theorem qY{α:Type}{p:α->Bool}:∀{l:List α} {i:Nat},fm p l=some i->i<l.length
 |[],i,h=>by cases h
 |x::r,i,h=>by
   simp only[fm] at h;split at h
   .cases h;simp
   .obtain⟨j,hj,rfl⟩:=Option.map_eq_some_iff.1 h;have:=qY hj;simp;omega
def n8(a b:bj):Bool:=a.n==b.n&&gx a.k==gx b.k
def xv:aX:=⟨117,λ|[v,w]=>(match nv v,nv w with|some a,some b=>some (.bool (n8 a b))|_,_=>none)|_=>none⟩
theorem pd:xv.f=117:=(rfl)
theorem QI(a b:List UInt8)(l:Int)(a' b':List UInt8)(l':Int):xv.S [.agg [.str a,.str b,.int .i64 l],.agg [.str a',.str b',.int .i64 l']]=some (.bool (n8 ⟨a,b,l⟩ ⟨a',b',l'⟩)):=(rfl)
theorem QN:aY Tryz.prog xv:=λag v hv=>by
 unfold xv at hv|-;dsimp only at hv|-;split at hv
 .rename_i x y;split at hv
  .rename_i o p h1 h2;cases hv;rw[kR h1,kR h2];refine bG (n:=5) (h':=h0) (bA (ss:=[uR]) (by simp[AU])) ?_ rfl (by simp[AV.aw,AV.aK,bj.aV,bj.cells]);obtain⟨a,b,l⟩:=o;obtain⟨a',b',l'⟩:=p;have hA:=vO a b l;have hB:=vO a' b' l';cases e1:a==a'<;>simp[adU,c117,bj.aV,bj.cells,n8,e1,hA,hB,iX]
  .cases hv
 .cases hv
theorem FC(C:Nat->List AV->ai->Option (AV×ai))(n:Nat)(l:List bj)(g:Nat)(bC:List AV)(hn:Nat)(os:List bp)(p:bj->Bool)(mW:AV.aw bC<=hn)(hl:l.length<4611686018427387904)
 (hg:∀o∈l,C g (.agg [.str o.n,.str o.k,.int .i64 o.l]::bC) ⟨hn,os,hn,hn⟩=some (.bool (p o),⟨hn,os,hn,hn⟩)):∀post pre m,l=pre++post->post.length<m->
 bL (aH C n vW) qe hn m (XK (.sl (l.map bj.aV)) (.fn g bC) (.int .i64 l.length) (.int .i64 pre.length)) ⟨hn,os,hn,hn⟩=
  match fm p post with
  |some i=>some (.ret,FM 19 [(4,.int .i64 (pre.length+i:Nat))],⟨hn,os,hn,hn⟩)
  |none=>some (.exit 0,FM 19 [],⟨hn,os,hn,hn⟩)
 |[],pre,m+1,e,_=>by subst e;have h5:AV.aw (pre.map bj.aV)=0:=dy _;simp[fm,ak,vW,h5]
 |o::post,pre,m+1,e,hm=>by
   have ho:=hg o (by simp[e]);have ih:=FC C n l g bC hn os p mW hl hg post (pre++[o]) m (by simp[e]) (by rw[List.length_cons] at hm;omega);have h1:l[pre.length]? =some o:=by rw[e];simp
   have h3:IntKind.i64.wrap ((pre.length:Int)+1)=(pre.length:Int)+1:=by rw[mm (by rw[e] at hl;simp at hl;omega)];simp
   have h4:o.aV=.agg [.str o.n,.str o.k,.int .i64 o.l]:=rfl;have h5:AV.aw (l.map bj.aV)=0:=dy l;have h6:((pre.length:Int)<(l.length:Int))=True:=eq_true (by rw[e,List.length_append,List.length_cons];omega);simp only[List.length_append,List.length_cons,List.length_nil,Nat.zero_add,Int.natCast_add,Int.natCast_one] at ih;rw[ak]
   cases hp:p o with
   |true=>rw[hp] at ho;simp[fm,vW,qe,ho,h1,h3,h4,h5,h6,hp,mW]
   |false=>
     rw[hp] at ho;simp[fm,vW,qe,ho,h1,h3,h4,h5,h6,hp,mW];refine Eq.trans ih ?_
     cases fm p post with
     |none=>rfl
     |some i=>show some (Ex.ret,FM 19 [(4,AV.int .i64 ((pre.length+1+i:Nat):Int))],_)=some (Ex.ret,FM 19 [(4,AV.int .i64 ((pre.length+(i+1):Nat):Int))],_);rw[show pre.length+(i+1)=pre.length+1+i by omega]
def BG:Option Nat->Int
 |some i=>i
 |none=>-1
theorem wD(ss:List aX)(n:Nat)(l:List bj)(g:Nat)(bC:List AV)(hn:Nat)(os:List bp)(wl md:Nat)(p:bj->Bool)(mW:AV.aw bC<=hn)(hl:l.length<4611686018427387904)(hm:l.length<n)
 (hg:∀o∈l,aF (cY ss) n g (.agg [.str o.n,.str o.k,.int .i64 o.l]::bC) ⟨hn,os,hn,hn⟩=some (.bool (p o),⟨hn,os,hn,hn⟩)):
 dS ss n 104 [.sl (l.map bj.aV),.fn g bC] ⟨hn,os,wl,md⟩=some (.int .i64 (BG (fm p l)),⟨hn,os,wl,md⟩):=by
 have h:=FC (aF (cY ss) n) n l g bC hn os p mW hl hg l [] n rfl hm;simp only[List.length_nil,qe,Int.natCast_zero] at h;have h5:AV.aw (l.map bj.aV)=0:=dy l
 cases hf:fm p l with
 |none=>rw[hf] at h;simp[N2,Rq,qe,h5,mW,h,BG]
 |some i=>rw[hf] at h;simp only[Nat.zero_add] at h;simp[N2,Rq,qe,h5,mW,h,BG]
def mZ:List bj->List bj->Bool
 |_,[]=>true
 |pre,o::post=>if !mS o.n o.k o.l then false else if (fm (λx=>n8 x o) pre).isSome then false else mZ (pre++[o]) post
def ew(l:List bj):Bool:=decide (l.length<=128)&&mZ [] l
theorem Kx(l:List bj)(n:Nat)(hl:l.length<4611686018427387904)(hn:l.length<n):∀post pre m,l=pre++post->post.length<m->
 ∃md,gu 1 0 (bL (aH (aF (cY [N6,xv]) (n+10)) (n+10) xx) sQ 1 m (Wh (.ptr 0 0) (.sl (l.map bj.aV)) (.int .i64 l.length) (.int .i64 pre.length)) ⟨1,[.row [.sl (l.map bj.aV)]],1,0⟩)=
   some (if mZ pre post then .exit 0 else .ret,if mZ pre post then FM 31 [] else FM 31 [(2,.bool false)],⟨1,[.row [.sl (l.map bj.aV)]],0,md⟩)
 |[],pre,m+1,e,_=>by subst e;exact⟨0,by simp[mZ,ak,xx]⟩
 |o::post,pre,m+1,e,hm=>by
   obtain⟨md,ih⟩:=Kx l n hl hn post (pre++[o]) m (by simp[e]) (by rw[List.length_cons] at hm;omega);refine⟨if !mS o.n o.k o.l then 0 else if (fm (λx=>n8 x o) pre).isSome then 0 else md,?_⟩;have h1:l[pre.length]? =some o:=by rw[e];simp
   have h3:IntKind.i64.wrap ((pre.length:Int)+1)=(pre.length:Int)+1:=by rw[mm (by rw[e] at hl;simp at hl;omega)];simp
   have h4:o.aV=.agg [.str o.n,.str o.k,.int .i64 o.l]:=rfl;have h5:AV.aw (l.map bj.aV)=0:=dy l;have h6:((pre.length:Int)<(l.length:Int))=True:=eq_true (by rw[e,List.length_append,List.length_cons];omega);have h7:l.take pre.length=pre:=by rw[e];simp
   have h8:=J7 (vG l);have h9:pre.length<=l.length:=by rw[e];simp
   have hM:=Zy o.n o.k o.l
   have hf:=wD [N6,xv] (n+8) pre 116 [.ptr 1 0] 2 [.row [.str o.n,.str o.k,.int .i64 o.l],.row [.sl (l.map bj.aV)]] 2 2 (λx=>n8 x o) (by simp[AV.aw,AV.aK]) (by omega) (by omega)
    (λx hx=>by have hA:=QI x.n x.k x.l o.n o.k o.l;simp[acJ,c116,hA,pd,xe])
   simp only[List.length_append,List.length_cons,List.length_nil,Nat.zero_add,Int.natCast_add,Int.natCast_one] at ih;rw[ak]
   cases hm:mS o.n o.k o.l with
   |false=>rw[hm] at hM;simp[mZ,xx,sQ,h1,h3,h4,h5,h6,hm,hM,xe,pd]
   |true=>
     rw[hm] at hM
     cases hs:fm (λx=>n8 x o) pre with
     |none=>rw[hs] at hf;simp[mZ,xx,sQ,h1,h3,h4,h5,h6,hm,hM,hs,h8,h9,h7,hf,BG,xe,pd,jc,sliceB,U9,c119,<-List.map_take];exact ih
     |some i=>rw[hs] at hf;simp[mZ,xx,sQ,h1,h3,h4,h5,h6,hm,hM,hs,h8,h9,h7,hf,BG,xe,pd,jc,sliceB,U9,c119,<-List.map_take]
def sB:aX:=⟨70,λ|[.agg [.sl xs]]=>(match qh xs with|some l=>if l.length<4611686018427387904 then some (.bool (ew l)) else none|none=>none)|_=>none⟩
theorem va:sB.f=70:=(rfl)
theorem Ez(l:List bj)(h:l.length<4611686018427387904):sB.S [.agg [.sl (l.map bj.aV)]]=some (.bool (ew l)):=by simp only[sB,pZ,if_pos h]
theorem Ev:aY Tryz.prog sB:=λag v hv=>by
 unfold sB at hv|-;dsimp only at hv|-;split at hv
 .rename_i xs;split at hv
  .rename_i l hd;split at hv
   .rename_i hl;cases hv;rw[tg hd];refine bG (n:=l.length+12) (h':=h0) (bA (ss:=[N6,xv]) (by simp[Zp,QN])) ?_ rfl (by simp[AV.aw,AV.aK,dy]);have h5:AV.aw (l.map bj.aV)=0:=dy l;by_cases h:l.length<=128
    .obtain⟨md,e⟩:=Kx l (l.length+1) hl (by omega) l [] (l.length+11) rfl (by omega);simp only[List.length_nil,sQ,Wh,Int.natCast_zero] at e;have hd:((128:Int)<(l.length:Int))=False:=eq_false (by omega)
     cases hg:mZ [] l with
     |true=>rw[hg] at e;simp only[if_true] at e;simp[Pt,c70,sQ,h5,e,ew,h,hd,hg,xe,pd]
     |false=>rw[hg] at e;simp only[Bool.false_eq_true,if_false] at e;simp[Pt,c70,sQ,h5,e,ew,h,hd,hg,xe,pd]
    .have hd:((128:Int)<(l.length:Int))=True:=eq_true (by omega);simp[Pt,c70,ew,h,hd,xe,pd]
   .cases hv
  .cases hv
 .cases hv
def gX:bj:=⟨[],[],0⟩
def bd(l:List bj)(bH:List UInt8)(ahead:Bool):bj×Bool:=
 match fm (λo=>o.n==bH&&gx o.k==ahead) l with
 |none=>(gX,false)
 |some i=>if ew l then (l.getD i gX,true) else (gX,false)
def Pn:aX:=⟨63,λ|[.agg [.sl xs],.str s,.bool b]=>(match qh xs with|some l=>if l.length<4611686018427387904 then some (.tuple [(bd l s b).1.aV,.bool (bd l s b).2]) else none|none=>none)|_=>none⟩
theorem TY(l:List bj)(s:List UInt8)(b:Bool)(h:l.length<4611686018427387904):Pn.S [.agg [.sl (l.map bj.aV)],.str s,.bool b]=some (.tuple [(bd l s b).1.aV,.bool (bd l s b).2]):=by simp only[Pn,pZ,if_pos h]
theorem Ut:aY Tryz.prog Pn:=λag v hv=>by
 unfold Pn at hv|-;dsimp only at hv|-;split at hv
 .rename_i xs s b;split at hv
  .rename_i l hd;split at hv
   .rename_i hl;cases hv;rw[tg hd];refine bG (n:=l.length+12) (h':=h0) (bA (ss:=[uR,sB]) (by simp[AU,Ev])) ?_ (by simp[AV.aK,AV.aw,bj.aV,bj.cells]) (by simp[AV.aw,AV.aK,dy]);have h5:AV.aw (l.map bj.aV)=0:=dy l
    have hf:=wD [uR,sB] (l.length+10) l 105 [.ptr 1 0,.ptr 2 0] 4 [.row [.str [],.str [],.int .i64 0],.row [.bool b],.row [.str s],.row [.sl (l.map bj.aV)]] 0 0 (λo=>o.n==s&&gx o.k==b) (by simp[AV.aw,AV.aK]) hl (by omega)
     (λx hx=>by have hA:=vO x.n x.k x.l;cases e1:x.n==s<;>simp[abd,c105,e1,hA,iX,va])
    have hg:=Ez l hl
    cases hs:fm (λo=>o.n==s&&gx o.k==b) l with
    |none=>rw[hs] at hf;simp[OV,c63,hf,bd,hs,bj.aV,bj.cells,gX,BG,iX,va]
    |some i=>
      rw[hs] at hf;have hi:=qY hs;have h1:l[i]? =some l[i]:=List.getElem?_eq_getElem hi;have h4:l[i].aV=.agg [.str l[i].n,.str l[i].k,.int .i64 l[i].l]:=rfl;have fy:((i:Int)<0)=False:=eq_false (by omega);have zj:l.getD i gX=l[i]:=by simp[List.getD,h1]
      cases hgk:ew l with
      |false=>rw[hgk] at hg;simp[OV,c63,hf,bd,hs,bj.aV,bj.cells,gX,hg,hgk,fy,BG,iX,va]
      |true=>rw[hgk] at hg;simp[OV,c63,hf,bd,hs,hg,hgk,h1,h4,fy,zj,BG,iX,va]
   .cases hv
  .cases hv
 .cases hv
def ba:AV->Option (List bj)
 |.aJ=>some []
 |.sl xs=>qh xs
 |_=>none
theorem gH{x:AV}{l:List bj}(h:ba x=some l):(x=.aJ/\l=[])\/x=.sl (l.map bj.aV):=by
 cases x<;>simp[ba] at h
 .exact .inl ⟨rfl,h⟩
 .exact .inr (by rw[tg h])
theorem fL{x:AV}{l:List bj}(h:ba x=some l):x.aK=0:=by
 rcases gH h with⟨rfl,_⟩|rfl
 .rfl
 .simp[AV.aK,dy]
theorem Ad(l:List bj):ba (.sl (l.map bj.aV))=some l:=pZ l
def MW:aX:=⟨70,λ|[.agg [.aJ]]=>some (.bool true)|_=>none⟩
theorem RR:MW.S [.agg [.aJ]]=some (.bool true):=(rfl)
theorem RT:aY Tryz.prog MW:=λag v hv=>by
 unfold MW at hv|-;dsimp only at hv|-;split at hv
 .cases hv;refine bG (n:=10) (h':=h0) (bA (ss:=[]) (by simp)) ?_ rfl rfl;simp[Pt,c70,sQ,xx,ak]
 .cases hv
def NX:aX:=⟨63,λ|[.agg [.aJ],.str _,.bool _]=>some (.tuple [gX.aV,.bool false])|_=>none⟩
theorem Q0(s:List UInt8)(b:Bool):NX.S [.agg [.aJ],.str s,.bool b]=some (.tuple [gX.aV,.bool false]):=(rfl)
theorem Qy:aY Tryz.prog NX:=λag v hv=>by
 unfold NX at hv|-;dsimp only at hv|-;split at hv
 .cases hv;refine bG (n:=10) (h':=h0) (bA (ss:=[]) (by simp)) ?_ rfl (by simp[AV.aw,AV.aK]);simp[OV,c63,N2,Rq,qe,vW,ak,gX,bj.aV,bj.cells]
 .cases hv
def r9:aX:=⟨70,λ|[.agg [x]]=>(match ba x with|some l=>if l.length<4611686018427387904 then some (.bool (ew l)) else none|none=>none)|_=>none⟩
theorem Am:r9.f=70:=(rfl)
theorem Ea{x:AV}{l:List bj}(hx:ba x=some l)(h:l.length<4611686018427387904):r9.S [.agg [x]]=some (.bool (ew l)):=by simp only[r9,hx,if_pos h]
theorem EH:aY Tryz.prog r9:=λag v hv=>by
 unfold r9 at hv|-;dsimp only at hv|-;split at hv
 .split at hv
  .rename_i l hd;split at hv
   .rename_i hl;cases hv;rcases gH hd with⟨rfl,rfl⟩|rfl
    .exact RT _ _ RR
    .exact Ev _ _ (Ez l hl)
   .cases hv
  .cases hv
 .cases hv
def wW:aX:=⟨63,λ|[.agg [x],.str s,.bool b]=>(match ba x with|some l=>if l.length<4611686018427387904 then some (.tuple [(bd l s b).1.aV,.bool (bd l s b).2]) else none|none=>none)|_=>none⟩
theorem J3:wW.f=63:=(rfl)
theorem FJ{x:AV}{l:List bj}(hx:ba x=some l)(s:List UInt8)(b:Bool)(h:l.length<4611686018427387904):wW.S [.agg [x],.str s,.bool b]=some (.tuple [(bd l s b).1.aV,.bool (bd l s b).2]):=by simp only[wW,hx,if_pos h]
theorem FE:aY Tryz.prog wW:=λag v hv=>by
 unfold wW at hv|-;dsimp only at hv|-;split at hv
 .split at hv
  .rename_i l hd;split at hv
   .rename_i hl;cases hv;rcases gH hd with⟨rfl,rfl⟩|rfl
    .exact Qy _ _ (Q0 _ _)
    .exact Ut _ _ (TY l _ _ hl)
   .cases hv
  .cases hv
 .cases hv
def Ox:aX:=⟨29,λ|[.agg [x],.str s]=>(match ba x with|some l=>if l.length<4611686018427387904 then some (.tuple [(bd l s false).1.aV,.bool (bd l s false).2]) else none|none=>none)|_=>none⟩
theorem kH:Ox.f=29:=(rfl)
theorem H9{x:AV}{l:List bj}(hx:ba x=some l)(s:List UInt8)(h:l.length<4611686018427387904):Ox.S [.agg [x],.str s]=some (.tuple [(bd l s false).1.aV,.bool (bd l s false).2]):=by simp only[Ox,hx,if_pos h]
theorem N8:aY Tryz.prog Ox:=λag v hv=>by
 unfold Ox at hv|-;dsimp only at hv|-;split at hv
 .rename_i x s;split at hv
  .rename_i l hd;split at hv
   .rename_i hl;cases hv;have hr:=fL hd;refine bG (n:=6) (h':=h0) (bA (ss:=[wW]) (by simp[FE])) ?_ (by simp[AV.aK,AV.aw,bj.aV,bj.cells]) (by simp[AV.aw,AV.aK,hr]);have q:=FJ hd s false hl;simp only[bj.aV,bj.cells] at q|-;rcases gH hd with⟨rfl,rfl⟩|rfl
    all_goals simp[af3,c29,J3,q]
   .cases hv
  .cases hv
 .cases hv
def tM:aX:=⟨30,λ|[.agg [x],.str s]=>(match ba x with|some l=>if l.length<4611686018427387904 then some (.tuple [(bd l s true).1.aV,.bool (bd l s true).2]) else none|none=>none)|_=>none⟩
theorem kN:tM.f=30:=(rfl)
theorem IK{x:AV}{l:List bj}(hx:ba x=some l)(s:List UInt8)(h:l.length<4611686018427387904):tM.S [.agg [x],.str s]=some (.tuple [(bd l s true).1.aV,.bool (bd l s true).2]):=by simp only[tM,hx,if_pos h]
theorem Pe:aY Tryz.prog tM:=λag v hv=>by
 unfold tM at hv|-;dsimp only at hv|-;split at hv
 .rename_i x s;split at hv
  .rename_i l hd;split at hv
   .rename_i hl;cases hv;have hr:=fL hd;refine bG (n:=6) (h':=h0) (bA (ss:=[wW]) (by simp[FE])) ?_ (by simp[AV.aK,AV.aw,bj.aV,bj.cells]) (by simp[AV.aw,AV.aK,hr]);have q:=FJ hd s true hl;simp only[bj.aV,bj.cells] at q|-;rcases gH hd with⟨rfl,rfl⟩|rfl
    all_goals simp[agF,c30,J3,q]
   .cases hv
  .cases hv
 .cases hv
def aA(o:bj):Int×Int:=
 if o.k=[120,102,120] then (o.l-1,o.l-1) else if o.k=[120,102,121] then (o.l-1,o.l) else if o.k=[121,102,120] then (o.l,o.l-1)
 else if o.k=[102,121] then (0,o.l) else if o.k=[102,120] then (0,o.l-1) else (0,0)
def An:aX:=⟨122,λ|[v]=>(match nv v with|some o=>if 0<=o.l/\o.l<=1200 then some (.tuple [.int .i64 (aA o).1,.int .i64 (aA o).2]) else none|none=>none)|_=>none⟩
theorem Dm:An.f=122:=(rfl)
theorem np(o:bj)(h:0<=o.l/\o.l<=1200):An.S [.agg [.str o.n,.str o.k,.int .i64 o.l]]=some (.tuple [.int .i64 (aA o).1,.int .i64 (aA o).2]):=if_pos h
theorem GQ:aY Tryz.prog An:=λag v hv=>by
 unfold An at hv|-;dsimp only at hv|-;split at hv
 .rename_i x;split at hv
  .rename_i o hd;split at hv
   .rename_i hl;cases hv;rw[kR hd];refine bG (n:=6) (h':=h0) (bA (ss:=[]) (by simp)) ?_ (by simp[AV.aK,AV.aw]) (by simp[AV.aw,AV.aK,bj.aV,bj.cells]);have w:IntKind.i64.wrap (o.l-1)=o.l-1:=wrap_i64 (by omega) (by omega);obtain⟨n,k,l⟩:=o;dsimp only at w;have hb:∀a b:List UInt8,a≠b->(a==b)=false:=λa b h=>by simpa using h
    unfold aA;dsimp only;by_cases h1:k=[120,102,120]
    .subst h1;simp[zV,HZ,bj.aV,bj.cells,w]
    rw[if_neg h1];have e1:=hb _ _ h1;by_cases h2:k=[120,102,121]
    .subst h2;simp[zV,HZ,bj.aV,bj.cells,w]
    rw[if_neg h2];have e2:=hb _ _ h2;by_cases h3:k=[121,102,120]
    .subst h3;simp[zV,HZ,bj.aV,bj.cells,w]
    rw[if_neg h3];have e3:=hb _ _ h3;by_cases h4:k=[102,121]
    .subst h4;simp[zV,HZ,bj.aV,bj.cells,w]
    rw[if_neg h4];have e4:=hb _ _ h4;by_cases h5:k=[102,120]
    .subst h5;simp[zV,HZ,bj.aV,bj.cells,w]
    rw[if_neg h5];have e5:=hb _ _ h5;simp[zV,HZ,bj.aV,bj.cells,w,h1,h2,h3,h4,h5,e1,e2,e3,e4,e5]
   .cases hv
  .cases hv
 .cases hv
theorem OD{a b:List UInt8}{l:Int}(h:mS a b l=true):1<=l/\l<=1200:=by
 unfold mS at h;split at h
 .simp only[Bool.and_eq_true,decide_eq_true_eq] at h;omega
 .simp at h;omega
theorem GO:∀(post pre:List bj),mZ pre post=true->∀o∈post,mS o.n o.k o.l=true
 |[],_,_,o,h=>by simp at h
 |x::r,pre,hg,o,h=>by
   unfold mZ at hg
   cases hm:mS x.n x.k x.l with
   |false=>rw[hm] at hg;simp at hg
   |true=>
     rw[hm] at hg;simp only[Bool.not_true,Bool.false_eq_true,if_false] at hg;split at hg
     .cases hg
     .rcases List.mem_cons.1 h with rfl|h
      .exact hm
      .exact GO r _ hg o h
theorem CF{l:List bj}(h:ew l=true):∀o∈l,mS o.n o.k o.l=true:=by unfold ew at h;rw[Bool.and_eq_true] at h;exact GO l [] h.2
theorem me(l:List bj)(s:List UInt8)(b:Bool):0<=(bd l s b).1.l/\(bd l s b).1.l<=1200:=by
 unfold bd;split
 .exact⟨Int.le_refl 0,by simp[gX]⟩
 .rename_i i hi;split
  .rename_i hg;have cR:=qY hi;have hd:l.getD i gX=l[i]:=by simp[List.getD,List.getElem?_eq_getElem cR]
   dsimp only;rw[hd];have:=OD (CF hg l[i] (List.getElem_mem cR));omega
  .exact⟨Int.le_refl 0,by simp[gX]⟩
structure qQ where
 au:Int
 aD:List UInt8
 cF:Int
 jq:Bool
 adj:Bool
def VD:qQ:=⟨0,[],0,false,false⟩
def YQ(t:Tok):List Tok->Bool
 |[]=>false
 |u::_=>decide (u.aZ=t.aZ+1)
def mT:List Tok->List qQ
 |[]=>[]
 |t::r=>⟨t.au,t.aD,t.cF,t.jq,YQ t r⟩::mT r
theorem eZ:∀l,(mT l).length=l.length
 |[]=>rfl
 |t::r=>by simp[mT,eZ r]
theorem Gn:∀(l:List Tok) (k:Nat),(mT l).drop k=mT (l.drop k)
 |[],k=>by simp[mT]
 |t::r,0=>rfl
 |t::r,k+1=>by show (mT r).drop k=mT (r.drop k);exact Gn r k
structure St where
 aZ:Nat
 aC:List qQ
 next:Nat
 aa:List (List UInt8×Int)
def aL(st:St):qQ:=st.aC.headD VD
def aq(st:St):St:=⟨st.aZ+1,st.aC.tail,st.next,st.aa⟩
def fE(x:qQ):Bool:=decide (x.au=1)||decide (x.au=2)
def dM(T:List bj)(x:qQ):bj×Bool:=if !fE x&&(!decide (x.au=5)||!decide (x.aD=[44])) then (gX,false) else bd T x.aD false
abbrev PR:=Tm×Int×Bool
def lh:Tm:=.nl 0 0 []
def gk(s:List UInt8):Tm:=.nl 2 0 s
def ax(s:List UInt8)(st:St):Bool×St:=if (aL st).au=5/\(aL st).aD=s then (true,aq st) else (false,st)
def mK(s:List UInt8):List (List UInt8×Int)->Option Int
 |[]=>none
 |p::r=>if p.1=s then some p.2 else mK s r
def jJ(s:List UInt8)(st:St):Tm×St:=match mK s st.aa with
 |some n=>(.nl 0 n [],st)
 |none=>(.nl 0 st.next [],⟨st.aZ,st.aC,st.next+1,if s=[95] then st.aa else st.aa++[(s,(st.next:Int))]⟩)
def iB(T:List bj)(st:St):Bool:=
 if (aL st).au=0\/(aL st).au=6 then false
 else if (aL st).au=5 then decide ((aL st).aD=[40])||decide ((aL st).aD=[91])||decide ((aL st).aD=[123])
 else if !fE (aL st)||(aL st).jq then true
 else !(bd T (aL st).aD false).2||(bd T (aL st).aD true).2
section
variable (rec:Int->St->PR×St)
def bQ:Nat->List Tm->St->(List Tm×Bool)×St
 |0,aB,st=>((aB,false),st)
 |M+1,aB,st=>
   if (rec 999 st).1.2.2 then
    (if (ax [44] (rec 999 st).2).1 then bQ M (aB++[(rec 999 st).1.1]) (ax [44] (rec 999 st).2).2
     else ((aB++[(rec 999 st).1.1],true),(rec 999 st).2))
   else ((aB,false),(rec 999 st).2)
def nR(l:List Tm)(st:St):(Tm×Bool)×St:=
 if (ax [124] st).1 then
  (if (rec 999 (ax [124] st).2).1.2.2 then ((dm l (rec 999 (ax [124] st).2).1.1,(ax [93] (rec 999 (ax [124] st).2).2).1),(ax [93] (rec 999 (ax [124] st).2).2).2)
   else ((dm l (rec 999 (ax [124] st).2).1.1,false),(rec 999 (ax [124] st).2).2))
 else ((dm l (gk [91,93]),(ax [93] st).1),(ax [93] st).2)
def nc(M:Nat)(st:St):(Tm×Bool)×St:=
 if (bQ rec M [] st).1.2 then nR rec (bQ rec M [] st).1.1 (bQ rec M [] st).2
 else ((gk [91,93],false),(bQ rec M [] st).2)
def KD(T:List bj)(s:List UInt8):Int:=max (bd T s false).1.l (bd T s true).1.l
def dt(T:List bj)(x:qQ)(n:Int)(st:St):PR×St:=
 if x.au=2 then ((gk x.aD,0,true),st)
 else if (bd T x.aD true).2&&decide ((bd T x.aD true).1.l<=n)&&iB T st then
  ((bM x.aD [(rec (aA (bd T x.aD true).1).2 st).1.1],(bd T x.aD true).1.l,(rec (aA (bd T x.aD true).1).2 st).1.2.2),(rec (aA (bd T x.aD true).1).2 st).2)
 else ((gk x.aD,KD T x.aD,decide (KD T x.aD<=n)),st)
def hO(c:List UInt8)(f:Tm->Tm)(st:St):PR×St:=
 if (rec 1200 st).1.2.2 then ((f (rec 1200 st).1.1,0,(ax c (rec 1200 st).2).1),(ax c (rec 1200 st).2).2)
 else ((f (rec 1200 st).1.1,0,false),(rec 1200 st).2)
def pb(M:Nat)(s:List UInt8)(st:St):PR×St:=
 if (bQ rec M [] st).1.2 then ((bM s (bQ rec M [] st).1.1,0,(ax [41] (bQ rec M [] st).2).1),(ax [41] (bQ rec M [] st).2).2)
 else ((bM s [],0,false),(bQ rec M [] st).2)
def gI(T:List bj)(M:Nat)(n:Int)(st:St):PR×St:=
 if (aL st).au=4 then ((.nl 1 (aL st).cF [],0,true),aq st)
 else if (aL st).au=3 then (((jJ (aL st).aD (aq st)).1,0,true),(jJ (aL st).aD (aq st)).2)
 else if (aL st).au=5/\(aL st).aD=[40] then hO rec [41] (λt=>t) (aq st)
 else if (aL st).au=5/\(aL st).aD=[91] then (((nc rec M (aq st)).1.1,0,(nc rec M (aq st)).1.2),(nc rec M (aq st)).2)
 else if (aL st).au=5/\(aL st).aD=[123] then hO rec [125] (λt=>bM [123,125] [t]) (aq st)
 else if !fE (aL st) then ((lh,0,false),aq st)
 else if (aL st).jq then pb rec M (aL st).aD (aq (aq st))
 else if (aL st).au=1/\(aL st).aD=[45]/\(aL (aq st)).au=4/\(aL st).adj=true then ((.nl 1 (-(aL (aq st)).cF) [],0,true),aq (aq st))
 else dt rec T (aL st) n (aq st)
def dZ(T:List bj):Nat->Int->PR->St->PR×St
 |0,_,r,st=>(r,st)
 |M+1,n,r,st=>
   if !r.2.2 then (r,st)
   else if !(dM T (aL st)).2||decide (n<(dM T (aL st)).1.l)||decide ((aA (dM T (aL st)).1).1<r.2.1) then (r,st)
   else dZ T M n (bM (aL st).aD [r.1,(rec (aA (dM T (aL st)).1).2 (aq st)).1.1],(dM T (aL st)).1.l,(rec (aA (dM T (aL st)).1).2 (aq st)).1.2.2) (rec (aA (dM T (aL st)).1).2 (aq st)).2
end
def l8(T:List bj):Nat->Int->St->PR×St
 |0,_,st=>((lh,0,false),st)
 |N+1,n,st=>dZ (l8 T N) T (N+1) n (gI (l8 T N) T (N+1) n st).1 (gI (l8 T N) T (N+1) n st).2
theorem Ja{st:St}(h:st.aC=[]):aL st=VD:=by simp[aL,h]
theorem ct(st:St):(aq st).aC.length=st.aC.length-1:=by simp[aq]
theorem bN{st:St}(h:(aL st).au≠0):0<st.aC.length:=by
 cases hr:st.aC with
 |nil=>exact absurd (by rw[Ja hr];rfl) h
 |cons x r=>simp
def wg(x:qQ):Bool:=(decide (x.aD.length<=64)||!fE x)&&(decide (0<=x.cF)&&decide (x.cF<9223372036854775808))
def zY(l:List (List UInt8×Int)):Bool:=l.all λp=>!decide (p.1=[95])
structure Lv(st dn:St):Prop where
 suf:∃k,dn.aC=st.aC.drop k
 nx:st.next<=dn.next
 nm:dn.aa.length+st.next<=st.aa.length+dn.next
 pre:∃q,dn.aa=st.aa++q
 Mh:zY st.aa=true->zY dn.aa=true
 rg:(∀p∈st.aa,0<=p.2/\p.2<st.next)->∀p∈dn.aa,0<=p.2/\p.2<dn.next
structure Ok(st dn:St):Prop where
 lv:Lv st dn
 pos:dn.aC.length<st.aC.length
 tot:dn.aZ+dn.aC.length=st.aZ+st.aC.length
 nxr:dn.next+dn.aC.length<=st.next+st.aC.length
theorem Lv.refl(st:St):Lv st st:=⟨⟨0,rfl⟩,Nat.le_refl _,Nat.le_refl _,⟨[],by simp⟩,id,id⟩
theorem Lv.trans{a b c:St}(h:Lv a b)(g:Lv b c):Lv a c:=by obtain⟨k,hk⟩:=h.suf;obtain⟨j,hj⟩:=g.suf;obtain⟨p,hp⟩:=h.pre;obtain⟨q,hq⟩:=g.pre;have:=h.nx;have:=g.nx;have:=h.nm;have:=g.nm;exact⟨⟨k+j,by rw[hj,hk,List.drop_drop]⟩,by omega,by omega,⟨p++q,by rw[hq,hp,List.append_assoc]⟩,λe=>g.Mh (h.Mh e),λe=>g.rg (h.rg e)⟩
theorem Lv.len{a b:St}(h:Lv a b):b.aC.length<=a.aC.length:=by obtain⟨k,hk⟩:=h.suf;rw[hk,List.length_drop];omega
theorem Lv.all{a b:St}(h:Lv a b)(p:qQ->Bool)(ha:a.aC.all p=true):b.aC.all p=true:=by obtain⟨k,hk⟩:=h.suf;rw[hk,List.all_eq_true];exact λx hx=>List.all_eq_true.1 ha x (List.mem_of_mem_drop hx)
theorem km(st:St):Lv st (aq st):=⟨⟨1,by simp[aq]⟩,Nat.le_refl _,Nat.le_refl _,⟨[],by simp[aq]⟩,id,id⟩
theorem my{st:St}(h:0<st.aC.length):Ok st (aq st):=by
 have:=ct st;refine⟨km st,by omega,?_,?_⟩
 .show st.aZ+1+_=_;omega
 .show st.next+_<=_
  omega
theorem Ok.trans{a b c:St}(h:Ok a b)(g:Ok b c):Ok a c:=by have:=h.pos;have:=g.pos;have:=h.tot;have:=g.tot;have:=h.nxr;have:=g.nxr;exact⟨h.lv.trans g.lv,by omega,by omega,by omega⟩
theorem pI(s:List UInt8)(st:St):Lv st (ax s st).2:=by
 unfold ax;split
 .exact km st
 .exact Lv.refl st
theorem dQ{s:List UInt8}{st:St}(h:(ax s st).1=true):Ok st (ax s st).2:=by
 unfold ax at h|-;split
 .rename_i hc;exact my (bN (by rw[hc.1];decide))
 .rename_i hc;rw[if_neg hc] at h;cases h
theorem fF{s:List UInt8}{st:St}(h:(ax s st).1=false):(ax s st).2=st:=by
 unfold ax at h|-;split
 .rename_i hc;rw[if_pos hc] at h;cases h
 .rfl
theorem H8(s:List UInt8)(st:St):Lv st (jJ s st).2:=by
 unfold jJ;split
 .exact Lv.refl st
 .refine⟨⟨0,rfl⟩,Nat.le_succ _,?_,?_,λh=>?_,λh p hp=>?_⟩
  .dsimp only;split<;>simp<;>omega
  .dsimp only;split
   .exact⟨[],by simp⟩
   .exact⟨_,rfl⟩
  .dsimp only;split
   .exact h
   .rename_i hs;unfold zY at h|-;rw[List.all_append,h];simp[hs]
  .dsimp only at hp|-;split at hp
   .have:=h p hp;omega
   .rcases List.mem_append.1 hp with hp|hp
    .have:=h p hp;omega
    .simp only[List.mem_singleton] at hp;subst hp;dsimp only;omega
theorem Ti{s:List UInt8}{st:St}(h:0<st.aC.length):Ok st (jJ s (aq st)).2:=by
 have h1:=ct st;have hv:=H8 s (aq st)
 have hr:(jJ s (aq st)).2.aC=(aq st).aC/\(jJ s (aq st)).2.aZ=(aq st).aZ/\(jJ s (aq st)).2.next<=(aq st).next+1:=by
  unfold jJ;split
  .exact⟨rfl,rfl,Nat.le_succ _⟩
  .exact⟨rfl,rfl,Nat.le_refl _⟩
 refine⟨(km st).trans hv,by rw[hr.1];omega,?_,?_⟩
 .rw[hr.1,hr.2.1];show st.aZ+1+_=_;omega
 .rw[hr.1];have:(aq st).next=st.next:=rfl
  omega
structure uV(rec:Int->St->PR×St):Prop where
 lv:∀n st,Lv st (rec n st).2
 ok:∀n st,(rec n st).1.2.2=true->Ok st (rec n st).2
section
variable {rec:Int->St->PR×St}(H:uV rec)
include H
theorem mA:∀(M:Nat) (aB:List Tm) (st:St),Lv st (bQ rec M aB st).2/\((bQ rec M aB st).1.2=true->Ok st (bQ rec M aB st).2)
 |0,aB,st=>⟨Lv.refl st,λh=>by cases h⟩
 |M+1,aB,st=>by
   unfold bQ;by_cases h1:(rec 999 st).1.2.2=true
   .rw[if_pos h1];by_cases h2:(ax [44] (rec 999 st).2).1=true
    .rw[if_pos h2];obtain⟨i1,i2⟩:=mA M (aB++[(rec 999 st).1.1]) (ax [44] (rec 999 st).2).2;exact⟨((H.lv 999 st).trans (pI _ _)).trans i1,λh=>((H.ok 999 st h1).trans (dQ h2)).trans (i2 h)⟩
    .rw[if_neg h2];exact⟨H.lv 999 st,λ_=>H.ok 999 st h1⟩
   .rw[if_neg h1];exact⟨H.lv 999 st,λh=>by cases h⟩
theorem YG(l:List Tm)(st:St):Lv st (nR rec l st).2/\((nR rec l st).1.2=true->Ok st (nR rec l st).2):=by
 unfold nR;by_cases h1:(ax [124] st).1=true
 .rw[if_pos h1];by_cases h2:(rec 999 (ax [124] st).2).1.2.2=true
  .rw[if_pos h2];exact⟨((pI _ _).trans (H.lv _ _)).trans (pI _ _),λh=>((dQ h1).trans (H.ok _ _ h2)).trans (dQ h)⟩
  .rw[if_neg h2];exact⟨(pI _ _).trans (H.lv _ _),λh=>by cases h⟩
 .rw[if_neg h1];exact⟨pI _ _,λh=>dQ h⟩
theorem B6(M:Nat)(st:St):Lv st (nc rec M st).2/\((nc rec M st).1.2=true->Ok st (nc rec M st).2):=by
 obtain⟨i1,i2⟩:=mA H M [] st;unfold nc;by_cases h1:(bQ rec M [] st).1.2=true
 .rw[if_pos h1];obtain⟨j1,j2⟩:=YG H (bQ rec M [] st).1.1 (bQ rec M [] st).2;exact⟨i1.trans j1,λh=>(i2 h1).trans (j2 h)⟩
 .rw[if_neg h1];exact⟨i1,λh=>by cases h⟩
theorem qN(c:List UInt8)(f:Tm->Tm)(st:St):Lv st (hO rec c f st).2/\((hO rec c f st).1.2.2=true->Ok st (hO rec c f st).2):=by
 unfold hO;by_cases h1:(rec 1200 st).1.2.2=true
 .rw[if_pos h1];exact⟨(H.lv _ _).trans (pI _ _),λh=>(H.ok _ _ h1).trans (dQ h)⟩
 .rw[if_neg h1];exact⟨H.lv _ _,λh=>by cases h⟩
theorem P1(M:Nat)(s:List UInt8)(st:St):Lv st (pb rec M s st).2/\((pb rec M s st).1.2.2=true->Ok st (pb rec M s st).2):=by
 obtain⟨i1,i2⟩:=mA H M [] st;unfold pb;by_cases h1:(bQ rec M [] st).1.2=true
 .rw[if_pos h1];exact⟨i1.trans (pI _ _),λh=>(i2 h1).trans (dQ h)⟩
 .rw[if_neg h1];exact⟨i1,λh=>by cases h⟩
theorem rT(T:List bj)(M:Nat)(n:Int)(st:St):Lv st (gI rec T M n st).2/\((gI rec T M n st).1.2.2=true->Ok st (gI rec T M n st).2):=by
 unfold gI;by_cases k4:(aL st).au=4
 .rw[if_pos k4];exact⟨km st,λ_=>my (bN (by omega))⟩
 rw[if_neg k4];by_cases k3:(aL st).au=3
 .rw[if_pos k3];exact⟨(km st).trans (H8 _ _),λ_=>Ti (bN (by omega))⟩
 rw[if_neg k3];by_cases c1:(aL st).au=5/\(aL st).aD=[40]
 .rw[if_pos c1];obtain⟨i1,i2⟩:=qN H [41] (λt=>t) (aq st);exact⟨(km st).trans i1,λh=>(my (bN (by omega))).trans (i2 h)⟩
 rw[if_neg c1];by_cases c2:(aL st).au=5/\(aL st).aD=[91]
 .rw[if_pos c2];obtain⟨i1,i2⟩:=B6 H M (aq st);exact⟨(km st).trans i1,λh=>(my (bN (by omega))).trans (i2 h)⟩
 rw[if_neg c2];by_cases c3:(aL st).au=5/\(aL st).aD=[123]
 .rw[if_pos c3];obtain⟨i1,i2⟩:=qN H [125] (λt=>bM [123,125] [t]) (aq st);exact⟨(km st).trans i1,λh=>(my (bN (by omega))).trans (i2 h)⟩
 rw[if_neg c3];by_cases c4:(!fE (aL st))=true
 .rw[if_pos c4];exact⟨km st,λh=>by cases h⟩
 rw[if_neg c4];have hk:(aL st).au≠0:=λh=>c4 (by unfold fE;rw[h];rfl)
 by_cases c5:(aL st).jq=true
 .rw[if_pos c5];obtain⟨i1,i2⟩:=P1 H M (aL st).aD (aq (aq st));refine⟨((km st).trans (km _)).trans i1,λh=>?_⟩;have j:=i2 h;have hp:=my (bN hk)
  have:0<(aq st).aC.length:=by have h1:=ct (aq st);have h2:=j.pos;omega
  exact (hp.trans (my this)).trans j
 rw[if_neg c5];by_cases c6:(aL st).au=1/\(aL st).aD=[45]/\(aL (aq st)).au=4/\(aL st).adj=true
 .rw[if_pos c6];exact⟨(km st).trans (km _),λ_=>(my (bN hk)).trans (my (bN (by omega)))⟩
 rw[if_neg c6];have ha:=my (bN hk);unfold dt;by_cases d1:(aL st).au=2
 .rw[if_pos d1];exact⟨km st,λ_=>ha⟩
 rw[if_neg d1];by_cases d2:((bd T (aL st).aD true).2&&decide ((bd T (aL st).aD true).1.l<=n)&&iB T (aq st))=true
 .rw[if_pos d2];exact⟨(km st).trans (H.lv _ _),λh=>ha.trans (H.ok _ _ h)⟩
 .rw[if_neg d2];exact⟨km st,λ_=>ha⟩
theorem mO(T:List bj):∀(M:Nat) (n:Int) (r:PR) (st:St),Lv st (dZ rec T M n r st).2/\((dZ rec T M n r st).1.2.2=true->r.2.2=true/\(st=(dZ rec T M n r st).2\/Ok st (dZ rec T M n r st).2))
 |0,n,r,st=>⟨Lv.refl st,λh=>⟨h,.inl rfl⟩⟩
 |M+1,n,r,st=>by
   unfold dZ;by_cases h0:(!r.2.2)=true
   .rw[if_pos h0];exact⟨Lv.refl st,λh=>⟨h,.inl rfl⟩⟩
   rw[if_neg h0];by_cases h1:(!(dM T (aL st)).2||decide (n<(dM T (aL st)).1.l)||decide ((aA (dM T (aL st)).1).1<r.2.1))=true
   .rw[if_pos h1];exact⟨Lv.refl st,λh=>⟨h,.inl rfl⟩⟩
   rw[if_neg h1];obtain⟨i1,i2⟩:=mO T M n (bM (aL st).aD [r.1,(rec (aA (dM T (aL st)).1).2 (aq st)).1.1],(dM T (aL st)).1.l,(rec (aA (dM T (aL st)).1).2 (aq st)).1.2.2) (rec (aA (dM T (aL st)).1).2 (aq st)).2;refine⟨((km st).trans (H.lv _ _)).trans i1,λh=>⟨by simpa using h0,.inr ?_⟩⟩;obtain⟨j1,j2⟩:=i2 h
   have hk:(aL st).au≠0:=λh=>h1 (by
    have:(dM T (aL st)).2=false:=by unfold dM fE;rw[h];rfl
    rw[this];rfl)
   have a:=(my (bN hk)).trans (H.ok _ _ j1);rcases j2 with j2|j2
   .rw[<-j2];exact a
   .exact a.trans j2
end
theorem vd(T:List bj):∀N,uV (l8 T N)
 |0=>⟨λn st=>Lv.refl st,λn st h=>by cases h⟩
 |N+1=>by
   have H:=vd T N;refine⟨λn st=>?_,λn st h=>?_⟩
   .unfold l8;exact (rT H T (N+1) n st).1.trans (mO H T (N+1) n _ _).1
   .unfold l8 at h|-;obtain⟨j1,j2⟩:=(mO H T (N+1) n _ _).2 h;have a:=(rT H T (N+1) n st).2 j1;rcases j2 with j2|j2
    .rw[<-j2];exact a
    .exact a.trans j2
end
end Go.Proofs.YtjmeonoabiliiaaGreatDoor
namespace Go.Proofs.YtjmeonoabiliiaaGreatDoor
open Go Sz Go.RowKit
end Go.Proofs.YtjmeonoabiliiaaGreatDoor
namespace Go.Proofs.YtjmeonoabiliiaaGreatDoor
open Go Sz
def wx:List Tm->AV
 |[]=>.aJ
 |x::r=>.sl ((x::r).map Tm.aV)
theorem xA(us:List Tm)(x:Tm):aG (us++[x])=aG us++x.cells:=by simp[aG]
def hT(us:List Tm)(B:List bp):List bp:=match us with
 |[]=>B
 |x::r=>.row (aG (x::r))::B
theorem aaQ{h:ai}{n0 d id:Nat}(x:Tm)(r:List Tm)(cG:n0<=id)(hg:h.get id=some (.row (aG (x::r)))):
 jF h n0 (d+2) (.vec id 0 (r.length+1) 4 (r.length+1))=some (.sl ((x::r).map Tm.aV),[id]):=
 yj cG hg (by omega) (rp (x::r)) (by simp) (by rw[bP];simp) (by rw[ux,List.take_of_length_le];rw[bP];simp)
theorem Lm(us:List Tm):(wx us).aK=0:=by cases us<;>simp[wx,AV.aK]
def ve:aX:=⟨79,λ|[.str s]=>if s.length<281474976710656 then some (.tuple [.int .i64 (jf s).1,.int .i64 (jf s).2]) else none|_=>none⟩
theorem gS:ve.f=79:=(rfl)
theorem M4(s:List UInt8)(h:s.length<281474976710656):ve.S [.str s]=some (.tuple [.int .i64 (jf s).1,.int .i64 (jf s).2]):=if_pos h
theorem JH(s:List UInt8)(hd:Lib.trimPrefix s [45]≠[])(ha:eh (Lib.trimPrefix s [45])=true):(∃v,Lib.parseIntB 64 s=.ok v)\/Lib.parseIntB 64 s=.range:=by
 have pu:∀(M:Nat) (l:List UInt8) (aB:Nat),eh l=true->(∃u,Lib.parseUintM M aB l=.ok u)\/Lib.parseUintM M aB l=.range:=by
  intro M l
  induction l with
  |nil=>intro aB _;exact .inl ⟨aB,rfl⟩
  |cons c r ih=>
    intro aB h;simp only[eh,eA,Bool.and_eq_true,decide_eq_true_eq] at h;unfold Lib.parseUintM;rw[if_pos h.1];split
    .exact .inr rfl
    .split
     .exact .inr rfl
     .exact ih _ h.2
 cases s with
 |nil=>exact absurd UD hd
 |cons c r=>
   by_cases hc:c=45
   .subst hc;rw[EC] at hd ha;unfold Lib.parseIntB Lib.parseUintB;simp only[show (45:UInt8).toNat=45 from rfl,or_true,if_true,hd,if_false];rcases pu (2^64-1) r 0 ha with⟨u,e⟩|e
    .rw[e];simp only[not_true,false_and,if_false,true_and];split
     .exact .inr rfl
     .exact .inl ⟨_,rfl⟩
    .rw[e];exact .inr rfl
   .rw[C2 c r hc] at ha;have h:=ae3 hc
    have hg:48<=c.toNat/\c.toNat<=57:=by simp only[eh,eA,Bool.and_eq_true,decide_eq_true_eq] at ha;exact ha.1
    unfold Lib.parseIntB Lib.parseUintB;simp only[show (c.toNat=43)=False from eq_false (by omega),show (c.toNat=45)=False from eq_false h,or_false,if_false,reduceCtorEq];rcases pu (2^64-1) (c::r) 0 ha with⟨u,e⟩|e
    .rw[e];simp only[not_false_iff,true_and,false_and,if_false];split
     .exact .inr rfl
     .exact .inl ⟨_,rfl⟩
    .rw[e];exact .inr rfl
theorem Ny:fi Tryz.prog cX ve:=λag v hv=>by
 unfold ve at hv|-;dsimp only at hv|-;split at hv
 .rename_i s;split at hv
  .rename_i hl;cases hv;refine bG (n:=5) (h':=h0) (oR (ss:=[nP,trimS,D7]) (by simp[CM.lift,Wn.lift,SA])) ?_ (by simp[AV.aK,AV.aw]) (by simp[AV.aK,AV.aw]);have c1:=Db s [45];have LZ:(Lib.trimPrefix s [45]).length<=s.length:=by unfold Lib.trimPrefix;split<;>simp
   have c2:=TL (Lib.trimPrefix s [45]) (by omega);unfold digits at c2;have c3:=Q2 s hl;unfold jf;dsimp only;have hb:∀l:List UInt8,(l==[])=decide (l=[]):=λl=>by cases l<;>rfl
   by_cases hd:Lib.trimPrefix s [45]=[]
   .rw[if_pos hd];rw[hd] at c1;simp[Tn,c79,c1,qC,IL,Cz]
   .rw[if_neg hd];have e1:(Lib.trimPrefix s [45]==[])=false:=by rw[hb];simpa using hd
    cases ha:eh (Lib.trimPrefix s [45]) with
    |false=>
      have e2:(GF (Lib.trimPrefix s [45])==[])=false:=by rw[hb];simp only[decide_eq_false_iff_not];intro h;rw[GI,ha] at h;cases h
      simp[Tn,c79,c1,c2,e1,e2,qC,IL,Cz]
    |true=>
      have e2:GF (Lib.trimPrefix s [45])=[]:=(GI _).2 ha;rw[e2] at c2;unfold Hq at c3;rcases JH s hd ha with⟨u,e⟩|e
      all_goals
       rw[e] at c3|-;dsimp only at c3;simp[Tn,c79,c1,c2,c3,e1,qC,IL,Cz]
  .cases hv
 .cases hv
theorem zt(t:Tm)(fr:List AV)(h:ai)(o:dU)(ho:o.ev fr=t.ca):cf fr h (.xX o)=some (.int .i64 t.ag.length,h):=by
 rw[gn,ho]
 cases t with
 |nl k n s=>rfl
 |mk k n s us=>simp[Tm.ca,Tm.ag]
def rQ:aX:=⟨131,λ|[.str s]=>some (Tm.nl 2 0 s).aV|_=>none⟩
theorem tY:rQ.f=131:=(rfl)
theorem iv(s:List UInt8):rQ.S [.str s]=some (.agg [.int .i64 2,.int .i64 0,.str s,.aJ]):=rfl
theorem vV:aY Tryz.prog rQ:=λag v hv=>by
 unfold rQ at hv|-;dsimp only at hv|-;split at hv
 .cases hv;refine bG (n:=3) (h':=h0) (bA (ss:=[]) (by simp)) ?_ rfl rfl;simp[acQ,c131,Tm.aV]
 .cases hv
def l4:aX:=⟨114,λ|[.str s,.sl xs]=>(lX xs).map λus=>(Tm.mk 2 0 s us).aV|_=>none⟩
theorem nS:l4.f=114:=(rfl)
theorem vp(s:List UInt8)(us:List Tm):l4.S [.str s,.sl (us.map Tm.aV)]=some (Tm.mk 2 0 s us).aV:=by unfold l4;dsimp only;rw[<-kF,nz];rfl
theorem o3:aY Tryz.prog l4:=λag v hv=>by
 unfold l4 at hv|-;dsimp only at hv|-;split at hv
 .rename_i s xs;obtain⟨us,hx,rfl⟩:=Option.map_eq_some_iff.1 hv;rw[rA hx];refine bG (n:=3) (h':=h0) (bA (ss:=[]) (by simp)) ?_ (Tm.cm _) (by simp[AV.aw,AV.aK,bF]);have hr:=bF us;simp[ady,YL,Tm.aV,kF,hr]
 .cases hv
end Go.Proofs.YtjmeonoabiliiaaGreatDoor
