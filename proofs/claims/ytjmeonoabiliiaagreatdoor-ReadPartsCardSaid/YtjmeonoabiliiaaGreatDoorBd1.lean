import Derived.Test.YtjmeonoabiliiaaGreatDoorAt
import Derived.Test.YtjmeonoabiliiaaGreatDoorEnv
import Derived.Test.YtjmeonoabiliiaaGreatDoorFast
import Derived.Test.YtjmeonoabiliiaaGreatDoorArg
import Derived.RangeFuncNested
import Derived.RangeFuncBound
import Derived.RangeFuncCalls
import Derived.RangeFuncLeaves
import Derived.Shelf.Abstract
import Derived.Shelf.RegionOpen
import Derived.WalkKit
import Derived.OwnWalkIn
import Derived.TacticsInMore
import Derived.LoopNIn
import Derived.LoopIn
import Derived.Test.YtjmeonoabiliiaaGreatDoorProg
import Derived.Test.YtjmeonoabiliiaaGreatDoorIter
import Derived.Test.YtjmeonoabiliiaaGreatDoorShelf
import Derived.Lib.ItoaNum
import Derived.LaidSub
import Derived.MakeChecks
import Derived.Shelf.Strings.SlTrimAscii
set_option linter.unusedVariables false
set_option linter.unusedSimpArgs false
set_option linter.unusedSectionVars false
set_option maxHeartbeats 16000000
set_option maxRecDepth 100000

namespace Go.Proofs.YtjmeonoabiliiaaGreatDoor
open Go Sz
inductive Tm where
 | nl (k n:Int) (s:List UInt8)
 | mk (k n:Int) (s:List UInt8) (us:List Tm)
mutual
def Tm.enc:Tm→AV
 | .nl k n s=>.agg [.int .i64 k,.int .i64 n,.str s,.aA]
 | .mk k n s us=>.agg [.int .i64 k,.int .i64 n,.str s,.sl (Tm.pX us)]
def Tm.pX:List Tm→List AV
 | []=>[]
 | t::r=>t.enc::Tm.pX r
end
theorem jq:∀l:List Tm,Tm.pX l=l.map Tm.enc
 | []=>rfl
 | t::r=>by simp[Tm.pX,jq r]
def Tm.kind:Tm→Int | .nl k _ _=>k | .mk k _ _ _=>k
def Tm.num:Tm→Int | .nl _ n _=>n | .mk _ n _ _=>n
def Tm.name:Tm→List UInt8 | .nl _ _ s=>s | .mk _ _ s _=>s
def Tm.args:Tm→List Tm | .nl ..=>[] | .mk _ _ _ us=>us
def Tm.cE:Tm→AV | .nl ..=>.aA | .mk _ _ _ us=>.sl (us.map Tm.enc)
def Tm.cells (t:Tm):List AV:=[.int .i64 t.kind,.int .i64 t.num,.str t.name,t.cE]
theorem Tm.cr (t:Tm):t.cells=[.int .i64 t.kind,.int .i64 t.num,.str t.name,t.cE]:=rfl
theorem Tm.cG (t:Tm):t.enc=.agg t.cells:=by
 cases t with
 | nl k n s=>rfl
 | mk k n s us=>simp only[Tm.enc,Tm.cells,Tm.kind,Tm.num,Tm.name,Tm.cE,jq]
mutual
theorem Tm.dh:∀t:Tm,t.enc.refs=0
 | .nl k n s=>rfl
 | .mk k n s us=>by simp[Tm.enc,AV.refs,AV.aq,Tm.tw us]
theorem Tm.tw:∀l:List Tm,AV.aq (Tm.pX l)=0
 | []=>rfl
 | t::r=>by simp[Tm.pX,AV.aq,Tm.dh t,Tm.tw r]
end
theorem bQ (l:List Tm):AV.aq (l.map Tm.enc)=0:=by rw[←jq];exact Tm.tw l
theorem aP (t:Tm):t.cE.refs=0:=by
 cases t with
 | nl k n s=>rfl
 | mk k n s us=>simp[Tm.cE,AV.refs,bQ]
mutual
def jm:AV→Option Tm
 | .agg [.int .i64 k,.int .i64 n,.str s,.aA]=>some (.nl k n s)
 | .agg [.int .i64 k,.int .i64 n,.str s,.sl xs]=>(jy xs).map (.mk k n s)
 | _=>none
def jy:List AV→Option (List Tm)
 | []=>some []
 | v::r=>match jm v,jy r with
   | some t,some l=>some (t::l)
   | _,_=>none
end
mutual
theorem fN:∀t:Tm,jm t.enc=some t
 | .nl k n s=>by simp[Tm.enc,jm]
 | .mk k n s us=>by simp[Tm.enc,jm,lq us]
theorem lq:∀l:List Tm,jy (Tm.pX l)=some l
 | []=>by simp[Tm.pX,jy]
 | t::r=>by simp[Tm.pX,jy,fN t,lq r]
end
theorem yB:∀(n:Nat) (v:AV) (t:Tm),SizeOf.sizeOf v≤n→jm v=some t→v=t.enc
 | 0,v,t,h,_=>by cases v<;>simp at h
 | n+1,v,t,h,e=>by
   have hl:∀(xs:List AV) (l:List Tm),SizeOf.sizeOf xs≤n→jy xs=some l→xs=Tm.pX l:=by
    intro xs
    induction xs with
    | nil=>intro l _ e;simp[jy] at e;subst e;rfl
    | cons x r ih=>
      intro l hx e;simp only[jy] at e;split at e
      ·rename_i t l' h1 h2;cases e;simp only[List.cons.sizeOf_spec] at hx;rw[yB n x t (by omega) h1,ih l' (by omega) h2];rfl
      ·cases e
   unfold jm at e;split at e
   ·cases e;rfl
   ·rename_i k q s xs;obtain⟨us,h1,rfl⟩:=Option.map_eq_some_iff.1 e;simp only[AV.agg.sizeOf_spec,List.cons.sizeOf_spec,AV.sl.sizeOf_spec] at h;rw[hl xs us (by omega) h1];rfl
   ·cases e
theorem fo {v:AV} {t:Tm} (h:jm v=some t):v=t.enc:=yB _ v t (Nat.le_refl _) h
def Oy (c:UInt8):Bool:=!((decide (c.toNat < 32)||decide (126 < c.toNat))&&decide (c.toNat≠9)&&decide (c.toNat≠10))
def qq:List UInt8→Bool
 | []=>true
 | c::r=>Oy c&&qq r
def tI (s:List UInt8):Bool:=qq s&&decide (s.length≤64)
def NW (s:List UInt8):List AV:=s.map fun b=>.int .u8 b.toNat
theorem vR:∀s:List UInt8,AV.aq (NW s)=0
 | []=>rfl
 | c::r=>by
   have:=vR r;unfold NW at this ⊢;simp[AV.aq,AV.refs,this]
theorem ye (C:Nat→List AV→aa→Option (AV×aa)) (n:Nat) (s:List UInt8) (hs:s.length < 4611686018427387904):∀post pre m,s=pre++post→post.length < m→
 jf 0 0 (cO (aT C n lS) jo 0 m (Mb (.str s) (.sl (NW s)) (.int .i64 s.length) (.int .i64 pre.length)) ⟨0,[],0,0⟩)=
  if qq post then some (.exit 0,FM 30 [(0,.str s)],⟨0,[],0,0⟩) else some (.ret,FM 30 [(2,.bool false)],⟨0,[],0,0⟩)
 | [],pre,m+1,e,_=>by
   simp at e;subst e;simp[aB,lS,qq]
 | c::post,pre,m+1,e,hm=>by
   have ih:=ye C n s hs post (pre++[c]) m (by simp[e]) (by rw[List.length_cons] at hm;omega);have h1:(NW s)[pre.length]? =some (.int .u8 c.toNat):=by unfold NW;rw[e];simp
   have h3:IntKind.i64.wrap ((pre.length:Int)+1)=(pre.length:Int)+1:=by
    rw[tO (by rw[e] at hs;simp at hs;omega)];simp
   have h5:=vR s;have h6:((pre.length:Int) < (s.length:Int))=True:=eq_true (by rw[e,List.length_append,List.length_cons];omega);simp only[List.length_append,List.length_cons,List.length_nil,Nat.zero_add,Int.natCast_add,Int.natCast_one] at ih;have ho:Oy c=!((decide (c.toNat < 32)||decide (126 < c.toNat))&&decide (c.toNat≠9)&&decide (c.toNat≠10)):=rfl;rw[aB];by_cases a1:c.toNat < 32
   ·have b1:((c.toNat:Int) < 32)=True:=eq_true (by omega);by_cases a3:c.toNat=9
    ·have b3:((c.toNat:Int)=9)=True:=eq_true (by omega);have ho:Oy c=true:=by rw[ho];simp[a3]
     simp[lS,jo,h1,h3,h5,h6,b1,b3,qq,ho];exact ih
    ·have b3:((c.toNat:Int)=9)=False:=eq_false (by omega);by_cases a4:c.toNat=10
     ·have b4:((c.toNat:Int)=10)=True:=eq_true (by omega);have ho:Oy c=true:=by rw[ho];simp[a4]
      simp[lS,jo,h1,h3,h5,h6,b1,b3,b4,qq,ho];exact ih
     ·have b4:((c.toNat:Int)=10)=False:=eq_false (by omega);have ho:Oy c=false:=by rw[ho];simp[a1,a3,a4]
      simp[lS,jo,h1,h3,h5,h6,b1,b3,b4,qq,ho]
   ·have b1:((c.toNat:Int) < 32)=False:=eq_false (by omega);by_cases a2:126 < c.toNat
    ·have b2:(126 < (c.toNat:Int))=True:=eq_true (by omega);have b3:((c.toNat:Int)=9)=False:=eq_false (by omega);have b4:((c.toNat:Int)=10)=False:=eq_false (by omega)
     have ho:Oy c=false:=by
      rw[ho];have:c.toNat≠9:=by omega
      have:c.toNat≠10:=by omega
      simp[*]
     simp[lS,jo,h1,h3,h5,h6,b1,b2,b3,b4,qq,ho]
    ·have b2:(126 < (c.toNat:Int))=False:=eq_false (by omega);have ho:Oy c=true:=by rw[ho];simp[a1,a2]
     simp[lS,jo,h1,h3,h5,h6,b1,b2,qq,ho];exact ih
def rh:aS:=⟨103,fun | [.str s]=>if s.length < 4611686018427387904 then some (.bool (tI s)) else none | _=>none⟩
theorem eA:rh.f=103:=(rfl)
theorem DV (s:List UInt8) (h:s.length < 4611686018427387904):rh.S [.str s]=some (.bool (tI s)):=if_pos h
theorem D9:bC Tryz.prog rh:=fun args v hv=>by
 unfold rh at hv ⊢;dsimp only at hv ⊢;split at hv
 ·rename_i s;split at hv
  ·rename_i hs;cases hv;refine cB (n:=s.length+2) (h':=h0) (cf (ss:=[]) (by simp)) ?_ rfl rfl;have lp:=ye (az (ew []) (s.length+1)) (s.length+1) s hs s [] (s.length+1) rfl (by omega);simp only[List.length_nil,show ((0:Nat):Int)=0 from rfl,jo] at lp;have h5:=vR s;have e5:(s.map fun b=>AV.int .u8 b.toNat)=NW s:=rfl;have e6:(NW s).length=s.length:=by simp[NW]
   unfold tI
   cases ha:qq s with
   | false=>
     rw[ha] at lp;simp at lp;simp[Dc,G9,jo,e5,e6,h5,lp]
   | true=>
     rw[ha] at lp;simp at lp;by_cases hl:s.length≤64
     ·have hl':((s.length:Int)≤64)=True:=eq_true (by omega);simp[Dc,G9,jo,e5,e6,h5,lp,hl,hl']
     ·have hl':((s.length:Int)≤64)=False:=eq_false (by omega);simp[Dc,G9,jo,e5,e6,h5,lp,hl,hl']
  ·cases hv
 ·cases hv
def oI (t:Tm):Bool:=
 if t.kind=0 then decide (0≤t.num)&&decide (t.num≤2147483647)&&decide (t.name=[])&&decide (t.args.length=0)
 else if t.kind=1 then decide (t.name=[])&&decide (t.args.length=0)
 else if t.kind=2 then decide (t.num=0)&&tI t.name&&decide (t.args.length≤8)
 else false
theorem Jv (t:Tm):∃k n s a,t.enc=.agg [.int .i64 k,.int .i64 n,.str s,a]∧t.kind=k∧t.num=n∧t.name=s∧a.refs=0∧((a=.aA∧t.args=[])∨a=.sl (t.args.map Tm.enc)):=by
 cases t with
 | nl k n s=>exact⟨k,n,s,.aA,rfl,rfl,rfl,rfl,rfl,.inl ⟨rfl,rfl⟩⟩
 | mk k n s us=>exact⟨k,n,s,_,(Tm.mk k n s us).cG,rfl,rfl,rfl,aP _,.inr rfl⟩
def AT:aS:=⟨62,fun | [v]=>(match jm v with | some t=>if t.name.length < 4611686018427387904 then some (.bool (oI t)) else none | none=>none) | _=>none⟩
theorem xf:AT.f=62:=(rfl)
theorem NJ (t:Tm) (h:t.name.length < 4611686018427387904):AT.S [t.enc]=some (.bool (oI t)):=by
 simp only[AT,fN,if_pos h]
theorem M5:bC Tryz.prog AT:=fun args v hv=>by
 unfold AT at hv ⊢;dsimp only at hv ⊢;split at hv
 ·rename_i x;split at hv
  ·rename_i t ht;split at hv
   ·rename_i hl;cases hv;rw[fo ht];refine cB (n:=5) (h':=h0) (cf (ss:=[rh]) (by simp[D9])) ?_ rfl (by simp[AV.aq,Tm.dh]);obtain⟨k,n,s,a,e,e1,e2,e3,hr,ha⟩:=Jv t;have hg:=DV s (by rw[←e3];exact hl);unfold oI;rw[e,e1,e2,e3]
    have ha0:(a=.aA∧t.args.length=0)∨(∃l:List AV,a=.sl l∧l.length=t.args.length):=by
     rcases ha with⟨h1,h2⟩ | h1
     ·exact .inl ⟨h1,by rw[h2];rfl⟩
     ·exact .inr ⟨_,h1,by simp⟩
    generalize t.args.length=q at ha0;clear ha e1 e2 e3 ht hl e;by_cases k0:k=0
    ·subst k0;by_cases c1:0≤n
     ·by_cases c2:n≤2147483647
      ·cases s with
       | nil=>
         rcases ha0 with⟨rfl,rfl⟩ | ⟨l,rfl,rfl⟩
         ·simp[kC,z6,c1,c2,eA]
         ·by_cases c4:l.length=0
          ·have c4':((l.length:Int)=0)=True:=eq_true (by omega);simp only[AV.refs] at hr;simp[kC,z6,c1,c2,c4',c4,hr,eA]
          ·have c4':((l.length:Int)=0)=False:=eq_false (by omega);simp only[AV.refs] at hr;simp[kC,z6,c1,c2,c4',c4,hr,eA]
       | cons c r=>simp[kC,z6,c1,c2,eA,hr]
      ·simp[kC,z6,c1,c2,eA,hr]
     ·simp[kC,z6,c1,eA,hr]
    ·by_cases k1:k=1
     ·subst k1
      cases s with
      | nil=>
        rcases ha0 with⟨rfl,rfl⟩ | ⟨l,rfl,rfl⟩
        ·simp[kC,z6,eA]
        ·by_cases c4:l.length=0
         ·have c4':((l.length:Int)=0)=True:=eq_true (by omega);simp only[AV.refs] at hr;simp[kC,z6,c4',c4,hr,eA]
         ·have c4':((l.length:Int)=0)=False:=eq_false (by omega);simp only[AV.refs] at hr;simp[kC,z6,c4',c4,hr,eA]
      | cons c r=>simp[kC,z6,eA,hr]
     ·by_cases k2:k=2
      ·subst k2;by_cases c1:n=0
       ·cases hgn:tI s with
        | false=>
          rw[hgn] at hg;simp[kC,z6,c1,hg,eA,hr]
        | true=>
          rw[hgn] at hg;rcases ha0 with⟨rfl,rfl⟩ | ⟨l,rfl,rfl⟩
          ·simp[kC,z6,c1,hg,eA]
          ·by_cases c4:l.length≤8
           ·have c4':((l.length:Int)≤8)=True:=eq_true (by omega);simp only[AV.refs] at hr;simp[kC,z6,c1,hg,c4',c4,hr,eA]
           ·have c4':((l.length:Int)≤8)=False:=eq_false (by omega);simp only[AV.refs] at hr;simp[kC,z6,c1,hg,c4',c4,hr,eA]
       ·simp[kC,z6,c1,eA,hr]
      ·simp[kC,z6,k0,k1,k2,eA,hr]
   ·cases hv
  ·cases hv
 ·cases hv
theorem nK (t:Tm):basic t.cE=true:=by cases t<;>rfl
theorem KB (t:Tm):xM 4 t.enc:=by
 rw[Tm.cG];refine⟨rfl,?_,fun h=>by omega,fun _=>rfl,rfl⟩;have:=nK t;simp only[AV.cells,Tm.cells,List.all_cons,List.all_nil,this];rfl
theorem mI (us:List Tm):∀x ∈ us.map Tm.enc,xM 4 x:=by
 intro x hx;obtain⟨t,_,rfl⟩:=List.mem_map.1 hx;exact KB t
def aU (us:List Tm):List AV:=us.flatMap Tm.cells
theorem oy (us:List Tm):(us.map Tm.enc).flatMap AV.cells=aU us:=by
 induction us with
 | nil=>rfl
 | cons t r ih=>
   unfold aU at ih ⊢;rw[List.map_cons,List.flatMap_cons,List.flatMap_cons,ih,Tm.cG];rfl
theorem c8 (us:List Tm):(aU us).length=us.length*4:=by
 rw[←oy,xF (mI us),List.length_map]
theorem bE (us:List Tm):AV.aq (aU us)=0:=by
 rw[←oy];exact lP (vQ (mI us))
theorem JY (h:aa) (us:List Tm):aR h 4 (.sl (us.map Tm.enc))=some (us.length,aU us):=by
 have e:aR h 4 (.sl (us.map Tm.enc))=if ((us.map Tm.enc).all fun x=>(x.cells?.map List.length)==some 4) then some ((us.map Tm.enc).length,(us.map Tm.enc).flatMap AV.cells) else none:=rfl
 rw[e,if_pos (Bm (mI us)),List.length_map,oy]
def Kq:aS:=⟨48,fun | [.int .i64 n]=>some (Tm.nl 1 n []).enc | _=>none⟩
theorem da:Kq.f=48:=(rfl)
theorem Ga (n:Int):Kq.S [.int .i64 n]=some (.agg [.int .i64 1,.int .i64 n,.str [],.aA]):=rfl
theorem Nt:bC Tryz.prog Kq:=fun args v hv=>by
 unfold Kq at hv ⊢;dsimp only at hv ⊢;split at hv
 ·cases hv;refine cB (n:=3) (h':=h0) (cf (ss:=[]) (by simp)) ?_ rfl rfl;simp[Se,TA,Tm.enc]
 ·cases hv
def wZ:aS:=⟨32,fun | [.int .i64 n]=>some (Tm.nl 0 n []).enc | _=>none⟩
theorem qC:wZ.f=32:=(rfl)
theorem E3 (n:Int):wZ.S [.int .i64 n]=some (.agg [.int .i64 0,.int .i64 n,.str [],.aA]):=rfl
theorem L6:bC Tryz.prog wZ:=fun args v hv=>by
 unfold wZ at hv ⊢;dsimp only at hv ⊢;split at hv
 ·cases hv;refine cB (n:=3) (h':=h0) (cf (ss:=[]) (by simp)) ?_ rfl rfl;simp[RH,Td,Tm.enc]
 ·cases hv
def yd:aS:=⟨28,fun | [.str s]=>some (Tm.nl 2 0 s).enc | _=>none⟩
theorem dV:yd.f=28:=(rfl)
theorem kW (s:List UInt8):yd.S [.str s]=some (.agg [.int .i64 2,.int .i64 0,.str s,.aA]):=rfl
theorem Bg:bC Tryz.prog yd:=fun args v hv=>by
 unfold yd at hv ⊢;dsimp only at hv ⊢;split at hv
 ·cases hv;refine cB (n:=3) (h':=h0) (cf (ss:=[]) (by simp)) ?_ rfl rfl;simp[RE,c28,Tm.enc]
 ·cases hv
def cm (s:List UInt8):List Tm→Tm
 | []=>.nl 2 0 s
 | us=>.mk 2 0 s us
def rU:aS:=⟨47,fun
 | [.str s,.aA]=>some (Tm.nl 2 0 s).enc
 | [.str s,.sl xs]=>(match jy xs with | some us=>if us.length < 1000000000000 then some (cm s us).enc else none | none=>none)
 | _=>none⟩
theorem a6:rU.f=47:=(rfl)
theorem iD (s:List UInt8) (us:List Tm) (h:us.length < 1000000000000):rU.S [.str s,.sl (us.map Tm.enc)]=some (cm s us).enc:=by
 unfold rU;dsimp only;rw[←jq,lq];exact if_pos h
theorem pJ:∀{xs:List AV} {us:List Tm},jy xs=some us→xs=us.map Tm.enc
 | [],us,e=>by simp[jy] at e;subst e;rfl
 | x::r,us,e=>by
   simp only[jy] at e;split at e
   ·rename_i t l h1 h2;cases e;rw[fo h1,pJ h2];rfl
   ·cases e
theorem rJ:bC Tryz.prog rU:=fun args v hv=>by
 unfold rU at hv ⊢;dsimp only at hv ⊢;split at hv
 ·cases hv;refine cB (n:=4) (h':=h0) (cf (ss:=[]) (by simp)) ?_ rfl rfl;simp[KD,QW,Tm.enc]
 ·rename_i s xs;split at hv
  ·rename_i us hx;split at hv
   ·rename_i hl;cases hv;rw[pJ hx];refine cB (n:=4) (h':=h0) (cf (ss:=[]) (by simp)) ?_ (Tm.dh _) (by simp[AV.aq,AV.refs,bQ])
    cases us with
    | nil=>simp[KD,QW,Tm.enc,cm]
    | cons t r=>
      have h5:AV.aq (r.map Tm.enc)=0:=bQ _;have h6:t.enc.refs=0:=Tm.dh _;have hcl:=Ir 86 (xs:=t.enc::r.map Tm.enc) (by simp);have he:=fun h=>JY h (t::r)
      have b1:(r.length+1)*56≤140737488355328:=by simp at hl;omega
      have b2:r.length+1 < 9223372036854775808:=by simp at hl;omega
      have e:(cm s (t::r)).enc=.agg [.int .i64 2,.int .i64 0,.str s,.sl (t.enc::r.map Tm.enc)]:=by simp[cm,Tm.enc,jq,Tm.pX]
      have hfr:=bE (t::r)
      have hf:∀(X:bj) (wl md d:Nat),hZ ⟨2,[.row (aU (t::r)),X],wl,md⟩ 0 (d+2) (.vec 1 0 (r.length+1) 4 (r.length+1))=some (.sl ((t::r).map Tm.enc),[1]):=fun X wl md d=>
       vD (by omega) rfl (by omega) (mI (t::r)) (by simp) (by rw[c8];simp) (by rw[oy,List.take_of_length_le];rw[c8];simp)
      rw[e];simp only[List.map_cons,List.length_cons] at he hf;simp[KD,QW,Ry,Th,hcl,h5,h6,b1,b2,he,hfr,hf,uC]
   ·cases hv
  ·cases hv
 ·cases hv
theorem tK:∀{a b:List AV},AV.aq a=0→AV.aq b=0→AV.aq (a++b)=0
 | [],b,_,hb=>hb
 | v::r,b,ha,hb=>by
   simp only[AV.aq] at ha;simp only[List.cons_append,AV.aq];rw[tK (a:=r) (by omega) hb];omega
theorem um:∀{a:List AV},AV.aq a=0→∀k,AV.aq (a.take k)=0∧AV.aq (a.drop k)=0
 | [],_,k=>by simp[AV.aq]
 | v::r,ha,0=>⟨by simp[AV.aq],by simpa using ha⟩
 | v::r,ha,k+1=>by
   simp only[AV.aq] at ha;have:=um (a:=r) (by omega) k;simp only[List.take_succ_cons,List.drop_succ_cons,AV.aq];exact⟨by rw[this.1];omega,this.2⟩
theorem iY {R:List AV} (h:AV.aq R=0) (x:Tm) (k:Nat) (hk:k+4≤R.length):AV.aq (putAt R k x.cells)=0:=by
 rw[mG x.cells R k (by have:x.cells.length=4:=rfl;omega)];have q1:AV.aq x.cells=0:=by simp[Tm.cells,AV.aq,AV.refs,aP]
 exact tK (tK (um h _).1 q1) (um h _).2
def eD {σ:Type} (fs:Tm→σ→Bool×σ):Nat→List Tm→σ→Bool×σ
 | 0,_,s=>(true,s)
 | _+1,[],s=>(true,s)
 | d+1,x::rs,s=>if (fs x s).1 then eD fs d (x.args++rs) (fs x s).2 else (false,(fs x s).2)
mutual
def Tm.size:Tm→Nat
 | .nl ..=>1
 | .mk _ _ _ us=>1+Tm.dv us
def Tm.dv:List Tm→Nat
 | []=>0
 | t::r=>t.size+Tm.dv r
end
theorem hO (t:Tm):t.size=1+Tm.dv t.args:=by cases t<;>rfl
theorem kO:∀a b:List Tm,Tm.dv (a++b)=Tm.dv a+Tm.dv b
 | [],b=>by simp[Tm.dv]
 | t::r,b=>by simp[Tm.dv,kO r b];omega
theorem gu:∀a:List Tm,a.length≤Tm.dv a
 | []=>by simp
 | t::r=>by
   have:=gu r;have:=hO t;simp[Tm.dv];omega
theorem Bd {R:List AV} {st:List Tm} {x:Tm} (h:R.take ((st.length+1)*4)=aU (st++[x])):R.take (st.length*4)=aU st∧(R.drop (st.length*4)).take 4=x.cells:=by
 have e:aU (st++[x])=aU st++x.cells:=by simp[aU]
 have hl:=c8 st;refine⟨?_,?_⟩
 ·have:=congrArg (List.take (st.length*4)) h;rw[List.take_take,Nat.min_eq_left (by omega),e,List.take_left' hl] at this;exact this
 ·have:=congrArg (List.drop (st.length*4)) h;rw[List.drop_take,e,List.drop_left' hl,show (st.length+1)*4 - st.length*4=4 by omega] at this;exact this
theorem sn (C:Nat→List AV→aa→Option (AV×aa)) (n g:Nat) (caps:List AV) (hc:AV.aq caps≤2) (X:Tm) (os:List bj) (md:Nat) (hmd:∀k,2≤k→min md k=md) (w:Nat) (hw:min w 5=w):∀(i m:Nat) (st:List Tm),i≤X.args.length→i < m→st.length+i < 1000000000000→
 jf 5 w (cO (aT C n dD) c7 5 m (ki (.fn g caps) (.vec 5 0 st.length 4 st.length) (.ptr 4 0) (.int .i64 ((i:Int) - 1))) ⟨6,.row (aU st)::.row X.cells::.dead::os,5,md⟩)=
  some (.exit 2,FM 44 [(1,.fn g caps),(5,.vec 5 0 (st.length+i) 4 (st.length+i))],⟨6,.row (aU (st++(X.args.take i).reverse))::.row X.cells::.dead::os,w,md⟩)
 | 0,m+1,st,_,_,_=>by
   have h1:(0≤(-1:Int))=False:=by simp
   have hr:AV.aq caps≤5:=by omega
   have hm1:min md 3=md:=hmd 3 (by omega);have hm2:min md 5=md:=hmd 5 (by omega);have hfr:=bE st;simp[aB,dD,hr,hfr,hw]
 | i+1,m+1,st,hi,hm,hl=>by
   have hr:AV.aq caps≤5:=by omega
   have hm1:min md 3=md:=hmd 3 (by omega);have hm2:min md 5=md:=hmd 5 (by omega);obtain⟨x,hx⟩:∃x,X.args[i]? =some x:=⟨X.args[i]'(by omega),by simp⟩
   have ih:=sn C n g caps hc X os md hmd w hw i m (st++[x]) (by omega) (by omega) (by simp;omega)
   have ha:X.cE=.sl (X.args.map Tm.enc):=by
    cases X with
    | nl k n s=>simp[Tm.args] at hx
    | mk k n s us=>rfl
   have hX:X.cells=[.int .i64 X.kind,.int .i64 X.num,.str X.name,.sl (X.args.map Tm.enc)]:=by rw[←ha];rfl
   have h5:AV.aq (X.args.map Tm.enc)=0:=bQ _;have hxe:=Tm.cG x;have hxc:=Tm.cr x;have hxr:=aP x;have hfr:=bE st;have hfl:=c8 st;have w1:IntKind.i64.wrap ((i:Int) - 1)=(i:Int) - 1:=wrap_i64 (by omega) (by omega);have t1:(0≤(i:Int))=True:=eq_true (by omega);have b1:(st.length+1)*56≤140737488355328:=by omega
   have b2:st.length+1 < 9223372036854775808:=by omega
   have htk:X.args.take (i+1)=X.args.take i++[x]:=by
    rw[List.take_add_one,hx];rfl
   have hft:aU (st++[x])=aU st++[.int .i64 x.kind,.int .i64 x.num,.str x.name,x.cE]:=by
    simp[aU,Tm.cells]
   have hft2:List.take (st.length*4) (aU st)=aU st:=List.take_of_length_le (by omega);have hfr2:AV.aq (aU st++[.int .i64 x.kind,.int .i64 x.num,.str x.name,x.cE])=0:=by rw[←hft];exact bE _
   rw[htk,List.reverse_append];simp only[List.length_append,List.length_cons,List.length_nil,Nat.zero_add,List.append_assoc,hft] at ih;have e1:st.length+1+i=st.length+(i+1):=by omega
   rw[e1] at ih;have e2:((i+1:Nat):Int) - 1=(i:Int):=by omega
   rw[e2,aB];rw[hX] at ih ⊢;simp[dD,c7,h5,hx,hxe,hxc,hxr,hfr,hfl,w1,t1,b1,b2,hr,hft2,hfr2,hm1,hm2,aR];exact ih
theorem yY {R:List AV} {st:List Tm} {lb:Nat} (hR:R.length=lb*4) (ht:R.take (st.length*4)=aU st) (hlb:st.length+1≤lb) (x:Tm):
 (putAt R (st.length*4) x.cells).length=lb*4∧(putAt R (st.length*4) x.cells).take ((st++[x]).length*4)=aU (st++[x]):=by
 have hc:x.cells.length=4:=rfl;have h1:st.length*4+x.cells.length≤R.length:=by omega
 refine⟨?_,?_⟩
 ·rw[mG x.cells R _ h1];simp only[List.length_append,List.length_take,List.length_drop];omega
 ·have:=kK x.cells h1;rw[List.length_append,show (st.length+[x].length)*4=st.length*4+x.cells.length by simp[hc];omega,this,ht];simp[aU]
theorem qu (C:Nat→List AV→aa→Option (AV×aa)) (n g:Nat) (caps:List AV) (hc:AV.aq caps≤2) (X:Tm) (os:List bj) (md:Nat) (hmd:∀k,2≤k→min md k=md) (w:Nat) (hw:min w 5=w) (lb:Nat):∀(i m:Nat) (st:List Tm) (R:List AV),i≤X.args.length→i < m→st.length+i≤lb→lb < 1000000000000→R.length=lb*4→R.take (st.length*4)=aU st→AV.aq R=0→
 ∃R',R'.length=lb*4∧R'.take ((st.length+i)*4)=aU (st++(X.args.take i).reverse)∧AV.aq R'=0∧
 jf 5 w (cO (aT C n dD) c7 5 m (ki (.fn g caps) (.vec 3 0 st.length 4 lb) (.ptr 4 0) (.int .i64 ((i:Int) - 1))) ⟨5,.row X.cells::.row R::os,5,md⟩)=
  some (.exit 2,FM 44 [(1,.fn g caps),(5,.vec 3 0 (st.length+i) 4 lb)],⟨5,.row X.cells::.row R'::os,w,md⟩)
 | 0,m+1,st,R,_,_,_,_,hR,ht,hrR=>by
   have h1:(0≤(-1:Int))=False:=by simp
   have hr:AV.aq caps≤5:=by omega
   have hm1:min md 3=md:=hmd 3 (by omega);have hm2:min md 5=md:=hmd 5 (by omega);refine⟨R,hR,by simpa using ht,hrR,?_⟩;simp[aB,dD,hr,hw]
 | i+1,m+1,st,R,hi,hm,hlb,hl,hR,ht,hrR=>by
   have hr:AV.aq caps≤5:=by omega
   have hm1:min md 3=md:=hmd 3 (by omega);have hm2:min md 5=md:=hmd 5 (by omega);obtain⟨x,hx⟩:∃x,X.args[i]? =some x:=⟨X.args[i]'(by omega),by simp⟩
   obtain⟨p1,p2⟩:=yY hR ht (by omega) x;have p3:=iY hrR x (st.length*4) (by omega);obtain⟨R',r1,r2,r3,ih⟩:=qu C n g caps hc X os md hmd w hw lb i m (st++[x]) (putAt R (st.length*4) x.cells) (by omega) (by omega) (by simp;omega) hl p1 p2 p3;have e1:(st++[x]).length+i=st.length+(i+1):=by simp;omega
   have htk:X.args.take (i+1)=X.args.take i++[x]:=by
    rw[List.take_add_one,hx];rfl
   refine⟨R',r1,?_,r3,?_⟩
   ·rw[htk,List.reverse_append,←e1,r2];simp[List.append_assoc]
   have ha:X.cE=.sl (X.args.map Tm.enc):=by
    cases X with
    | nl k n s=>simp[Tm.args] at hx
    | mk k n s us=>rfl
   have hX:X.cells=[.int .i64 X.kind,.int .i64 X.num,.str X.name,.sl (X.args.map Tm.enc)]:=by rw[←ha];rfl
   have h5:AV.aq (X.args.map Tm.enc)=0:=bQ _;have hxe:=Tm.cG x;have hxc:=Tm.cr x;have hxr:=aP x;have w1:IntKind.i64.wrap ((i:Int) - 1)=(i:Int) - 1:=wrap_i64 (by omega) (by omega);have t1:(0≤(i:Int))=True:=eq_true (by omega);have b1:st.length*4≤R.length:=by omega
   have b2:st.length+1≤lb:=by omega
   have b3:(st.length+1)*4≤R.length:=by omega
   have hbs:putAt [.int .i64 0,.int .i64 0,.str [],.aA] 0 [.int .i64 x.kind,.int .i64 x.num,.str x.name,x.cE]=[.int .i64 x.kind,.int .i64 x.num,.str x.name,x.cE]:=rfl;have hl1:(st++[x]).length=st.length+1:=by simp
   rw[hl1,show st.length+1+i=st.length+(i+1) by omega] at ih;have e2:((i+1:Nat):Int) - 1=(i:Int):=by omega
   rw[e2,aB];rw[hX,hxc] at ih;rw[hX];simp[dD,c7,h5,hx,hxe,hxc,hxr,w1,t1,b1,b2,b3,hr,hm1,hm2,hrR,hbs,aR,-gi];exact ih
theorem qo (C:Nat→List AV→aa→Option (AV×aa)) (n g:Nat) (caps:List AV) (hc:AV.aq caps≤2) (X:Tm) (os:List bj) (md:Nat) (hmd:∀k,2≤k→min md k=md) (w:Nat) (hw:min w 5=w) (lb:Nat):∀(i m:Nat) (st:List Tm) (R:List AV),i≤X.args.length→i < m→st.length≤lb→lb < st.length+i→st.length+i < 1000000000000→R.length=lb*4→R.take (st.length*4)=aU st→AV.aq R=0→
 jf 5 w (cO (aT C n dD) c7 5 m (ki (.fn g caps) (.vec 3 0 st.length 4 lb) (.ptr 4 0) (.int .i64 ((i:Int) - 1))) ⟨5,.row X.cells::.row R::os,5,md⟩)=
  some (.exit 2,FM 44 [(1,.fn g caps),(5,.vec 5 0 (st.length+i) 4 (st.length+i))],⟨6,.row (aU (st++(X.args.take i).reverse))::.row X.cells::.dead::os,w,md⟩)
 | 0,m,st,R,_,_,h1,h2,_,_,_,_=>by omega
 | i+1,0,st,R,_,h,_,_,_,_,_,_=>by omega
 | i+1,m+1,st,R,hi,hm,h1,h2,hl,hR,ht,hrR=>by
   have hr:AV.aq caps≤5:=by omega
   have hm1:min md 3=md:=hmd 3 (by omega);have hm2:min md 5=md:=hmd 5 (by omega);obtain⟨x,hx⟩:∃x,X.args[i]? =some x:=⟨X.args[i]'(by omega),by simp⟩
   have htk:X.args.take (i+1)=X.args.take i++[x]:=by
    rw[List.take_add_one,hx];rfl
   have ha:X.cE=.sl (X.args.map Tm.enc):=by
    cases X with
    | nl k n s=>simp[Tm.args] at hx
    | mk k n s us=>rfl
   have hX:X.cells=[.int .i64 X.kind,.int .i64 X.num,.str X.name,.sl (X.args.map Tm.enc)]:=by rw[←ha];rfl
   have h5:AV.aq (X.args.map Tm.enc)=0:=bQ _;have hxe:=Tm.cG x;have hxc:=Tm.cr x;have hxr:=aP x;have w1:IntKind.i64.wrap ((i:Int) - 1)=(i:Int) - 1:=wrap_i64 (by omega) (by omega);have t1:(0≤(i:Int))=True:=eq_true (by omega);have b1:st.length*4≤R.length:=by omega
   have hbs:putAt [.int .i64 0,.int .i64 0,.str [],.aA] 0 [.int .i64 x.kind,.int .i64 x.num,.str x.name,x.cE]=[.int .i64 x.kind,.int .i64 x.num,.str x.name,x.cE]:=rfl;have hl1:(st++[x]).length=st.length+1:=by simp
   have e2:((i+1:Nat):Int) - 1=(i:Int):=by omega
   by_cases hfit:st.length+1≤lb
   ·obtain⟨p1,p2⟩:=yY hR ht (by omega) x;have p3:=iY hrR x (st.length*4) (by omega);have ih:=qo C n g caps hc X os md hmd w hw lb i m (st++[x]) (putAt R (st.length*4) x.cells) (by omega) (by omega) (by omega) (by omega) (by omega) p1 p2 p3;have b3:(st.length+1)*4≤R.length:=by omega
    rw[hl1,show st.length+1+i=st.length+(i+1) by omega] at ih;rw[e2,aB,htk,List.reverse_append];rw[hX,hxc] at ih;rw[hX];simp only[List.append_assoc] at ih;simp[dD,c7,h5,hx,hxe,hxc,hxr,w1,t1,b1,hfit,b3,hr,hm1,hm2,hrR,hbs,aR,-gi];exact ih
   ·have hlb:lb=st.length:=by omega
    have ih:=sn C n g caps hc X os md hmd w hw i m (st++[x]) (by omega) (by omega) (by omega);have c1:(st.length+1)*56≤140737488355328:=by omega
    have c2:st.length+1 < 9223372036854775808:=by omega
    have hft:aU (st++[x])=aU st++[.int .i64 x.kind,.int .i64 x.num,.str x.name,x.cE]:=by
     simp[aU,Tm.cells]
    have hfr2:AV.aq (aU st++[.int .i64 x.kind,.int .i64 x.num,.str x.name,x.cE])=0:=by rw[←hft];exact bE _
    rw[hl1,show st.length+1+i=st.length+(i+1) by omega,hft] at ih;rw[e2,aB,htk,List.reverse_append];rw[hX] at ih ⊢;simp only[List.append_assoc] at ih;simp[dD,c7,h5,hx,hxe,hxc,hxr,w1,t1,b1,hfit,c1,c2,hr,hm1,hm2,hrR,ht,hfr2,aR];exact ih
theorem ri (C:Nat→List AV→aa→Option (AV×aa)) (n g:Nat) (caps:List AV) (hc:AV.aq caps≤2) (X:Tm) (os:List bj) (md:Nat) (hmd:∀k,2≤k→min md k=md) (w:Nat) (hw:min w 6=w):∀(i m:Nat) (st:List Tm),i≤X.args.length→i < m→st.length+i < 1000000000000→
 jf 6 w (cO (aT C n dD) c7 6 m (ki (.fn g caps) (.vec 6 0 st.length 4 st.length) (.ptr 5 0) (.int .i64 ((i:Int) - 1))) ⟨7,.row (aU st)::.row X.cells::.dead::os,6,md⟩)=
  some (.exit 2,FM 44 [(1,.fn g caps),(5,.vec 6 0 (st.length+i) 4 (st.length+i))],⟨7,.row (aU (st++(X.args.take i).reverse))::.row X.cells::.dead::os,w,md⟩)
 | 0,m+1,st,_,_,_=>by
   have h1:(0≤(-1:Int))=False:=by simp
   have hr:AV.aq caps≤6:=by omega
   have hm1:min md 4=md:=hmd 4 (by omega);have hm2:min md 6=md:=hmd 6 (by omega);have hfr:=bE st;simp[aB,dD,hr,hfr,hw]
 | i+1,m+1,st,hi,hm,hl=>by
   have hr:AV.aq caps≤6:=by omega
   have hm1:min md 4=md:=hmd 4 (by omega);have hm2:min md 6=md:=hmd 6 (by omega);obtain⟨x,hx⟩:∃x,X.args[i]? =some x:=⟨X.args[i]'(by omega),by simp⟩
   have ih:=ri C n g caps hc X os md hmd w hw i m (st++[x]) (by omega) (by omega) (by simp;omega)
   have ha:X.cE=.sl (X.args.map Tm.enc):=by
    cases X with
    | nl k n s=>simp[Tm.args] at hx
    | mk k n s us=>rfl
   have hX:X.cells=[.int .i64 X.kind,.int .i64 X.num,.str X.name,.sl (X.args.map Tm.enc)]:=by rw[←ha];rfl
   have h5:AV.aq (X.args.map Tm.enc)=0:=bQ _;have hxe:=Tm.cG x;have hxc:=Tm.cr x;have hxr:=aP x;have hfr:=bE st;have hfl:=c8 st;have w1:IntKind.i64.wrap ((i:Int) - 1)=(i:Int) - 1:=wrap_i64 (by omega) (by omega);have t1:(0≤(i:Int))=True:=eq_true (by omega);have b1:(st.length+1)*56≤140737488355328:=by omega
   have b2:st.length+1 < 9223372036854775808:=by omega
   have htk:X.args.take (i+1)=X.args.take i++[x]:=by
    rw[List.take_add_one,hx];rfl
   have hft:aU (st++[x])=aU st++[.int .i64 x.kind,.int .i64 x.num,.str x.name,x.cE]:=by
    simp[aU,Tm.cells]
   have hft2:List.take (st.length*4) (aU st)=aU st:=List.take_of_length_le (by omega);have hfr2:AV.aq (aU st++[.int .i64 x.kind,.int .i64 x.num,.str x.name,x.cE])=0:=by rw[←hft];exact bE _
   rw[htk,List.reverse_append];simp only[List.length_append,List.length_cons,List.length_nil,Nat.zero_add,List.append_assoc,hft] at ih;have e1:st.length+1+i=st.length+(i+1):=by omega
   rw[e1] at ih;have e2:((i+1:Nat):Int) - 1=(i:Int):=by omega
   rw[e2,aB];rw[hX] at ih ⊢;simp[dD,c7,h5,hx,hxe,hxc,hxr,hfr,hfl,w1,t1,b1,b2,hr,hft2,hfr2,hm1,hm2,aR];exact ih
theorem yC {R:List AV} {st:List Tm} {lb:Nat} (hR:R.length=lb*4) (ht:R.take (st.length*4)=aU st) (hlb:st.length+1≤lb) (x:Tm):
 (putAt R (st.length*4) x.cells).length=lb*4∧(putAt R (st.length*4) x.cells).take ((st++[x]).length*4)=aU (st++[x]):=by
 have hc:x.cells.length=4:=rfl;have h1:st.length*4+x.cells.length≤R.length:=by omega
 refine⟨?_,?_⟩
 ·rw[mG x.cells R _ h1];simp only[List.length_append,List.length_take,List.length_drop];omega
 ·have:=kK x.cells h1;rw[List.length_append,show (st.length+[x].length)*4=st.length*4+x.cells.length by simp[hc];omega,this,ht];simp[aU]
theorem p7 (C:Nat→List AV→aa→Option (AV×aa)) (n g:Nat) (caps:List AV) (hc:AV.aq caps≤2) (X:Tm) (os:List bj) (md:Nat) (hmd:∀k,2≤k→min md k=md) (w:Nat) (hw:min w 6=w) (lb:Nat):∀(i m:Nat) (st:List Tm) (R:List AV),i≤X.args.length→i < m→st.length+i≤lb→lb < 1000000000000→R.length=lb*4→R.take (st.length*4)=aU st→AV.aq R=0→
 ∃R',R'.length=lb*4∧R'.take ((st.length+i)*4)=aU (st++(X.args.take i).reverse)∧AV.aq R'=0∧
 jf 6 w (cO (aT C n dD) c7 6 m (ki (.fn g caps) (.vec 4 0 st.length 4 lb) (.ptr 5 0) (.int .i64 ((i:Int) - 1))) ⟨6,.row X.cells::.row R::os,6,md⟩)=
  some (.exit 2,FM 44 [(1,.fn g caps),(5,.vec 4 0 (st.length+i) 4 lb)],⟨6,.row X.cells::.row R'::os,w,md⟩)
 | 0,m+1,st,R,_,_,_,_,hR,ht,hrR=>by
   have h1:(0≤(-1:Int))=False:=by simp
   have hr:AV.aq caps≤6:=by omega
   have hm1:min md 4=md:=hmd 4 (by omega);have hm2:min md 6=md:=hmd 6 (by omega);refine⟨R,hR,by simpa using ht,hrR,?_⟩;simp[aB,dD,hr,hw]
 | i+1,m+1,st,R,hi,hm,hlb,hl,hR,ht,hrR=>by
   have hr:AV.aq caps≤6:=by omega
   have hm1:min md 4=md:=hmd 4 (by omega);have hm2:min md 6=md:=hmd 6 (by omega);obtain⟨x,hx⟩:∃x,X.args[i]? =some x:=⟨X.args[i]'(by omega),by simp⟩
   obtain⟨p1,p2⟩:=yC hR ht (by omega) x;have p3:=iY hrR x (st.length*4) (by omega);obtain⟨R',r1,r2,r3,ih⟩:=p7 C n g caps hc X os md hmd w hw lb i m (st++[x]) (putAt R (st.length*4) x.cells) (by omega) (by omega) (by simp;omega) hl p1 p2 p3;have e1:(st++[x]).length+i=st.length+(i+1):=by simp;omega
   have htk:X.args.take (i+1)=X.args.take i++[x]:=by
    rw[List.take_add_one,hx];rfl
   refine⟨R',r1,?_,r3,?_⟩
   ·rw[htk,List.reverse_append,←e1,r2];simp[List.append_assoc]
   have ha:X.cE=.sl (X.args.map Tm.enc):=by
    cases X with
    | nl k n s=>simp[Tm.args] at hx
    | mk k n s us=>rfl
   have hX:X.cells=[.int .i64 X.kind,.int .i64 X.num,.str X.name,.sl (X.args.map Tm.enc)]:=by rw[←ha];rfl
   have h5:AV.aq (X.args.map Tm.enc)=0:=bQ _;have hxe:=Tm.cG x;have hxc:=Tm.cr x;have hxr:=aP x;have w1:IntKind.i64.wrap ((i:Int) - 1)=(i:Int) - 1:=wrap_i64 (by omega) (by omega);have t1:(0≤(i:Int))=True:=eq_true (by omega);have b1:st.length*4≤R.length:=by omega
   have b2:st.length+1≤lb:=by omega
   have b3:(st.length+1)*4≤R.length:=by omega
   have hbs:putAt [.int .i64 0,.int .i64 0,.str [],.aA] 0 [.int .i64 x.kind,.int .i64 x.num,.str x.name,x.cE]=[.int .i64 x.kind,.int .i64 x.num,.str x.name,x.cE]:=rfl;have hl1:(st++[x]).length=st.length+1:=by simp
   rw[hl1,show st.length+1+i=st.length+(i+1) by omega] at ih;have e2:((i+1:Nat):Int) - 1=(i:Int):=by omega
   rw[e2,aB];rw[hX,hxc] at ih;rw[hX];simp[dD,c7,h5,hx,hxe,hxc,hxr,w1,t1,b1,b2,b3,hr,hm1,hm2,hrR,hbs,aR,-gi];exact ih
theorem qp (C:Nat→List AV→aa→Option (AV×aa)) (n g:Nat) (caps:List AV) (hc:AV.aq caps≤2) (X:Tm) (os:List bj) (md:Nat) (hmd:∀k,2≤k→min md k=md) (w:Nat) (hw:min w 6=w) (lb:Nat):∀(i m:Nat) (st:List Tm) (R:List AV),i≤X.args.length→i < m→st.length≤lb→lb < st.length+i→st.length+i < 1000000000000→R.length=lb*4→R.take (st.length*4)=aU st→AV.aq R=0→
 jf 6 w (cO (aT C n dD) c7 6 m (ki (.fn g caps) (.vec 4 0 st.length 4 lb) (.ptr 5 0) (.int .i64 ((i:Int) - 1))) ⟨6,.row X.cells::.row R::os,6,md⟩)=
  some (.exit 2,FM 44 [(1,.fn g caps),(5,.vec 6 0 (st.length+i) 4 (st.length+i))],⟨7,.row (aU (st++(X.args.take i).reverse))::.row X.cells::.dead::os,w,md⟩)
 | 0,m,st,R,_,_,h1,h2,_,_,_,_=>by omega
 | i+1,0,st,R,_,h,_,_,_,_,_,_=>by omega
 | i+1,m+1,st,R,hi,hm,h1,h2,hl,hR,ht,hrR=>by
   have hr:AV.aq caps≤6:=by omega
   have hm1:min md 4=md:=hmd 4 (by omega);have hm2:min md 6=md:=hmd 6 (by omega);obtain⟨x,hx⟩:∃x,X.args[i]? =some x:=⟨X.args[i]'(by omega),by simp⟩
   have htk:X.args.take (i+1)=X.args.take i++[x]:=by
    rw[List.take_add_one,hx];rfl
   have ha:X.cE=.sl (X.args.map Tm.enc):=by
    cases X with
    | nl k n s=>simp[Tm.args] at hx
    | mk k n s us=>rfl
   have hX:X.cells=[.int .i64 X.kind,.int .i64 X.num,.str X.name,.sl (X.args.map Tm.enc)]:=by rw[←ha];rfl
   have h5:AV.aq (X.args.map Tm.enc)=0:=bQ _;have hxe:=Tm.cG x;have hxc:=Tm.cr x;have hxr:=aP x;have w1:IntKind.i64.wrap ((i:Int) - 1)=(i:Int) - 1:=wrap_i64 (by omega) (by omega);have t1:(0≤(i:Int))=True:=eq_true (by omega);have b1:st.length*4≤R.length:=by omega
   have hbs:putAt [.int .i64 0,.int .i64 0,.str [],.aA] 0 [.int .i64 x.kind,.int .i64 x.num,.str x.name,x.cE]=[.int .i64 x.kind,.int .i64 x.num,.str x.name,x.cE]:=rfl;have hl1:(st++[x]).length=st.length+1:=by simp
   have e2:((i+1:Nat):Int) - 1=(i:Int):=by omega
   by_cases hfit:st.length+1≤lb
   ·obtain⟨p1,p2⟩:=yC hR ht (by omega) x;have p3:=iY hrR x (st.length*4) (by omega);have ih:=qp C n g caps hc X os md hmd w hw lb i m (st++[x]) (putAt R (st.length*4) x.cells) (by omega) (by omega) (by omega) (by omega) (by omega) p1 p2 p3;have b3:(st.length+1)*4≤R.length:=by omega
    rw[hl1,show st.length+1+i=st.length+(i+1) by omega] at ih;rw[e2,aB,htk,List.reverse_append];rw[hX,hxc] at ih;rw[hX];simp only[List.append_assoc] at ih;simp[dD,c7,h5,hx,hxe,hxc,hxr,w1,t1,b1,hfit,b3,hr,hm1,hm2,hrR,hbs,aR,-gi];exact ih
   ·have hlb:lb=st.length:=by omega
    have ih:=ri C n g caps hc X os md hmd w hw i m (st++[x]) (by omega) (by omega) (by omega);have c1:(st.length+1)*56≤140737488355328:=by omega
    have c2:st.length+1 < 9223372036854775808:=by omega
    have hft:aU (st++[x])=aU st++[.int .i64 x.kind,.int .i64 x.num,.str x.name,x.cE]:=by
     simp[aU,Tm.cells]
    have hfr2:AV.aq (aU st++[.int .i64 x.kind,.int .i64 x.num,.str x.name,x.cE])=0:=by rw[←hft];exact bE _
    rw[hl1,show st.length+1+i=st.length+(i+1) by omega,hft] at ih;rw[e2,aB,htk,List.reverse_append];rw[hX] at ih ⊢;simp only[List.append_assoc] at ih;simp[dD,c7,h5,hx,hxe,hxc,hxr,w1,t1,b1,hfit,c1,c2,hr,hm1,hm2,hrR,ht,hfr2,aR];exact ih
theorem rN (C:Nat→List AV→aa→Option (AV×aa)) (n g:Nat) (caps:List AV) (hc:AV.aq caps≤1) (X:Tm) (os:List bj) (md:Nat) (hmd:∀k,1≤k→min md k=md) (w:Nat) (hw:min w 4=w):∀(i m:Nat) (st:List Tm),i≤X.args.length→i < m→st.length+i < 1000000000000→
 jf 4 w (cO (aT C n dD) c7 4 m (ki (.fn g caps) (.vec 4 0 st.length 4 st.length) (.ptr 3 0) (.int .i64 ((i:Int) - 1))) ⟨5,.row (aU st)::.row X.cells::.dead::os,4,md⟩)=
  some (.exit 2,FM 44 [(1,.fn g caps),(5,.vec 4 0 (st.length+i) 4 (st.length+i))],⟨5,.row (aU (st++(X.args.take i).reverse))::.row X.cells::.dead::os,w,md⟩)
 | 0,m+1,st,_,_,_=>by
   have h1:(0≤(-1:Int))=False:=by simp
   have hr:AV.aq caps≤4:=by omega
   have hm1:min md 2=md:=hmd 2 (by omega);have hm2:min md 4=md:=hmd 4 (by omega);have hfr:=bE st;simp[aB,dD,hr,hfr,hw]
 | i+1,m+1,st,hi,hm,hl=>by
   have hr:AV.aq caps≤4:=by omega
   have hm1:min md 2=md:=hmd 2 (by omega);have hm2:min md 4=md:=hmd 4 (by omega);obtain⟨x,hx⟩:∃x,X.args[i]? =some x:=⟨X.args[i]'(by omega),by simp⟩
   have ih:=rN C n g caps hc X os md hmd w hw i m (st++[x]) (by omega) (by omega) (by simp;omega)
   have ha:X.cE=.sl (X.args.map Tm.enc):=by
    cases X with
    | nl k n s=>simp[Tm.args] at hx
    | mk k n s us=>rfl
   have hX:X.cells=[.int .i64 X.kind,.int .i64 X.num,.str X.name,.sl (X.args.map Tm.enc)]:=by rw[←ha];rfl
   have h5:AV.aq (X.args.map Tm.enc)=0:=bQ _;have hxe:=Tm.cG x;have hxc:=Tm.cr x;have hxr:=aP x;have hfr:=bE st;have hfl:=c8 st;have w1:IntKind.i64.wrap ((i:Int) - 1)=(i:Int) - 1:=wrap_i64 (by omega) (by omega);have t1:(0≤(i:Int))=True:=eq_true (by omega);have b1:(st.length+1)*56≤140737488355328:=by omega
   have b2:st.length+1 < 9223372036854775808:=by omega
   have htk:X.args.take (i+1)=X.args.take i++[x]:=by
    rw[List.take_add_one,hx];rfl
   have hft:aU (st++[x])=aU st++[.int .i64 x.kind,.int .i64 x.num,.str x.name,x.cE]:=by
    simp[aU,Tm.cells]
   have hft2:List.take (st.length*4) (aU st)=aU st:=List.take_of_length_le (by omega);have hfr2:AV.aq (aU st++[.int .i64 x.kind,.int .i64 x.num,.str x.name,x.cE])=0:=by rw[←hft];exact bE _
   rw[htk,List.reverse_append];simp only[List.length_append,List.length_cons,List.length_nil,Nat.zero_add,List.append_assoc,hft] at ih;have e1:st.length+1+i=st.length+(i+1):=by omega
   rw[e1] at ih;have e2:((i+1:Nat):Int) - 1=(i:Int):=by omega
   rw[e2,aB];rw[hX] at ih ⊢;simp[dD,c7,h5,hx,hxe,hxc,hxr,hfr,hfl,w1,t1,b1,b2,hr,hft2,hfr2,hm1,hm2,aR];exact ih
theorem yh {R:List AV} {st:List Tm} {lb:Nat} (hR:R.length=lb*4) (ht:R.take (st.length*4)=aU st) (hlb:st.length+1≤lb) (x:Tm):
 (putAt R (st.length*4) x.cells).length=lb*4∧(putAt R (st.length*4) x.cells).take ((st++[x]).length*4)=aU (st++[x]):=by
 have hc:x.cells.length=4:=rfl;have h1:st.length*4+x.cells.length≤R.length:=by omega
 refine⟨?_,?_⟩
 ·rw[mG x.cells R _ h1];simp only[List.length_append,List.length_take,List.length_drop];omega
 ·have:=kK x.cells h1;rw[List.length_append,show (st.length+[x].length)*4=st.length*4+x.cells.length by simp[hc];omega,this,ht];simp[aU]
theorem qh (C:Nat→List AV→aa→Option (AV×aa)) (n g:Nat) (caps:List AV) (hc:AV.aq caps≤1) (X:Tm) (os:List bj) (md:Nat) (hmd:∀k,1≤k→min md k=md) (w:Nat) (hw:min w 4=w) (lb:Nat):∀(i m:Nat) (st:List Tm) (R:List AV),i≤X.args.length→i < m→st.length+i≤lb→lb < 1000000000000→R.length=lb*4→R.take (st.length*4)=aU st→AV.aq R=0→
 ∃R',R'.length=lb*4∧R'.take ((st.length+i)*4)=aU (st++(X.args.take i).reverse)∧AV.aq R'=0∧
 jf 4 w (cO (aT C n dD) c7 4 m (ki (.fn g caps) (.vec 2 0 st.length 4 lb) (.ptr 3 0) (.int .i64 ((i:Int) - 1))) ⟨4,.row X.cells::.row R::os,4,md⟩)=
  some (.exit 2,FM 44 [(1,.fn g caps),(5,.vec 2 0 (st.length+i) 4 lb)],⟨4,.row X.cells::.row R'::os,w,md⟩)
 | 0,m+1,st,R,_,_,_,_,hR,ht,hrR=>by
   have h1:(0≤(-1:Int))=False:=by simp
   have hr:AV.aq caps≤4:=by omega
   have hm1:min md 2=md:=hmd 2 (by omega);have hm2:min md 4=md:=hmd 4 (by omega);refine⟨R,hR,by simpa using ht,hrR,?_⟩;simp[aB,dD,hr,hw]
 | i+1,m+1,st,R,hi,hm,hlb,hl,hR,ht,hrR=>by
   have hr:AV.aq caps≤4:=by omega
   have hm1:min md 2=md:=hmd 2 (by omega);have hm2:min md 4=md:=hmd 4 (by omega);obtain⟨x,hx⟩:∃x,X.args[i]? =some x:=⟨X.args[i]'(by omega),by simp⟩
   obtain⟨p1,p2⟩:=yh hR ht (by omega) x;have p3:=iY hrR x (st.length*4) (by omega);obtain⟨R',r1,r2,r3,ih⟩:=qh C n g caps hc X os md hmd w hw lb i m (st++[x]) (putAt R (st.length*4) x.cells) (by omega) (by omega) (by simp;omega) hl p1 p2 p3;have e1:(st++[x]).length+i=st.length+(i+1):=by simp;omega
   have htk:X.args.take (i+1)=X.args.take i++[x]:=by
    rw[List.take_add_one,hx];rfl
   refine⟨R',r1,?_,r3,?_⟩
   ·rw[htk,List.reverse_append,←e1,r2];simp[List.append_assoc]
   have ha:X.cE=.sl (X.args.map Tm.enc):=by
    cases X with
    | nl k n s=>simp[Tm.args] at hx
    | mk k n s us=>rfl
   have hX:X.cells=[.int .i64 X.kind,.int .i64 X.num,.str X.name,.sl (X.args.map Tm.enc)]:=by rw[←ha];rfl
   have h5:AV.aq (X.args.map Tm.enc)=0:=bQ _;have hxe:=Tm.cG x;have hxc:=Tm.cr x;have hxr:=aP x;have w1:IntKind.i64.wrap ((i:Int) - 1)=(i:Int) - 1:=wrap_i64 (by omega) (by omega);have t1:(0≤(i:Int))=True:=eq_true (by omega);have b1:st.length*4≤R.length:=by omega
   have b2:st.length+1≤lb:=by omega
   have b3:(st.length+1)*4≤R.length:=by omega
   have hbs:putAt [.int .i64 0,.int .i64 0,.str [],.aA] 0 [.int .i64 x.kind,.int .i64 x.num,.str x.name,x.cE]=[.int .i64 x.kind,.int .i64 x.num,.str x.name,x.cE]:=rfl;have hl1:(st++[x]).length=st.length+1:=by simp
   rw[hl1,show st.length+1+i=st.length+(i+1) by omega] at ih;have e2:((i+1:Nat):Int) - 1=(i:Int):=by omega
   rw[e2,aB];rw[hX,hxc] at ih;rw[hX];simp[dD,c7,h5,hx,hxe,hxc,hxr,w1,t1,b1,b2,b3,hr,hm1,hm2,hrR,hbs,aR,-gi];exact ih
theorem qf (C:Nat→List AV→aa→Option (AV×aa)) (n g:Nat) (caps:List AV) (hc:AV.aq caps≤1) (X:Tm) (os:List bj) (md:Nat) (hmd:∀k,1≤k→min md k=md) (w:Nat) (hw:min w 4=w) (lb:Nat):∀(i m:Nat) (st:List Tm) (R:List AV),i≤X.args.length→i < m→st.length≤lb→lb < st.length+i→st.length+i < 1000000000000→R.length=lb*4→R.take (st.length*4)=aU st→AV.aq R=0→
 jf 4 w (cO (aT C n dD) c7 4 m (ki (.fn g caps) (.vec 2 0 st.length 4 lb) (.ptr 3 0) (.int .i64 ((i:Int) - 1))) ⟨4,.row X.cells::.row R::os,4,md⟩)=
  some (.exit 2,FM 44 [(1,.fn g caps),(5,.vec 4 0 (st.length+i) 4 (st.length+i))],⟨5,.row (aU (st++(X.args.take i).reverse))::.row X.cells::.dead::os,w,md⟩)
 | 0,m,st,R,_,_,h1,h2,_,_,_,_=>by omega
 | i+1,0,st,R,_,h,_,_,_,_,_,_=>by omega
 | i+1,m+1,st,R,hi,hm,h1,h2,hl,hR,ht,hrR=>by
   have hr:AV.aq caps≤4:=by omega
   have hm1:min md 2=md:=hmd 2 (by omega);have hm2:min md 4=md:=hmd 4 (by omega);obtain⟨x,hx⟩:∃x,X.args[i]? =some x:=⟨X.args[i]'(by omega),by simp⟩
   have htk:X.args.take (i+1)=X.args.take i++[x]:=by
    rw[List.take_add_one,hx];rfl
   have ha:X.cE=.sl (X.args.map Tm.enc):=by
    cases X with
    | nl k n s=>simp[Tm.args] at hx
    | mk k n s us=>rfl
   have hX:X.cells=[.int .i64 X.kind,.int .i64 X.num,.str X.name,.sl (X.args.map Tm.enc)]:=by rw[←ha];rfl
   have h5:AV.aq (X.args.map Tm.enc)=0:=bQ _;have hxe:=Tm.cG x;have hxc:=Tm.cr x;have hxr:=aP x;have w1:IntKind.i64.wrap ((i:Int) - 1)=(i:Int) - 1:=wrap_i64 (by omega) (by omega);have t1:(0≤(i:Int))=True:=eq_true (by omega);have b1:st.length*4≤R.length:=by omega
   have hbs:putAt [.int .i64 0,.int .i64 0,.str [],.aA] 0 [.int .i64 x.kind,.int .i64 x.num,.str x.name,x.cE]=[.int .i64 x.kind,.int .i64 x.num,.str x.name,x.cE]:=rfl;have hl1:(st++[x]).length=st.length+1:=by simp
   have e2:((i+1:Nat):Int) - 1=(i:Int):=by omega
   by_cases hfit:st.length+1≤lb
   ·obtain⟨p1,p2⟩:=yh hR ht (by omega) x;have p3:=iY hrR x (st.length*4) (by omega);have ih:=qf C n g caps hc X os md hmd w hw lb i m (st++[x]) (putAt R (st.length*4) x.cells) (by omega) (by omega) (by omega) (by omega) (by omega) p1 p2 p3;have b3:(st.length+1)*4≤R.length:=by omega
    rw[hl1,show st.length+1+i=st.length+(i+1) by omega] at ih;rw[e2,aB,htk,List.reverse_append];rw[hX,hxc] at ih;rw[hX];simp only[List.append_assoc] at ih;simp[dD,c7,h5,hx,hxe,hxc,hxr,w1,t1,b1,hfit,b3,hr,hm1,hm2,hrR,hbs,aR,-gi];exact ih
   ·have hlb:lb=st.length:=by omega
    have ih:=rN C n g caps hc X os md hmd w hw i m (st++[x]) (by omega) (by omega) (by omega);have c1:(st.length+1)*56≤140737488355328:=by omega
    have c2:st.length+1 < 9223372036854775808:=by omega
    have hft:aU (st++[x])=aU st++[.int .i64 x.kind,.int .i64 x.num,.str x.name,x.cE]:=by
     simp[aU,Tm.cells]
    have hfr2:AV.aq (aU st++[.int .i64 x.kind,.int .i64 x.num,.str x.name,x.cE])=0:=by rw[←hft];exact bE _
    rw[hl1,show st.length+1+i=st.length+(i+1) by omega,hft] at ih;rw[e2,aB,htk,List.reverse_append];rw[hX] at ih ⊢;simp only[List.append_assoc] at ih;simp[dD,c7,h5,hx,hxe,hxc,hxr,w1,t1,b1,hfit,c1,c2,hr,hm1,hm2,hrR,ht,hfr2,aR];exact ih
theorem su (C:Nat→List AV→aa→Option (AV×aa)) (n g:Nat) (caps:List AV) (hc:AV.aq caps≤1) (X:Tm) (os:List bj) (md:Nat) (hmd:∀k,1≤k→min md k=md) (w:Nat) (hw:min w 5=w):∀(i m:Nat) (st:List Tm),i≤X.args.length→i < m→st.length+i < 1000000000000→
 jf 5 w (cO (aT C n dD) c7 5 m (ki (.fn g caps) (.vec 5 0 st.length 4 st.length) (.ptr 4 0) (.int .i64 ((i:Int) - 1))) ⟨6,.row (aU st)::.row X.cells::.dead::os,5,md⟩)=
  some (.exit 2,FM 44 [(1,.fn g caps),(5,.vec 5 0 (st.length+i) 4 (st.length+i))],⟨6,.row (aU (st++(X.args.take i).reverse))::.row X.cells::.dead::os,w,md⟩)
 | 0,m+1,st,_,_,_=>by
   have h1:(0≤(-1:Int))=False:=by simp
   have hr:AV.aq caps≤5:=by omega
   have hm1:min md 3=md:=hmd 3 (by omega);have hm2:min md 5=md:=hmd 5 (by omega);have hfr:=bE st;simp[aB,dD,hr,hfr,hw]
 | i+1,m+1,st,hi,hm,hl=>by
   have hr:AV.aq caps≤5:=by omega
   have hm1:min md 3=md:=hmd 3 (by omega);have hm2:min md 5=md:=hmd 5 (by omega);obtain⟨x,hx⟩:∃x,X.args[i]? =some x:=⟨X.args[i]'(by omega),by simp⟩
   have ih:=su C n g caps hc X os md hmd w hw i m (st++[x]) (by omega) (by omega) (by simp;omega)
   have ha:X.cE=.sl (X.args.map Tm.enc):=by
    cases X with
    | nl k n s=>simp[Tm.args] at hx
    | mk k n s us=>rfl
   have hX:X.cells=[.int .i64 X.kind,.int .i64 X.num,.str X.name,.sl (X.args.map Tm.enc)]:=by rw[←ha];rfl
   have h5:AV.aq (X.args.map Tm.enc)=0:=bQ _;have hxe:=Tm.cG x;have hxc:=Tm.cr x;have hxr:=aP x;have hfr:=bE st;have hfl:=c8 st;have w1:IntKind.i64.wrap ((i:Int) - 1)=(i:Int) - 1:=wrap_i64 (by omega) (by omega);have t1:(0≤(i:Int))=True:=eq_true (by omega);have b1:(st.length+1)*56≤140737488355328:=by omega
   have b2:st.length+1 < 9223372036854775808:=by omega
   have htk:X.args.take (i+1)=X.args.take i++[x]:=by
    rw[List.take_add_one,hx];rfl
   have hft:aU (st++[x])=aU st++[.int .i64 x.kind,.int .i64 x.num,.str x.name,x.cE]:=by
    simp[aU,Tm.cells]
   have hft2:List.take (st.length*4) (aU st)=aU st:=List.take_of_length_le (by omega);have hfr2:AV.aq (aU st++[.int .i64 x.kind,.int .i64 x.num,.str x.name,x.cE])=0:=by rw[←hft];exact bE _
   rw[htk,List.reverse_append];simp only[List.length_append,List.length_cons,List.length_nil,Nat.zero_add,List.append_assoc,hft] at ih;have e1:st.length+1+i=st.length+(i+1):=by omega
   rw[e1] at ih;have e2:((i+1:Nat):Int) - 1=(i:Int):=by omega
   rw[e2,aB];rw[hX] at ih ⊢;simp[dD,c7,h5,hx,hxe,hxc,hxr,hfr,hfl,w1,t1,b1,b2,hr,hft2,hfr2,hm1,hm2,aR];exact ih
theorem yn {R:List AV} {st:List Tm} {lb:Nat} (hR:R.length=lb*4) (ht:R.take (st.length*4)=aU st) (hlb:st.length+1≤lb) (x:Tm):
 (putAt R (st.length*4) x.cells).length=lb*4∧(putAt R (st.length*4) x.cells).take ((st++[x]).length*4)=aU (st++[x]):=by
 have hc:x.cells.length=4:=rfl;have h1:st.length*4+x.cells.length≤R.length:=by omega
 refine⟨?_,?_⟩
 ·rw[mG x.cells R _ h1];simp only[List.length_append,List.length_take,List.length_drop];omega
 ·have:=kK x.cells h1;rw[List.length_append,show (st.length+[x].length)*4=st.length*4+x.cells.length by simp[hc];omega,this,ht];simp[aU]
theorem qj (C:Nat→List AV→aa→Option (AV×aa)) (n g:Nat) (caps:List AV) (hc:AV.aq caps≤1) (X:Tm) (os:List bj) (md:Nat) (hmd:∀k,1≤k→min md k=md) (w:Nat) (hw:min w 5=w) (lb:Nat):∀(i m:Nat) (st:List Tm) (R:List AV),i≤X.args.length→i < m→st.length+i≤lb→lb < 1000000000000→R.length=lb*4→R.take (st.length*4)=aU st→AV.aq R=0→
 ∃R',R'.length=lb*4∧R'.take ((st.length+i)*4)=aU (st++(X.args.take i).reverse)∧AV.aq R'=0∧
 jf 5 w (cO (aT C n dD) c7 5 m (ki (.fn g caps) (.vec 3 0 st.length 4 lb) (.ptr 4 0) (.int .i64 ((i:Int) - 1))) ⟨5,.row X.cells::.row R::os,5,md⟩)=
  some (.exit 2,FM 44 [(1,.fn g caps),(5,.vec 3 0 (st.length+i) 4 lb)],⟨5,.row X.cells::.row R'::os,w,md⟩)
 | 0,m+1,st,R,_,_,_,_,hR,ht,hrR=>by
   have h1:(0≤(-1:Int))=False:=by simp
   have hr:AV.aq caps≤5:=by omega
   have hm1:min md 3=md:=hmd 3 (by omega);have hm2:min md 5=md:=hmd 5 (by omega);refine⟨R,hR,by simpa using ht,hrR,?_⟩;simp[aB,dD,hr,hw]
 | i+1,m+1,st,R,hi,hm,hlb,hl,hR,ht,hrR=>by
   have hr:AV.aq caps≤5:=by omega
   have hm1:min md 3=md:=hmd 3 (by omega);have hm2:min md 5=md:=hmd 5 (by omega);obtain⟨x,hx⟩:∃x,X.args[i]? =some x:=⟨X.args[i]'(by omega),by simp⟩
   obtain⟨p1,p2⟩:=yn hR ht (by omega) x;have p3:=iY hrR x (st.length*4) (by omega);obtain⟨R',r1,r2,r3,ih⟩:=qj C n g caps hc X os md hmd w hw lb i m (st++[x]) (putAt R (st.length*4) x.cells) (by omega) (by omega) (by simp;omega) hl p1 p2 p3;have e1:(st++[x]).length+i=st.length+(i+1):=by simp;omega
   have htk:X.args.take (i+1)=X.args.take i++[x]:=by
    rw[List.take_add_one,hx];rfl
   refine⟨R',r1,?_,r3,?_⟩
   ·rw[htk,List.reverse_append,←e1,r2];simp[List.append_assoc]
   have ha:X.cE=.sl (X.args.map Tm.enc):=by
    cases X with
    | nl k n s=>simp[Tm.args] at hx
    | mk k n s us=>rfl
   have hX:X.cells=[.int .i64 X.kind,.int .i64 X.num,.str X.name,.sl (X.args.map Tm.enc)]:=by rw[←ha];rfl
   have h5:AV.aq (X.args.map Tm.enc)=0:=bQ _;have hxe:=Tm.cG x;have hxc:=Tm.cr x;have hxr:=aP x;have w1:IntKind.i64.wrap ((i:Int) - 1)=(i:Int) - 1:=wrap_i64 (by omega) (by omega);have t1:(0≤(i:Int))=True:=eq_true (by omega);have b1:st.length*4≤R.length:=by omega
   have b2:st.length+1≤lb:=by omega
   have b3:(st.length+1)*4≤R.length:=by omega
   have hbs:putAt [.int .i64 0,.int .i64 0,.str [],.aA] 0 [.int .i64 x.kind,.int .i64 x.num,.str x.name,x.cE]=[.int .i64 x.kind,.int .i64 x.num,.str x.name,x.cE]:=rfl;have hl1:(st++[x]).length=st.length+1:=by simp
   rw[hl1,show st.length+1+i=st.length+(i+1) by omega] at ih;have e2:((i+1:Nat):Int) - 1=(i:Int):=by omega
   rw[e2,aB];rw[hX,hxc] at ih;rw[hX];simp[dD,c7,h5,hx,hxe,hxc,hxr,w1,t1,b1,b2,b3,hr,hm1,hm2,hrR,hbs,aR,-gi];exact ih
theorem p9 (C:Nat→List AV→aa→Option (AV×aa)) (n g:Nat) (caps:List AV) (hc:AV.aq caps≤1) (X:Tm) (os:List bj) (md:Nat) (hmd:∀k,1≤k→min md k=md) (w:Nat) (hw:min w 5=w) (lb:Nat):∀(i m:Nat) (st:List Tm) (R:List AV),i≤X.args.length→i < m→st.length≤lb→lb < st.length+i→st.length+i < 1000000000000→R.length=lb*4→R.take (st.length*4)=aU st→AV.aq R=0→
 jf 5 w (cO (aT C n dD) c7 5 m (ki (.fn g caps) (.vec 3 0 st.length 4 lb) (.ptr 4 0) (.int .i64 ((i:Int) - 1))) ⟨5,.row X.cells::.row R::os,5,md⟩)=
  some (.exit 2,FM 44 [(1,.fn g caps),(5,.vec 5 0 (st.length+i) 4 (st.length+i))],⟨6,.row (aU (st++(X.args.take i).reverse))::.row X.cells::.dead::os,w,md⟩)
 | 0,m,st,R,_,_,h1,h2,_,_,_,_=>by omega
 | i+1,0,st,R,_,h,_,_,_,_,_,_=>by omega
 | i+1,m+1,st,R,hi,hm,h1,h2,hl,hR,ht,hrR=>by
   have hr:AV.aq caps≤5:=by omega
   have hm1:min md 3=md:=hmd 3 (by omega);have hm2:min md 5=md:=hmd 5 (by omega);obtain⟨x,hx⟩:∃x,X.args[i]? =some x:=⟨X.args[i]'(by omega),by simp⟩
   have htk:X.args.take (i+1)=X.args.take i++[x]:=by
    rw[List.take_add_one,hx];rfl
   have ha:X.cE=.sl (X.args.map Tm.enc):=by
    cases X with
    | nl k n s=>simp[Tm.args] at hx
    | mk k n s us=>rfl
   have hX:X.cells=[.int .i64 X.kind,.int .i64 X.num,.str X.name,.sl (X.args.map Tm.enc)]:=by rw[←ha];rfl
   have h5:AV.aq (X.args.map Tm.enc)=0:=bQ _;have hxe:=Tm.cG x;have hxc:=Tm.cr x;have hxr:=aP x;have w1:IntKind.i64.wrap ((i:Int) - 1)=(i:Int) - 1:=wrap_i64 (by omega) (by omega);have t1:(0≤(i:Int))=True:=eq_true (by omega);have b1:st.length*4≤R.length:=by omega
   have hbs:putAt [.int .i64 0,.int .i64 0,.str [],.aA] 0 [.int .i64 x.kind,.int .i64 x.num,.str x.name,x.cE]=[.int .i64 x.kind,.int .i64 x.num,.str x.name,x.cE]:=rfl;have hl1:(st++[x]).length=st.length+1:=by simp
   have e2:((i+1:Nat):Int) - 1=(i:Int):=by omega
   by_cases hfit:st.length+1≤lb
   ·obtain⟨p1,p2⟩:=yn hR ht (by omega) x;have p3:=iY hrR x (st.length*4) (by omega);have ih:=p9 C n g caps hc X os md hmd w hw lb i m (st++[x]) (putAt R (st.length*4) x.cells) (by omega) (by omega) (by omega) (by omega) (by omega) p1 p2 p3;have b3:(st.length+1)*4≤R.length:=by omega
    rw[hl1,show st.length+1+i=st.length+(i+1) by omega] at ih;rw[e2,aB,htk,List.reverse_append];rw[hX,hxc] at ih;rw[hX];simp only[List.append_assoc] at ih;simp[dD,c7,h5,hx,hxe,hxc,hxr,w1,t1,b1,hfit,b3,hr,hm1,hm2,hrR,hbs,aR,-gi];exact ih
   ·have hlb:lb=st.length:=by omega
    have ih:=su C n g caps hc X os md hmd w hw i m (st++[x]) (by omega) (by omega) (by omega);have c1:(st.length+1)*56≤140737488355328:=by omega
    have c2:st.length+1 < 9223372036854775808:=by omega
    have hft:aU (st++[x])=aU st++[.int .i64 x.kind,.int .i64 x.num,.str x.name,x.cE]:=by
     simp[aU,Tm.cells]
    have hfr2:AV.aq (aU st++[.int .i64 x.kind,.int .i64 x.num,.str x.name,x.cE])=0:=by rw[←hft];exact bE _
    rw[hl1,show st.length+1+i=st.length+(i+1) by omega,hft] at ih;rw[e2,aB,htk,List.reverse_append];rw[hX] at ih ⊢;simp only[List.append_assoc] at ih;simp[dD,c7,h5,hx,hxe,hxc,hxr,w1,t1,b1,hfit,c1,c2,hr,hm1,hm2,hrR,ht,hfr2,aR];exact ih
theorem nL {σ:Type} (C:Nat→List AV→aa→Option (AV×aa)) (n g:Nat) (caps:List AV) (hc:AV.aq caps≤2) (fs:Tm→σ→Bool×σ) (tl:σ→List bj) (T:Tm) (mf:Nat→Nat)
 (okX:Tm→Prop) (hokX:∀x,okX x→∀y ∈ x.args,okX y) (okS:σ→Prop) (hokS:∀s x,okS s→(fs x s).1=true→okS (fs x s).2) (u7:Nat→Prop) (hmf:∀md,u7 md→u7 (mf md)) (hmd:∀md,u7 md→∀k,2≤k→min md k=md) (w:Nat) (hw:min w 4=w)
 (hA:∀s x R md,okX x→okS s→u7 md→C g (x.enc::caps) ⟨5,.row x.cells::.row R::.row T.cells::tl s,4,md⟩=some (.bool (fs x s).1,⟨5,.row x.cells::.row R::.row T.cells::tl (fs x s).2,4,mf md⟩))
 (hB:∀s x R md,okX x→okS s→u7 md→C g (x.enc::caps) ⟨6,.row x.cells::.row R::.dead::.row T.cells::tl s,4,md⟩=some (.bool (fs x s).1,⟨6,.row x.cells::.row R::.dead::.row T.cells::tl (fs x s).2,4,mf md⟩)):
 ∀(d m:Nat) (rs:List Tm) (R:List AV) (lb:Nat) (s:σ) (md:Nat),Tm.dv rs < d→d≤m→d≤n→Tm.dv rs < 1000000000→lb < 1000000000→rs.length≤lb→R.length=lb*4→R.take (rs.length*4)=aU rs.reverse→AV.aq R=0→(∀x ∈ rs,okX x)→okS s→u7 md→
 (∃Y md',u7 md'∧jf 4 w (cO (aT C n fm) fG 4 m (tT (.fn g caps) (.vec 3 0 rs.length 4 lb)) ⟨4,.row R::.row T.cells::tl s,4,md⟩)=
  some (if (eD fs d rs s).1 then .exit 0 else .ret,if (eD fs d rs s).1 then FM 44 [] else FM 44 [(4,.bool false)],⟨4,Y::.row T.cells::tl (eD fs d rs s).2,w,md'⟩))∧
 (∃Y md',u7 md'∧jf 4 w (cO (aT C n fm) fG 4 m (tT (.fn g caps) (.vec 4 0 rs.length 4 lb)) ⟨5,.row R::.dead::.row T.cells::tl s,4,md⟩)=
  some (if (eD fs d rs s).1 then .exit 0 else .ret,if (eD fs d rs s).1 then FM 44 [] else FM 44 [(4,.bool false)],⟨4,Y::.row T.cells::tl (eD fs d rs s).2,w,md'⟩))
 | 0,m,rs,R,lb,s,md,h,_,_,_,_,_,_,_,_,_,_,_=>by omega
 | d+1,0,rs,R,lb,s,md,_,h,_,_,_,_,_,_,_,_,_,_=>by omega
 | d+1,m+1,[],R,lb,s,md,_,_,_,_,_,_,hR,ht,hrR,hox,hos,hok=>by
   have hr:AV.aq caps≤4:=by omega
   refine⟨⟨.row R,md,hok,?_⟩,⟨.dead,md,hok,?_⟩⟩
   ·simp[aB,fm,eD,hr,hrR,hw]
   ·simp[aB,fm,eD,hr,hrR,hw]
 | d+1,m+1,x::rs,R,lb,s,md,hd,hm,hn,hsz,hlb,hlen,hR,ht,hrR,hox,hos,hok=>by
   have hr:AV.aq caps≤4:=by omega
   have hr1:AV.aq caps≤5:=by omega
   have hsx:=hO x;simp only[Tm.dv] at hd hsz;have hla:=gu x.args;have hlr:=gu rs;have hs2:Tm.dv (x.args++rs)=Tm.dv x.args+Tm.dv rs:=kO _ _;rw[List.length_cons] at hlen ht;rw[List.reverse_cons] at ht;have hrl:rs.reverse.length=rs.length:=List.length_reverse;rw[←hrl] at ht;obtain⟨t1,t2⟩:=Bd ht;rw[hrl] at t1 t2;have hok2:=hmf md hok;have w1:IntKind.i64.wrap (rs.length:Int)=(rs.length:Int):=wrap_i64 (by omega) (by omega);have b1:(0 < (rs.length:Int)+1)=True:=eq_true (by omega);have b2:rs.length*4+4≤R.length:=by omega
   have m1:min md 4=md:=hmd md hok 4 (by omega);have m2:min md 5=md:=hmd md hok 5 (by omega);have b3:((rs.length:Int) < (rs.length:Int)+1)=True:=eq_true (by omega)
   have hsl:fM (rs.length+1) lb none (some (.int .i64 (rs.length:Int))) none=some (0,rs.length,none):=by
    have a1:(rs.length:Int)≤((max (rs.length+1) lb:Nat):Int):=by omega
    simp[fM,sliceB,a1]
   have hxe:=Tm.cG x;have hA':=hA s x R md (hox x (by simp)) hos hok;have hB':=hB s x R md (hox x (by simp)) hos hok;rw[hxe] at hA' hB';have hcl:=Tm.cr x;have hxr:=aP x
   cases hf:(fs x s).1 with
   | false=>
     rw[hf] at hA' hB';have e:eD fs (d+1) (x::rs) s=(false,(fs x s).2):=by simp[eD,hf]
     rw[e];rw[hcl] at hA' hB' t2;refine⟨⟨.row R,mf md,hok2,?_⟩,⟨.dead,mf md,hok2,?_⟩⟩
     ·rw[aB];simp[fm,w1,b1,b2,b3,m1,m2,t2,hsl,hA',hr,hr1,hrR,hxr,hw]
     ·rw[aB];simp[fm,w1,b1,b2,b3,m1,m2,t2,hsl,hB',hr,hr1,hrR,hxr,hw]
   | true=>
     rw[hf] at hA' hB';have hos2:=hokS s x hos hf
     have hox2:∀y ∈ x.args++rs,okX y:=fun y hy=>by
      rcases List.mem_append.1 hy with hy | hy
      ·exact hokX x (hox x (by simp)) y hy
      ·exact hox y (by simp[hy])
     have e:eD fs (d+1) (x::rs) s=eD fs d (x.args++rs) (fs x s).2:=by simp[eD,hf]
     rw[e];have hw4:min 4 5=4:=rfl;have hw5:min 4 6=4:=rfl;have hta:x.args.take x.args.length=x.args:=List.take_length;have hst:rs.reverse++x.args.reverse=(x.args++rs).reverse:=by simp
     have hl2:rs.length+x.args.length=(x.args++rs).length:=by simp;omega
     have w2:IntKind.i64.wrap ((x.args.length:Int) - 1)=(x.args.length:Int) - 1:=wrap_i64 (by omega) (by omega)
     have hlv:∀(fr:List AV) (h:aa) (o:cY),o.ev fr=x.cE→bF fr h (.u0 o)=some (.int .i64 x.args.length,h):=by
      intro fr h o ho;rw[dP,ho];cases x<;>simp[Tm.cE,Tm.args]
     have t1':R.take (rs.reverse.length*4)=aU rs.reverse:=by rw[hrl];exact t1
     by_cases hfit:rs.length+x.args.length≤lb
     ·refine⟨?_,?_⟩
      ·obtain⟨R',r1,r2,r3,eq⟩:=qu C n g caps hc x (.row T.cells::tl (fs x s).2) (mf md) (hmd _ hok2) 4 hw4 lb x.args.length n rs.reverse R (Nat.le_refl _) (by omega) (by rw[hrl];exact hfit) (by omega) hR t1' hrR;obtain⟨⟨Y,md',k1,k2⟩,_⟩:=nL C n g caps hc fs tl T mf okX hokX okS hokS u7 hmf hmd w hw hA hB d m (x.args++rs) R' lb (fs x s).2 (mf md) (by omega) (by omega) (by omega) (by omega) hlb (by rw[←hl2];exact hfit) r1 (by rw[←hl2,←hst,←hrl];rw[hta] at r2;exact r2) r3 hox2 hos2 hok2;refine⟨Y,md',k1,?_⟩;rw[hrl] at eq;rw[aB];rw[←hl2] at k2;rw[hcl] at hA' t2 eq;simp only[c7] at eq;simp[fm,c7,fG,w1,w2,b1,b2,b3,m1,m2,t2,hsl,hA',hr,hr1,hrR,hxr,hw,hlv,eq,r3];exact k2
      ·obtain⟨R',r1,r2,r3,eq⟩:=p7 C n g caps hc x (.dead::.row T.cells::tl (fs x s).2) (mf md) (hmd _ hok2) 4 hw5 lb x.args.length n rs.reverse R (Nat.le_refl _) (by omega) (by rw[hrl];exact hfit) (by omega) hR t1' hrR;obtain⟨_,⟨Y,md',k1,k2⟩⟩:=nL C n g caps hc fs tl T mf okX hokX okS hokS u7 hmf hmd w hw hA hB d m (x.args++rs) R' lb (fs x s).2 (mf md) (by omega) (by omega) (by omega) (by omega) hlb (by rw[←hl2];exact hfit) r1 (by rw[←hl2,←hst,←hrl];rw[hta] at r2;exact r2) r3 hox2 hos2 hok2;refine⟨Y,md',k1,?_⟩;rw[hrl] at eq;rw[aB];rw[←hl2] at k2;rw[hcl] at hB' t2 eq;simp only[c7] at eq;simp[fm,c7,fG,w1,w2,b1,b2,b3,m1,m2,t2,hsl,hB',hr,hr1,hrR,hxr,hw,hlv,eq,r3];exact k2
     ·have hRn:(aU (x.args++rs).reverse).length=(x.args++rs).length*4:=by rw[c8,List.length_reverse]
      have hRr:=bE (x.args++rs).reverse;obtain⟨_,⟨Y,md',k1,k2⟩⟩:=nL C n g caps hc fs tl T mf okX hokX okS hokS u7 hmf hmd w hw hA hB d m (x.args++rs) (aU (x.args++rs).reverse) (x.args++rs).length (fs x s).2 (mf md) (by omega) (by omega) (by omega) (by omega) (by omega) (Nat.le_refl _) hRn (List.take_of_length_le (by omega)) hRr hox2 hos2 hok2;rw[←hl2] at k2;have hRr':=hRr;rw[List.reverse_append] at hRr';refine⟨⟨Y,md',k1,?_⟩,⟨Y,md',k1,?_⟩⟩
      ·have eq:=qo C n g caps hc x (.row T.cells::tl (fs x s).2) (mf md) (hmd _ hok2) 4 hw4 lb x.args.length n rs.reverse R (Nat.le_refl _) (by omega) (by omega) (by omega) (by omega) hR t1' hrR;rw[hta,hst,hrl] at eq;rw[aB];rw[hcl] at hA' t2 eq;simp only[c7] at eq;simp[fm,c7,fG,w1,w2,b1,b2,b3,m1,m2,t2,hsl,hA',hr,hr1,hrR,hxr,hw,hlv,eq,hRr'];rw[List.reverse_append] at k2;exact k2
      ·have eq:=qp C n g caps hc x (.dead::.row T.cells::tl (fs x s).2) (mf md) (hmd _ hok2) 4 hw5 lb x.args.length n rs.reverse R (Nat.le_refl _) (by omega) (by omega) (by omega) (by omega) hR t1' hrR;rw[hta,hst,hrl] at eq;rw[aB];rw[hcl] at hB' t2 eq;simp only[c7] at eq;simp[fm,c7,fG,w1,w2,b1,b2,b3,m1,m2,t2,hsl,hB',hr,hr1,hrR,hxr,hw,hlv,eq,hRr'];rw[List.reverse_append] at k2;exact k2
theorem nJ {σ:Type} (C:Nat→List AV→aa→Option (AV×aa)) (n g:Nat) (caps:List AV) (hc:AV.aq caps≤1) (fs:Tm→σ→Bool×σ) (tl:σ→List bj) (T:Tm) (mf:Nat→Nat)
 (okX:Tm→Prop) (hokX:∀x,okX x→∀y ∈ x.args,okX y) (okS:σ→Prop) (hokS:∀s x,okS s→(fs x s).1=true→okS (fs x s).2) (u7:Nat→Prop) (hmf:∀md,u7 md→u7 (mf md)) (hmd:∀md,u7 md→∀k,1≤k→min md k=md) (w:Nat) (hw:min w 3=w)
 (hA:∀s x R md,okX x→okS s→u7 md→C g (x.enc::caps) ⟨4,.row x.cells::.row R::.row T.cells::tl s,3,md⟩=some (.bool (fs x s).1,⟨4,.row x.cells::.row R::.row T.cells::tl (fs x s).2,3,mf md⟩))
 (hB:∀s x R md,okX x→okS s→u7 md→C g (x.enc::caps) ⟨5,.row x.cells::.row R::.dead::.row T.cells::tl s,3,md⟩=some (.bool (fs x s).1,⟨5,.row x.cells::.row R::.dead::.row T.cells::tl (fs x s).2,3,mf md⟩)):
 ∀(d m:Nat) (rs:List Tm) (R:List AV) (lb:Nat) (s:σ) (md:Nat),Tm.dv rs < d→d≤m→d≤n→Tm.dv rs < 1000000000→lb < 1000000000→rs.length≤lb→R.length=lb*4→R.take (rs.length*4)=aU rs.reverse→AV.aq R=0→(∀x ∈ rs,okX x)→okS s→u7 md→
 (∃Y md',u7 md'∧jf 3 w (cO (aT C n fm) fG 3 m (tT (.fn g caps) (.vec 2 0 rs.length 4 lb)) ⟨3,.row R::.row T.cells::tl s,3,md⟩)=
  some (if (eD fs d rs s).1 then .exit 0 else .ret,if (eD fs d rs s).1 then FM 44 [] else FM 44 [(4,.bool false)],⟨3,Y::.row T.cells::tl (eD fs d rs s).2,w,md'⟩))∧
 (∃Y md',u7 md'∧jf 3 w (cO (aT C n fm) fG 3 m (tT (.fn g caps) (.vec 3 0 rs.length 4 lb)) ⟨4,.row R::.dead::.row T.cells::tl s,3,md⟩)=
  some (if (eD fs d rs s).1 then .exit 0 else .ret,if (eD fs d rs s).1 then FM 44 [] else FM 44 [(4,.bool false)],⟨3,Y::.row T.cells::tl (eD fs d rs s).2,w,md'⟩))
 | 0,m,rs,R,lb,s,md,h,_,_,_,_,_,_,_,_,_,_,_=>by omega
 | d+1,0,rs,R,lb,s,md,_,h,_,_,_,_,_,_,_,_,_,_=>by omega
 | d+1,m+1,[],R,lb,s,md,_,_,_,_,_,_,hR,ht,hrR,hox,hos,hok=>by
   have hr:AV.aq caps≤3:=by omega
   refine⟨⟨.row R,md,hok,?_⟩,⟨.dead,md,hok,?_⟩⟩
   ·simp[aB,fm,eD,hr,hrR,hw]
   ·simp[aB,fm,eD,hr,hrR,hw]
 | d+1,m+1,x::rs,R,lb,s,md,hd,hm,hn,hsz,hlb,hlen,hR,ht,hrR,hox,hos,hok=>by
   have hr:AV.aq caps≤3:=by omega
   have hr1:AV.aq caps≤4:=by omega
   have hsx:=hO x;simp only[Tm.dv] at hd hsz;have hla:=gu x.args;have hlr:=gu rs;have hs2:Tm.dv (x.args++rs)=Tm.dv x.args+Tm.dv rs:=kO _ _;rw[List.length_cons] at hlen ht;rw[List.reverse_cons] at ht;have hrl:rs.reverse.length=rs.length:=List.length_reverse;rw[←hrl] at ht;obtain⟨t1,t2⟩:=Bd ht;rw[hrl] at t1 t2;have hok2:=hmf md hok;have w1:IntKind.i64.wrap (rs.length:Int)=(rs.length:Int):=wrap_i64 (by omega) (by omega);have b1:(0 < (rs.length:Int)+1)=True:=eq_true (by omega);have b2:rs.length*4+4≤R.length:=by omega
   have m1:min md 3=md:=hmd md hok 3 (by omega);have m2:min md 4=md:=hmd md hok 4 (by omega);have b3:((rs.length:Int) < (rs.length:Int)+1)=True:=eq_true (by omega)
   have hsl:fM (rs.length+1) lb none (some (.int .i64 (rs.length:Int))) none=some (0,rs.length,none):=by
    have a1:(rs.length:Int)≤((max (rs.length+1) lb:Nat):Int):=by omega
    simp[fM,sliceB,a1]
   have hxe:=Tm.cG x;have hA':=hA s x R md (hox x (by simp)) hos hok;have hB':=hB s x R md (hox x (by simp)) hos hok;rw[hxe] at hA' hB';have hcl:=Tm.cr x;have hxr:=aP x
   cases hf:(fs x s).1 with
   | false=>
     rw[hf] at hA' hB';have e:eD fs (d+1) (x::rs) s=(false,(fs x s).2):=by simp[eD,hf]
     rw[e];rw[hcl] at hA' hB' t2;refine⟨⟨.row R,mf md,hok2,?_⟩,⟨.dead,mf md,hok2,?_⟩⟩
     ·rw[aB];simp[fm,w1,b1,b2,b3,m1,m2,t2,hsl,hA',hr,hr1,hrR,hxr,hw]
     ·rw[aB];simp[fm,w1,b1,b2,b3,m1,m2,t2,hsl,hB',hr,hr1,hrR,hxr,hw]
   | true=>
     rw[hf] at hA' hB';have hos2:=hokS s x hos hf
     have hox2:∀y ∈ x.args++rs,okX y:=fun y hy=>by
      rcases List.mem_append.1 hy with hy | hy
      ·exact hokX x (hox x (by simp)) y hy
      ·exact hox y (by simp[hy])
     have e:eD fs (d+1) (x::rs) s=eD fs d (x.args++rs) (fs x s).2:=by simp[eD,hf]
     rw[e];have hw4:min 3 4=3:=rfl;have hw5:min 3 5=3:=rfl;have hta:x.args.take x.args.length=x.args:=List.take_length;have hst:rs.reverse++x.args.reverse=(x.args++rs).reverse:=by simp
     have hl2:rs.length+x.args.length=(x.args++rs).length:=by simp;omega
     have w2:IntKind.i64.wrap ((x.args.length:Int) - 1)=(x.args.length:Int) - 1:=wrap_i64 (by omega) (by omega)
     have hlv:∀(fr:List AV) (h:aa) (o:cY),o.ev fr=x.cE→bF fr h (.u0 o)=some (.int .i64 x.args.length,h):=by
      intro fr h o ho;rw[dP,ho];cases x<;>simp[Tm.cE,Tm.args]
     have t1':R.take (rs.reverse.length*4)=aU rs.reverse:=by rw[hrl];exact t1
     by_cases hfit:rs.length+x.args.length≤lb
     ·refine⟨?_,?_⟩
      ·obtain⟨R',r1,r2,r3,eq⟩:=qh C n g caps hc x (.row T.cells::tl (fs x s).2) (mf md) (hmd _ hok2) 3 hw4 lb x.args.length n rs.reverse R (Nat.le_refl _) (by omega) (by rw[hrl];exact hfit) (by omega) hR t1' hrR;obtain⟨⟨Y,md',k1,k2⟩,_⟩:=nJ C n g caps hc fs tl T mf okX hokX okS hokS u7 hmf hmd w hw hA hB d m (x.args++rs) R' lb (fs x s).2 (mf md) (by omega) (by omega) (by omega) (by omega) hlb (by rw[←hl2];exact hfit) r1 (by rw[←hl2,←hst,←hrl];rw[hta] at r2;exact r2) r3 hox2 hos2 hok2;refine⟨Y,md',k1,?_⟩;rw[hrl] at eq;rw[aB];rw[←hl2] at k2;rw[hcl] at hA' t2 eq;simp only[c7] at eq;simp[fm,c7,fG,w1,w2,b1,b2,b3,m1,m2,t2,hsl,hA',hr,hr1,hrR,hxr,hw,hlv,eq,r3];exact k2
      ·obtain⟨R',r1,r2,r3,eq⟩:=qj C n g caps hc x (.dead::.row T.cells::tl (fs x s).2) (mf md) (hmd _ hok2) 3 hw5 lb x.args.length n rs.reverse R (Nat.le_refl _) (by omega) (by rw[hrl];exact hfit) (by omega) hR t1' hrR;obtain⟨_,⟨Y,md',k1,k2⟩⟩:=nJ C n g caps hc fs tl T mf okX hokX okS hokS u7 hmf hmd w hw hA hB d m (x.args++rs) R' lb (fs x s).2 (mf md) (by omega) (by omega) (by omega) (by omega) hlb (by rw[←hl2];exact hfit) r1 (by rw[←hl2,←hst,←hrl];rw[hta] at r2;exact r2) r3 hox2 hos2 hok2;refine⟨Y,md',k1,?_⟩;rw[hrl] at eq;rw[aB];rw[←hl2] at k2;rw[hcl] at hB' t2 eq;simp only[c7] at eq;simp[fm,c7,fG,w1,w2,b1,b2,b3,m1,m2,t2,hsl,hB',hr,hr1,hrR,hxr,hw,hlv,eq,r3];exact k2
     ·have hRn:(aU (x.args++rs).reverse).length=(x.args++rs).length*4:=by rw[c8,List.length_reverse]
      have hRr:=bE (x.args++rs).reverse;obtain⟨_,⟨Y,md',k1,k2⟩⟩:=nJ C n g caps hc fs tl T mf okX hokX okS hokS u7 hmf hmd w hw hA hB d m (x.args++rs) (aU (x.args++rs).reverse) (x.args++rs).length (fs x s).2 (mf md) (by omega) (by omega) (by omega) (by omega) (by omega) (Nat.le_refl _) hRn (List.take_of_length_le (by omega)) hRr hox2 hos2 hok2;rw[←hl2] at k2;have hRr':=hRr;rw[List.reverse_append] at hRr';refine⟨⟨Y,md',k1,?_⟩,⟨Y,md',k1,?_⟩⟩
      ·have eq:=qf C n g caps hc x (.row T.cells::tl (fs x s).2) (mf md) (hmd _ hok2) 3 hw4 lb x.args.length n rs.reverse R (Nat.le_refl _) (by omega) (by omega) (by omega) (by omega) hR t1' hrR;rw[hta,hst,hrl] at eq;rw[aB];rw[hcl] at hA' t2 eq;simp only[c7] at eq;simp[fm,c7,fG,w1,w2,b1,b2,b3,m1,m2,t2,hsl,hA',hr,hr1,hrR,hxr,hw,hlv,eq,hRr'];rw[List.reverse_append] at k2;exact k2
      ·have eq:=p9 C n g caps hc x (.dead::.row T.cells::tl (fs x s).2) (mf md) (hmd _ hok2) 3 hw5 lb x.args.length n rs.reverse R (Nat.le_refl _) (by omega) (by omega) (by omega) (by omega) hR t1' hrR;rw[hta,hst,hrl] at eq;rw[aB];rw[hcl] at hB' t2 eq;simp only[c7] at eq;simp[fm,c7,fG,w1,w2,b1,b2,b3,m1,m2,t2,hsl,hB',hr,hr1,hrR,hxr,hw,hlv,eq,hRr'];rw[List.reverse_append] at k2;exact k2
def cntF (_:Tm) (k:Nat):Bool×Nat:=(decide (k+1≤2000),k+1)
def vI (t:Tm):Nat:=(eD cntF (t.size+1) [t] 0).2
theorem Bb:∀(d:Nat) (rs:List Tm) (k:Nat),Tm.dv rs < d→k≤2000→(eD cntF d rs k).2=min (k+Tm.dv rs) 2001
 | 0,rs,k,h,_=>by omega
 | d+1,[],k,_,hk=>by simp[eD,Tm.dv];omega
 | d+1,x::rs,k,h,hk=>by
   have hs:=hO x;have h2:=kO x.args rs;simp only[Tm.dv] at h ⊢;unfold eD;simp only[cntF,decide_eq_true_eq];split
   ·rename_i hc;rw[Bb d (x.args++rs) (k+1) (by omega) hc,h2];omega
   ·omega
theorem Cg (t:Tm):vI t=min t.size 2001:=by
 unfold vI;rw[Bb _ _ _ (by simp[Tm.dv]) (by omega)];simp[Tm.dv]
theorem Qg (n:Nat) (x:Tm) (k:Nat) (hk:k≤2000) (R:bj) (T T0:bj) (md:Nat):az (ew []) (n+1) 101 [x.enc,.ptr 1 0] ⟨5,.row x.cells::R::T::.row [.int .i64 k]::[T0],4,md⟩=
 some (.bool (cntF x k).1,⟨5,.row x.cells::R::T::.row [.int .i64 ((cntF x k).2:Nat)]::[T0],4,min md 1⟩):=by
 have hxe:=Tm.cG x;have hcl:=Tm.cr x;have hxr:=aP x;have w1:IntKind.i64.wrap ((k:Int)+1)=(k:Int)+1:=wrap_i64 (by omega) (by omega);rw[hxe,hcl];by_cases hc:k+1≤2000
 ·have hc':((k:Int)+1≤2000)=True:=eq_true (by omega);simp[zX,DQ,cntF,hc,hc',w1,hxr]
 ·have hc':((k:Int)+1≤2000)=False:=eq_false (by omega);simp[zX,DQ,cntF,hc,hc',w1,hxr]
theorem Mf (n:Nat) (x:Tm) (k:Nat) (hk:k≤2000) (R:bj) (D T T0:bj) (md:Nat):az (ew []) (n+1) 101 [x.enc,.ptr 1 0] ⟨6,.row x.cells::R::D::T::.row [.int .i64 k]::[T0],4,md⟩=
 some (.bool (cntF x k).1,⟨6,.row x.cells::R::D::T::.row [.int .i64 ((cntF x k).2:Nat)]::[T0],4,min md 1⟩):=by
 have hxe:=Tm.cG x;have hcl:=Tm.cr x;have hxr:=aP x;have w1:IntKind.i64.wrap ((k:Int)+1)=(k:Int)+1:=wrap_i64 (by omega) (by omega);rw[hxe,hcl];by_cases hc:k+1≤2000
 ·have hc':((k:Int)+1≤2000)=True:=eq_true (by omega);simp[zX,DQ,cntF,hc,hc',w1,hxr]
 ·have hc':((k:Int)+1≤2000)=False:=eq_false (by omega);simp[zX,DQ,cntF,hc,hc',w1,hxr]
theorem GM (t:Tm) (hs:t.size < 1000000000) (n:Nat) (hn:t.size+1≤n+1):∃Y md',jf 4 2 (cO (aT (az (ew []) (n+1)) (n+1) fm) fG 4 (n+1) (tT (.fn 101 [.ptr 1 0]) (.vec 3 0 1 4 1)) ⟨4,[.row t.cells,.row t.cells,.row [.int .i64 0],.row t.cells],4,2⟩)=
 some (if (eD cntF (t.size+1) [t] 0).1 then .exit 0 else .ret,if (eD cntF (t.size+1) [t] 0).1 then FM 44 [] else FM 44 [(4,.bool false)],⟨4,[Y,.row t.cells,.row [.int .i64 (vI t:Nat)],.row t.cells],2,md'⟩):=by
 have h:=nL (az (ew []) (n+1)) (n+1) 101 [.ptr 1 0] (by simp[AV.aq,AV.refs]) cntF (fun k=>[.row [.int .i64 (k:Nat)],.row t.cells]) t (min · 1)
  (fun _=>True) (fun _ _ _ _=>trivial) (·≤2000) (fun s x _ h=>by simpa[cntF] using h) (fun md=>md=1∨md=2) (fun md h=>by omega) (fun md h k hk=>by omega) 2 rfl
  (fun s x R md _ hs' _=>Qg n x s hs' _ _ _ md) (fun s x R md _ hs' _=>Mf n x s hs' _ _ _ _ md)
  (t.size+1) (n+1) [t] t.cells 1 0 2 (by simp[Tm.dv]) hn hn (by simp[Tm.dv];exact hs) (by omega) (by simp) rfl (by simp[aU];rfl) (by simp[Tm.cells,AV.aq,AV.refs,aP]) (fun _ _=>trivial) (by omega) (.inr rfl)
 obtain⟨⟨Y,md',_,e⟩,_⟩:=h;exact⟨Y,md',e⟩
def uS:aS:=⟨59,fun | [v]=>(match jm v with | some t=>if t.size < 1000000000 then some (.int .i64 (vI t:Nat)) else none | none=>none) | _=>none⟩
theorem rM:uS.f=59:=(rfl)
theorem Jb (t:Tm) (h:t.size < 1000000000):uS.S [t.enc]=some (.int .i64 (vI t:Nat)):=by
 simp only[uS,fN,if_pos h]
theorem Kd:bC Tryz.prog uS:=fun args v hv=>by
 unfold uS at hv ⊢;dsimp only at hv ⊢;split at hv
 ·rename_i x;split at hv
  ·rename_i t ht;split at hv
   ·rename_i hl;cases hv;rw[fo ht];refine cB (n:=t.size+5) (h':=h0) (cf (ss:=[]) (by simp)) ?_ rfl (by simp[AV.aq,Tm.dh]);obtain⟨Y,md',eq⟩:=GM t hl (t.size+2) (by omega);have hcl:=Tm.cr t;have hxr:=aP t;rw[Tm.cG,hcl];rw[hcl] at eq;simp only[fG] at eq
    cases hb:(eD cntF (t.size+1) [t] 0).1 with
    | true=>
      rw[hb] at eq;simp only[if_true] at eq;simp[N6,c59,Gi,Px,fG,hxr,eq]
    | false=>
      rw[hb] at eq;simp only[Bool.false_eq_true,if_false] at eq;simp[N6,c59,Gi,Px,fG,hxr,eq]
   ·cases hv
  ·cases hv
 ·cases hv
theorem ai (h:aa) (n0 d:Nat) (t:Tm):hZ h n0 (d+1) t.cE=some (t.cE,[]):=ug (nK t)
mutual
def Tm.depth:Tm→Nat
 | .nl ..=>1
 | .mk _ _ _ us=>1+Tm.qH us
def Tm.qH:List Tm→Nat
 | []=>0
 | t::r=>max t.depth (Tm.qH r)
end
theorem Ec (t:Tm):t.depth=1+Tm.qH t.args:=by cases t<;>rfl
def jD (most d:Nat):List Tm→Nat
 | []=>d
 | x::r=>if most≤d+1 then d else jD most (max d (min x.depth (most - 1))) r
theorem Cc (most:Nat):∀(us:List Tm) (d:Nat),min (jD most d us+1) most=min (max d (Tm.qH us)+1) most
 | [],d=>by simp[jD,Tm.qH]
 | x::r,d=>by
   unfold jD;simp only[Tm.qH];split
   ·omega
   ·rw[Cc most r];omega
def gB (m:Nat):aS:=⟨102,fun | [v,.int .i64 n]=>(match jm v with | some t=>if n=m∧t.size < 1000000000 then some (.int .i64 (min t.depth m:Nat)) else none | none=>none) | _=>none⟩
theorem kT (m:Nat):(gB m).f=102:=(rfl)
theorem xx (m:Nat) (t:Tm) (h:t.size < 1000000000):(gB m).S [t.enc,.int .i64 (m:Nat)]=some (.int .i64 (min t.depth m:Nat)):=by
 simp only[gB,fN];exact if_pos ⟨trivial,h⟩
theorem Dt (m k:Nat) (v:AV) (h:k≠m):(gB m).S [v,.int .i64 (k:Nat)]=none:=by
 simp only[gB];split
 ·rw[if_neg (by omega)]
 ·rfl
theorem zk (n m:Nat) (hm:m≤100) (hm1:1≤m) (T:bj) (us:List Tm) (hs:Tm.dv us < 1000000000):∀(post pre:List Tm) (k d:Nat),us=pre++post→post.length < k→d≤100→
 ∃md,jf 1 0 (cO (aT (az (ew [gB (m - 1)]) (n+1)) (n+1) kF) kJ 1 k (LJ (.int .i64 m) (.int .i64 d) (.sl (us.map Tm.enc)) (.int .i64 us.length) (.int .i64 pre.length)) ⟨1,[T],1,0⟩)=
   some (.exit 0,FM 30 [(1,.int .i64 m),(5,.int .i64 (jD m d post:Nat))],⟨1,[T],0,md⟩)
 | [],pre,k+1,d,e,_,_=>by
   simp at e;subst e;have h5:AV.aq (us.map Tm.enc)=0:=bQ _;exact⟨0,by simp[aB,kF,h5,jD]⟩
 | x::post,pre,k+1,d,e,hk,hd=>by
   have hlu:=gu us;have h1:us[pre.length]? =some x:=by rw[e];simp
   have h5:AV.aq (us.map Tm.enc)=0:=bQ _;have h6:((pre.length:Int) < (us.length:Int))=True:=eq_true (by rw[e,List.length_append,List.length_cons];omega);have hpl:pre.length < us.length:=by rw[e];simp
   have h3:IntKind.i64.wrap ((pre.length:Int)+1)=(pre.length:Int)+1:=wrap_i64 (by omega) (by omega);have hxe:=Tm.cG x;have hcl:=Tm.cr x;have hxr:=aP x
   have hxs:x.size < 1000000000:=by
    have:=kO pre (x::post);rw[←e] at this;simp only[Tm.dv] at this;omega
   have w1:IntKind.i64.wrap ((m:Int) - 1)=((m - 1:Nat):Int):=by rw[wrap_i64 (by omega) (by omega)];omega
   by_cases hb:m≤d+1
   ·have hb':(((m - 1:Nat):Int)≤(d:Int))=True:=eq_true (by omega);refine⟨0,?_⟩;rw[aB];simp[kF,h1,h5,h6,hxe,hcl,hxr,w1,hb',jD,hb]
   ·have hb':(((m - 1:Nat):Int)≤(d:Int))=False:=eq_false (by omega);have hc:=xx (m - 1) x hxs;rw[hxe,hcl] at hc
    have hmx:(if d < min x.depth (m - 1) then ((min x.depth (m - 1):Nat):Int) else (d:Int))=((max d (min x.depth (m - 1)):Nat):Int):=by
     split<;>omega
    obtain⟨md,ih⟩:=zk n m hm hm1 T us hs post (pre++[x]) k (max d (min x.depth (m - 1))) (by simp[e]) (by rw[List.length_cons] at hk;omega) (by omega);refine⟨md,?_⟩;simp only[List.length_append,List.length_cons,List.length_nil,Nat.zero_add] at ih;rw[show ((pre.length+1:Nat):Int)=(pre.length:Int)+1 by omega] at ih;rw[aB]
    have hfd:jD m d (x::post)=jD m (max d (min x.depth (m - 1))) post:=by
     rw[jD,if_neg hb]
    rw[hfd];generalize min x.depth (m - 1)=q at hc hmx ih;generalize max d q=q2 at hmx ih;simp[kF,kJ,h1,h3,h5,h6,hxe,hcl,hxr,w1,hb',hc,hmx,ai,kT];exact ih
theorem zC (m:Nat) (hm1:1≤m) (hm:m≤100) (hp:bC Tryz.prog (gB (m - 1))):bC Tryz.prog (gB m):=fun args v hv=>by
 have hv0:=hv;unfold gB at hv;dsimp only at hv;split at hv
 ·rename_i x n;split at hv
  ·rename_i t ht;split at hv
   ·rename_i hc;obtain⟨rfl,hs⟩:=hc;cases hv;rw[fo ht];have hno:=Dt (m - 1) m t.enc (by omega);refine cB (n:=t.size+5) (h':=h0) (cf (ss:=[gB (m - 1)]) (by simp[hp])) ?_ rfl (by simp[AV.aq,AV.refs,Tm.dh]);rw[kT];have hxe:=Tm.cG t;have hcl:=Tm.cr t;have hxr:=aP t;have hsz:=hO t;have hla:=gu t.args;have hde:=Ec t;have hfe:=Cc m t.args 0;rw[Nat.zero_max,Nat.add_comm (Tm.qH t.args) 1,←hde] at hfe;rw[hxe,hcl] at hno ⊢
    have hr:jD m 0 t.args≤100:=by
     have key:∀(us:List Tm) (d:Nat),d≤100→jD m d us≤100:=by
      intro us
      induction us with
      | nil=>intro d h;exact h
      | cons x r ih=>
        intro d h;unfold jD;split
        ·exact h
        ·exact ih _ (by omega)
     exact key _ 0 (by omega)
    have w2:IntKind.i64.wrap ((jD m 0 t.args:Int)+1)=(jD m 0 t.args:Int)+1:=wrap_i64 (by omega) (by omega)
    have hmn:(if (m:Int) < (jD m 0 t.args:Int)+1 then (m:Int) else (jD m 0 t.args:Int)+1)=((min t.depth m:Nat):Int):=by
     split<;>omega
    obtain⟨md,lp⟩:=zk (t.size+3) m hm hm1 (.row t.cells) t.args (by omega) t.args [] (t.size+4) 0 rfl (by omega) (by omega);simp only[List.length_nil,show ((0:Nat):Int)=0 from rfl,kJ] at lp;rw[hcl] at lp
    have ha:(t.cE=.aA∧t.args=[])∨t.cE=.sl (t.args.map Tm.enc):=by
     cases t with
     | nl k n s=>exact .inl ⟨rfl,rfl⟩
     | mk k n s us=>exact .inr rfl
    generalize t.args=us at *;generalize t.cE=a at *;rcases ha with⟨rfl,rfl⟩ | rfl
    ·simp[jD] at w2 hmn;simp[wk,Bt,kJ,kF,aB,hno,kT,w2,hmn]
    ·have h5:AV.aq (us.map Tm.enc)=0:=bQ _;simp[wk,Bt,kJ,hno,kT,w2,hmn,lp,h5]
   ·cases hv
  ·cases hv
 ·cases hv
theorem zG:bC Tryz.prog (gB 0):=fun args v hv=>by
 unfold gB at hv;dsimp only at hv;split at hv
 ·rename_i x n;split at hv
  ·rename_i t ht;split at hv
   ·rename_i hc;obtain⟨rfl,hs⟩:=hc;cases hv;rw[fo ht];refine cB (n:=5) (h':=h0) (cf (ss:=[]) (by simp)) ?_ rfl (by simp[AV.aq,AV.refs,Tm.dh]);rw[kT];have hxe:=Tm.cG t;have hcl:=Tm.cr t;have hxr:=aP t
    have ha:(t.cE=.aA)∨∃us:List Tm,t.cE=.sl (us.map Tm.enc):=by
     cases t with
     | nl k n s=>exact .inl rfl
     | mk k n s us=>exact .inr ⟨us,rfl⟩
    have w0:IntKind.i64.wrap (-1)=-1:=rfl;have w1:IntKind.i64.wrap (0 - 1)=-1:=rfl;have w2:IntKind.i64.wrap (0+1)=1:=rfl;have w3:IntKind.i64.wrap 1=1:=rfl;rw[hxe,hcl];generalize t.cE=a at *;rcases ha with rfl | ⟨us,rfl⟩
    ·simp[wk,Bt,kJ,kF,aB,w0,w1,w2,w3]
    ·have h5:AV.aq (us.map Tm.enc)=0:=bQ _
     cases us with
     | nil=>simp[wk,Bt,kJ,kF,aB,w0,w1,w2,w3]
     | cons y r=>
       have h6:AV.aq (r.map Tm.enc)=0:=bQ _;have hye:=Tm.cG y;have hyc:=Tm.cr y;have hyr:=aP y;have t1:((0:Int) < (r.length:Int)+1)=True:=eq_true (by omega);simp[wk,Bt,kJ,kF,aB,w0,w1,w2,w3,h6,hye,hyc,hyr,t1]
   ·cases hv
  ·cases hv
 ·cases hv
theorem uD:∀m,m≤100→bC Tryz.prog (gB m)
 | 0,_=>zG
 | m+1,h=>zC (m+1) (by omega) h (uD m (by omega))
def oS:aS:=⟨60,fun | [v]=>(match jm v with | some t=>if t.size < 1000000000 then some (.int .i64 (min t.depth 65:Nat)) else none | none=>none) | _=>none⟩
theorem oD:oS.f=60:=(rfl)
theorem GU (t:Tm) (h:t.size < 1000000000):oS.S [t.enc]=some (.int .i64 (min t.depth 65:Nat)):=by
 simp only[oS,fN,if_pos h]
theorem Ix:bC Tryz.prog oS:=fun args v hv=>by
 unfold oS at hv ⊢;dsimp only at hv ⊢;split at hv
 ·rename_i x;split at hv
  ·rename_i t ht;split at hv
   ·rename_i hl;cases hv;rw[fo ht];refine cB (n:=3) (h':=h0) (cf (ss:=[gB 65]) (by simp[uD 65 (by omega)])) ?_ rfl (by simp[AV.aq,Tm.dh]);have hc:=xx 65 t hl;have hxe:=Tm.cG t;have hcl:=Tm.cr t;have hxr:=aP t;rw[hxe,hcl] at hc ⊢;rw[show ((65:Nat):Int)=65 from rfl] at hc;simp[R5,Tv,hc,hxr,ai,kT]
   ·cases hv
  ·cases hv
 ·cases hv
mutual
def Tm.gU:Tm→Nat
 | .nl _ _ s=>1+s.length
 | .mk _ _ s us=>1+s.length+Tm.fi us
def Tm.fi:List Tm→Nat
 | []=>0
 | t::r=>t.gU+Tm.fi r
end
theorem yD (t:Tm):t.gU=1+t.name.length+Tm.fi t.args:=by cases t<;>rfl
theorem zb:∀a b:List Tm,Tm.fi (a++b)=Tm.fi a+Tm.fi b
 | [],b=>by simp[Tm.fi]
 | t::r,b=>by simp[Tm.fi,zb r b];omega
mutual
theorem mS:∀t:Tm,t.size≤t.gU
 | .nl _ _ s=>by simp[Tm.size,Tm.gU]
 | .mk _ _ s us=>by
   have:=wH us;simp[Tm.size,Tm.gU];omega
theorem wH:∀l:List Tm,Tm.dv l≤Tm.fi l
 | []=>by simp[Tm.dv,Tm.fi]
 | t::r=>by
   have:=mS t;have:=wH r;simp[Tm.dv,Tm.fi];omega
end
mutual
def Tm.ui (p:Tm→Bool):Tm→Bool
 | .nl k n s=>p (.nl k n s)
 | .mk k n s us=>p (.mk k n s us)&&Tm.hU p us
def Tm.hU (p:Tm→Bool):List Tm→Bool
 | []=>true
 | t::r=>Tm.ui p t&&Tm.hU p r
end
theorem uv (p:Tm→Bool) (t:Tm):t.ui p=(p t&&Tm.hU p t.args):=by cases t<;>simp[Tm.ui,Tm.args,Tm.hU]
theorem BC (p:Tm→Bool):∀a b:List Tm,Tm.hU p (a++b)=(Tm.hU p a&&Tm.hU p b)
 | [],b=>by simp[Tm.hU]
 | t::r,b=>by simp[Tm.hU,BC p r b,Bool.and_assoc]
def Fl (p:Tm→Bool) (x:Tm) (_:Unit):Bool×Unit:=(p x,())
theorem BS (p:Tm→Bool):∀(d:Nat) (rs:List Tm),Tm.dv rs < d→(eD (Fl p) d rs ()).1=Tm.hU p rs
 | 0,rs,h=>by omega
 | d+1,[],_=>by simp[eD,Tm.hU]
 | d+1,x::rs,h=>by
   have hs:=hO x;have h2:=kO x.args rs;simp only[Tm.dv] at h;have e:eD (Fl p) (d+1) (x::rs) ()=if p x=true then eD (Fl p) d (x.args++rs) () else (false,()):=rfl
   rw[e];simp only[Tm.hU,uv];by_cases hp:p x=true
   ·rw[if_pos hp,hp,BS p d (x.args++rs) (by omega),BC];simp
   ·simp[hp]
def fw (t:Tm):Bool:=decide (t.size≤2000)&&decide (t.depth≤64)&&t.ui oI
mutual
theorem A9:∀(us:List Tm) (y:Tm),y ∈ us→y.gU≤Tm.fi us
 | [],y,h=>by simp at h
 | t::r,y,h=>by
   simp only[Tm.fi];rcases List.mem_cons.1 h with rfl | h
   ·omega
   ·have:=A9 r y h;omega
end
theorem Hh (t:Tm) (hs:t.gU < 1000000000) (ss:List aS) (hss:∀(n:Nat) (x:Tm) (h:aa),x.gU < 1000000000→az (ew ss) (n+1) 62 [x.enc] h=some (.bool (oI x),h)) (n:Nat) (hn:t.size+1≤n+1) (T0:bj):∃Y md',jf 3 1 (cO (aT (az (ew ss) (n+1)) (n+1) fm) fG 3 (n+1) (tT (.fn 62 []) (.vec 2 0 1 4 1)) ⟨3,[.row t.cells,.row t.cells,T0],3,1⟩)=
 some (if t.ui oI then .exit 0 else .ret,if t.ui oI then FM 44 [] else FM 44 [(4,.bool false)],⟨3,[Y,.row t.cells,T0],1,md'⟩):=by
 have hsb:=mS t
 have h:=nJ (az (ew ss) (n+1)) (n+1) 62 [] (by simp[AV.aq]) (Fl oI) (fun _=>[T0]) t id
  (fun x=>x.gU < 1000000000) (fun x hx y hy=>by have:=yD x;have:=A9 x.args y hy;omega) (fun _=>True) (fun _ _ _ _=>trivial) (fun md=>md=1) (fun md h=>h) (fun md h k hk=>by omega) 1 rfl
  (fun s x R md hx _ _=>hss n x _ hx) (fun s x R md hx _ _=>hss n x _ hx)
  (t.size+1) (n+1) [t] t.cells 1 () 1 (by simp[Tm.dv]) hn hn (by simp[Tm.dv];omega) (by omega) (by simp) rfl (by simp[aU];rfl) (by simp[Tm.cells,AV.aq,AV.refs,aP]) (fun x hx=>by simp at hx;subst hx;exact hs) trivial rfl
 obtain⟨⟨Y,md',_,e⟩,_⟩:=h;rw[BS oI _ _ (by simp[Tm.dv])] at e;have ea:Tm.hU oI [t]=t.ui oI:=by simp[Tm.hU]
 rw[ea] at e;exact⟨Y,md',e⟩
def oO:aS:=⟨27,fun | [v]=>(match jm v with | some t=>if t.gU < 1000000000 then some (.bool (fw t)) else none | none=>none) | _=>none⟩
theorem dU:oO.f=27:=(rfl)
theorem mw (t:Tm) (h:t.gU < 1000000000):oO.S [t.enc]=some (.bool (fw t)):=by
 simp only[oO,fN,if_pos h]
theorem Jm (n:Nat) (x:Tm) (h:aa) (hx:x.gU < 1000000000):az (ew [uS,oS,AT]) (n+1) 62 [x.enc] h=some (.bool (oI x),h):=by
 have hb:=yD x;have ho:=NJ x (by omega);have hxe:=Tm.cG x;have hcl:=Tm.cr x;rw[hxe,hcl] at ho ⊢;simp[ho,ai,rM,oD,xf]
theorem ti:bC Tryz.prog oO:=fun args v hv=>by
 unfold oO at hv ⊢;dsimp only at hv ⊢;split at hv
 ·rename_i x;split at hv
  ·rename_i t ht;split at hv
   ·rename_i hl;cases hv;rw[fo ht];refine cB (n:=t.size+5) (h':=h0) (cf (ss:=[uS,oS,AT]) (by simp[Kd,Ix,M5])) ?_ rfl (by simp[AV.aq,Tm.dh]);have hsb:=mS t;have c1:=Jb t (by omega);have c2:=GU t (by omega);have hxe:=Tm.cG t;have hcl:=Tm.cr t;have hxr:=aP t;obtain⟨Y,md',eq⟩:=Hh t hl [uS,oS,AT] Jm (t.size+2) (by omega) (.row t.cells);rw[hxe,hcl] at c1 c2 ⊢;rw[hcl] at eq;simp only[fG] at eq;unfold fw;by_cases h1:t.size≤2000
    ·have h1':(((vI t:Nat):Int)≤2000)=True:=eq_true (by rw[Cg];omega);by_cases h2:t.depth≤64
     ·have h2':(((min t.depth 65:Nat):Int)≤64)=True:=eq_true (by omega);generalize min t.depth 65=q at c2 h2'
      cases hb:t.ui oI with
      | true=>
        rw[hb] at eq;simp only[if_true] at eq;simp[E9,OX,Gi,Px,fG,hxr,ai,c1,c2,h1,h1',h2,h2',eq,rM,oD,xf]
      | false=>
        rw[hb] at eq;simp only[Bool.false_eq_true,if_false] at eq;simp[E9,OX,Gi,Px,fG,hxr,ai,c1,c2,h1,h1',h2,h2',eq,rM,oD,xf]
     ·have h2':(((min t.depth 65:Nat):Int)≤64)=False:=eq_false (by omega);generalize min t.depth 65=q at c2 h2';simp[E9,OX,hxr,ai,c1,c2,h1,h1',h2,h2',rM,oD,xf]
    ·have h1':(((vI t:Nat):Int)≤2000)=False:=eq_false (by rw[Cg];omega);simp[E9,OX,hxr,ai,c1,h1,h1',rM,oD,xf]
   ·cases hv
  ·cases hv
 ·cases hv
mutual
def nT:Tm→Tm→Bool
 | .nl k n s,b=>decide (k=b.kind)&&decide (n=b.num)&&(s==b.name)&&b.args.isEmpty
 | .mk k n s us,b=>decide (k=b.kind)&&decide (n=b.num)&&(s==b.name)&&jE us b.args
def jE:List Tm→List Tm→Bool
 | [],ws=>ws.isEmpty
 | x::r,ws=>match ws with
   | []=>false
   | y::q=>nT x y&&jE r q
end
theorem kR (ws:List Tm):jE [] ws=ws.isEmpty:=by simp[jE]
theorem mX (x y:Tm) (r q:List Tm):jE (x::r) (y::q)=(nT x y&&jE r q):=by simp[jE]
theorem w8 (a b:Tm):nT a b=(decide (a.kind=b.kind)&&decide (a.num=b.num)&&(a.name==b.name)&&jE a.args b.args):=by
 cases a with
 | nl k n s=>
   show _=(_&&jE [] b.args);rw[kR,nT];rfl
 | mk k n s us=>
   rw[nT];rfl
theorem yP:∀(us ws:List Tm),us.length≠ws.length→jE us ws=false
 | [],[],h=>absurd rfl h
 | [],_::_,_=>by simp[kR]
 | _::_,[],_=>by simp[jE]
 | x::r,y::q,h=>by
   have:=yP r q (by simpa using h);rw[mX,this,Bool.and_false]
def jT (N:Nat):aS:=⟨46,fun | [a,b]=>(match jm a,jm b with | some x,some y=>if x.size < N∧y.size < 1000000000 then some (.bool (nT x y)) else none | _,_=>none) | _=>none⟩
theorem gJ (N:Nat):(jT N).f=46:=(rfl)
theorem y6 (N:Nat) (x y:Tm) (h:x.size < N∧y.size < 1000000000):(jT N).S [x.enc,y.enc]=some (.bool (nT x y)):=by
 simp only[jT,fN,if_pos h]
def l5:AV→Option (List Tm)
 | .aA=>some []
 | .sl xs=>jy xs
 | _=>none
theorem zF (t:Tm):l5 t.cE=some t.args:=by
 cases t with
 | nl k n s=>rfl
 | mk k n s us=>simp[l5,Tm.cE,Tm.args,←jq,lq]
theorem iU {v:AV} {us:List Tm} (h:l5 v=some us):(v=.aA∧us=[])∨v=.sl (us.map Tm.enc):=by
 cases v<;>simp[l5] at h
 ·exact .inl ⟨rfl,h⟩
 ·exact .inr (by rw[pJ h])
theorem sG {v:AV} {us:List Tm} (h:l5 v=some us):v.refs=0:=by
 rcases iU h with⟨rfl,_⟩ | rfl
 ·rfl
 ·simp[AV.refs,bQ]
theorem pg:∀{us:List Tm} {y:Tm},y ∈ us→y.size≤Tm.dv us
 | t::r,y,h=>by
   simp only[Tm.dv];rcases List.mem_cons.1 h with rfl | h
   ·omega
   ·have:=pg h;omega
theorem A7 (n N:Nat) (us ws:List Tm) (hl:us.length=ws.length) (hN:N≤1000000000) (h1:Tm.dv us < N) (h2:Tm.dv ws < 1000000000):∀(post postw pre prew:List Tm) (k:Nat),us=pre++post→ws=prew++postw→pre.length=prew.length→post.length < k→
 jf 0 0 (cO (aT (az (ew [jT N]) (n+1)) (n+1) tL) qN 0 k (P1 (.sl (ws.map Tm.enc)) (.fn 46 []) (.sl (us.map Tm.enc)) (.int .i64 us.length) (.int .i64 pre.length)) ⟨0,[],0,0⟩)=
  some (if jE post postw then .exit 0 else .ret,if jE post postw then FM 32 [] else FM 32 [(6,.bool false)],⟨0,[],0,0⟩)
 | [],[],pre,prew,k+1,e,e2,hp,_=>by
   simp at e;subst e;have h5:AV.aq (us.map Tm.enc)=0:=bQ _;have h6:AV.aq (ws.map Tm.enc)=0:=bQ _;simp[aB,tL,h5,h6,kR]
 | [],y::postw,pre,prew,k,e,e2,hp,_=>by
   rw[e,e2] at hl;simp at hl;omega
 | x::post,[],pre,prew,k,e,e2,hp,_=>by
   rw[e,e2] at hl;simp at hl;omega
 | x::post,y::postw,pre,prew,k+1,e,e2,hp,hk=>by
   have ih:=A7 n N us ws hl hN h1 h2 post postw (pre++[x]) (prew++[y]) k (by simp[e]) (by simp[e2]) (by simp[hp]) (by rw[List.length_cons] at hk;omega);have hlu:=gu us;have g1:us[pre.length]? =some x:=by rw[e];simp
   have g2:ws[pre.length]? =some y:=by rw[e2,hp];simp
   have h5:AV.aq (us.map Tm.enc)=0:=bQ _;have h5w:AV.aq (ws.map Tm.enc)=0:=bQ _;have hpl:pre.length < us.length:=by rw[e];simp
   have h6:((pre.length:Int) < (us.length:Int))=True:=eq_true (by omega);have h3:IntKind.i64.wrap ((pre.length:Int)+1)=(pre.length:Int)+1:=wrap_i64 (by omega) (by omega);have hxe:=Tm.cG x;have hxc:=Tm.cr x;have hxr:=aP x;have hye:=Tm.cG y;have hyc:=Tm.cr y;have hyr:=aP y;have hs:=y6 N x y ⟨by have:=pg (us:=us) (y:=x) (by rw[e];simp);omega,by have:=pg (us:=ws) (y:=y) (by rw[e2];simp);omega⟩;rw[hxe,hxc,hye,hyc] at hs;simp only[List.length_append,List.length_cons,List.length_nil,Nat.zero_add] at ih;rw[show ((pre.length+1:Nat):Int)=(pre.length:Int)+1 by omega] at ih;rw[aB]
   cases hsm:nT x y with
   | false=>
     rw[hsm] at hs;simp[tL,g1,g2,h5,h5w,h6,hxe,hxc,hxr,hye,hyc,hyr,hs,ai,gJ,mX,hsm]
   | true=>
     rw[hsm] at hs;simp[tL,qN,g1,g2,h3,h5,h5w,h6,hxe,hxc,hxr,hye,hyc,hyr,hs,ai,gJ,mX,hsm];exact ih
def HP (N:Nat):aS:=⟨85,fun | [a,b,.fn 46 []]=>(match l5 a,l5 b with | some us,some ws=>if Tm.dv us < N∧Tm.dv ws < 1000000000 then some (.bool (jE us ws)) else none | _,_=>none) | _=>none⟩
theorem tV (N:Nat):(HP N).f=85:=(rfl)
theorem MF (N:Nat) (x y:Tm) (h:Tm.dv x.args < N∧Tm.dv y.args < 1000000000):(HP N).S [x.cE,y.cE,.fn 46 []]=some (.bool (jE x.args y.args)):=by
 simp only[HP,zF,if_pos h]
theorem NK (N:Nat) (hN:N≤1000000000) (hp:bC Tryz.prog (jT N)):bC Tryz.prog (HP N):=fun args v hv=>by
 unfold HP at hv;dsimp only at hv;split at hv
 ·rename_i a b;split at hv
  ·rename_i us ws ha hb;split at hv
   ·rename_i hc;cases hv;rw[tV];have hra:=sG ha;have hrb:=sG hb;refine cB (n:=us.length+4) (h':=h0) (cf (ss:=[jT N]) (by simp[hp])) ?_ rfl (by simp[AV.aq,AV.refs,hra,hrb])
    have hlen:∀(v:AV) (l:List Tm),l5 v=some l→∀(fr:List AV) (h:aa) (o:cY),o.ev fr=v→bF fr h (.u0 o)=some (.int .i64 l.length,h):=by
     intro v l hv fr h o ho;rw[dP,ho];rcases iU hv with⟨rfl,rfl⟩ | rfl<;>simp
    have hla:=hlen a us ha;have hlb:=hlen b ws hb;by_cases hl:us.length=ws.length
    ·have hl':((us.length:Int)=(ws.length:Int))=True:=eq_true (by omega);by_cases hne:us=[]
     ·subst hne;have hw:ws=[]:=List.eq_nil_of_length_eq_zero (by simpa using hl.symm);subst hw;rcases iU ha with⟨rfl,_⟩ | rfl<;>rcases iU hb with⟨rfl,_⟩ | rfl<;>simp[Gx,c85,qN,tL,aB,gJ,kR]
     ·have ha':a=.sl (us.map Tm.enc):=by
       rcases iU ha with⟨_,h⟩ | h
       ·exact absurd h hne
       ·exact h
      have hb':b=.sl (ws.map Tm.enc):=by
       rcases iU hb with⟨_,h⟩ | h
       ·subst h;exact absurd (List.eq_nil_of_length_eq_zero (by simpa using hl)) hne
       ·exact h
      subst ha' hb';have lp:=A7 (us.length+2) N us ws hl hN hc.1 hc.2 us ws [] [] (us.length+3) rfl rfl rfl (by omega);simp only[List.length_nil,qN,show ((0:Nat):Int)=0 from rfl] at lp;have h5:AV.aq (us.map Tm.enc)=0:=bQ _;have h6:AV.aq (ws.map Tm.enc)=0:=bQ _
      cases hsm:jE us ws with
      | true=>
        rw[hsm] at lp;simp only[if_true] at lp;simp[Gx,c85,qN,h5,h6,hl',lp,gJ]
      | false=>
        rw[hsm] at lp;simp only[Bool.false_eq_true,if_false] at lp;simp[Gx,c85,qN,h5,h6,hl',lp,gJ]
    ·have hl':((us.length:Int)=(ws.length:Int))=False:=eq_false (by omega);simp[Gx,c85,hla,hlb,hra,hrb,hl,hl',gJ,yP us ws hl]
   ·cases hv
  ·cases hv
 ·cases hv
theorem A1 (N:Nat) (hN:N≤1000000000) (hp:bC Tryz.prog (jT N)):bC Tryz.prog (jT (N+1)):=fun args v hv=>by
 unfold jT at hv;dsimp only at hv;split at hv
 ·rename_i a b;split at hv
  ·rename_i x y ha hb;split at hv
   ·rename_i hc;cases hv;rw[gJ,fo ha,fo hb];refine cB (n:=5) (h':=h0) (cf (ss:=[HP N]) (by simp[NK N hN hp])) ?_ rfl (by simp[AV.aq,Tm.dh]);have s1:=hO x;have s2:=hO y;have hq:=MF N x y ⟨by omega,by omega⟩;have hxe:=Tm.cG x;have hxc:=Tm.cr x;have hxr:=aP x;have hye:=Tm.cG y;have hyc:=Tm.cr y;have hyr:=aP y;rw[w8,hxe,hxc,hye,hyc];by_cases c1:x.kind=y.kind
    ·by_cases c2:x.num=y.num
     ·cases c3:x.name==y.name with
      | true=>
        cases c4:jE x.args y.args with
        | true=>
          rw[c4] at hq;simp[Cq,c46,c1,c2,c3,hxr,hyr,hq,ai,tV]
        | false=>
          rw[c4] at hq;simp[Cq,c46,c1,c2,c3,hxr,hyr,hq,ai,tV]
      | false=>simp[Cq,c46,c1,c2,c3,hxr,hyr,tV]
     ·simp[Cq,c46,c1,c2,hxr,hyr,tV]
    ·simp[Cq,c46,c1,hxr,hyr,tV]
   ·cases hv
  ·cases hv
 ·cases hv
theorem BO:bC Tryz.prog (jT 0):=fun args v hv=>by
 unfold jT at hv;dsimp only at hv;split at hv
 ·split at hv
  ·split at hv
   ·rename_i hc;omega
   ·cases hv
  ·cases hv
 ·cases hv
theorem xA:∀N,N≤1000000001→bC Tryz.prog (jT N)
 | 0,_=>BO
 | N+1,h=>A1 N (by omega) (xA N (by omega))
def vX:aS:=⟨16,fun | [a,b]=>(match jm a,jm b with | some x,some y=>if x.gU < 1000000000∧y.gU < 1000000000 then some (.bool (fw x&&fw y&&nT x y)) else none | _,_=>none) | _=>none⟩
theorem gy:vX.f=16:=(rfl)
theorem JH (x y:Tm) (h:x.gU < 1000000000∧y.gU < 1000000000):vX.S [x.enc,y.enc]=some (.bool (fw x&&fw y&&nT x y)):=by
 simp only[vX,fN,if_pos h]
theorem Ji:bC Tryz.prog vX:=fun args v hv=>by
 unfold vX at hv ⊢;dsimp only at hv ⊢;split at hv
 ·rename_i a b;split at hv
  ·rename_i x y ha hb;split at hv
   ·rename_i hc;cases hv;rw[fo ha,fo hb];refine cB (n:=5) (h':=h0) (cf (ss:=[oO,jT 1000000000]) (by simp[ti,xA 1000000000 (by omega)])) ?_ rfl (by simp[AV.aq,Tm.dh]);have b1:=mS x;have b2:=mS y;have g1:=mw x hc.1;have g2:=mw y hc.2;have hq:=y6 1000000000 x y ⟨by omega,by omega⟩;have hxe:=Tm.cG x;have hxc:=Tm.cr x;have hxr:=aP x;have hye:=Tm.cG y;have hyc:=Tm.cr y;have hyr:=aP y;rw[hxe,hxc] at g1 hq ⊢;rw[hye,hyc] at g2 hq ⊢
    cases e1:fw x with
    | false=>
      rw[e1] at g1;simp[Gp,OL,g1,hxr,hyr,ai,dU,gJ]
    | true=>
      rw[e1] at g1
      cases e2:fw y with
      | false=>
        rw[e2] at g2;simp[Gp,OL,g1,g2,hxr,hyr,ai,dU,gJ]
      | true=>
        rw[e2] at g2
        cases e3:nT x y with
        | false=>
          rw[e3] at hq;simp[Gp,OL,g1,g2,hq,hxr,hyr,ai,dU,gJ]
        | true=>
          rw[e3] at hq;simp[Gp,OL,g1,g2,hq,hxr,hyr,ai,dU,gJ]
   ·cases hv
  ·cases hv
 ·cases hv
end Go.Proofs.YtjmeonoabiliiaaGreatDoor

/- slices.Backward's closure: its contract. -/
namespace Go.Proofs.YtjmeonoabiliiaaGreatDoor
open Go Go.RowKit Go.Shelf
attribute [local go_sem] Oper.semAt_some
def wW {len:Nat} (xs:List (Fin len)):Prop:=∀j (h:j < xs.length),(xs[j]).1+j+1=len
theorem Kx (F:Fence) (n:Nat) (h108:F.fn 108) (hro:F.round=none) (hn:1≤n) (l b o b2 o2 len cap:Nat) (hlen:len≤9223372036854775807) (vs:Nat→Nat→Value) (J Jx:List (Fin len)→World→Prop)
 (hY:∀pre x W,J pre W→pre.length < len→YieldAt F (n - 1) Tryz.prog l #[.int .i64 (x.1:Int),.agg #[vs x.1 0,vs x.1 1,vs x.1 2,vs x.1 3]] W fun e W'=>
  (e=.returned (.bool true)∧J (pre++[x]) W'∧(W'.heap[b]? =W.heap[b]?∧W'.heap[b2]? =W.heap[b2]?))∨(e=.returned (.bool false)∧Jx (pre++[x]) W'))
 (W:World) (hb:W.cell? ⟨b,o,none⟩=some (.slice (some ⟨b2,o2,none⟩) len cap)) (hc:∀k j,k < len→j < 4→W.cell? ⟨b2,o2+(k*4+j),none⟩=some (vs k j)) (h0:J [] W):
 CallsIn F n Tryz.prog 108 #[.func (.yield l) #[] #[],.pointer (some ⟨b,o,none⟩)] W fun e W'=>(∃v,e=.returned v)∧
  ((∃ys,(wW ys∧ys.length=len)∧J ys W')∨(∃pre,True∧Jx pre W')):=by
 refine callsIn_of_wp Tryz.func108 rfl h108 ?_ hro;simp only[Tryz.ntmps108,List.size_toArray,List.length_cons,List.length_nil,Nat.reduceAdd,Nat.reduceSub,Array.replicate_succ,Array.replicate_zero,List.push_toArray,List.append_toArray,List.nil_append,List.cons_append]
 gi_wp2
 gi_loopw [3] (fun i wr=>∃pre:List (Fin len),wW pre∧pre.length≤len∧i=.int .i64 ((len:Int) - 1 - pre.length)∧J pre wr∧(wr.heap[b]? =W.heap[b]?∧wr.heap[b2]? =W.heap[b2]?))
  (fun i _=>(intOf i+1).toNat)
 case atStart=>exact⟨[],fun j h=>by simp at h,Nat.zero_le _,by simp,h0,rfl,rfl⟩
 case round=>
  obtain⟨pre,hp,hk,rfl,hJs,hs1,hs2⟩:=hrel
  have hbr:wr.cell? ⟨b,o,none⟩=some (.slice (some ⟨b2,o2,none⟩) len cap):=by
   rw[←hb];unfold World.cell?;rw[hs1]
  by_cases hlt:pre.length < len
  ·obtain⟨m,hm⟩:∃m,m=len - 1 - pre.length:=⟨_,rfl⟩
   have hml:m < len:=by omega
   have hi:(len:Int) - 1 - (pre.length:Int)=(m:Int):=by omega
   rw[hi];clear hi
   have hcr:∀j,j < 4→wr.cell? ⟨b2,o2+m*4+j,none⟩=some (vs m j):=fun j hj=>by
    rw[←hc m j hml hj];unfold World.cell?;rw[hs2,Nat.add_assoc]
   have c0:wr.cell? ⟨b2,o2+m*4,none⟩=some (vs m 0):=hcr 0 (by omega);have c1:=hcr 1 (by omega);have c2:=hcr 2 (by omega);have c3:=hcr 3 (by omega);have hmi:(m:Int) < (len:Int):=by omega
   have hnext:J pre wr→wW (pre++[⟨m,hml⟩])∧(pre++[(⟨m,hml⟩:Fin len)]).length≤len∧(m:Int) - 1=(len:Int) - 1 - (pre++[(⟨m,hml⟩:Fin len)]).length:=fun _=>by
    refine⟨fun j hj=>?_,by simp;omega,by simp;omega⟩;by_cases h:j < pre.length
    ·rw[List.getElem_append_left h];exact hp j h
    ·have:j=pre.length:=by simp at hj;omega
     subst this;simp;omega
   clear hm;obtain⟨fn,tmps,assign,body,hy,hR⟩:=hY pre ⟨m,hml⟩ wr hJs hlt;dsimp only at hy
   gi_wp2
   refine hR.mono ?_;rintro e W3 (⟨rfl,hJ3,hk3,hk4⟩ | ⟨rfl,hJx3⟩)
   ·gi_wp2
    go_roundw
    case rel=>
     obtain⟨n1,n2,n3⟩:=hnext hJs;exact⟨_,n1,n2,by rw[n3],hJ3,hk3.trans hs1,hk4.trans hs2⟩
    case measure=>simp[intOf]
   ·gi_wp2
    refine bodyPost_ret (results_none rfl _ _ _) rfl ?_;exact⟨⟨_,rfl⟩,.inr ⟨_,trivial,hJx3⟩⟩
  ·have hi:(len:Int) - 1 - (pre.length:Int)=-1:=by omega
   rw[hi]
   gi_wp2
   go_end0
   exact⟨⟨_,rfl⟩,.inl ⟨pre,⟨hp,by omega⟩,hJs⟩⟩
theorem zq (F:Fence) (n:Nat) (h108:F.fn 108) (hro:F.round=none) (l b o:Nat) (ad:Option Addr) (cap:Nat) {len:Nat} (J:List (Fin len)→World→Prop)
 (W:World) (hb:W.cell? ⟨b,o,none⟩=some (.slice ad 0 cap)) (h0:J [] W):
 CallsIn F n Tryz.prog 108 #[.func (.yield l) #[] #[],.pointer (some ⟨b,o,none⟩)] W fun e W'=>(∃v,e=.returned v)∧J [] W':=by
 refine callsIn_of_wp Tryz.func108 rfl h108 ?_ hro;simp only[Tryz.ntmps108,List.size_toArray,List.length_cons,List.length_nil,Nat.reduceAdd,Nat.reduceSub,Array.replicate_succ,Array.replicate_zero,List.push_toArray,List.append_toArray,List.nil_append,List.cons_append]
 gi_wp2
 gi_loopw [3] (fun i wr=>i=.int .i64 (-1)∧J [] wr)
  (fun _ _=>0)
 case atStart=>exact⟨rfl,h0⟩
 case round=>
  obtain⟨rfl,hJs⟩:=hrel
  gi_wp2
  go_end0
  exact⟨⟨_,rfl⟩,hJs⟩
theorem Dp (n:Nat) (hn:1≤n) (b o len:Nat) (hlen:len≤9223372036854775807) (vs:Nat→Nat→Value) {csl:Value} {Kp:World→World→Prop} (W0:World) (hb:W0.cell? ⟨b,o,none⟩=some csl) (hbl:b < W0.heap.size)
 (hsl:(∃ad cap,csl=.slice ad 0 cap∧len=0)∨∃b2 o2 cap,csl=.slice (some ⟨b2,o2,none⟩) len cap∧b2 < W0.heap.size∧(∀A B,Kp A B→B.heap[b2]? =A.heap[b2]?)∧∀k j,k < len→j < 4→W0.cell? ⟨b2,o2+(k*4+j),none⟩=some (vs k j))
 (hKp:∀A B,Kp A B→B.heap[b]? =A.heap[b]?):
 SeqStopsK Fence.wide n Tryz.prog 108 #[.pointer (some ⟨b,o,none⟩)] (fun x:Fin len=>#[.int .i64 (x.1:Int),.agg #[vs x.1 0,vs x.1 1,vs x.1 2,vs x.1 3]]) Kp (fun ys=>wW ys∧ys.length=len) (fun _=>True) len W0:=by
 intro l J Jx W hW _ _ hY h0;have hb':W.cell? ⟨b,o,none⟩=some csl:=(hW.cell (p:=⟨b,o,none⟩) hbl).trans hb;rcases hsl with⟨ad,cap,rfl,rfl⟩ | ⟨b2,o2,cap,rfl,hb2,hk2,hc⟩
 ·exact (zq Fence.wide n trivial rfl l b o ad cap J W hb' h0).mono fun e W' ⟨he,hj⟩=>⟨he,.inl ⟨[],⟨fun j h=>by simp at h,rfl⟩,hj⟩⟩
 ·refine Kx Fence.wide n trivial rfl hn l b o b2 o2 len cap hlen vs J Jx (fun pre x W1 hJ hl=>?_) W hb' (fun k j hk hj=>(hW.cell (p:=⟨b2,o2+(k*4+j),none⟩) hb2).trans (hc k j hk hj)) h0;obtain⟨fn,tmps,assign,body,e1,e2⟩:=hY pre x W1 hJ hl;refine⟨fn,tmps,assign,body,e1,e2.mono fun e W' h=>?_⟩;rcases h with⟨h1,h2,h3⟩ | h
  ·exact .inl ⟨h1,h2,hKp _ _ h3,hk2 _ _ h3⟩
  ·exact .inr h
end Go.Proofs.YtjmeonoabiliiaaGreatDoor

namespace Go.Proofs.YtjmeonoabiliiaaGreatDoor
open Go Sz
def dO:List Tm→Tm→Tm
 | [],t=>t
 | x::r,t=>.mk 2 0 [46] [x,dO r t]
theorem BM (A:AV) (hA:A.refs=0) (hb:basic A=true):az (ew []) 3 66 [A] h0=some (.fn 108 [.ptr 0 0],⟨1,[.row [A]],0,0⟩):=by
 have h1:=fun (h:aa) (n0 d:Nat)=>ug (h:=h) (n0:=n0) (d:=d) hb
 have h2:=lX hb;simp[RJ,Ts,h1,h2,hA]
def B5:aS:=⟨66,fun | [.aA]=>some (.fn 108 [.ip [.aA]]) | [.sl xs]=>some (.fn 108 [.ip [.sl xs]]) | _=>none⟩
theorem F5:B5.f=66:=(rfl)
theorem Lm:bC Tryz.prog B5:=fun args v hv=>by
 unfold B5 at hv ⊢;dsimp only at hv ⊢;split at hv
 ·cases hv;exact Ce (cf (ss:=[]) (by simp)) (BM _ rfl rfl) rfl rfl
 ·cases hv;exact Ce (cf (ss:=[]) (by simp)) (BM _ rfl rfl) rfl rfl
 ·cases hv
theorem Kw (A:AV) (h:A=.aA∨∃xs,A=.sl xs):B5.S [A]=some (.fn 108 [.ip [A]]):=by
 rcases h with rfl | ⟨xs,rfl⟩<;>rfl
def PF:bH:=.aD [⟨(some 3),.op (.box (.tmp 1)),none⟩,⟨(some 4),.op (.box (.const (.agg [(.int .i64 0),(.int .i64 0),(.str []),.aA]))),none⟩]
def QQ:bH:=.aD [⟨(some 7),.op (.lJ (.tmp 0)),none⟩,⟨(some 8),.call 66 [(.tmp 7)],none⟩]
def O3:bH:=.block 1 (.aD [⟨(some 11),.op (.ld (some 4) (.tmp 6)),none⟩,⟨(some 12),.op (.ld (some 4) (.tmp 3)),none⟩,
 ⟨(some 13),.op (.th 4 2 [(.int .i64 0),(.int .i64 0),(.str []),.aA,(.int .i64 0),(.int .i64 0),(.str []),.aA] [(0,(.tmp 11)),(1,(.tmp 12))]),none⟩,
 ⟨(some 14),.call 47 [(.const (.str [46])),(.tmp 13)],none⟩,⟨none,.op (.st 4 (.tmp 3) (.tmp 14)),none⟩])
def QS:bH:=.seq (.aD [⟨(some 15),.op (.ld (some 4) (.tmp 3)),none⟩,⟨none,.op (.st 4 (.tmp 4) (.tmp 15)),none⟩]) (.ret (mk 16 [4]))
def zT:List AV:=[.int .i64 0,.int .i64 0,.str [],.aA]
def Lt:List aS:=[rU,B5]
theorem Pe:∀s ∈ Lt,bC Tryz.prog s:=by simp[Lt,rJ,Lm]
def Ci (A:AV) (t:Tm):List AV:=FM 16 [(8,.fn 108 [.ip [A]]),(7,A),(4,.ptr 1 0),(3,.ptr 0 0),(0,A),(1,t.enc)]
theorem K9 (A:AV) (t:Tm):aT (az (ew Lt) 3) 3 PF (FM 16 [(0,A),(1,t.enc)]) h0=some (.normal,FM 16 [(4,.ptr 1 0),(3,.ptr 0 0),(0,A),(1,t.enc)],⟨2,[.row zT,.row t.cells],0,0⟩):=by
 have e:=t.cG;have r0:=aP t;simp[PF,e,Tm.cells,zT,r0]
theorem Kf (A:AV) (h:A=.aA∨∃xs,A=.sl xs) (t:Tm):aT (az (ew Lt) 3) 3 QQ (FM 16 [(4,.ptr 1 0),(3,.ptr 0 0),(0,A),(1,t.enc)]) ⟨2,[.row zT,.row t.cells],0,0⟩=some (.normal,Ci A t,⟨2,[.row zT,.row t.cells],0,0⟩):=by
 have g:=Kw A h;have fz:∀(h:aa) (n0 d:Nat),hZ h n0 (d+1) A=some (A,[]):=fun h' _ _=>by rcases h with rfl | ⟨xs,rfl⟩<;>rfl
 simp[QQ,Lt,a6,F5,fz,g,Ci]
theorem KI (A:AV) (t x u:Tm) (i:Nat):aT (az (ew Lt) 3) 3 O3 ((((Ci A t).set 9 (.int .i64 (i:Int))).set 10 x.enc).set 6 (.ip x.enc.cells)) ⟨2,[.row zT,.row u.cells],2,2⟩=
 some (.normal,FM 16 [(14,(Tm.mk 2 0 [46] [x,u]).enc),(13,.vec 2 0 2 4 2),(12,u.enc),(11,x.enc),(6,.ip x.enc.cells),(10,x.enc),(9,.int .i64 (i:Int)),(8,.fn 108 [.ip [A]]),(7,A),(4,.ptr 1 0),(3,.ptr 0 0),(0,A),(1,t.enc)],⟨3,[.dead,.row zT,.row (Tm.mk 2 0 [46] [x,u]).cells],2,0⟩):=by
 have ex:=x.cG;have eu:=u.cG;have r1:=aP x;have r2:=aP u;have cs:=iD [46] [x,u] (by simp);have c1:=lX (nK x);have c2:=lX (nK u);have ec:(cm [46] [x,u]).enc=.agg [.int .i64 2,.int .i64 0,.str [46],.sl [x.enc,u.enc]]:=by simp[cm,Tm.enc,Tm.pX]
 have em:(Tm.mk 2 0 [46] [x,u]).enc=.agg [.int .i64 2,.int .i64 0,.str [46],.sl [x.enc,u.enc]]:=by simp[Tm.enc,Tm.pX]
 have k1:(Tm.mk 2 0 [46] [x,u]).kind=2:=rfl;have k2:(Tm.mk 2 0 [46] [x,u]).num=0:=rfl;have k3:(Tm.mk 2 0 [46] [x,u]).name=[46]:=rfl;have k4:(Tm.mk 2 0 [46] [x,u]).cE=.sl [x.enc,u.enc]:=rfl;rw[ec] at cs;simp only[List.map_cons,List.map_nil,ex,eu,Tm.cells] at cs;have f1:=fun (h:aa) (n0 d:Nat)=>ai h n0 d x
 have f2:=fun (h:aa) (n0 d:Nat)=>ai h n0 d u
 simp[O3,Lt,Ci,Js,a6,F5,ex,eu,r1,r2,f1,f2,Tm.cells,cs,c1,c2,AV.cells,em,k1,k2,k3,k4]
theorem IE (A:AV) (t u:Tm):aT (az (ew Lt) 3) 3 QS (Ci A t) ⟨2,[.row zT,.row u.cells],2,2⟩=some (.ret,FM 16 [(4,.ptr 1 0)],⟨2,[.row u.cells,.row u.cells],2,1⟩):=by
 have eu:=u.cG;have r2:=aP u;simp[QS,Ci,eu,r2,Tm.cells,zT]
end Go.Proofs.YtjmeonoabiliiaaGreatDoor

namespace Go.Proofs.YtjmeonoabiliiaaGreatDoor
open Go Go.RowKit Sz
variable {X:World→Prop}
theorem enters (f:Nat) {fn:Func} (hfn:Tryz.prog.funcs[f]? =some fn) (hname:(fn.name== "runtime.NumGoroutine")=false) (hbody:fn.body.isSome=true) (cargs:Array Value) (w:World):(callFunc f cargs).run Tryz.prog w=.ok (.enter f cargs) w:=by
 obtain⟨c,hc⟩:=Option.isSome_iff_exists.1 hbody;have hne:¬ fn.name= "runtime.NumGoroutine" :=by simpa using hname
 simp[callFunc,hfn,hne,hc]
theorem PQ:∃i z,Tryz.prog.info? 31=some i∧i.zero=some z∧z.cells.size=i.size∧i.size=4:=by
 have h:(Tryz.prog.info? 31).map (fun i=>(i.zero.map (·.cells.size),i.size))=some (some 4,4):=by kernel_rfl
 obtain⟨i,hi,e⟩:=Option.map_eq_some_iff.1 h;simp only[Prod.mk.injEq,Option.map_eq_some_iff] at e;obtain⟨⟨z,hz,hzs⟩,hs⟩:=e;exact⟨i,z,hi,hz,by omega,hs⟩
mutual
theorem Tm.eC:∀t:Tm,t.enc.eC=true
 | .nl k n s=>rfl
 | .mk k n s us=>by
   have:=Tm.kv us;simp[Tm.enc,AV.eC,AV.kv,this]
theorem Tm.kv:∀l:List Tm,AV.o6 (Tm.pX l)=true
 | []=>rfl
 | t::r=>by
   have h1:=Tm.eC t;have h2:=Tm.kv r;have h3:t.enc.cells.isEmpty=false:=by rw[t.cG];rfl
   simp[Tm.pX,AV.o6,h1,h2,h3]
end
theorem Tm.Lr (t:Tm):∀v ∈ t.cells,v.eC=true:=by
 have h:=t.eC;rw[t.cG] at h;intro v hv;obtain⟨j,hj,rfl⟩:=List.getElem_of_mem hv;exact iQ (by simpa[AV.eC] using h) j hj
theorem KW {a b:List AV} {w m id:Nat}:live ⟨2,[.row a,.row b],w,m⟩ id↔id < 2:=by
 refine⟨fun⟨o,hg,_⟩=>aa.dx hg,fun h=>?_⟩
 match id,h with
 | 0,_=>exact⟨.row b,rfl,fun e=>by cases e⟩
 | 1,_=>exact⟨.row a,rfl,fun e=>by cases e⟩
theorem RY {a b cs:List AV} {w m id:Nat} (h:(⟨2,[.row a,.row b],w,m⟩:aa).get id=some (.row cs)):cs=a∨cs=b:=by
 have:=aa.dx h
 match id,this with
 | 0,_=>exact .inr (by cases h;rfl)
 | 1,_=>exact .inl (by cases h;rfl)
theorem SW {a b:List AV} {es:List (AV×AV)} {w m id:Nat} (h:(⟨2,[.row a,.row b],w,m⟩:aa).get id=some (.map es)):False:=by
 have:=aa.dx h
 match id,this with
 | 0,_=>cases h
 | 1,_=>cases h
def uE (us:List Tm) (t:Tm) (pre:List (Fin (us.map Tm.enc).length)):Tm:=pre.foldl (fun u x=>.mk 2 0 [46] [us[x.1]'(by simpa using x.2),u]) t
theorem xh (us:List Tm) (t:Tm) (pre:List (Fin (us.map Tm.enc).length)) (x:Fin (us.map Tm.enc).length):uE us t (pre++[x])=.mk 2 0 [46] [us[x.1]'(by simpa using x.2),uE us t pre]:=by
 simp[uE]
theorem G7 (us:List Tm) (t:Tm) (xs:List (Fin (us.map Tm.enc).length)) (h1:wW xs) (h2:xs.length=(us.map Tm.enc).length):uE us t xs=dO us t:=by
 have hl:(us.map Tm.enc).length=us.length:=by simp
 have key:∀k,k≤xs.length→uE us t (xs.take k)=dO (us.drop (us.length - k)) t:=by
  intro k
  induction k with
  | zero=>intro _;simp[uE,dO]
  | succ k ih=>
    intro hk;have hx:=h1 k (by omega);rw[List.take_succ_eq_append_getElem (by omega),xh,ih (by omega)];have hlt:us.length - (k+1) < us.length:=by omega
    rw[List.drop_eq_getElem_cons hlt];have e1:us.length - (k+1)+1=us.length - k:=by omega
    have e2:(xs[k]).1=us.length - (k+1):=by omega
    simp only[e1,dO,e2]
 have:=key xs.length (Nat.le_refl _);rw[List.take_length,h2,hl,Nat.sub_self,List.drop_zero] at this;exact this
theorem ED {φ:dA} {h:aa} {w:World} {A:AV} {us:List Tm} (hA:(A=.aA∧us=[])∨A=.sl (us.map Tm.enc)) {csl:Value} (hv:dS φ h w A csl):
 ∃vs:Nat→Nat→Value,(∀j (hj:j < (us.map Tm.enc).length),dS φ h w (us.map Tm.enc)[j] (.agg #[vs j 0,vs j 1,vs j 2,vs j 3]))∧
   ((∃ad cap,csl=.slice ad 0 cap∧(us.map Tm.enc).length=0)∨∃b2 o2 cap,csl=.slice (some ⟨b2,o2,none⟩) (us.map Tm.enc).length cap∧Pr φ h w b2∧∀k j,k < (us.map Tm.enc).length→j < 4→w.cell? ⟨b2,o2+(k*4+j),none⟩=some (vs k j)):=by
 rcases hA with⟨rfl,rfl⟩ | rfl
 ·obtain⟨ad,rfl⟩:=hv.kf;exact⟨fun _ _=>default,fun j hj=>by simp at hj,.inl ⟨ad,0,rfl,rfl⟩⟩
 ·rcases hv.o5 with⟨ad,cap,e1,rfl⟩ | ⟨b2,o2,cap,sz,vs,rfl,hp,hcap,_,h1,hsz,hcell,hval⟩
  ·refine⟨fun _ _=>default,fun j hj=>?_,.inl ⟨ad,cap,rfl,by rw[e1];rfl⟩⟩;rw[e1] at hj;simp at hj
  ·have hs4:∀k,k < (us.map Tm.enc).length→sz=4:=fun k hk=>by
    have:=hsz k hk;rw[List.getElem_map,Tm.cG] at this;simpa[AV.cells?,Tm.cells] using this.symm
   refine⟨vs,fun j hj=>?_,.inr ⟨b2,o2,cap,rfl,hp,fun k j hk hj=>?_⟩⟩
   ·have:=hval j hj;rw[List.getElem_map,Tm.cG] at this ⊢;refine .agg _ _ rfl (fun k=>?_) fun k hk=>?_
    ·match k with
     | 0=>exact h1 j 0
     | 1=>exact h1 j 1
     | 2=>exact h1 j 2
     | 3=>exact h1 j 3
     | k+4=>rfl
    ·have hk4:k < 4:=hk;have:=this k hk
     match k,hk4 with
     | 0,_=>exact this
     | 1,_=>exact this
     | 2,_=>exact this
     | 3,_=>exact this
   ·have e:=hs4 k hk;subst e;have:=hcell k j hk hj;rw[Nat.add_assoc] at this;exact this
theorem EA (us:List Tm) (t:Tm) (A:AV) (hA:(A=.aA∧us=[])∨A=.sl (us.map Tm.enc)) (hl:us.length < 1000000000000) {φ:dA} {w:World} {cargs:Array Value} (hr:HR φ h0 w) (hG:fC Tryz.prog X φ h0 w) (ha:iB φ h0 w [A,t.enc] cargs):
 Calls Tryz.prog 33 cargs w (iw φ h0 w (dO us t).enc ⟨2,[.row (dO us t).cells,.row (dO us t).cells],2,1⟩):=by
 obtain⟨hC,hCL⟩:=rk (mA (X:=X) (ss:=Lt) fun s hs=>(Pe s hs).lift) 3;have hA':A=.aA∨∃xs,A=.sl xs:=hA.imp (·.1) fun h=>⟨_,h⟩
 have hsz:cargs.size=2:=ha.1;have hfl:(Ci A t).length=16:=by simp[Ci,FM]
 refine (callsIn_wide (n:=3)).1 ?_;refine callsIn_of_wp_marks Tryz.func33 rfl trivial ?_ rfl;have f0:=ER ha 16 (by simp);refine wpIn_seq ?_;refine iF (l0:=none) hC hCL mixed 3 _ PF (by kernel_rfl) (K9 A t) f0 hr hG fun φ1 a1 w1 f1 r1 x1 d1=>?_
 show Code.wpIn _ _ _ _ _ _ _;refine wpIn_seq (wpIn_seq ?_);refine iF (l0:=none) hC hCL mixed 3 _ QQ (by kernel_rfl) (Kf A hA' t) f1 r1 (hG.ext x1) fun φ2 a2 w2 f2 r2 x2 d2=>?_
 show Code.wpIn _ _ _ _ _ _ _;refine wpIn_block ?_;obtain⟨r3,x3⟩:=r2.nX 2 2;have f3:=f2.ext x3;have hx:=(x1.trans x2).trans x3;have hG3:=hG.ext hx
 -- the iterator
 have hg8:=f3.2 8;have hg8':dS φ2 ⟨2,[.row zT,.row t.cells],2,2⟩ w2 (.fn 108 [.ip [A]]) (a2.tmps.getD 8 undef):=hg8;obtain⟨cvs,e8,hcs,hcv⟩:=hg8'.wC;have hcv0:=hcv 0 (by simp);obtain⟨b,o,vb,eb,hpb,_,_,hcell,hvb⟩:=(RV.Ee hcv0)
 have hcell0:=hcell 0 (by simp);have hvb0:=hvb 0 (by simp);obtain⟨vs,hEs,hsl⟩:=ED hA hvb0
 have ecvs:cvs=#[.pointer (some ⟨b,o,none⟩)]:=by
  obtain⟨l⟩:=cvs
  match l,hcs with
  | [c],_=>simpa using eb
 obtain⟨i,z,hi,hz,hzs,his⟩:=PQ;have kp:∀b',Pr φ2 ⟨2,[.row zT,.row t.cells],2,2⟩ w2 b'→∀A' B',UN φ2 ⟨2,[.row zT,.row t.cells],2,2⟩ w2 A' B'→B'.heap[b']? =A'.heap[b']?:=fun b' hb' A' B' h=>h b' hb'.1 hb'.2.1
 refine Ap (X:=X) (C:=az (ew Lt) 3) (m:=3) hC hCL mixed (by omega) r3 hG3 f3 (gf:=108) (lb:=#[.pointer (some ⟨b,o,none⟩)]) (by rw[←ecvs];exact e8) (enters 108 Tryz.func108 (by kernel_rfl) rfl) ⟨rfl,rfl,rfl⟩ ⟨rfl,rfl,rfl⟩ hi hz hzs (by rw[hfl];decide) (by rw[hfl];decide) (by rw[hfl];decide) (by decide)
  (Es:=us.map Tm.enc) (vs:=fun j=>#[vs j 0,vs j 1,vs j 2,vs j 3]) hEs (fun v hv=>?_)
  (Dp (3 - 1) (by omega) b o (us.map Tm.enc).length (by simp;omega) vs w2 hcell0 hpb.1 (hsl.imp_right fun⟨b2,o2,cap,e1,e2,e3⟩=>⟨b2,o2,cap,e1,e2.1,kp b2 e2,e3⟩) (kp b hpb))
  (acB:=O3) (by kernel_rfl) (fun pre=>⟨2,[.row zT,.row (uE us t pre).cells],2,2⟩) rfl (fun _=>rfl) (fun pre x=>?_) ?_
 ·obtain⟨u,_,rfl⟩:=List.mem_map.1 hv;refine⟨u.cells,u.cG,by rw[his];rfl,?_⟩;have:=u.dh;rw[u.cG] at this;simpa[AV.refs] using this
 ·have hxl:x.1 < us.length:=by simpa using x.2
  have hex:(us.map Tm.enc)[x.1]=(us[x.1]).enc:=by simp
  rw[hex];refine⟨_,_,KI A t us[x.1] (uE us t pre) x.1,Nat.le_refl _,?_,?_,?_,?_⟩
  ·rw[xh];rfl
  ·intro id h;rw[KW] at h ⊢;exact h
  ·intro id cs h v hv;rcases RY h with rfl | rfl
   ·simp only[zT,List.mem_cons,List.not_mem_nil,or_false] at hv;rcases hv with rfl | rfl | rfl | rfl<;>rfl
   ·exact Tm.Lr _ v hv
  ·intro id es h;exact (SW h).elim
 ·rintro D xs W φ' hD ⟨hdown,hlen⟩ fD rD xD hK;rw[G7 us t xs hdown hlen] at *;show Code.wpIn _ _ _ _ _ _ _;refine iF (l0:=none) hC hCL mixed 3 _ QS (by kernel_rfl) (IE A t (dO us t)) (a:={a2 with defers:={target:=.collected D,args:=#[]}::a2.defers}) fD rD (hG3.ext xD) fun φ4 a4 w4 f4 r4 x4 d4=>?_
  have hd:a4.defers=[{target:=.collected D,args:=#[]}]:=by rw[d4];show _::a2.defers=_;rw[d2,d1]
  show LeavesInM _ _ _ _ a4.tmps _ a4.defers .returning w4;rw[hd]
  have hK4:w4.heap[D]? =some (.deferred (some [])):=by
   refine (x4.pr D ⟨(Array.getElem?_eq_some_iff.1 hK).1,fun id hl e=>?_,fun hgh=>?_⟩).2.trans hK
   ·have hl2:id < 2:=KW.1 hl;have e1:=xD.uU id hl2;have e2:=r3.eh (KW.2 hl2);rw[e1] at e;omega
   ·rw[xD.gh.1] at hgh;have:=(r3.gh D hgh).1;omega
  have hws:=hx.size;refine M7 (rs:=[.cell 4 (some 4)]) hr (by kernel_rfl) f4 r4 ((hx.trans xD).trans x4) hK4 (by omega) (fun id cs h v hv=>?_) (fun id es h=>(SW h).elim) (fun k=>?_) ?_
  ·rcases RY h with rfl | rfl<;>exact Tm.Lr _ v hv
  ·by_cases hk:k < 16
   ·rw[va _ hk];by_cases h4:k=4
    ·subst h4;rfl
    ·have:lk [(4,AV.ptr 1 0)] k=.undef:=by
      unfold lk;simp[lk,Ne.symm h4]
     rw[this];rfl
   ·have:(FM 16 [(4,AV.ptr 1 0)]).getD k .undef=.undef:=by
     rw[List.getD_eq_getElem?_getD,List.getElem?_eq_none (by rw[jL];omega)];rfl
    rw[this];rfl
  ·rw[(dO us t).cG];rfl
theorem yE (us:List Tm) (t:Tm) (A:AV) (hA:(A=.aA∧us=[])∨A=.sl (us.map Tm.enc)) (hl:us.length < 1000000000000):fY Tryz.prog X 33 [A,t.enc] (dO us t).enc:=
 py (h':=⟨2,[.row (dO us t).cells,.row (dO us t).cells],2,1⟩) (Tm.dh _) (by
  rcases hA with⟨rfl,_⟩ | rfl<;>simp[AV.aq,AV.refs,Tm.dh]) fun φ w cargs hr hG ha=>.inl ⟨enters 33 Tryz.func33 (by kernel_rfl) rfl _ _,EA us t A hA hl hr hG ha⟩
def xc:aS:=⟨33,fun
 | [.aA,v]=>(match jm v with | some t=>some t.enc | none=>none)
 | [.sl xs,v]=>(match jy xs,jm v with | some us,some t=>if us.length < 1000000000000 then some (dO us t).enc else none | _,_=>none)
 | _=>none⟩
theorem gH:xc.f=33:=(rfl)
theorem xb (us:List Tm) (t:Tm) (h:us.length < 1000000000000):xc.S [.sl (us.map Tm.enc),t.enc]=some (dO us t).enc:=by
 unfold xc;dsimp only;rw[←jq,lq,fN];exact if_pos h
theorem Jr:bC Tryz.prog xc:=fun args v hv=>by
 unfold xc at hv ⊢;dsimp only at hv ⊢;split at hv
 ·split at hv
  ·rename_i t ht;cases hv;rw[fo ht];exact yE [] t .aA (.inl ⟨rfl,rfl⟩) (by simp)
  ·cases hv
 ·split at hv
  ·rename_i us t hu ht;split at hv
   ·rename_i hl;cases hv;rw[fo ht,pJ hu];exact yE us t _ (.inr rfl) hl
   ·cases hv
  ·cases hv
 ·cases hv
end Go.Proofs.YtjmeonoabiliiaaGreatDoor

namespace Go.Proofs.YtjmeonoabiliiaaGreatDoor
open Go Sz
end Go.Proofs.YtjmeonoabiliiaaGreatDoor

namespace Go.Proofs.YtjmeonoabiliiaaGreatDoor
open Go Sz Go.RowKit
theorem wV {w w':World} (h:w'=w):Below w.heap.size w w':=h ▸ Below.refl _ _
def ke:aS:=⟨123,fun | [.str s,.str p]=>some (.str (Lib.trimPrefix s p)) | _=>none⟩
theorem jX:ke.f=123:=(rfl)
theorem wo (s p:List UInt8):ke.S [.str s,.str p]=some (.str (Lib.trimPrefix s p)):=rfl
theorem wj:bC Tryz.prog ke:=fun args v hv=>by
 unfold ke at hv ⊢;dsimp only at hv ⊢;split at hv
 ·rename_i s p;cases hv;exact yg (enters 123 Tryz.func123 rfl rfl) fun w _=>(Tryz.strings_TrimPrefix ⟨s.toArray⟩ ⟨p.toArray⟩ w).mono fun e w' ⟨h1,h2⟩=>⟨by simpa using h1,wV h2⟩
 ·cases hv
def gM:aS:=⟨84,fun | [.str s,.str p]=>some (.bool (Lib.hasPrefix s p)) | _=>none⟩
theorem dK:gM.f=84:=(rfl)
theorem qm (s p:List UInt8):gM.S [.str s,.str p]=some (.bool (Lib.hasPrefix s p)):=rfl
theorem xX:bC Tryz.prog gM:=fun args v hv=>by
 unfold gM at hv ⊢;dsimp only at hv ⊢;split at hv
 ·rename_i s p;cases hv;exact H6 (enters 84 Tryz.func84 rfl rfl) fun w _=>(Tryz.strings_HasPrefix ⟨s.toArray⟩ ⟨p.toArray⟩ w).mono fun e w' ⟨h1,h2⟩=>⟨by simpa using h1,wV h2⟩
 ·cases hv
def kl (c:Nat):List UInt8→Int
 | []=>-1
 | b::r=>if Nat.beq b.toNat c then 0 else match kl c r with | .ofNat n=>.ofNat (n+1) | .negSucc _=>-1
theorem Fz (c:UInt8):∀l,Lib.indexByte l c=kl c.toNat l
 | []=>rfl
 | b::r=>by
   unfold Lib.indexByte kl;rw[Fz c r]
   have e:Nat.beq b.toNat c.toNat=(b==c):=by
    by_cases h:b=c
    ·subst h;simp[Nat.beq_refl]
    ·have h2:(b==c)=false:=by simpa using h
     rw[h2]
     cases h3:Nat.beq b.toNat c.toNat with
     | false=>rfl
     | true=>exact absurd (UInt8.toNat_inj.1 (Nat.eq_of_beq_eq_true h3)) h
   rw[e]
   cases hb:b==c with
   | true=>rfl
   | false=>
     simp only[Bool.false_eq_true,if_false]
     cases h:kl c.toNat r with
     | ofNat n=>
       have:((Int.ofNat n)==-1)=false:=by simp
       rw[this];rfl
     | negSucc n=>
       have hn:n=0:=by
        have:∀l k,kl c.toNat l=.negSucc k→k=0:=fun l=>by
         induction l with
         | nil=>intro k hk;cases hk;rfl
         | cons b r ih=>
           intro k hk;unfold kl at hk;split at hk
           ·cases hk
           ·split at hk
            ·cases hk
            ·cases hk;rfl
        exact this r n h
       subst hn;rfl
def fX:aS:=⟨65,fun | [.str s,.int .u8 c]=>if 0≤c∧c < 256 then some (.int .i64 (kl c.toNat s)) else none | _=>none⟩
theorem aX:fX.f=65:=(rfl)
theorem fe (s:List UInt8) (c:UInt8):fX.S [.str s,.int .u8 c.toNat]=some (.int .i64 (kl c.toNat s)):=by
 have:c.toNat < 256:=c.toNat_lt;unfold fX;dsimp only;rw[if_pos (by omega),Int.toNat_natCast]
theorem mj:bC Tryz.prog fX:=fun args v hv=>by
 unfold fX at hv ⊢;dsimp only at hv ⊢;split at hv
 ·rename_i s c;split at hv
  ·rename_i hc;cases hv;refine kV (enters 65 Tryz.func65 rfl rfl) fun φ h w cargs hr hG ha=>?_
   obtain⟨cx,cy,rfl,h1,h2⟩:=wv ha;rw[fa h1,int_eq h2];refine (Tryz.strings_IndexByte ⟨s.toArray⟩ c w).mono fun e w' ⟨he,hw⟩=>?_
   refine⟨wV hw,_,he,?_⟩
   have e1:c.toNat.toUInt8.toNat=c.toNat:=by
    show (UInt8.ofNat c.toNat).toNat=_;rw[UInt8.toNat_ofNat'];omega
   rw[Fz,e1];exact .int _ _
  ·cases hv
 ·cases hv
def cq (w:World):Prop:=Lib.TabIs Tryz.prog w "internal/strconv.uint64pow10" .u64 Lib.pow10Tab∧∃te pe,w.cell? ⟨2,0,none⟩=some (.iface te pe)
theorem xN {P:Program} {W:World} {name nm:String} {d:DataW Unit} {rest:List (String×DataW Unit)} {g t:Nat} {ms:Array (String×TypeId)}
 (hg:P.globalNamed name=some g) (hty:(P.globals[g]?).map (·.type)=some t) (ht:P.underlying t=some (.interface ms))
 (h:laidMet P ((name,.iface nm d)::rest) W):∃te pe,W.cell? ⟨g,0,none⟩=some (.iface te pe):=by
 obtain⟨ps,⟨g',t',cs,fuel,p,q,hg',ht',hvar,hd,_,_⟩,_⟩:=h;obtain rfl:=Option.some.inj (hg.symm.trans hg');obtain rfl:=Option.some.inj (hty.symm.trans ht')
 cases fuel with
 | zero=>simp[DataW.trod] at hd
 | succ fuel=>
   have hc:=World.var?_cell hg hvar 0
   match hcs:cs.toList with
   | []=>rw[hcs] at hd;simp[DataW.trod,ht] at hd
   | [v]=>
     have h0:cs[0]? =some v:=by rw[←Array.getElem?_toList,hcs];rfl
     rw[h0] at hc;rw[hcs] at hd
     cases v with
     | iface u v=>exact⟨u,v,hc⟩
     | _=>simp[DataW.trod,ht] at hd
   | v::v'::r=>rw[hcs] at hd;simp[DataW.trod,ht] at hd
theorem I2 {φ:dA} {h:aa} {w:World} (hG:fC Tryz.prog cq φ h w):∃te pe,w.cell? ⟨2,0,none⟩=some (.iface te pe):=by
 obtain⟨w1,h1,h2⟩:=hG;obtain⟨te,pe,hc⟩:=h1.2.2;refine⟨te,pe,?_⟩
 have hlt:2 < w1.heap.size:=by
  unfold World.cell? at hc;split at hc
  ·rename_i hb;exact (Array.getElem?_eq_some_iff.1 hb).1
  ·cases hc
 rw[cell?_of_block (h2 2 hlt).2.2];exact hc
theorem wY {φ:dA} {h:aa} {w:World} {x y z:AV} {cargs:Array Value} (ha:iB φ h w [x,y,z] cargs):∃cx cy cz,cargs=#[cx,cy,cz]∧dS φ h w x cx∧dS φ h w y cy∧dS φ h w z cz:=by
 obtain⟨h1,h2⟩:=NV ha;obtain⟨l⟩:=cargs
 match l,h1 with
 | [cx,cy,cz],_=>exact⟨cx,cy,cz,rfl,h2 0 (by simp),h2 1 (by simp),h2 2 (by simp)⟩
def zD (s:List UInt8):Option AV:=match Lib.parseIntB 64 s with
 | .ok v=>some (.tuple [.int .i64 v,.jC])
 | .range=>some (.tuple [.int .i64 (Lib.intSat 64 s),.iface 217 .undef])
 | _=>none
def wX:aS:=⟨125,fun | [.str s,.int .i64 b,.int .i64 c]=>if b=10∧c=64∧s.length < 281474976710656 then zD s else none | _=>none⟩
theorem sW:wX.f=125:=(rfl)
theorem Hw (s:List UInt8) (h:s.length < 281474976710656):wX.S [.str s,.int .i64 10,.int .i64 64]=zD s:=if_pos ⟨rfl,rfl,h⟩
theorem GN:eR Tryz.prog cq wX:=fun args v hv=>by
 unfold wX at hv ⊢;dsimp only at hv ⊢;split at hv
 ·rename_i s b c;split at hv
  ·rename_i hn;obtain⟨rfl,rfl,hn⟩:=hn;unfold zD at hv;split at hv
   ·rename_i v' hp;cases hv;refine kV (enters 125 Tryz.func125 rfl rfl) fun φ h w cargs hr hG ha=>?_
    obtain⟨cx,cy,cz,rfl,h1,h2,h3⟩:=wY ha;rw[fa h1,int_eq h2,int_eq h3];refine (Tryz.strconv_ParseInt_10_at64_ok ⟨s.toArray⟩ (by rw[Lib.size_eq];simp;omega) v' (by simpa using hp) w).mono fun e w' ⟨he,hw⟩=>?_
    refine⟨?_,_,he,?_⟩
    ·rcases hw with rfl | ⟨t,rfl⟩
     ·exact Below.refl _ _
     ·exact Lib.bytesWorld_below _ _ _
    ·refine .tuple _ _ rfl fun j hj=>?_
     match j,hj with
     | 0,_=>exact .int _ _
     | 1,_=>exact .jC
   ·rename_i hp;cases hv;refine kV (enters 125 Tryz.func125 rfl rfl) fun φ h w cargs hr hG ha=>?_
    obtain⟨cx,cy,cz,rfl,h1,h2,h3⟩:=wY ha;rw[fa h1,int_eq h2,int_eq h3];obtain⟨te,pe,hev⟩:=I2 hG;refine (Tryz.strconv_ParseInt_10_at64_range ⟨s.toArray⟩ (by rw[Lib.size_eq];simp;omega) (by simpa using hp) _ w hev (.inr ⟨te,pe,rfl⟩)).mono fun e w' ⟨N,he,_,_,hw⟩=>?_
    refine⟨hw,_,he,?_⟩;refine .tuple _ _ rfl fun j hj=>?_
    match j,hj with
    | 0,_=>simpa using (RV.int (φ:=φ) (nx:=h.next) (pr:=Pr φ h w') (w:=w') .i64 (Lib.intSat 64 s))
    | 1,_=>exact .iface _ _ _ (.undef _)
   ·cases hv
  ·cases hv
 ·cases hv
def digits:List UInt8:=[48,49,50,51,52,53,54,55,56,57]
def ze (s:List UInt8):List UInt8:=(s.reverse.dropWhile (digits.contains ·)).reverse.dropWhile (digits.contains ·)
def trimS:aS:=⟨124,fun | [.str s,.str c]=>if s.length < 9223372036854775807∧c=digits then some (.str (ze s)) else none | _=>none⟩
theorem vd:trimS.f=124:=(rfl)
theorem Jo (s:List UInt8) (h:s.length < 9223372036854775807):trimS.S [.str s,.str digits]=some (.str (ze s)):=if_pos ⟨h,rfl⟩
theorem Jl:bC Tryz.prog trimS:=fun args v hv=>by
 unfold trimS at hv ⊢;dsimp only at hv ⊢;split at hv
 ·rename_i s c;split at hv
  ·rename_i hl;obtain⟨hl,rfl⟩:=hl;cases hv;refine yg (enters 124 Tryz.func124 rfl rfl) fun w _=>(Any.strings_Trim_laid Tryz.Nh (by kernel_rfl) ⟨s.toArray⟩ ⟨digits.toArray⟩ w (by rw[Lib.size_eq];simp;omega) (by decide) (ascii_of_all (by decide))).mono fun e w' ⟨h1,h2⟩=>⟨?_,h2⟩
   rw[h1];rfl
  ·cases hv
 ·cases hv
end Go.Proofs.YtjmeonoabiliiaaGreatDoor

namespace Go.Proofs.YtjmeonoabiliiaaGreatDoor
open Go Sz
def dW (c:UInt8):Bool:=decide (48≤c.toNat)&&decide (c.toNat≤57)
def fc:List UInt8→Bool
 | []=>true
 | c::r=>dW c&&fc r
@[irreducible] def Qn (acc:Nat) (c:UInt8):Nat:=acc*10+(c.toNat - 48)
theorem MU (acc:Nat) (c:UInt8):Qn acc c=acc*10+(c.toNat - 48):=by unfold Qn;rfl
def nq:Nat→List UInt8→Nat
 | acc,[]=>acc
 | acc,c::r=>nq (Qn acc c) r
theorem ru (acc:Nat):nq acc []=acc:=by rw[nq]
theorem pS (acc:Nat) (c:UInt8) (r:List UInt8):nq acc (c::r)=nq (acc*10+(c.toNat - 48)) r:=by rw[nq,MU]
attribute [irreducible] nq
theorem JZ (c:UInt8):digits.contains c=dW c:=by
 have h:∀n:Fin 256,digits.contains (UInt8.ofNat n.1)=dW (UInt8.ofNat n.1):=by decide+kernel
 have:=h ⟨c.toNat,c.toNat_lt⟩;simpa using this
theorem wE:∀{l:List UInt8},fc l=true↔∀c ∈ l,dW c=true
 | []=>by simp[fc]
 | x::r=>by simp[fc,wE (l:=r)]
theorem dropWhile_nil {p:UInt8→Bool}:∀{l:List UInt8},l.dropWhile p=[]↔∀c ∈ l,p c=true
 | []=>by simp
 | x::r=>by
   rw[List.dropWhile_cons];split
   ·rename_i h;rw[dropWhile_nil];simp[h]
   ·rename_i h;simp[h]
theorem yV (s:List UInt8):(ze s=[])↔fc s=true:=by
 unfold ze;have e:(fun c=>digits.contains c)=dW:=funext JZ;simp only[e];rw[wE,dropWhile_nil];constructor
 ·intro h c hc;have hs:s.reverse=s.reverse.takeWhile dW++s.reverse.dropWhile dW:=(List.takeWhile_append_dropWhile).symm;have hc':c ∈ s.reverse:=by simpa using hc
  rw[hs,List.mem_append] at hc';rcases hc' with h1 | h1
  ·have key:∀(l:List UInt8),c ∈ l.takeWhile dW→dW c=true:=by
    intro l
    induction l with
    | nil=>simp
    | cons x r ih=>
      rw[List.takeWhile_cons];split
      ·rename_i hx;intro hm;rcases List.mem_cons.1 hm with rfl | hm
       ·exact hx
       ·exact ih hm
      ·simp
   exact key _ h1
  ·exact h c (by simpa using h1)
 ·intro h c hc
  have:c ∈ s:=by
   have h1:c ∈ s.reverse.dropWhile dW:=by simpa using hc
   have:=(List.dropWhile_sublist dW (l:=s.reverse)).subset h1;simpa using this
  exact h c this
theorem Ao:∀(l:List UInt8) (acc:Nat),acc≤nq acc l
 | [],acc=>by rw[ru];exact Nat.le_refl acc
 | c::r,acc=>by have:=Ao r (acc*10+(c.toNat - 48));rw[pS];omega
theorem qR (M:Nat) (hM:M≤18446744073709551615):∀(l:List UInt8) (acc:Nat),fc l=true→nq acc l≤M→Lib.parseUintM M acc l=.ok (nq acc l)
 | [],acc,_,_=>by rw[ru,Lib.parseUintM]
 | c::r,acc,h,hv=>by
   simp only[fc,dW,Bool.and_eq_true,decide_eq_true_eq] at h;have h2:=Ao r (acc*10+(c.toNat - 48));rw[pS] at hv ⊢;unfold Lib.parseUintM;rw[if_pos h.1,if_neg (by omega),if_neg (by omega),qR M hM r _ h.2 hv]
def ku (s:List UInt8):Int×Int:=
 let d:=Lib.trimPrefix s [45]
 if d=[] then (0,2) else if fc d=false then (0,2) else match Lib.parseIntB 64 s with | .ok v=>(v,0) | _=>(0,3)
theorem Ef (r:List UInt8):Lib.trimPrefix (45::r) [45]=r:=by
 simp[Lib.trimPrefix,Lib.hasPrefix]
theorem wP (c:UInt8) (r:List UInt8) (h:c≠45):Lib.trimPrefix (c::r) [45]=c::r:=by
 have:Lib.hasPrefix (c::r) [45]=false:=by simp[Lib.hasPrefix,List.isPrefixOf,Ne.symm h]
 simp[Lib.trimPrefix,this]
theorem Kg:Lib.trimPrefix [] [45]=[]:=by decide
theorem S8 {c:UInt8} (h:c≠45):c.toNat≠45:=fun h2=>h (UInt8.toNat_inj.1 h2)
theorem HQ (s:List UInt8) (hr:s≠[]) (hd:fc s=true) (hv:nq 0 s≤9223372036854775807):Lib.parseIntB 64 s=.ok (nq 0 s:Int):=by
 cases s with
 | nil=>exact absurd rfl hr
 | cons c r=>
   have e:=qR 18446744073709551615 (Nat.le_refl _) (c::r) 0 hd (by omega)
   have hc:48≤c.toNat∧c.toNat≤57:=by
    simp only[fc,dW,Bool.and_eq_true,decide_eq_true_eq] at hd;exact hd.1
   unfold Lib.parseIntB Lib.parseUintB;simp only[show (c.toNat=43)=False from eq_false (by omega),show (c.toNat=45)=False from eq_false (by omega),or_false,if_false,hr];rw[show (2 ^ 64 - 1:Nat)=18446744073709551615 by decide,e];simp only[not_false_iff,true_and,false_and,if_false];rw[if_neg (by omega)]
def k9 (c:UInt8):Bool:=decide (97≤c.toNat)&&decide (c.toNat≤122)
def lh (c:UInt8):Bool:=(decide (65≤c.toNat)&&decide (c.toNat≤90))||decide (c.toNat=95)
def kE (c:UInt8):Bool:=k9 c||lh c||dW c
def Iq:List UInt8:=[43,45,42,47,92,94,60,62,61,126,58,46,63,64,35,38,36]
def rT (c:UInt8):Bool:=Iq.any fun d=>decide (d.toNat=c.toNat)
def gd (c:UInt8):Bool:=decide (c.toNat=32)||decide (c.toNat=9)||decide (c.toNat=10)||decide (c.toNat=13)
def tM:List UInt8:=[40,41,91,93,123,125,44,124]
def mi (c:UInt8):Bool:=tM.any fun d=>decide (d.toNat=c.toNat)
def runN (p:UInt8→Bool):List UInt8→Nat
 | []=>0
 | c::r=>if p c then runN p r+1 else 0
theorem jr (p:UInt8→Bool):∀l,runN p l≤l.length
 | []=>Nat.le_refl _
 | c::r=>by
   unfold runN;split
   ·have:=jr p r;simp;omega
   ·simp
def iz (c:UInt8):Bool:=!decide (c.toNat=10)
def dG:Nat→List UInt8→Nat
 | 0,_=>0
 | _+1,[]=>0
 | n+1,c::r=>if gd c then dG n r+1 else if c.toNat=37 then runN iz (c::r)+dG n ((c::r).drop (runN iz (c::r))) else 0
def kD:List UInt8→Bool
 | []=>false
 | c::r=>decide (c.toNat=46)&&(match r with | []=>true | d::_=>gd d||decide (d.toNat=37))
def kh:List UInt8→Nat
 | []=>0
 | c::r=>if rT c&&!kD (c::r) then kh r+1 else 0
def xT (d:UInt8):Option UInt8:=if d.toNat=110 then some 10 else if d.toNat=116 then some 9 else if d.toNat=92 then some 92 else if d.toNat=39 then some 39 else none
def fL:Nat→List UInt8→List UInt8→Nat→Option (List UInt8)×Nat
 | 0,_,_,k=>(none,k)
 | _+1,[],_,k=>(none,k)
 | n+1,c::r,acc,k=>
   if c.toNat=39 then (match r with
    | d::r'=>if d.toNat=39 then fL n r' (acc++[39]) (k+2) else (some acc,k+1)
    | []=>(some acc,k+1))
   else if c.toNat < 32∨126 < c.toNat then (none,k)
   else if c.toNat=92 then (match r with
    | d::r'=>(match xT d with | some b=>fL n r' (acc++[b]) (k+2) | none=>(none,k))
    | []=>(none,k))
   else fL n r (acc++[c]) (k+1)
section
variable {n j:Nat} {c d:UInt8} {r acc:List UInt8}
theorem vu:fL (n+1) [] acc j=(none,j):=by unfold fL;rfl
theorem AD (hc:c.toNat=39):fL (n+1) [c] acc j=(some acc,j+1):=by unfold fL;rw[if_pos hc]
theorem wL (hc:c.toNat=39) (hd:d.toNat=39):fL (n+1) (c::d::r) acc j=fL n r (acc++[39]) (j+2):=by
 conv=>lhs;unfold fL
 rw[if_pos hc];dsimp only;rw[if_pos hd]
theorem tX (hc:c.toNat=39) (hd:¬ d.toNat=39):fL (n+1) (c::d::r) acc j=(some acc,j+1):=by unfold fL;rw[if_pos hc];dsimp only;rw[if_neg hd]
theorem vC (hc:¬ c.toNat=39) (h:c.toNat < 32∨126 < c.toNat):fL (n+1) (c::r) acc j=(none,j):=by unfold fL;rw[if_neg hc,if_pos h]
theorem At (hc:c.toNat=92):fL (n+1) [c] acc j=(none,j):=by unfold fL;rw[if_neg (by omega),if_neg (by omega),if_pos hc]
theorem xe {b:UInt8} (hc:c.toNat=92) (hd:xT d=some b):fL (n+1) (c::d::r) acc j=fL n r (acc++[b]) (j+2):=by
 conv=>lhs;unfold fL
 rw[if_neg (by omega),if_neg (by omega),if_pos hc];dsimp only;rw[hd]
theorem zS (hc:c.toNat=92) (hd:xT d=none):fL (n+1) (c::d::r) acc j=(none,j):=by
 unfold fL;rw[if_neg (by omega),if_neg (by omega),if_pos hc];dsimp only;rw[hd]
theorem Cj (h1:¬ c.toNat=39) (h2:¬ (c.toNat < 32∨126 < c.toNat)) (h3:¬ c.toNat=92):fL (n+1) (c::r) acc j=fL n r (acc++[c]) (j+1):=by
 conv=>lhs;unfold fL
 rw[if_neg h1,if_neg h2,if_neg h3]
theorem zU:∀(n:Nat) (l acc:List UInt8) (j:Nat),l.length < n→(fL n l acc j).2≤j+l.length∧j≤(fL n l acc j).2
 | 0,l,acc,j,h=>by omega
 | n+1,[],acc,j,_=>by rw[vu];simp
 | n+1,c::r,acc,j,h=>by
   simp only[List.length_cons] at h ⊢;by_cases h1:c.toNat=39
   ·cases r with
    | nil=>rw[AD h1];simp
    | cons d r'=>
      simp only[List.length_cons] at h ⊢;by_cases h2:d.toNat=39
      ·rw[wL h1 h2];have:=zU n r' (acc++[39]) (j+2) (by omega);omega
      ·rw[tX h1 h2];dsimp only;omega
   ·by_cases h2:c.toNat < 32∨126 < c.toNat
    ·rw[vC h1 h2];dsimp only;omega
    ·by_cases h3:c.toNat=92
     ·cases r with
      | nil=>rw[At h3];simp
      | cons d r'=>
        simp only[List.length_cons] at h ⊢
        cases hd:xT d with
        | none=>rw[zS h3 hd];dsimp only;omega
        | some b=>
          rw[xe h3 hd];have:=zU n r' (acc++[b]) (j+2) (by omega);omega
     ·rw[Cj h1 h2 h3];have:=zU n r (acc++[c]) (j+1) (by omega);omega
end
structure Tok where
 kind:Int
 text:List UInt8
 num:Int
 ig:Bool
 at_:Int
 deriving DecidableEq
def Tok.cells (t:Tok):List AV:=[.int .i64 t.kind,.str t.text,.int .i64 t.num,.bool t.ig,.int .i64 t.at_]
def Tok.enc (t:Tok):AV:=.agg t.cells
def rW:Tok:=⟨0,[],0,false,0⟩
def dr:List UInt8→Tok×Nat×Int
 | []=>(rW,0,2)
 | c::r=>
   if k9 c then (⟨1,(c::r).take (runN kE (c::r)),0,false,0⟩,runN kE (c::r),0)
   else if lh c then (⟨3,(c::r).take (runN kE (c::r)),0,false,0⟩,runN kE (c::r),0)
   else if dW c then (⟨4,[],(ku ((c::r).take (runN dW (c::r)))).1,false,0⟩,runN dW (c::r),(ku ((c::r).take (runN dW (c::r)))).2)
   else if c.toNat=39 then (match fL (r.length+1) r [] 1 with
    | (some t,k)=>(⟨2,t,0,false,0⟩,k,0)
    | (none,k)=>(rW,k,2))
   else if kD (c::r) then (⟨6,[],0,false,0⟩,1,0)
   else if rT c then (⟨1,(c::r).take (kh (c::r)),0,false,0⟩,kh (c::r),0)
   else if c.toNat=59∨c.toNat=33 then (⟨1,[c],0,false,0⟩,1,0)
   else (match r with
    | d::_=>if (c.toNat=91∧d.toNat=93)∨(c.toNat=123∧d.toNat=125) then (⟨1,[c,d],0,false,0⟩,2,0) else if mi c then (⟨5,[c],0,false,0⟩,1,0) else (rW,0,2)
    | []=>if mi c then (⟨5,[c],0,false,0⟩,1,0) else (rW,0,2))
def n7:Nat→List UInt8→Nat→List Tok→List Tok×Int×Int
 | 0,_,j,_=>([],j,3)
 | n+1,s,j,acc=>
   if s.length≤j then (acc,s.length,0)
   else if (dr (s.drop j)).2.2≠0 then ([],j,(dr (s.drop j)).2.2)
   else if (((dr (s.drop j)).1.kind=1∨(dr (s.drop j)).1.kind=2)∧64 < (dr (s.drop j)).1.text.length)∨acc.length=1024 then ([],j,3)
   else n7 n s (j+(dr (s.drop j)).2.1+dG (s.length+1) (s.drop (j+(dr (s.drop j)).2.1)))
    (acc++[⟨(dr (s.drop j)).1.kind,(dr (s.drop j)).1.text,(dr (s.drop j)).1.num,decide ((s[j+(dr (s.drop j)).2.1]?.map UInt8.toNat)=some 40),j⟩])
def dn (s:List UInt8):List Tok×Int×Int:=if 4096 < s.length then ([],4096,3) else n7 (s.length+1) s (dG (s.length+1) s) []
theorem lg {p:UInt8→Bool} {c:UInt8} {r:List UInt8} (h:p c=true):1≤runN p (c::r):=by unfold runN;rw[if_pos h];omega
theorem vL:∀l,kh l≤l.length
 | []=>Nat.le_refl _
 | c::r=>by
   unfold kh;split
   ·have:=vL r;simp;omega
   ·simp
theorem jI:∀l:List UInt8,(dr l).2.1≤l.length∧((dr l).2.2=0→1≤(dr l).2.1)
 | []=>⟨Nat.le_refl _,fun h=>by simp[dr] at h⟩
 | c::r=>by
   unfold dr;dsimp only;by_cases h1:k9 c=true
   ·rw[if_pos h1];exact⟨jr _ _,fun _=>lg (by unfold kE;rw[h1];rfl)⟩
   rw[if_neg h1];by_cases h2:lh c=true
   ·rw[if_pos h2];exact⟨jr _ _,fun _=>lg (by unfold kE;rw[h2];simp)⟩
   rw[if_neg h2];by_cases h3:dW c=true
   ·rw[if_pos h3];exact⟨jr _ _,fun _=>lg h3⟩
   rw[if_neg h3];by_cases h4:c.toNat=39
   ·rw[if_pos h4];obtain⟨b1,b2⟩:=zU (r.length+1) r [] 1 (by omega);generalize fL (r.length+1) r [] 1=q at *;obtain⟨a,k⟩:=q;have b3:k≤1+r.length:=b1;have b4:1≤k:=b2
    cases a with
    | none=>exact⟨(show k≤r.length+1 by omega),fun h=>by simp at h⟩
    | some t=>exact⟨(show k≤r.length+1 by omega),fun _=>b4⟩
   rw[if_neg h4];by_cases h5:kD (c::r)=true
   ·rw[if_pos h5];exact⟨by simp,fun _=>Nat.le_refl _⟩
   rw[if_neg h5];by_cases h6:rT c=true
   ·rw[if_pos h6];refine⟨vL _,fun _=>?_⟩;unfold kh;rw[if_pos (by rw[h6];simp[h5])];omega
   rw[if_neg h6];by_cases h7:c.toNat=59∨c.toNat=33
   ·rw[if_pos h7];exact⟨by simp,fun _=>Nat.le_refl _⟩
   rw[if_neg h7]
   cases r with
   | nil=>
     dsimp only;split
     ·exact⟨by simp,fun _=>Nat.le_refl _⟩
     ·exact⟨by simp,fun h=>by simp at h⟩
   | cons d r'=>
     dsimp only;split
     ·exact⟨by simp,fun _=>(show 1≤2 by omega)⟩
     ·split
      ·exact⟨by simp,fun _=>Nat.le_refl _⟩
      ·exact⟨by simp,fun h=>by simp at h⟩
theorem rX (n:Nat):∀l:List UInt8,decide (0≤kl n l)=l.any fun d=>decide (d.toNat=n)
 | []=>rfl
 | d::r=>by
   unfold kl;rw[List.any_cons];by_cases h:d.toNat=n
   ·have:Nat.beq d.toNat n=true:=by rw[h];exact Nat.beq_refl n
    rw[this,if_pos rfl,decide_eq_true h];rfl
   ·have:Nat.beq d.toNat n=false:=by
     cases hb:Nat.beq d.toNat n with
     | false=>rfl
     | true=>exact absurd (Nat.eq_of_beq_eq_true hb) h
    rw[this,if_neg (by simp),decide_eq_false h,Bool.false_or,←rX n r]
    cases kl n r with
    | ofNat k=>simp;omega
    | negSucc k=>simp
def Ls (f:Nat) (p:UInt8→Bool):aS:=⟨f,fun | [.int .u8 n]=>if 0≤n∧n < 256 then some (.bool (p (UInt8.ofNat n.toNat))) else none | _=>none⟩
theorem mh (f:Nat) (p:UInt8→Bool) (c:UInt8):(Ls f p).S [.int .u8 c.toNat]=some (.bool (p c)):=by
 have h:=c.toNat_lt;have e:UInt8.ofNat (c.toNat:Int).toNat=c:=by simp
 simp only[Ls,e];rw[if_pos (by omega)]
theorem ud {f:Nat} {p:UInt8→Bool} (h:∀c:UInt8,KP Tryz.prog f [.int .u8 c.toNat] (.bool (p c))):bC Tryz.prog (Ls f p):=fun args v hv=>by
 unfold Ls at hv;dsimp only at hv;split at hv
 ·rename_i n;split at hv
  ·rename_i hc;cases hv;have e:n=((UInt8.ofNat n.toNat).toNat:Int):=by rw[UInt8.toNat_ofNat'];omega
   have:=h (UInt8.ofNat n.toNat);rw[←e] at this;exact this
  ·cases hv
 ·cases hv
def oC:aS:=Ls 75 k9
theorem x7:bC Tryz.prog oC:=ud fun c=>by
 refine cB (n:=4) (h':=h0) (cf (ss:=[]) (by simp)) ?_ rfl rfl;unfold k9;have e97:((97:Int)≤(c.toNat:Int))=(97≤c.toNat):=propext ⟨fun h=>by omega,fun h=>by omega⟩;have e122:((c.toNat:Int)≤122)=(c.toNat≤122):=propext ⟨fun h=>by omega,fun h=>by omega⟩;by_cases h1:97≤c.toNat
 ·by_cases h2:c.toNat≤122
  ·simp[Lf,c75,e97,e122,h1,h2]
  ·simp[Lf,c75,e97,e122,h1,h2]
 ·simp[Lf,c75,e97,e122,h1]
def oG:aS:=Ls 78 dW
theorem xk:bC Tryz.prog oG:=ud fun c=>by
 refine cB (n:=4) (h':=h0) (cf (ss:=[]) (by simp)) ?_ rfl rfl;unfold dW;have e48:((48:Int)≤(c.toNat:Int))=(48≤c.toNat):=propext ⟨fun h=>by omega,fun h=>by omega⟩;have e57:((c.toNat:Int)≤57)=(c.toNat≤57):=propext ⟨fun h=>by omega,fun h=>by omega⟩;by_cases h1:48≤c.toNat
 ·by_cases h2:c.toNat≤57
  ·simp[JJ,QY,e48,e57,h1,h2]
  ·simp[JJ,QY,e48,e57,h1,h2]
 ·simp[JJ,QY,e48,e57,h1]
def ot:aS:=Ls 77 lh
theorem yu:bC Tryz.prog ot:=ud fun c=>by
 refine cB (n:=4) (h':=h0) (cf (ss:=[]) (by simp)) ?_ rfl rfl;unfold lh;have e65:((65:Int)≤(c.toNat:Int))=(65≤c.toNat):=propext ⟨fun h=>by omega,fun h=>by omega⟩;have e90:((c.toNat:Int)≤90)=(c.toNat≤90):=propext ⟨fun h=>by omega,fun h=>by omega⟩;have e:((c.toNat:Int)=95)=(c.toNat=95):=propext ⟨fun h=>by omega,fun h=>by omega⟩;by_cases h1:65≤c.toNat
 ·by_cases h2:c.toNat≤90
  ·simp[BU,Of,e65,e90,h1,h2]
  ·by_cases h3:c.toNat=95
   ·simp[BU,Of,e65,e90,h1,h2,h3,e]
   ·simp[BU,Of,e65,e90,h1,h2,h3,e]
 ·by_cases h3:c.toNat=95
  ·simp[BU,Of,e65,e90,h1,h3,e]
  ·simp[BU,Of,e65,e90,h1,h3,e]
def AY:aS:=Ls 76 kE
theorem Li:bC Tryz.prog AY:=ud fun c=>by
 refine cB (n:=4) (h':=h0) (cf (ss:=[oC,ot,oG]) (by simp[x7,yu,xk])) ?_ rfl rfl;have c1:oC.S [.int .u8 c.toNat]=_:=mh _ _ c;have c2:ot.S [.int .u8 c.toNat]=_:=mh _ _ c;have c3:oG.S [.int .u8 c.toNat]=_:=mh _ _ c;have f1:oC.f=75:=(rfl)
 have f2:ot.f=77:=(rfl)
 have f3:oG.f=78:=(rfl)
 unfold kE;cases h1:k9 c<;>cases h2:lh c<;>cases h3:dW c<;>rw[h1] at c1<;>rw[h2] at c2<;>rw[h3] at c3<;>simp[Rs,c76,c1,c2,c3,f1,f2,f3]
def SO:aS:=Ls 74 iz
theorem O4:bC Tryz.prog SO:=ud fun c=>by
 refine cB (n:=4) (h':=h0) (cf (ss:=[]) (by simp)) ?_ rfl rfl;unfold iz;have e:((c.toNat:Int)=10)=(c.toNat=10):=propext ⟨fun h=>by omega,fun h=>by omega⟩;by_cases h3:c.toNat=10
 ·simp[N1,Rp,h3,e]
 ·simp[N1,Rp,h3,e]
def HK:aS:=Ls 82 rT
theorem FP:bC Tryz.prog HK:=ud fun c=>by
 refine cB (n:=4) (h':=h0) (cf (ss:=[fX]) (by simp[mj])) ?_ rfl rfl;have c1:=fe Iq c;have e:rT c=decide (0≤kl c.toNat Iq):=(rX _ _).symm;rw[e];generalize kl c.toNat Iq=x at *;simp only[Iq] at c1;simp[SA,Tf,c1,aX]
theorem Bk (C:Nat→List AV→aa→Option (AV×aa)) (n g:Nat) (p:UInt8→Bool) (hC:∀(c:UInt8) (h:aa),C g [.int .u8 c.toNat] h=some (.bool (p c),h)) (s:List UInt8) (hl:s.length < 1000000000) (i0:Int):
 ∀(post pre:List UInt8) (m:Nat) (md:Nat),s=pre++post→post.length < m→
 ∃md',jf 1 1 (cO (aT C n xB) qF 1 m (O7 (.ptr 0 0) (.fn g []) (.int .i64 i0)) ⟨1,[.row [.str s,.int .i64 pre.length]],1,md⟩)=
   some (.exit 0,FM 50 [(0,.ptr 0 0),(5,.int .i64 i0)],⟨1,[.row [.str s,.int .i64 (pre.length+runN p post:Nat)]],1,md'⟩)
 | [],pre,m+1,md,e,_=>by
   simp at e;subst e;rw[aB];exact⟨md,by simp[xB,qF,runN]⟩
 | c::post,pre,m+1,md,e,hm=>by
   have h1:s[pre.length]? =some c:=by rw[e];simp
   have hpl:pre.length < s.length:=by rw[e];simp
   have h3:IntKind.i64.wrap ((pre.length:Int)+1)=(pre.length:Int)+1:=wrap_i64 (by omega) (by omega);have h6:((pre.length:Int) < (s.length:Int))=True:=eq_true (by omega);rw[aB];unfold runN
   cases hp:p c with
   | false=>exact⟨md,by simp[xB,qF,h1,h6,hC,hp]⟩
   | true=>
     obtain⟨md',ih⟩:=Bk C n g p hC s hl i0 post (pre++[c]) m 0 (by simp[e]) (by rw[List.length_cons] at hm;omega);refine⟨md',?_⟩;simp only[List.length_append,List.length_cons,List.length_nil,Nat.zero_add,Int.natCast_add,Int.natCast_one] at ih;simp only[if_true];rw[show pre.length+(runN p post+1)=pre.length+1+runN p post by omega];simp[xB,qF,h1,h3,h6,hC,hp];exact ih
theorem tZ {s:List UInt8} {k q:Nat} (h:k+q≤s.length):sliceB s.length (some (.int .i64 k)) (some (.int .i64 (k+q:Nat)))=some (k,k+q)∧(s.take (k+q)).drop k=(s.drop k).take q:=by
 refine⟨?_,by rw[List.drop_take,Nat.add_sub_cancel_left]⟩;have a1:(0:Int)≤((k+q:Nat):Int)∧((k+q:Nat):Int)≤(s.length:Int):=by omega
 have a2:(k:Int)≤((k+q:Nat):Int):=by omega
 have a3:((k+q:Nat):Int).toNat=k+q:=by omega
 have a4:(k:Int)≤(k:Int)+(q:Int):=by omega
 generalize ((k+q:Nat):Int)=Q at *;simp[sliceB,a1,a2,a3,a4]
def qA (g:Nat):Option (UInt8→Bool):=if g=76 then some kE else if g=78 then some dW else if g=74 then some iz else none
def runM:bM:=⟨73,fun
 | [.ptr 0 0,.fn g []],[.row [.str s,.int .i64 i]]=>(match qA g with
   | some p=>if s.length < 1000000000∧0≤i∧i≤s.length then some (.str ((s.drop i.toNat).take (runN p (s.drop i.toNat))),some [.row [.str s,.int .i64 (i.toNat+runN p (s.drop i.toNat):Nat)]]) else none
   | none=>none)
 | _,_=>none⟩
theorem gg:runM.f=73:=(rfl)
theorem Aj (g:Nat) (p:UInt8→Bool) (hp:qA g=some p) (s:List UInt8) (k:Nat) (hl:s.length < 1000000000) (hk:k≤s.length):
 runM.S [.ptr 0 0,.fn g []] [.row [.str s,.int .i64 k]]=some (.str ((s.drop k).take (runN p (s.drop k))),some [.row [.str s,.int .i64 (k+runN p (s.drop k):Nat)]]):=by
 simp only[runM,hp];rw[if_pos ⟨hl,by omega,by omega⟩,Int.toNat_natCast]
theorem NB:AY.f=76:=(rfl)
theorem gE:oG.f=78:=(rfl)
theorem Q5:SO.f=74:=(rfl)
def LB:List aS:=[AY,oG,SO]
theorem PN:∀s ∈ LB,bC Tryz.prog s:=by simp[LB,Li,xk,O4]
theorem SU (n g:Nat) (p:UInt8→Bool) (hp:qA g=some p) (c:UInt8) (h:aa):az (bh LB []) (n+1) g [.int .u8 c.toNat] h=some (.bool (p c),h):=by
 have f1:AY.f=76:=(rfl)
 have f2:oG.f=78:=(rfl)
 have f3:SO.f=74:=(rfl)
 unfold qA at hp;split at hp
 ·rename_i e;subst e;cases hp;have c1:AY.S [.int .u8 c.toNat]=_:=mh _ _ c;simp[LB,f1,f2,f3,c1]
 ·split at hp
  ·rename_i e;subst e;cases hp;have c1:oG.S [.int .u8 c.toNat]=_:=mh _ _ c;simp[LB,f1,f2,f3,c1]
  ·split at hp
   ·rename_i e;subst e;cases hp;have c1:SO.S [.int .u8 c.toNat]=_:=mh _ _ c;simp[LB,f1,f2,f3,c1]
   ·cases hp
theorem Fq:jW Tryz.prog runM:=fun args os v r hv=>by
 unfold runM at hv;dsimp only at hv;split at hv
 ·rename_i g s i;split at hv
  ·rename_i p hp;split at hv
   ·rename_i hc;cases hv;obtain⟨k,rfl⟩:∃k:Nat,i=(k:Int):=⟨i.toNat,by omega⟩
    rw[Int.toNat_natCast,gg];have hk:k≤s.length:=by omega
    have hse:s=s.take k++s.drop k:=(List.take_append_drop k s).symm;have hlt:(s.take k).length=k:=by rw[List.length_take];omega
    obtain⟨md',lp⟩:=Bk (az (bh LB []) (s.length+4)) (s.length+4) g p (fun c h=>SU (s.length+3) g p hp c h) s hc.1 k (s.drop k) (s.take k) (s.length+4) 1 hse (by rw[List.length_drop];omega);rw[hlt] at lp;have hrl:=jr p (s.drop k);rw[List.length_drop] at hrl;obtain⟨hsl,htd⟩:=tZ (s:=s) (k:=k) (q:=runN p (s.drop k)) (by omega);refine so (n:=s.length+5) (h1:=⟨1,[.row [.str s,.int .i64 (k+runN p (s.drop k):Nat)]],1,min 1 md'⟩) (sh (ss:=LB) (ms:=[]) PN (by simp)) ?_ rfl rfl rfl rfl;rw[pM];simp only[qF,LB] at lp;generalize (s.drop k).take (runN p (s.drop k))=res at *;generalize k+runN p (s.drop k)=q at *;simp[LB,PA,Tw,qF,lp,hsl,htd,NB,gE,Q5];omega
   ·cases hv
  ·cases hv
 ·cases hv
theorem yy (c:UInt8):([32,9,10,13]:List UInt8).any (fun d=>decide (d.toNat=c.toNat))=gd c:=by
 simp only[List.any_cons,List.any_nil,Bool.or_false,gd]
 have e:∀n:Nat,decide (n=c.toNat)=decide (c.toNat=n):=fun n=>by
  by_cases h:c.toNat=n
  ·rw[decide_eq_true h,decide_eq_true h.symm]
  ·rw[decide_eq_false h,decide_eq_false (Ne.symm h)]
 rw[show (32:UInt8).toNat=32 from rfl,show (9:UInt8).toNat=9 from rfl,show (10:UInt8).toNat=10 from rfl,show (13:UInt8).toNat=13 from rfl,e,e,e,e];simp[Bool.or_assoc]
def jA:List aS:=[fX]
theorem DF:∀s ∈ jA,bC Tryz.prog s:=by simp[jA,mj]
def IC:List bM:=[runM]
theorem Oq:∀m ∈ IC,jW Tryz.prog m:=by simp[IC,Fq]
theorem xv (n:Nat) (s:List UInt8) (hl:s.length < 1000000000):∀(f k m md:Nat),k≤s.length→s.length - k < f→f≤m→
 ∃ex md',(ex=.exit 0∨ex=.ret)∧jf 1 1 (cO (aT (az (bh jA IC) (n+1)) (n+1) tC) nc 1 m (Qs (.ptr 0 0)) ⟨1,[.row [.str s,.int .i64 k]],1,md⟩)=
   some (ex,FM 44 [],⟨1,[.row [.str s,.int .i64 (k+dG f (s.drop k):Nat)]],1,md'⟩)
 | 0,k,m,md,_,h,_=>by omega
 | f+1,k,0,md,_,_,h=>by omega
 | f+1,k,m+1,md,hk,hf,hm=>by
   rw[aB];by_cases he:k=s.length
   ·subst he;refine⟨.exit 0,md,.inl rfl,?_⟩;have:s.drop s.length=[]:=List.drop_length;rw[this];simp[tC,nc,dG]
   ·have hks:k < s.length:=by omega
    obtain⟨c,hc⟩:∃c,s[k]? =some c:=⟨s[k],List.getElem?_eq_getElem hks⟩
    have hd:s.drop k=c::s.drop (k+1):=by
     rw[List.drop_eq_getElem_cons hks];congr 1;rw[List.getElem?_eq_getElem hks] at hc;exact Option.some.inj hc
    have h6:((k:Int) < (s.length:Int))=True:=eq_true (by omega);have h3:IntKind.i64.wrap ((k:Int)+1)=(k:Int)+1:=wrap_i64 (by omega) (by omega);have c1:=fe [32,9,10,13] c;have e1:=rX c.toNat [32,9,10,13];rw[yy] at e1;generalize kl c.toNat [32,9,10,13]=x at c1 e1;rw[hd];unfold dG
    cases hb:gd c with
    | true=>
      rw[hb] at e1;have e2:(0≤x)=True:=eq_true (of_decide_eq_true e1);obtain⟨ex,md',hex,ih⟩:=xv n s hl f (k+1) m 0 (by omega) (by omega) (by omega);refine⟨ex,md',hex,?_⟩;simp only[if_true];rw[show k+(dG f (s.drop (k+1))+1)=k+1+dG f (s.drop (k+1)) by omega];simp only[jA,IC,Int.natCast_add,Int.natCast_one] at ih;simp[jA,IC,tC,nc,hc,h6,h3,c1,e2,aX,gg];exact ih
    | false=>
      rw[hb] at e1;have e2:(0≤x)=False:=eq_false (of_decide_eq_false e1);simp only[Bool.false_eq_true,if_false];by_cases h37:c.toNat=37
      ·have e3:((c.toNat:Int)=37)=True:=eq_true (by omega);rw[if_pos h37];have hr:=Aj 74 iz (by simp[qA]) s k hl hk;rw[hd] at hr
       have hrn:runN iz (c::s.drop (k+1))≤s.length - k:=by
        have:=jr iz (c::s.drop (k+1));rw[←hd,List.length_drop] at this;rw[hd] at this;exact this
       have hr1:1≤runN iz (c::s.drop (k+1)):=by
        unfold runN;have:iz c=true:=by unfold iz;rw[decide_eq_false (by omega)];rfl
        rw[this];simp
       obtain⟨ex,md',hex,ih⟩:=xv n s hl f (k+runN iz (c::s.drop (k+1))) m 0 (by omega) (by omega) (by omega);refine⟨ex,md',hex,?_⟩;have hdd:(c::s.drop (k+1)).drop (runN iz (c::s.drop (k+1)))=s.drop (k+runN iz (c::s.drop (k+1))):=by rw[←hd,List.drop_drop]
       rw[hdd];generalize hq:runN iz (c::s.drop (k+1))=q at *;rw[←Nat.add_assoc];simp only[jA,IC,Int.natCast_add,Int.natCast_one] at ih;simp[jA,IC,tC,nc,hc,h6,h3,c1,e2,e3,hr,aX,gg];exact ih
      ·have e3:((c.toNat:Int)=37)=False:=eq_false (by omega);rw[if_neg h37];refine⟨.ret,md,.inr rfl,?_⟩;simp[jA,IC,tC,nc,hc,h6,h3,c1,e2,e3,aX,gg]
theorem jg:∀(f:Nat) (l:List UInt8),dG f l≤l.length
 | 0,l=>by simp[dG]
 | f+1,[]=>by simp[dG]
 | f+1,c::r=>by
   unfold dG;split
   ·have:=jg f r;simp;omega
   ·split
    ·have h1:=jg f ((c::r).drop (runN iz (c::r)));have h2:=jr iz (c::r);rw[List.length_drop] at h1;omega
    ·simp
def xy:bM:=⟨44,fun
 | [.ptr 0 0],[.row [.str s,.int .i64 i]]=>if s.length < 1000000000∧0≤i∧i≤s.length then some (.tuple [],some [.row [.str s,.int .i64 (i.toNat+dG (s.length+1) (s.drop i.toNat):Nat)]]) else none
 | _,_=>none⟩
theorem de:xy.f=44:=(rfl)
theorem wy (s:List UInt8) (k:Nat) (hl:s.length < 1000000000) (hk:k≤s.length):
 xy.S [.ptr 0 0] [.row [.str s,.int .i64 k]]=some (.tuple [],some [.row [.str s,.int .i64 (k+dG (s.length+1) (s.drop k):Nat)]]):=by
 simp only[xy];rw[if_pos ⟨hl,by omega,by omega⟩,Int.toNat_natCast]
theorem KJ:jW Tryz.prog xy:=fun args os v r hv=>by
 unfold xy at hv;dsimp only at hv;split at hv
 ·rename_i s i;split at hv
  ·rename_i hc;cases hv;obtain⟨k,rfl⟩:∃k:Nat,i=(k:Int):=⟨i.toNat,by omega⟩
   rw[Int.toNat_natCast,de];obtain⟨ex,md',hex,lp⟩:=xv (s.length+4) s hc.1 (s.length+1) k (s.length+5) 1 (by omega) (by omega) (by omega);refine so (n:=s.length+6) (h1:=⟨1,[.row [.str s,.int .i64 (k+dG (s.length+1) (s.drop k):Nat)]],1,min 1 md'⟩) (sh (ss:=jA) (ms:=IC) DF Oq) ?_ rfl rfl rfl rfl;rw[pM];simp only[nc,jA,IC] at lp;generalize k+dG (s.length+1) (s.drop k)=q at *;rcases hex with rfl | rfl
   ·simp[jA,IC,Kj,RZ,nc,lp,aX,gg];omega
   ·simp[jA,IC,Kj,RZ,nc,lp,aX,gg];omega
  ·cases hv
 ·cases hv
theorem jJ {s:List UInt8} {k:Nat} (h:k < s.length):∃c,s[k]? =some c∧s.drop k=c::s.drop (k+1):=
 ⟨s[k],List.getElem?_eq_getElem h,by rw[List.drop_eq_getElem_cons h]⟩
theorem yN (c:UInt8):kD [c]=decide (c.toNat=46):=by simp[kD]
theorem zm (c d:UInt8) (r:List UInt8):kD (c::d::r)=(decide (c.toNat=46)&&(gd d||decide (d.toNat=37))):=rfl
theorem HG {c:UInt8} {r:List UInt8} (h:¬ c.toNat=46):kD (c::r)=false:=by
 cases r with
 | nil=>rw[yN];exact decide_eq_false h
 | cons d r=>rw[zm,decide_eq_false h];rfl
def vP:bM:=⟨81,fun
 | [.ptr 0 0],[.row [.str s,.int .i64 i]]=>if s.length < 1000000000∧0≤i∧i < s.length then some (.bool (kD (s.drop i.toNat)),none) else none
 | _,_=>none⟩
theorem fu:vP.f=81:=(rfl)
theorem Bz (s:List UInt8) (k:Nat) (hl:s.length < 1000000000) (hk:k < s.length):
 vP.S [.ptr 0 0] [.row [.str s,.int .i64 k]]=some (.bool (kD (s.drop k)),none):=by
 simp only[vP];rw[if_pos ⟨hl,by omega,by omega⟩,Int.toNat_natCast]
theorem DJ (c:UInt8):([32,9,10,13,37]:List UInt8).any (fun d=>decide (d.toNat=c.toNat))=(gd c||decide (c.toNat=37)):=by
 have:=yy c;simp only[List.any_cons,List.any_nil,Bool.or_false] at this ⊢;rw[←this]
 have e:decide ((37:UInt8).toNat=c.toNat)=decide (c.toNat=37):=by
  by_cases h:c.toNat=37
  ·rw[decide_eq_true h,decide_eq_true (show (37:UInt8).toNat=c.toNat from h.symm)]
  ·rw[decide_eq_false h,decide_eq_false (show ¬ (37:UInt8).toNat=c.toNat from fun e=>h e.symm)]
 rw[e];simp[Bool.or_assoc]
theorem C3:jW Tryz.prog vP:=fun args os v r hv=>by
 unfold vP at hv;dsimp only at hv;split at hv
 ·rename_i s i;split at hv
  ·rename_i hc;cases hv;obtain⟨k,rfl⟩:∃k:Nat,i=(k:Int):=⟨i.toNat,by omega⟩
   rw[Int.toNat_natCast,fu];obtain⟨c,h1,hd⟩:=jJ (s:=s) (k:=k) (by omega);have h3:IntKind.i64.wrap ((k:Int)+1)=(k:Int)+1:=wrap_i64 (by omega) (by omega);refine y5 (n:=6) (h1:=⟨1,[.row [.str s,.int .i64 k]],1,1⟩) (sh (ss:=jA) (ms:=[]) DF (by simp)) ?_ rfl rfl rfl rfl;rw[pM,hd];by_cases h46:c.toNat=46
   ·have e1:((c.toNat:Int)=46)=True:=eq_true (by omega);by_cases hlast:k+1=s.length
    ·have hn:s.drop (k+1)=[]:=by rw[hlast];exact List.drop_length
     have e2:((k:Int)+1=(s.length:Int))=True:=eq_true (by omega);rw[hn,yN,decide_eq_true h46];simp[jA,C9,QT,h1,h3,e1,e2,aX]
    ·obtain⟨d,h2,hd2⟩:=jJ (s:=s) (k:=k+1) (by omega);have e2:((k:Int)+1=(s.length:Int))=False:=eq_false (by omega);have c1:=fe [32,9,10,13,37] d;have e3:=rX d.toNat [32,9,10,13,37];rw[DJ] at e3;generalize kl d.toNat [32,9,10,13,37]=x at c1 e3;have h2':((k:Int)+1).toNat=k+1:=by omega
     have h2'':((0:Int)≤(k:Int)+1)=True:=eq_true (by omega);rw[hd2,zm,decide_eq_true h46,←e3];simp[jA,C9,QT,h1,h2,h2',h2'',h3,e1,e2,c1,aX]
   ·have e1:((c.toNat:Int)=46)=False:=eq_false (by omega);rw[HG h46];simp[jA,C9,QT,h1,h3,e1,aX]
  ·cases hv
 ·cases hv
def Ly:List aS:=[HK]
theorem Pk:∀s ∈ Ly,bC Tryz.prog s:=by simp[Ly,FP]
def Lw:List bM:=[vP]
theorem Ou:∀m ∈ Lw,jW Tryz.prog m:=by simp[Lw,C3]
theorem gL:HK.f=82:=(rfl)
theorem FY (c:UInt8):HK.S [.int .u8 c.toNat]=some (.bool (rT c)):=mh _ _ c
theorem Ff:∀l,kh l≤l.length
 | []=>Nat.le_refl _
 | c::r=>by
   unfold kh;split
   ·have:=Ff r;simp;omega
   ·simp
theorem Ca (n:Nat) (s:List UInt8) (hl:s.length < 1000000000) (i0:Int):∀(post pre:List UInt8) (m:Nat) (md:Nat),s=pre++post→post.length < m→
 ∃md',jf 1 1 (cO (aT (az (bh Ly Lw) (n+1)) (n+1) uu) om 1 m (Oi (.ptr 0 0) (.int .i64 i0)) ⟨1,[.row [.str s,.int .i64 pre.length]],1,md⟩)=
   some (.exit 0,FM 52 [(0,.ptr 0 0),(3,.int .i64 i0)],⟨1,[.row [.str s,.int .i64 (pre.length+kh post:Nat)]],1,md'⟩)
 | [],pre,m+1,md,e,_=>by
   simp at e;subst e;rw[aB];exact⟨md,by simp[uu,om,kh]⟩
 | c::post,pre,m+1,md,e,hm=>by
   have h1:s[pre.length]? =some c:=by rw[e];simp
   have hpl:pre.length < s.length:=by rw[e];simp
   have hdp:s.drop pre.length=c::post:=by rw[e];simp
   have h3:IntKind.i64.wrap ((pre.length:Int)+1)=(pre.length:Int)+1:=wrap_i64 (by omega) (by omega);have h6:((pre.length:Int) < (s.length:Int))=True:=eq_true (by omega);have c1:=FY c;have c2:=Bz s pre.length hl hpl;rw[hdp] at c2;rw[aB];unfold kh
   cases hp:rT c with
   | false=>
     rw[hp] at c1;exact⟨md,by simp[Ly,Lw,uu,om,h1,h6,c1,gL,fu]⟩
   | true=>
     rw[hp] at c1
     cases hq:kD (c::post) with
     | true=>
       rw[hq] at c2;exact⟨md,by simp[Ly,Lw,uu,om,h1,h6,c1,c2,gL,fu]⟩
     | false=>
       rw[hq] at c2;obtain⟨md',ih⟩:=Ca n s hl i0 post (pre++[c]) m 0 (by simp[e]) (by rw[List.length_cons] at hm;omega);refine⟨md',?_⟩;simp only[List.length_append,List.length_cons,List.length_nil,Nat.zero_add,Ly,Lw,Int.natCast_add,Int.natCast_one] at ih;simp only[Bool.not_false,Bool.and_self,if_true];rw[show pre.length+(kh post+1)=pre.length+1+kh post by omega];simp[Ly,Lw,uu,om,h1,h3,h6,c1,c2,gL,fu];exact ih
def yq:bM:=⟨83,fun
 | [.ptr 0 0],[.row [.str s,.int .i64 i]]=>if s.length < 1000000000∧0≤i∧i≤s.length then some (.str ((s.drop i.toNat).take (kh (s.drop i.toNat))),some [.row [.str s,.int .i64 (i.toNat+kh (s.drop i.toNat):Nat)]]) else none
 | _,_=>none⟩
theorem gF:yq.f=83:=(rfl)
theorem KA (s:List UInt8) (k:Nat) (hl:s.length < 1000000000) (hk:k≤s.length):
 yq.S [.ptr 0 0] [.row [.str s,.int .i64 k]]=some (.str ((s.drop k).take (kh (s.drop k))),some [.row [.str s,.int .i64 (k+kh (s.drop k):Nat)]]):=by
 simp only[yq];rw[if_pos ⟨hl,by omega,by omega⟩,Int.toNat_natCast]
theorem Ky:jW Tryz.prog yq:=fun args os v r hv=>by
 unfold yq at hv;dsimp only at hv;split at hv
 ·rename_i s i;split at hv
  ·rename_i hc;cases hv;obtain⟨k,rfl⟩:∃k:Nat,i=(k:Int):=⟨i.toNat,by omega⟩
   rw[Int.toNat_natCast,gF];have hk:k≤s.length:=by omega
   have hse:s=s.take k++s.drop k:=(List.take_append_drop k s).symm;have hlt:(s.take k).length=k:=by rw[List.length_take];omega
   obtain⟨md',lp⟩:=Ca (s.length+4) s hc.1 k (s.drop k) (s.take k) (s.length+5) 1 hse (by rw[List.length_drop];omega);rw[hlt] at lp;have hrl:=Ff (s.drop k);rw[List.length_drop] at hrl;obtain⟨hsl,htd⟩:=tZ (s:=s) (k:=k) (q:=kh (s.drop k)) (by omega);refine so (n:=s.length+6) (h1:=⟨1,[.row [.str s,.int .i64 (k+kh (s.drop k):Nat)]],1,min 1 md'⟩) (sh (ss:=Ly) (ms:=Lw) Pk Ou) ?_ rfl rfl rfl rfl;rw[pM];simp only[om,Ly,Lw] at lp;generalize (s.drop k).take (kh (s.drop k))=res at *;generalize k+kh (s.drop k)=q at *;simp[Ly,Lw,Po,Ty,om,lp,hsl,htd,gL,fu];omega
  ·cases hv
 ·cases hv
end Go.Proofs.YtjmeonoabiliiaaGreatDoor
