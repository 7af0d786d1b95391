import Derived.Test.YtjmeonoabiliiaaGreatDoorAt
import Derived.Test.YtjmeonoabiliiaaGreatDoorEnv
import Derived.Test.YtjmeonoabiliiaaGreatDoorFast
import Derived.Test.YtjmeonoabiliiaaGreatDoorArg
import Derived.RangeFuncNested
import Derived.RangeFuncBound
import Derived.RangeFuncCalls
import Derived.RangeFuncLeaves
import Derived.Shelf.Abstract
import Derived.Shelf.RegionOpen
import Derived.WalkKit
import Derived.OwnWalkIn
import Derived.TacticsInMore
import Derived.LoopNIn
import Derived.LoopIn
import Derived.Test.YtjmeonoabiliiaaGreatDoorProg
import Derived.Test.YtjmeonoabiliiaaGreatDoorIter
import Derived.Test.YtjmeonoabiliiaaGreatDoorShelf
import Derived.Lib.ItoaNum
import Derived.LaidSub
import Derived.MakeChecks
import Derived.Shelf.Strings.SlTrimAscii
set_option linter.unusedVariables false
set_option linter.unusedSimpArgs false
set_option linter.unusedSectionVars false
set_option maxHeartbeats 16000000
set_option maxRecDepth 100000

namespace Go.Proofs.YtjmeonoabiliiaaGreatDoor
open Go Sz
inductive Tm where
 | nl (k n:Int) (s:List UInt8)
 | mk (k n:Int) (s:List UInt8) (us:List Tm)
mutual
def Tm.enc:Tm→AV
 | .nl k n s=>.agg [.int .i64 k,.int .i64 n,.str s,.aw]
 | .mk k n s us=>.agg [.int .i64 k,.int .i64 n,.str s,.sl (Tm.pI us)]
def Tm.pI:List Tm→List AV
 | []=>[]
 | t::r=>t.enc::Tm.pI r
end
theorem jc:∀l:List Tm,Tm.pI l=l.map Tm.enc
 | []=>rfl
 | t::r=>by simp[Tm.pI,jc r]
def Tm.kind:Tm→Int | .nl k _ _=>k | .mk k _ _ _=>k
def Tm.num:Tm→Int | .nl _ n _=>n | .mk _ n _ _=>n
def Tm.name:Tm→List UInt8 | .nl _ _ s=>s | .mk _ _ s _=>s
def Tm.args:Tm→List Tm | .nl ..=>[] | .mk _ _ _ us=>us
def Tm.cp:Tm→AV | .nl ..=>.aw | .mk _ _ _ us=>.sl (us.map Tm.enc)
def Tm.cells (t:Tm):List AV:=[.int .i64 t.kind,.int .i64 t.num,.str t.name,t.cp]
theorem Tm.cf (t:Tm):t.cells=[.int .i64 t.kind,.int .i64 t.num,.str t.name,t.cp]:=rfl
theorem Tm.cw (t:Tm):t.enc=.agg t.cells:=by
 cases t with
 | nl k n s=>rfl
 | mk k n s us=>simp only[Tm.enc,Tm.cells,Tm.kind,Tm.num,Tm.name,Tm.cp,jc]
mutual
theorem Tm.cT:∀t:Tm,t.enc.refs=0
 | .nl k n s=>rfl
 | .mk k n s us=>by simp[Tm.enc,AV.refs,AV.ai,Tm.tN us]
theorem Tm.tN:∀l:List Tm,AV.ai (Tm.pI l)=0
 | []=>rfl
 | t::r=>by simp[Tm.pI,AV.ai,Tm.cT t,Tm.tN r]
end
theorem bN (l:List Tm):AV.ai (l.map Tm.enc)=0:=by rw[←jc];exact Tm.tN l
theorem aN (t:Tm):t.cp.refs=0:=by
 cases t with
 | nl k n s=>rfl
 | mk k n s us=>simp[Tm.cp,AV.refs,bN]
mutual
def jm:AV→Option Tm
 | .agg [.int .i64 k,.int .i64 n,.str s,.aw]=>some (.nl k n s)
 | .agg [.int .i64 k,.int .i64 n,.str s,.sl xs]=>(ji xs).map (.mk k n s)
 | _=>none
def ji:List AV→Option (List Tm)
 | []=>some []
 | v::r=>match jm v,ji r with
   | some t,some l=>some (t::l)
   | _,_=>none
end
mutual
theorem fH:∀t:Tm,jm t.enc=some t
 | .nl k n s=>by simp[Tm.enc,jm]
 | .mk k n s us=>by simp[Tm.enc,jm,kP us]
theorem kP:∀l:List Tm,ji (Tm.pI l)=some l
 | []=>by simp[Tm.pI,ji]
 | t::r=>by simp[Tm.pI,ji,fH t,kP r]
end
theorem yf:∀(n:Nat) (v:AV) (t:Tm),SizeOf.sizeOf v≤n→jm v=some t→v=t.enc
 | 0,v,t,h,_=>by cases v<;>simp at h
 | n+1,v,t,h,e=>by
   have hl:∀(xs:List AV) (l:List Tm),SizeOf.sizeOf xs≤n→ji xs=some l→xs=Tm.pI l:=by
    intro xs
    induction xs with
    | nil=>intro l _ e;simp[ji] at e;subst e;rfl
    | cons x r ih=>
      intro l hx e;simp only[ji] at e;split at e
      ·rename_i t l' h1 h2;cases e;simp only[List.cons.sizeOf_spec] at hx;rw[yf n x t (by omega) h1,ih l' (by omega) h2];rfl
      ·cases e
   unfold jm at e;split at e
   ·cases e;rfl
   ·rename_i k q s xs;obtain⟨us,h1,rfl⟩:=Option.map_eq_some_iff.1 e;simp only[AV.agg.sizeOf_spec,List.cons.sizeOf_spec,AV.sl.sizeOf_spec] at h;rw[hl xs us (by omega) h1];rfl
   ·cases e
theorem fa {v:AV} {t:Tm} (h:jm v=some t):v=t.enc:=yf _ v t (Nat.le_refl _) h
def OY (c:UInt8):Bool:=!((decide (c.toNat < 32)||decide (126 < c.toNat))&&decide (c.toNat≠9)&&decide (c.toNat≠10))
def pP:List UInt8→Bool
 | []=>true
 | c::r=>OY c&&pP r
def uh (s:List UInt8):Bool:=pP s&&decide (s.length≤64)
def Nt (s:List UInt8):List AV:=s.map fun b=>.int .u8 b.toNat
theorem wV:∀s:List UInt8,AV.ai (Nt s)=0
 | []=>rfl
 | c::r=>by
   have:=wV r;unfold Nt at this ⊢;simp[AV.ai,AV.refs,this]
theorem x6 (C:Nat→List AV→aa→Option (AV×aa)) (n:Nat) (s:List UInt8) (hs:s.length < 4611686018427387904):∀post pre m,s=pre++post→post.length < m→
 ju 0 0 (cM (aT C n lE) iZ 0 m (MU (.str s) (.sl (Nt s)) (.int .i64 s.length) (.int .i64 pre.length)) ⟨0,[],0,0⟩)=
  if pP post then some (.exit 0,FM 30 [(0,.str s)],⟨0,[],0,0⟩) else some (.ret,FM 30 [(2,.bool false)],⟨0,[],0,0⟩)
 | [],pre,m+1,e,_=>by
   simp at e;subst e;simp[aC,lE,pP]
 | c::post,pre,m+1,e,hm=>by
   have ih:=x6 C n s hs post (pre++[c]) m (by simp[e]) (by rw[List.length_cons] at hm;omega);have h1:(Nt s)[pre.length]? =some (.int .u8 c.toNat):=by unfold Nt;rw[e];simp
   have h3:IntKind.i64.wrap ((pre.length:Int)+1)=(pre.length:Int)+1:=by
    rw[ue (by rw[e] at hs;simp at hs;omega)];simp
   have h5:=wV s;have h6:((pre.length:Int) < (s.length:Int))=True:=eq_true (by rw[e,List.length_append,List.length_cons];omega);simp only[List.length_append,List.length_cons,List.length_nil,Nat.zero_add,Int.natCast_add,Int.natCast_one] at ih;have ho:OY c=!((decide (c.toNat < 32)||decide (126 < c.toNat))&&decide (c.toNat≠9)&&decide (c.toNat≠10)):=rfl;rw[aC];by_cases a1:c.toNat < 32
   ·have b1:((c.toNat:Int) < 32)=True:=eq_true (by omega);by_cases a3:c.toNat=9
    ·have b3:((c.toNat:Int)=9)=True:=eq_true (by omega);have ho:OY c=true:=by rw[ho];simp[a3]
     simp[lE,iZ,h1,h3,h5,h6,b1,b3,pP,ho];exact ih
    ·have b3:((c.toNat:Int)=9)=False:=eq_false (by omega);by_cases a4:c.toNat=10
     ·have b4:((c.toNat:Int)=10)=True:=eq_true (by omega);have ho:OY c=true:=by rw[ho];simp[a4]
      simp[lE,iZ,h1,h3,h5,h6,b1,b3,b4,pP,ho];exact ih
     ·have b4:((c.toNat:Int)=10)=False:=eq_false (by omega);have ho:OY c=false:=by rw[ho];simp[a1,a3,a4]
      simp[lE,iZ,h1,h3,h5,h6,b1,b3,b4,pP,ho]
   ·have b1:((c.toNat:Int) < 32)=False:=eq_false (by omega);by_cases a2:126 < c.toNat
    ·have b2:(126 < (c.toNat:Int))=True:=eq_true (by omega);have b3:((c.toNat:Int)=9)=False:=eq_false (by omega);have b4:((c.toNat:Int)=10)=False:=eq_false (by omega)
     have ho:OY c=false:=by
      rw[ho];have:c.toNat≠9:=by omega
      have:c.toNat≠10:=by omega
      simp[*]
     simp[lE,iZ,h1,h3,h5,h6,b1,b2,b3,b4,pP,ho]
    ·have b2:(126 < (c.toNat:Int))=False:=eq_false (by omega);have ho:OY c=true:=by rw[ho];simp[a1,a2]
     simp[lE,iZ,h1,h3,h5,h6,b1,b2,pP,ho];exact ih
def rk:aR:=⟨103,fun | [.str s]=>if s.length < 4611686018427387904 then some (.bool (uh s)) else none | _=>none⟩
theorem dX:rk.f=103:=(rfl)
theorem DS (s:List UInt8) (h:s.length < 4611686018427387904):rk.S [.str s]=some (.bool (uh s)):=if_pos h
theorem CS:bC Tryz.prog rk:=fun args v hv=>by
 unfold rk at hv ⊢;dsimp only at hv ⊢;split at hv
 ·rename_i s;split at hv
  ·rename_i hs;cases hv;refine ct (n:=s.length+2) (h':=h0) (b8 (ss:=[]) (by simp)) ?_ rfl rfl;have lp:=x6 (au (dP []) (s.length+1)) (s.length+1) s hs s [] (s.length+1) rfl (by omega);simp only[List.length_nil,show ((0:Nat):Int)=0 from rfl,iZ] at lp;have h5:=wV s;have e5:(s.map fun b=>AV.int .u8 b.toNat)=Nt s:=rfl;have e6:(Nt s).length=s.length:=by simp[Nt]
   unfold uh
   cases ha:pP s with
   | false=>
     rw[ha] at lp;simp at lp;simp[DQ,G2,iZ,e5,e6,h5,lp]
   | true=>
     rw[ha] at lp;simp at lp;by_cases hl:s.length≤64
     ·have hl':((s.length:Int)≤64)=True:=eq_true (by omega);simp[DQ,G2,iZ,e5,e6,h5,lp,hl,hl']
     ·have hl':((s.length:Int)≤64)=False:=eq_false (by omega);simp[DQ,G2,iZ,e5,e6,h5,lp,hl,hl']
  ·cases hv
 ·cases hv
def oB (t:Tm):Bool:=
 if t.kind=0 then decide (0≤t.num)&&decide (t.num≤2147483647)&&decide (t.name=[])&&decide (t.args.length=0)
 else if t.kind=1 then decide (t.name=[])&&decide (t.args.length=0)
 else if t.kind=2 then decide (t.num=0)&&uh t.name&&decide (t.args.length≤8)
 else false
theorem Jn (t:Tm):∃k n s a,t.enc=.agg [.int .i64 k,.int .i64 n,.str s,a]∧t.kind=k∧t.num=n∧t.name=s∧a.refs=0∧((a=.aw∧t.args=[])∨a=.sl (t.args.map Tm.enc)):=by
 cases t with
 | nl k n s=>exact⟨k,n,s,.aw,rfl,rfl,rfl,rfl,rfl,.inl ⟨rfl,rfl⟩⟩
 | mk k n s us=>exact⟨k,n,s,_,(Tm.mk k n s us).cw,rfl,rfl,rfl,aN _,.inr rfl⟩
def AO:aR:=⟨62,fun | [v]=>(match jm v with | some t=>if t.name.length < 4611686018427387904 then some (.bool (oB t)) else none | none=>none) | _=>none⟩
theorem w6:AO.f=62:=(rfl)
theorem MS (t:Tm) (h:t.name.length < 4611686018427387904):AO.S [t.enc]=some (.bool (oB t)):=by
 simp only[AO,fH,if_pos h]
theorem ML:bC Tryz.prog AO:=fun args v hv=>by
 unfold AO at hv ⊢;dsimp only at hv ⊢;split at hv
 ·rename_i x;split at hv
  ·rename_i t ht;split at hv
   ·rename_i hl;cases hv;rw[fa ht];refine ct (n:=5) (h':=h0) (b8 (ss:=[rk]) (by simp[CS])) ?_ rfl (by simp[AV.ai,Tm.cT]);obtain⟨k,n,s,a,e,e1,e2,e3,hr,ha⟩:=Jn t;have hg:=DS s (by rw[←e3];exact hl);unfold oB;rw[e,e1,e2,e3]
    have ha0:(a=.aw∧t.args.length=0)∨(∃l:List AV,a=.sl l∧l.length=t.args.length):=by
     rcases ha with⟨h1,h2⟩ | h1
     ·exact .inl ⟨h1,by rw[h2];rfl⟩
     ·exact .inr ⟨_,h1,by simp⟩
    generalize t.args.length=q at ha0;clear ha e1 e2 e3 ht hl e;by_cases k0:k=0
    ·subst k0;by_cases c1:0≤n
     ·by_cases c2:n≤2147483647
      ·cases s with
       | nil=>
         rcases ha0 with⟨rfl,rfl⟩ | ⟨l,rfl,rfl⟩
         ·simp[kz,zt,c1,c2,dX]
         ·by_cases c4:l.length=0
          ·have c4':((l.length:Int)=0)=True:=eq_true (by omega);simp only[AV.refs] at hr;simp[kz,zt,c1,c2,c4',c4,hr,dX]
          ·have c4':((l.length:Int)=0)=False:=eq_false (by omega);simp only[AV.refs] at hr;simp[kz,zt,c1,c2,c4',c4,hr,dX]
       | cons c r=>simp[kz,zt,c1,c2,dX,hr]
      ·simp[kz,zt,c1,c2,dX,hr]
     ·simp[kz,zt,c1,dX,hr]
    ·by_cases k1:k=1
     ·subst k1
      cases s with
      | nil=>
        rcases ha0 with⟨rfl,rfl⟩ | ⟨l,rfl,rfl⟩
        ·simp[kz,zt,dX]
        ·by_cases c4:l.length=0
         ·have c4':((l.length:Int)=0)=True:=eq_true (by omega);simp only[AV.refs] at hr;simp[kz,zt,c4',c4,hr,dX]
         ·have c4':((l.length:Int)=0)=False:=eq_false (by omega);simp only[AV.refs] at hr;simp[kz,zt,c4',c4,hr,dX]
      | cons c r=>simp[kz,zt,dX,hr]
     ·by_cases k2:k=2
      ·subst k2;by_cases c1:n=0
       ·cases hgn:uh s with
        | false=>
          rw[hgn] at hg;simp[kz,zt,c1,hg,dX,hr]
        | true=>
          rw[hgn] at hg;rcases ha0 with⟨rfl,rfl⟩ | ⟨l,rfl,rfl⟩
          ·simp[kz,zt,c1,hg,dX]
          ·by_cases c4:l.length≤8
           ·have c4':((l.length:Int)≤8)=True:=eq_true (by omega);simp only[AV.refs] at hr;simp[kz,zt,c1,hg,c4',c4,hr,dX]
           ·have c4':((l.length:Int)≤8)=False:=eq_false (by omega);simp only[AV.refs] at hr;simp[kz,zt,c1,hg,c4',c4,hr,dX]
       ·simp[kz,zt,c1,dX,hr]
      ·simp[kz,zt,k0,k1,k2,dX,hr]
   ·cases hv
  ·cases hv
 ·cases hv
theorem nf (t:Tm):basic t.cp=true:=by cases t<;>rfl
theorem Ke (t:Tm):xI 4 t.enc:=by
 rw[Tm.cw];refine⟨rfl,?_,fun h=>by omega,fun _=>rfl,rfl⟩;have:=nf t;simp only[AV.cells,Tm.cells,List.all_cons,List.all_nil,this];rfl
theorem l5 (us:List Tm):∀x ∈ us.map Tm.enc,xI 4 x:=by
 intro x hx;obtain⟨t,_,rfl⟩:=List.mem_map.1 hx;exact Ke t
def aZ (us:List Tm):List AV:=us.flatMap Tm.cells
theorem n6 (us:List Tm):(us.map Tm.enc).flatMap AV.cells=aZ us:=by
 induction us with
 | nil=>rfl
 | cons t r ih=>
   unfold aZ at ih ⊢;rw[List.map_cons,List.flatMap_cons,List.flatMap_cons,ih,Tm.cw];rfl
theorem dD (us:List Tm):(aZ us).length=us.length*4:=by
 rw[←n6,wL (l5 us),List.length_map]
theorem bP (us:List Tm):AV.ai (aZ us)=0:=by
 rw[←n6];exact lL (wo (l5 us))
theorem I5 (h:aa) (us:List Tm):aS h 4 (.sl (us.map Tm.enc))=some (us.length,aZ us):=by
 have e:aS h 4 (.sl (us.map Tm.enc))=if ((us.map Tm.enc).all fun x=>(x.cells?.map List.length)==some 4) then some ((us.map Tm.enc).length,(us.map Tm.enc).flatMap AV.cells) else none:=rfl
 rw[e,if_pos (BW (l5 us)),List.length_map,n6]
def IE:aR:=⟨48,fun | [.int .i64 n]=>some (Tm.nl 1 n []).enc | _=>none⟩
theorem cO:IE.f=48:=(rfl)
theorem FH (n:Int):IE.S [.int .i64 n]=some (.agg [.int .i64 1,.int .i64 n,.str [],.aw]):=rfl
theorem L4:bC Tryz.prog IE:=fun args v hv=>by
 unfold IE at hv ⊢;dsimp only at hv ⊢;split at hv
 ·cases hv;refine ct (n:=3) (h':=h0) (b8 (ss:=[]) (by simp)) ?_ rfl rfl;simp[R6,Tc,Tm.enc]
 ·cases hv
def wm:aR:=⟨32,fun | [.int .i64 n]=>some (Tm.nl 0 n []).enc | _=>none⟩
theorem qo:wm.f=32:=(rfl)
theorem EY (n:Int):wm.S [.int .i64 n]=some (.agg [.int .i64 0,.int .i64 n,.str [],.aw]):=rfl
theorem Mz:bC Tryz.prog wm:=fun args v hv=>by
 unfold wm at hv ⊢;dsimp only at hv ⊢;split at hv
 ·cases hv;refine ct (n:=3) (h':=h0) (b8 (ss:=[]) (by simp)) ?_ rfl rfl;simp[Re,SZ,Tm.enc]
 ·cases hv
def yA:aR:=⟨28,fun | [.str s]=>some (Tm.nl 2 0 s).enc | _=>none⟩
theorem dN:yA.f=28:=(rfl)
theorem k9 (s:List UInt8):yA.S [.str s]=some (.agg [.int .i64 2,.int .i64 0,.str s,.aw]):=rfl
theorem A8:bC Tryz.prog yA:=fun args v hv=>by
 unfold yA at hv ⊢;dsimp only at hv ⊢;split at hv
 ·cases hv;refine ct (n:=3) (h':=h0) (b8 (ss:=[]) (by simp)) ?_ rfl rfl;simp[QQ,c28,Tm.enc]
 ·cases hv
def cb (s:List UInt8):List Tm→Tm
 | []=>.nl 2 0 s
 | us=>.mk 2 0 s us
def rO:aR:=⟨47,fun
 | [.str s,.aw]=>some (Tm.nl 2 0 s).enc
 | [.str s,.sl xs]=>(match ji xs with | some us=>if us.length < 1000000000000 then some (cb s us).enc else none | none=>none)
 | _=>none⟩
theorem a6:rO.f=47:=(rfl)
theorem iq (s:List UInt8) (us:List Tm) (h:us.length < 1000000000000):rO.S [.str s,.sl (us.map Tm.enc)]=some (cb s us).enc:=by
 unfold rO;dsimp only;rw[←jc,kP];exact if_pos h
theorem ph:∀{xs:List AV} {us:List Tm},ji xs=some us→xs=us.map Tm.enc
 | [],us,e=>by simp[ji] at e;subst e;rfl
 | x::r,us,e=>by
   simp only[ji] at e;split at e
   ·rename_i t l h1 h2;cases e;rw[fa h1,ph h2];rfl
   ·cases e
theorem rL:bC Tryz.prog rO:=fun args v hv=>by
 unfold rO at hv ⊢;dsimp only at hv ⊢;split at hv
 ·cases hv;refine ct (n:=4) (h':=h0) (b8 (ss:=[]) (by simp)) ?_ rfl rfl;simp[I2,QD,Tm.enc]
 ·rename_i s xs;split at hv
  ·rename_i us hx;split at hv
   ·rename_i hl;cases hv;rw[ph hx];refine ct (n:=4) (h':=h0) (b8 (ss:=[]) (by simp)) ?_ (Tm.cT _) (by simp[AV.ai,AV.refs,bN])
    cases us with
    | nil=>simp[I2,QD,Tm.enc,cb]
    | cons t r=>
      have h5:AV.ai (r.map Tm.enc)=0:=bN _;have h6:t.enc.refs=0:=Tm.cT _;have hcl:=HF 86 (xs:=t.enc::r.map Tm.enc) (by simp);have he:=fun h=>I5 h (t::r)
      have b1:(r.length+1)*56≤140737488355328:=by simp at hl;omega
      have b2:r.length+1 < 9223372036854775808:=by simp at hl;omega
      have e:(cb s (t::r)).enc=.agg [.int .i64 2,.int .i64 0,.str s,.sl (t.enc::r.map Tm.enc)]:=by simp[cb,Tm.enc,jc,Tm.pI]
      have hfr:=bP (t::r)
      have hf:∀(X:bf) (wl md d:Nat),hO ⟨2,[.row (aZ (t::r)),X],wl,md⟩ 0 (d+2) (.vec 1 0 (r.length+1) 4 (r.length+1))=some (.sl ((t::r).map Tm.enc),[1]):=fun X wl md d=>
       vl (by omega) rfl (by omega) (l5 (t::r)) (by simp) (by rw[dD];simp) (by rw[n6,List.take_of_length_le];rw[dD];simp)
      rw[e];simp only[List.map_cons,List.length_cons] at he hf;simp[I2,QD,QW,S4,hcl,h5,h6,b1,b2,he,hfr,hf,uC]
   ·cases hv
  ·cases hv
 ·cases hv
theorem tC:∀{a b:List AV},AV.ai a=0→AV.ai b=0→AV.ai (a++b)=0
 | [],b,_,hb=>hb
 | v::r,b,ha,hb=>by
   simp only[AV.ai] at ha;simp only[List.cons_append,AV.ai];rw[tC (a:=r) (by omega) hb];omega
theorem tM:∀{a:List AV},AV.ai a=0→∀k,AV.ai (a.take k)=0∧AV.ai (a.drop k)=0
 | [],_,k=>by simp[AV.ai]
 | v::r,ha,0=>⟨by simp[AV.ai],by simpa using ha⟩
 | v::r,ha,k+1=>by
   simp only[AV.ai] at ha;have:=tM (a:=r) (by omega) k;simp only[List.take_succ_cons,List.drop_succ_cons,AV.ai];exact⟨by rw[this.1];omega,this.2⟩
theorem iQ {R:List AV} (h:AV.ai R=0) (x:Tm) (k:Nat) (hk:k+4≤R.length):AV.ai (putAt R k x.cells)=0:=by
 rw[ma x.cells R k (by have:x.cells.length=4:=rfl;omega)];have q1:AV.ai x.cells=0:=by simp[Tm.cells,AV.ai,AV.refs,aN]
 exact tC (tC (tM h _).1 q1) (tM h _).2
def dZ {σ:Type} (fs:Tm→σ→Bool×σ):Nat→List Tm→σ→Bool×σ
 | 0,_,s=>(true,s)
 | _+1,[],s=>(true,s)
 | d+1,x::rs,s=>if (fs x s).1 then dZ fs d (x.args++rs) (fs x s).2 else (false,(fs x s).2)
mutual
def Tm.size:Tm→Nat
 | .nl ..=>1
 | .mk _ _ _ us=>1+Tm.de us
def Tm.de:List Tm→Nat
 | []=>0
 | t::r=>t.size+Tm.de r
end
theorem gR (t:Tm):t.size=1+Tm.de t.args:=by cases t<;>rfl
theorem kG:∀a b:List Tm,Tm.de (a++b)=Tm.de a+Tm.de b
 | [],b=>by simp[Tm.de]
 | t::r,b=>by simp[Tm.de,kG r b];omega
theorem gq:∀a:List Tm,a.length≤Tm.de a
 | []=>by simp
 | t::r=>by
   have:=gq r;have:=gR t;simp[Tm.de];omega
theorem Be {R:List AV} {st:List Tm} {x:Tm} (h:R.take ((st.length+1)*4)=aZ (st++[x])):R.take (st.length*4)=aZ st∧(R.drop (st.length*4)).take 4=x.cells:=by
 have e:aZ (st++[x])=aZ st++x.cells:=by simp[aZ]
 have hl:=dD st;refine⟨?_,?_⟩
 ·have:=congrArg (List.take (st.length*4)) h;rw[List.take_take,Nat.min_eq_left (by omega),e,List.take_left' hl] at this;exact this
 ·have:=congrArg (List.drop (st.length*4)) h;rw[List.drop_take,e,List.drop_left' hl,show (st.length+1)*4 - st.length*4=4 by omega] at this;exact this
theorem rJ (C:Nat→List AV→aa→Option (AV×aa)) (n g:Nat) (caps:List AV) (hc:AV.ai caps≤2) (X:Tm) (os:List bf) (md:Nat) (hmd:∀k,2≤k→min md k=md) (w:Nat) (hw:min w 5=w):∀(i m:Nat) (st:List Tm),i≤X.args.length→i < m→st.length+i < 1000000000000→
 ju 5 w (cM (aT C n dt) cK 5 m (kv (.fn g caps) (.vec 5 0 st.length 4 st.length) (.ptr 4 0) (.int .i64 ((i:Int) - 1))) ⟨6,.row (aZ st)::.row X.cells::.dead::os,5,md⟩)=
  some (.exit 2,FM 44 [(1,.fn g caps),(5,.vec 5 0 (st.length+i) 4 (st.length+i))],⟨6,.row (aZ (st++(X.args.take i).reverse))::.row X.cells::.dead::os,w,md⟩)
 | 0,m+1,st,_,_,_=>by
   have h1:(0≤(-1:Int))=False:=by simp
   have hr:AV.ai caps≤5:=by omega
   have hm1:min md 3=md:=hmd 3 (by omega);have hm2:min md 5=md:=hmd 5 (by omega);have hfr:=bP st;simp[aC,dt,hr,hfr,hw]
 | i+1,m+1,st,hi,hm,hl=>by
   have hr:AV.ai caps≤5:=by omega
   have hm1:min md 3=md:=hmd 3 (by omega);have hm2:min md 5=md:=hmd 5 (by omega);obtain⟨x,hx⟩:∃x,X.args[i]? =some x:=⟨X.args[i]'(by omega),by simp⟩
   have ih:=rJ C n g caps hc X os md hmd w hw i m (st++[x]) (by omega) (by omega) (by simp;omega)
   have ha:X.cp=.sl (X.args.map Tm.enc):=by
    cases X with
    | nl k n s=>simp[Tm.args] at hx
    | mk k n s us=>rfl
   have hX:X.cells=[.int .i64 X.kind,.int .i64 X.num,.str X.name,.sl (X.args.map Tm.enc)]:=by rw[←ha];rfl
   have h5:AV.ai (X.args.map Tm.enc)=0:=bN _;have hxe:=Tm.cw x;have hxc:=Tm.cf x;have hxr:=aN x;have hfr:=bP st;have hfl:=dD st;have w1:IntKind.i64.wrap ((i:Int) - 1)=(i:Int) - 1:=wrap_i64 (by omega) (by omega);have t1:(0≤(i:Int))=True:=eq_true (by omega);have b1:(st.length+1)*56≤140737488355328:=by omega
   have b2:st.length+1 < 9223372036854775808:=by omega
   have htk:X.args.take (i+1)=X.args.take i++[x]:=by
    rw[List.take_add_one,hx];rfl
   have hft:aZ (st++[x])=aZ st++[.int .i64 x.kind,.int .i64 x.num,.str x.name,x.cp]:=by
    simp[aZ,Tm.cells]
   have hft2:List.take (st.length*4) (aZ st)=aZ st:=List.take_of_length_le (by omega);have hfr2:AV.ai (aZ st++[.int .i64 x.kind,.int .i64 x.num,.str x.name,x.cp])=0:=by rw[←hft];exact bP _
   rw[htk,List.reverse_append];simp only[List.length_append,List.length_cons,List.length_nil,Nat.zero_add,List.append_assoc,hft] at ih;have e1:st.length+1+i=st.length+(i+1):=by omega
   rw[e1] at ih;have e2:((i+1:Nat):Int) - 1=(i:Int):=by omega
   rw[e2,aC];rw[hX] at ih ⊢;simp[dt,cK,h5,hx,hxe,hxc,hxr,hfr,hfl,w1,t1,b1,b2,hr,hft2,hfr2,hm1,hm2,aS];exact ih
theorem yD {R:List AV} {st:List Tm} {lb:Nat} (hR:R.length=lb*4) (ht:R.take (st.length*4)=aZ st) (hlb:st.length+1≤lb) (x:Tm):
 (putAt R (st.length*4) x.cells).length=lb*4∧(putAt R (st.length*4) x.cells).take ((st++[x]).length*4)=aZ (st++[x]):=by
 have hc:x.cells.length=4:=rfl;have h1:st.length*4+x.cells.length≤R.length:=by omega
 refine⟨?_,?_⟩
 ·rw[ma x.cells R _ h1];simp only[List.length_append,List.length_take,List.length_drop];omega
 ·have:=kD x.cells h1;rw[List.length_append,show (st.length+[x].length)*4=st.length*4+x.cells.length by simp[hc];omega,this,ht];simp[aZ]
theorem pW (C:Nat→List AV→aa→Option (AV×aa)) (n g:Nat) (caps:List AV) (hc:AV.ai caps≤2) (X:Tm) (os:List bf) (md:Nat) (hmd:∀k,2≤k→min md k=md) (w:Nat) (hw:min w 5=w) (lb:Nat):∀(i m:Nat) (st:List Tm) (R:List AV),i≤X.args.length→i < m→st.length+i≤lb→lb < 1000000000000→R.length=lb*4→R.take (st.length*4)=aZ st→AV.ai R=0→
 ∃R',R'.length=lb*4∧R'.take ((st.length+i)*4)=aZ (st++(X.args.take i).reverse)∧AV.ai R'=0∧
 ju 5 w (cM (aT C n dt) cK 5 m (kv (.fn g caps) (.vec 3 0 st.length 4 lb) (.ptr 4 0) (.int .i64 ((i:Int) - 1))) ⟨5,.row X.cells::.row R::os,5,md⟩)=
  some (.exit 2,FM 44 [(1,.fn g caps),(5,.vec 3 0 (st.length+i) 4 lb)],⟨5,.row X.cells::.row R'::os,w,md⟩)
 | 0,m+1,st,R,_,_,_,_,hR,ht,hrR=>by
   have h1:(0≤(-1:Int))=False:=by simp
   have hr:AV.ai caps≤5:=by omega
   have hm1:min md 3=md:=hmd 3 (by omega);have hm2:min md 5=md:=hmd 5 (by omega);refine⟨R,hR,by simpa using ht,hrR,?_⟩;simp[aC,dt,hr,hw]
 | i+1,m+1,st,R,hi,hm,hlb,hl,hR,ht,hrR=>by
   have hr:AV.ai caps≤5:=by omega
   have hm1:min md 3=md:=hmd 3 (by omega);have hm2:min md 5=md:=hmd 5 (by omega);obtain⟨x,hx⟩:∃x,X.args[i]? =some x:=⟨X.args[i]'(by omega),by simp⟩
   obtain⟨p1,p2⟩:=yD hR ht (by omega) x;have p3:=iQ hrR x (st.length*4) (by omega);obtain⟨R',r1,r2,r3,ih⟩:=pW C n g caps hc X os md hmd w hw lb i m (st++[x]) (putAt R (st.length*4) x.cells) (by omega) (by omega) (by simp;omega) hl p1 p2 p3;have e1:(st++[x]).length+i=st.length+(i+1):=by simp;omega
   have htk:X.args.take (i+1)=X.args.take i++[x]:=by
    rw[List.take_add_one,hx];rfl
   refine⟨R',r1,?_,r3,?_⟩
   ·rw[htk,List.reverse_append,←e1,r2];simp[List.append_assoc]
   have ha:X.cp=.sl (X.args.map Tm.enc):=by
    cases X with
    | nl k n s=>simp[Tm.args] at hx
    | mk k n s us=>rfl
   have hX:X.cells=[.int .i64 X.kind,.int .i64 X.num,.str X.name,.sl (X.args.map Tm.enc)]:=by rw[←ha];rfl
   have h5:AV.ai (X.args.map Tm.enc)=0:=bN _;have hxe:=Tm.cw x;have hxc:=Tm.cf x;have hxr:=aN x;have w1:IntKind.i64.wrap ((i:Int) - 1)=(i:Int) - 1:=wrap_i64 (by omega) (by omega);have t1:(0≤(i:Int))=True:=eq_true (by omega);have b1:st.length*4≤R.length:=by omega
   have b2:st.length+1≤lb:=by omega
   have b3:(st.length+1)*4≤R.length:=by omega
   have hbs:putAt [.int .i64 0,.int .i64 0,.str [],.aw] 0 [.int .i64 x.kind,.int .i64 x.num,.str x.name,x.cp]=[.int .i64 x.kind,.int .i64 x.num,.str x.name,x.cp]:=rfl;have hl1:(st++[x]).length=st.length+1:=by simp
   rw[hl1,show st.length+1+i=st.length+(i+1) by omega] at ih;have e2:((i+1:Nat):Int) - 1=(i:Int):=by omega
   rw[e2,aC];rw[hX,hxc] at ih;rw[hX];simp[dt,cK,h5,hx,hxe,hxc,hxr,w1,t1,b1,b2,b3,hr,hm1,hm2,hrR,hbs,aS,-fW];exact ih
theorem pN (C:Nat→List AV→aa→Option (AV×aa)) (n g:Nat) (caps:List AV) (hc:AV.ai caps≤2) (X:Tm) (os:List bf) (md:Nat) (hmd:∀k,2≤k→min md k=md) (w:Nat) (hw:min w 5=w) (lb:Nat):∀(i m:Nat) (st:List Tm) (R:List AV),i≤X.args.length→i < m→st.length≤lb→lb < st.length+i→st.length+i < 1000000000000→R.length=lb*4→R.take (st.length*4)=aZ st→AV.ai R=0→
 ju 5 w (cM (aT C n dt) cK 5 m (kv (.fn g caps) (.vec 3 0 st.length 4 lb) (.ptr 4 0) (.int .i64 ((i:Int) - 1))) ⟨5,.row X.cells::.row R::os,5,md⟩)=
  some (.exit 2,FM 44 [(1,.fn g caps),(5,.vec 5 0 (st.length+i) 4 (st.length+i))],⟨6,.row (aZ (st++(X.args.take i).reverse))::.row X.cells::.dead::os,w,md⟩)
 | 0,m,st,R,_,_,h1,h2,_,_,_,_=>by omega
 | i+1,0,st,R,_,h,_,_,_,_,_,_=>by omega
 | i+1,m+1,st,R,hi,hm,h1,h2,hl,hR,ht,hrR=>by
   have hr:AV.ai caps≤5:=by omega
   have hm1:min md 3=md:=hmd 3 (by omega);have hm2:min md 5=md:=hmd 5 (by omega);obtain⟨x,hx⟩:∃x,X.args[i]? =some x:=⟨X.args[i]'(by omega),by simp⟩
   have htk:X.args.take (i+1)=X.args.take i++[x]:=by
    rw[List.take_add_one,hx];rfl
   have ha:X.cp=.sl (X.args.map Tm.enc):=by
    cases X with
    | nl k n s=>simp[Tm.args] at hx
    | mk k n s us=>rfl
   have hX:X.cells=[.int .i64 X.kind,.int .i64 X.num,.str X.name,.sl (X.args.map Tm.enc)]:=by rw[←ha];rfl
   have h5:AV.ai (X.args.map Tm.enc)=0:=bN _;have hxe:=Tm.cw x;have hxc:=Tm.cf x;have hxr:=aN x;have w1:IntKind.i64.wrap ((i:Int) - 1)=(i:Int) - 1:=wrap_i64 (by omega) (by omega);have t1:(0≤(i:Int))=True:=eq_true (by omega);have b1:st.length*4≤R.length:=by omega
   have hbs:putAt [.int .i64 0,.int .i64 0,.str [],.aw] 0 [.int .i64 x.kind,.int .i64 x.num,.str x.name,x.cp]=[.int .i64 x.kind,.int .i64 x.num,.str x.name,x.cp]:=rfl;have hl1:(st++[x]).length=st.length+1:=by simp
   have e2:((i+1:Nat):Int) - 1=(i:Int):=by omega
   by_cases hfit:st.length+1≤lb
   ·obtain⟨p1,p2⟩:=yD hR ht (by omega) x;have p3:=iQ hrR x (st.length*4) (by omega);have ih:=pN C n g caps hc X os md hmd w hw lb i m (st++[x]) (putAt R (st.length*4) x.cells) (by omega) (by omega) (by omega) (by omega) (by omega) p1 p2 p3;have b3:(st.length+1)*4≤R.length:=by omega
    rw[hl1,show st.length+1+i=st.length+(i+1) by omega] at ih;rw[e2,aC,htk,List.reverse_append];rw[hX,hxc] at ih;rw[hX];simp only[List.append_assoc] at ih;simp[dt,cK,h5,hx,hxe,hxc,hxr,w1,t1,b1,hfit,b3,hr,hm1,hm2,hrR,hbs,aS,-fW];exact ih
   ·have hlb:lb=st.length:=by omega
    have ih:=rJ C n g caps hc X os md hmd w hw i m (st++[x]) (by omega) (by omega) (by omega);have c1:(st.length+1)*56≤140737488355328:=by omega
    have c2:st.length+1 < 9223372036854775808:=by omega
    have hft:aZ (st++[x])=aZ st++[.int .i64 x.kind,.int .i64 x.num,.str x.name,x.cp]:=by
     simp[aZ,Tm.cells]
    have hfr2:AV.ai (aZ st++[.int .i64 x.kind,.int .i64 x.num,.str x.name,x.cp])=0:=by rw[←hft];exact bP _
    rw[hl1,show st.length+1+i=st.length+(i+1) by omega,hft] at ih;rw[e2,aC,htk,List.reverse_append];rw[hX] at ih ⊢;simp only[List.append_assoc] at ih;simp[dt,cK,h5,hx,hxe,hxc,hxr,w1,t1,b1,hfit,c1,c2,hr,hm1,hm2,hrR,ht,hfr2,aS];exact ih
theorem rV (C:Nat→List AV→aa→Option (AV×aa)) (n g:Nat) (caps:List AV) (hc:AV.ai caps≤2) (X:Tm) (os:List bf) (md:Nat) (hmd:∀k,2≤k→min md k=md) (w:Nat) (hw:min w 6=w):∀(i m:Nat) (st:List Tm),i≤X.args.length→i < m→st.length+i < 1000000000000→
 ju 6 w (cM (aT C n dt) cK 6 m (kv (.fn g caps) (.vec 6 0 st.length 4 st.length) (.ptr 5 0) (.int .i64 ((i:Int) - 1))) ⟨7,.row (aZ st)::.row X.cells::.dead::os,6,md⟩)=
  some (.exit 2,FM 44 [(1,.fn g caps),(5,.vec 6 0 (st.length+i) 4 (st.length+i))],⟨7,.row (aZ (st++(X.args.take i).reverse))::.row X.cells::.dead::os,w,md⟩)
 | 0,m+1,st,_,_,_=>by
   have h1:(0≤(-1:Int))=False:=by simp
   have hr:AV.ai caps≤6:=by omega
   have hm1:min md 4=md:=hmd 4 (by omega);have hm2:min md 6=md:=hmd 6 (by omega);have hfr:=bP st;simp[aC,dt,hr,hfr,hw]
 | i+1,m+1,st,hi,hm,hl=>by
   have hr:AV.ai caps≤6:=by omega
   have hm1:min md 4=md:=hmd 4 (by omega);have hm2:min md 6=md:=hmd 6 (by omega);obtain⟨x,hx⟩:∃x,X.args[i]? =some x:=⟨X.args[i]'(by omega),by simp⟩
   have ih:=rV C n g caps hc X os md hmd w hw i m (st++[x]) (by omega) (by omega) (by simp;omega)
   have ha:X.cp=.sl (X.args.map Tm.enc):=by
    cases X with
    | nl k n s=>simp[Tm.args] at hx
    | mk k n s us=>rfl
   have hX:X.cells=[.int .i64 X.kind,.int .i64 X.num,.str X.name,.sl (X.args.map Tm.enc)]:=by rw[←ha];rfl
   have h5:AV.ai (X.args.map Tm.enc)=0:=bN _;have hxe:=Tm.cw x;have hxc:=Tm.cf x;have hxr:=aN x;have hfr:=bP st;have hfl:=dD st;have w1:IntKind.i64.wrap ((i:Int) - 1)=(i:Int) - 1:=wrap_i64 (by omega) (by omega);have t1:(0≤(i:Int))=True:=eq_true (by omega);have b1:(st.length+1)*56≤140737488355328:=by omega
   have b2:st.length+1 < 9223372036854775808:=by omega
   have htk:X.args.take (i+1)=X.args.take i++[x]:=by
    rw[List.take_add_one,hx];rfl
   have hft:aZ (st++[x])=aZ st++[.int .i64 x.kind,.int .i64 x.num,.str x.name,x.cp]:=by
    simp[aZ,Tm.cells]
   have hft2:List.take (st.length*4) (aZ st)=aZ st:=List.take_of_length_le (by omega);have hfr2:AV.ai (aZ st++[.int .i64 x.kind,.int .i64 x.num,.str x.name,x.cp])=0:=by rw[←hft];exact bP _
   rw[htk,List.reverse_append];simp only[List.length_append,List.length_cons,List.length_nil,Nat.zero_add,List.append_assoc,hft] at ih;have e1:st.length+1+i=st.length+(i+1):=by omega
   rw[e1] at ih;have e2:((i+1:Nat):Int) - 1=(i:Int):=by omega
   rw[e2,aC];rw[hX] at ih ⊢;simp[dt,cK,h5,hx,hxe,hxc,hxr,hfr,hfl,w1,t1,b1,b2,hr,hft2,hfr2,hm1,hm2,aS];exact ih
theorem yM {R:List AV} {st:List Tm} {lb:Nat} (hR:R.length=lb*4) (ht:R.take (st.length*4)=aZ st) (hlb:st.length+1≤lb) (x:Tm):
 (putAt R (st.length*4) x.cells).length=lb*4∧(putAt R (st.length*4) x.cells).take ((st++[x]).length*4)=aZ (st++[x]):=by
 have hc:x.cells.length=4:=rfl;have h1:st.length*4+x.cells.length≤R.length:=by omega
 refine⟨?_,?_⟩
 ·rw[ma x.cells R _ h1];simp only[List.length_append,List.length_take,List.length_drop];omega
 ·have:=kD x.cells h1;rw[List.length_append,show (st.length+[x].length)*4=st.length*4+x.cells.length by simp[hc];omega,this,ht];simp[aZ]
theorem pM (C:Nat→List AV→aa→Option (AV×aa)) (n g:Nat) (caps:List AV) (hc:AV.ai caps≤2) (X:Tm) (os:List bf) (md:Nat) (hmd:∀k,2≤k→min md k=md) (w:Nat) (hw:min w 6=w) (lb:Nat):∀(i m:Nat) (st:List Tm) (R:List AV),i≤X.args.length→i < m→st.length+i≤lb→lb < 1000000000000→R.length=lb*4→R.take (st.length*4)=aZ st→AV.ai R=0→
 ∃R',R'.length=lb*4∧R'.take ((st.length+i)*4)=aZ (st++(X.args.take i).reverse)∧AV.ai R'=0∧
 ju 6 w (cM (aT C n dt) cK 6 m (kv (.fn g caps) (.vec 4 0 st.length 4 lb) (.ptr 5 0) (.int .i64 ((i:Int) - 1))) ⟨6,.row X.cells::.row R::os,6,md⟩)=
  some (.exit 2,FM 44 [(1,.fn g caps),(5,.vec 4 0 (st.length+i) 4 lb)],⟨6,.row X.cells::.row R'::os,w,md⟩)
 | 0,m+1,st,R,_,_,_,_,hR,ht,hrR=>by
   have h1:(0≤(-1:Int))=False:=by simp
   have hr:AV.ai caps≤6:=by omega
   have hm1:min md 4=md:=hmd 4 (by omega);have hm2:min md 6=md:=hmd 6 (by omega);refine⟨R,hR,by simpa using ht,hrR,?_⟩;simp[aC,dt,hr,hw]
 | i+1,m+1,st,R,hi,hm,hlb,hl,hR,ht,hrR=>by
   have hr:AV.ai caps≤6:=by omega
   have hm1:min md 4=md:=hmd 4 (by omega);have hm2:min md 6=md:=hmd 6 (by omega);obtain⟨x,hx⟩:∃x,X.args[i]? =some x:=⟨X.args[i]'(by omega),by simp⟩
   obtain⟨p1,p2⟩:=yM hR ht (by omega) x;have p3:=iQ hrR x (st.length*4) (by omega);obtain⟨R',r1,r2,r3,ih⟩:=pM C n g caps hc X os md hmd w hw lb i m (st++[x]) (putAt R (st.length*4) x.cells) (by omega) (by omega) (by simp;omega) hl p1 p2 p3;have e1:(st++[x]).length+i=st.length+(i+1):=by simp;omega
   have htk:X.args.take (i+1)=X.args.take i++[x]:=by
    rw[List.take_add_one,hx];rfl
   refine⟨R',r1,?_,r3,?_⟩
   ·rw[htk,List.reverse_append,←e1,r2];simp[List.append_assoc]
   have ha:X.cp=.sl (X.args.map Tm.enc):=by
    cases X with
    | nl k n s=>simp[Tm.args] at hx
    | mk k n s us=>rfl
   have hX:X.cells=[.int .i64 X.kind,.int .i64 X.num,.str X.name,.sl (X.args.map Tm.enc)]:=by rw[←ha];rfl
   have h5:AV.ai (X.args.map Tm.enc)=0:=bN _;have hxe:=Tm.cw x;have hxc:=Tm.cf x;have hxr:=aN x;have w1:IntKind.i64.wrap ((i:Int) - 1)=(i:Int) - 1:=wrap_i64 (by omega) (by omega);have t1:(0≤(i:Int))=True:=eq_true (by omega);have b1:st.length*4≤R.length:=by omega
   have b2:st.length+1≤lb:=by omega
   have b3:(st.length+1)*4≤R.length:=by omega
   have hbs:putAt [.int .i64 0,.int .i64 0,.str [],.aw] 0 [.int .i64 x.kind,.int .i64 x.num,.str x.name,x.cp]=[.int .i64 x.kind,.int .i64 x.num,.str x.name,x.cp]:=rfl;have hl1:(st++[x]).length=st.length+1:=by simp
   rw[hl1,show st.length+1+i=st.length+(i+1) by omega] at ih;have e2:((i+1:Nat):Int) - 1=(i:Int):=by omega
   rw[e2,aC];rw[hX,hxc] at ih;rw[hX];simp[dt,cK,h5,hx,hxe,hxc,hxr,w1,t1,b1,b2,b3,hr,hm1,hm2,hrR,hbs,aS,-fW];exact ih
theorem pO (C:Nat→List AV→aa→Option (AV×aa)) (n g:Nat) (caps:List AV) (hc:AV.ai caps≤2) (X:Tm) (os:List bf) (md:Nat) (hmd:∀k,2≤k→min md k=md) (w:Nat) (hw:min w 6=w) (lb:Nat):∀(i m:Nat) (st:List Tm) (R:List AV),i≤X.args.length→i < m→st.length≤lb→lb < st.length+i→st.length+i < 1000000000000→R.length=lb*4→R.take (st.length*4)=aZ st→AV.ai R=0→
 ju 6 w (cM (aT C n dt) cK 6 m (kv (.fn g caps) (.vec 4 0 st.length 4 lb) (.ptr 5 0) (.int .i64 ((i:Int) - 1))) ⟨6,.row X.cells::.row R::os,6,md⟩)=
  some (.exit 2,FM 44 [(1,.fn g caps),(5,.vec 6 0 (st.length+i) 4 (st.length+i))],⟨7,.row (aZ (st++(X.args.take i).reverse))::.row X.cells::.dead::os,w,md⟩)
 | 0,m,st,R,_,_,h1,h2,_,_,_,_=>by omega
 | i+1,0,st,R,_,h,_,_,_,_,_,_=>by omega
 | i+1,m+1,st,R,hi,hm,h1,h2,hl,hR,ht,hrR=>by
   have hr:AV.ai caps≤6:=by omega
   have hm1:min md 4=md:=hmd 4 (by omega);have hm2:min md 6=md:=hmd 6 (by omega);obtain⟨x,hx⟩:∃x,X.args[i]? =some x:=⟨X.args[i]'(by omega),by simp⟩
   have htk:X.args.take (i+1)=X.args.take i++[x]:=by
    rw[List.take_add_one,hx];rfl
   have ha:X.cp=.sl (X.args.map Tm.enc):=by
    cases X with
    | nl k n s=>simp[Tm.args] at hx
    | mk k n s us=>rfl
   have hX:X.cells=[.int .i64 X.kind,.int .i64 X.num,.str X.name,.sl (X.args.map Tm.enc)]:=by rw[←ha];rfl
   have h5:AV.ai (X.args.map Tm.enc)=0:=bN _;have hxe:=Tm.cw x;have hxc:=Tm.cf x;have hxr:=aN x;have w1:IntKind.i64.wrap ((i:Int) - 1)=(i:Int) - 1:=wrap_i64 (by omega) (by omega);have t1:(0≤(i:Int))=True:=eq_true (by omega);have b1:st.length*4≤R.length:=by omega
   have hbs:putAt [.int .i64 0,.int .i64 0,.str [],.aw] 0 [.int .i64 x.kind,.int .i64 x.num,.str x.name,x.cp]=[.int .i64 x.kind,.int .i64 x.num,.str x.name,x.cp]:=rfl;have hl1:(st++[x]).length=st.length+1:=by simp
   have e2:((i+1:Nat):Int) - 1=(i:Int):=by omega
   by_cases hfit:st.length+1≤lb
   ·obtain⟨p1,p2⟩:=yM hR ht (by omega) x;have p3:=iQ hrR x (st.length*4) (by omega);have ih:=pO C n g caps hc X os md hmd w hw lb i m (st++[x]) (putAt R (st.length*4) x.cells) (by omega) (by omega) (by omega) (by omega) (by omega) p1 p2 p3;have b3:(st.length+1)*4≤R.length:=by omega
    rw[hl1,show st.length+1+i=st.length+(i+1) by omega] at ih;rw[e2,aC,htk,List.reverse_append];rw[hX,hxc] at ih;rw[hX];simp only[List.append_assoc] at ih;simp[dt,cK,h5,hx,hxe,hxc,hxr,w1,t1,b1,hfit,b3,hr,hm1,hm2,hrR,hbs,aS,-fW];exact ih
   ·have hlb:lb=st.length:=by omega
    have ih:=rV C n g caps hc X os md hmd w hw i m (st++[x]) (by omega) (by omega) (by omega);have c1:(st.length+1)*56≤140737488355328:=by omega
    have c2:st.length+1 < 9223372036854775808:=by omega
    have hft:aZ (st++[x])=aZ st++[.int .i64 x.kind,.int .i64 x.num,.str x.name,x.cp]:=by
     simp[aZ,Tm.cells]
    have hfr2:AV.ai (aZ st++[.int .i64 x.kind,.int .i64 x.num,.str x.name,x.cp])=0:=by rw[←hft];exact bP _
    rw[hl1,show st.length+1+i=st.length+(i+1) by omega,hft] at ih;rw[e2,aC,htk,List.reverse_append];rw[hX] at ih ⊢;simp only[List.append_assoc] at ih;simp[dt,cK,h5,hx,hxe,hxc,hxr,w1,t1,b1,hfit,c1,c2,hr,hm1,hm2,hrR,ht,hfr2,aS];exact ih
theorem r9 (C:Nat→List AV→aa→Option (AV×aa)) (n g:Nat) (caps:List AV) (hc:AV.ai caps≤1) (X:Tm) (os:List bf) (md:Nat) (hmd:∀k,1≤k→min md k=md) (w:Nat) (hw:min w 4=w):∀(i m:Nat) (st:List Tm),i≤X.args.length→i < m→st.length+i < 1000000000000→
 ju 4 w (cM (aT C n dt) cK 4 m (kv (.fn g caps) (.vec 4 0 st.length 4 st.length) (.ptr 3 0) (.int .i64 ((i:Int) - 1))) ⟨5,.row (aZ st)::.row X.cells::.dead::os,4,md⟩)=
  some (.exit 2,FM 44 [(1,.fn g caps),(5,.vec 4 0 (st.length+i) 4 (st.length+i))],⟨5,.row (aZ (st++(X.args.take i).reverse))::.row X.cells::.dead::os,w,md⟩)
 | 0,m+1,st,_,_,_=>by
   have h1:(0≤(-1:Int))=False:=by simp
   have hr:AV.ai caps≤4:=by omega
   have hm1:min md 2=md:=hmd 2 (by omega);have hm2:min md 4=md:=hmd 4 (by omega);have hfr:=bP st;simp[aC,dt,hr,hfr,hw]
 | i+1,m+1,st,hi,hm,hl=>by
   have hr:AV.ai caps≤4:=by omega
   have hm1:min md 2=md:=hmd 2 (by omega);have hm2:min md 4=md:=hmd 4 (by omega);obtain⟨x,hx⟩:∃x,X.args[i]? =some x:=⟨X.args[i]'(by omega),by simp⟩
   have ih:=r9 C n g caps hc X os md hmd w hw i m (st++[x]) (by omega) (by omega) (by simp;omega)
   have ha:X.cp=.sl (X.args.map Tm.enc):=by
    cases X with
    | nl k n s=>simp[Tm.args] at hx
    | mk k n s us=>rfl
   have hX:X.cells=[.int .i64 X.kind,.int .i64 X.num,.str X.name,.sl (X.args.map Tm.enc)]:=by rw[←ha];rfl
   have h5:AV.ai (X.args.map Tm.enc)=0:=bN _;have hxe:=Tm.cw x;have hxc:=Tm.cf x;have hxr:=aN x;have hfr:=bP st;have hfl:=dD st;have w1:IntKind.i64.wrap ((i:Int) - 1)=(i:Int) - 1:=wrap_i64 (by omega) (by omega);have t1:(0≤(i:Int))=True:=eq_true (by omega);have b1:(st.length+1)*56≤140737488355328:=by omega
   have b2:st.length+1 < 9223372036854775808:=by omega
   have htk:X.args.take (i+1)=X.args.take i++[x]:=by
    rw[List.take_add_one,hx];rfl
   have hft:aZ (st++[x])=aZ st++[.int .i64 x.kind,.int .i64 x.num,.str x.name,x.cp]:=by
    simp[aZ,Tm.cells]
   have hft2:List.take (st.length*4) (aZ st)=aZ st:=List.take_of_length_le (by omega);have hfr2:AV.ai (aZ st++[.int .i64 x.kind,.int .i64 x.num,.str x.name,x.cp])=0:=by rw[←hft];exact bP _
   rw[htk,List.reverse_append];simp only[List.length_append,List.length_cons,List.length_nil,Nat.zero_add,List.append_assoc,hft] at ih;have e1:st.length+1+i=st.length+(i+1):=by omega
   rw[e1] at ih;have e2:((i+1:Nat):Int) - 1=(i:Int):=by omega
   rw[e2,aC];rw[hX] at ih ⊢;simp[dt,cK,h5,hx,hxe,hxc,hxr,hfr,hfl,w1,t1,b1,b2,hr,hft2,hfr2,hm1,hm2,aS];exact ih
theorem xU {R:List AV} {st:List Tm} {lb:Nat} (hR:R.length=lb*4) (ht:R.take (st.length*4)=aZ st) (hlb:st.length+1≤lb) (x:Tm):
 (putAt R (st.length*4) x.cells).length=lb*4∧(putAt R (st.length*4) x.cells).take ((st++[x]).length*4)=aZ (st++[x]):=by
 have hc:x.cells.length=4:=rfl;have h1:st.length*4+x.cells.length≤R.length:=by omega
 refine⟨?_,?_⟩
 ·rw[ma x.cells R _ h1];simp only[List.length_append,List.length_take,List.length_drop];omega
 ·have:=kD x.cells h1;rw[List.length_append,show (st.length+[x].length)*4=st.length*4+x.cells.length by simp[hc];omega,this,ht];simp[aZ]
theorem pY (C:Nat→List AV→aa→Option (AV×aa)) (n g:Nat) (caps:List AV) (hc:AV.ai caps≤1) (X:Tm) (os:List bf) (md:Nat) (hmd:∀k,1≤k→min md k=md) (w:Nat) (hw:min w 4=w) (lb:Nat):∀(i m:Nat) (st:List Tm) (R:List AV),i≤X.args.length→i < m→st.length+i≤lb→lb < 1000000000000→R.length=lb*4→R.take (st.length*4)=aZ st→AV.ai R=0→
 ∃R',R'.length=lb*4∧R'.take ((st.length+i)*4)=aZ (st++(X.args.take i).reverse)∧AV.ai R'=0∧
 ju 4 w (cM (aT C n dt) cK 4 m (kv (.fn g caps) (.vec 2 0 st.length 4 lb) (.ptr 3 0) (.int .i64 ((i:Int) - 1))) ⟨4,.row X.cells::.row R::os,4,md⟩)=
  some (.exit 2,FM 44 [(1,.fn g caps),(5,.vec 2 0 (st.length+i) 4 lb)],⟨4,.row X.cells::.row R'::os,w,md⟩)
 | 0,m+1,st,R,_,_,_,_,hR,ht,hrR=>by
   have h1:(0≤(-1:Int))=False:=by simp
   have hr:AV.ai caps≤4:=by omega
   have hm1:min md 2=md:=hmd 2 (by omega);have hm2:min md 4=md:=hmd 4 (by omega);refine⟨R,hR,by simpa using ht,hrR,?_⟩;simp[aC,dt,hr,hw]
 | i+1,m+1,st,R,hi,hm,hlb,hl,hR,ht,hrR=>by
   have hr:AV.ai caps≤4:=by omega
   have hm1:min md 2=md:=hmd 2 (by omega);have hm2:min md 4=md:=hmd 4 (by omega);obtain⟨x,hx⟩:∃x,X.args[i]? =some x:=⟨X.args[i]'(by omega),by simp⟩
   obtain⟨p1,p2⟩:=xU hR ht (by omega) x;have p3:=iQ hrR x (st.length*4) (by omega);obtain⟨R',r1,r2,r3,ih⟩:=pY C n g caps hc X os md hmd w hw lb i m (st++[x]) (putAt R (st.length*4) x.cells) (by omega) (by omega) (by simp;omega) hl p1 p2 p3;have e1:(st++[x]).length+i=st.length+(i+1):=by simp;omega
   have htk:X.args.take (i+1)=X.args.take i++[x]:=by
    rw[List.take_add_one,hx];rfl
   refine⟨R',r1,?_,r3,?_⟩
   ·rw[htk,List.reverse_append,←e1,r2];simp[List.append_assoc]
   have ha:X.cp=.sl (X.args.map Tm.enc):=by
    cases X with
    | nl k n s=>simp[Tm.args] at hx
    | mk k n s us=>rfl
   have hX:X.cells=[.int .i64 X.kind,.int .i64 X.num,.str X.name,.sl (X.args.map Tm.enc)]:=by rw[←ha];rfl
   have h5:AV.ai (X.args.map Tm.enc)=0:=bN _;have hxe:=Tm.cw x;have hxc:=Tm.cf x;have hxr:=aN x;have w1:IntKind.i64.wrap ((i:Int) - 1)=(i:Int) - 1:=wrap_i64 (by omega) (by omega);have t1:(0≤(i:Int))=True:=eq_true (by omega);have b1:st.length*4≤R.length:=by omega
   have b2:st.length+1≤lb:=by omega
   have b3:(st.length+1)*4≤R.length:=by omega
   have hbs:putAt [.int .i64 0,.int .i64 0,.str [],.aw] 0 [.int .i64 x.kind,.int .i64 x.num,.str x.name,x.cp]=[.int .i64 x.kind,.int .i64 x.num,.str x.name,x.cp]:=rfl;have hl1:(st++[x]).length=st.length+1:=by simp
   rw[hl1,show st.length+1+i=st.length+(i+1) by omega] at ih;have e2:((i+1:Nat):Int) - 1=(i:Int):=by omega
   rw[e2,aC];rw[hX,hxc] at ih;rw[hX];simp[dt,cK,h5,hx,hxe,hxc,hxr,w1,t1,b1,b2,b3,hr,hm1,hm2,hrR,hbs,aS,-fW];exact ih
theorem pT (C:Nat→List AV→aa→Option (AV×aa)) (n g:Nat) (caps:List AV) (hc:AV.ai caps≤1) (X:Tm) (os:List bf) (md:Nat) (hmd:∀k,1≤k→min md k=md) (w:Nat) (hw:min w 4=w) (lb:Nat):∀(i m:Nat) (st:List Tm) (R:List AV),i≤X.args.length→i < m→st.length≤lb→lb < st.length+i→st.length+i < 1000000000000→R.length=lb*4→R.take (st.length*4)=aZ st→AV.ai R=0→
 ju 4 w (cM (aT C n dt) cK 4 m (kv (.fn g caps) (.vec 2 0 st.length 4 lb) (.ptr 3 0) (.int .i64 ((i:Int) - 1))) ⟨4,.row X.cells::.row R::os,4,md⟩)=
  some (.exit 2,FM 44 [(1,.fn g caps),(5,.vec 4 0 (st.length+i) 4 (st.length+i))],⟨5,.row (aZ (st++(X.args.take i).reverse))::.row X.cells::.dead::os,w,md⟩)
 | 0,m,st,R,_,_,h1,h2,_,_,_,_=>by omega
 | i+1,0,st,R,_,h,_,_,_,_,_,_=>by omega
 | i+1,m+1,st,R,hi,hm,h1,h2,hl,hR,ht,hrR=>by
   have hr:AV.ai caps≤4:=by omega
   have hm1:min md 2=md:=hmd 2 (by omega);have hm2:min md 4=md:=hmd 4 (by omega);obtain⟨x,hx⟩:∃x,X.args[i]? =some x:=⟨X.args[i]'(by omega),by simp⟩
   have htk:X.args.take (i+1)=X.args.take i++[x]:=by
    rw[List.take_add_one,hx];rfl
   have ha:X.cp=.sl (X.args.map Tm.enc):=by
    cases X with
    | nl k n s=>simp[Tm.args] at hx
    | mk k n s us=>rfl
   have hX:X.cells=[.int .i64 X.kind,.int .i64 X.num,.str X.name,.sl (X.args.map Tm.enc)]:=by rw[←ha];rfl
   have h5:AV.ai (X.args.map Tm.enc)=0:=bN _;have hxe:=Tm.cw x;have hxc:=Tm.cf x;have hxr:=aN x;have w1:IntKind.i64.wrap ((i:Int) - 1)=(i:Int) - 1:=wrap_i64 (by omega) (by omega);have t1:(0≤(i:Int))=True:=eq_true (by omega);have b1:st.length*4≤R.length:=by omega
   have hbs:putAt [.int .i64 0,.int .i64 0,.str [],.aw] 0 [.int .i64 x.kind,.int .i64 x.num,.str x.name,x.cp]=[.int .i64 x.kind,.int .i64 x.num,.str x.name,x.cp]:=rfl;have hl1:(st++[x]).length=st.length+1:=by simp
   have e2:((i+1:Nat):Int) - 1=(i:Int):=by omega
   by_cases hfit:st.length+1≤lb
   ·obtain⟨p1,p2⟩:=xU hR ht (by omega) x;have p3:=iQ hrR x (st.length*4) (by omega);have ih:=pT C n g caps hc X os md hmd w hw lb i m (st++[x]) (putAt R (st.length*4) x.cells) (by omega) (by omega) (by omega) (by omega) (by omega) p1 p2 p3;have b3:(st.length+1)*4≤R.length:=by omega
    rw[hl1,show st.length+1+i=st.length+(i+1) by omega] at ih;rw[e2,aC,htk,List.reverse_append];rw[hX,hxc] at ih;rw[hX];simp only[List.append_assoc] at ih;simp[dt,cK,h5,hx,hxe,hxc,hxr,w1,t1,b1,hfit,b3,hr,hm1,hm2,hrR,hbs,aS,-fW];exact ih
   ·have hlb:lb=st.length:=by omega
    have ih:=r9 C n g caps hc X os md hmd w hw i m (st++[x]) (by omega) (by omega) (by omega);have c1:(st.length+1)*56≤140737488355328:=by omega
    have c2:st.length+1 < 9223372036854775808:=by omega
    have hft:aZ (st++[x])=aZ st++[.int .i64 x.kind,.int .i64 x.num,.str x.name,x.cp]:=by
     simp[aZ,Tm.cells]
    have hfr2:AV.ai (aZ st++[.int .i64 x.kind,.int .i64 x.num,.str x.name,x.cp])=0:=by rw[←hft];exact bP _
    rw[hl1,show st.length+1+i=st.length+(i+1) by omega,hft] at ih;rw[e2,aC,htk,List.reverse_append];rw[hX] at ih ⊢;simp only[List.append_assoc] at ih;simp[dt,cK,h5,hx,hxe,hxc,hxr,w1,t1,b1,hfit,c1,c2,hr,hm1,hm2,hrR,ht,hfr2,aS];exact ih
theorem rN (C:Nat→List AV→aa→Option (AV×aa)) (n g:Nat) (caps:List AV) (hc:AV.ai caps≤1) (X:Tm) (os:List bf) (md:Nat) (hmd:∀k,1≤k→min md k=md) (w:Nat) (hw:min w 5=w):∀(i m:Nat) (st:List Tm),i≤X.args.length→i < m→st.length+i < 1000000000000→
 ju 5 w (cM (aT C n dt) cK 5 m (kv (.fn g caps) (.vec 5 0 st.length 4 st.length) (.ptr 4 0) (.int .i64 ((i:Int) - 1))) ⟨6,.row (aZ st)::.row X.cells::.dead::os,5,md⟩)=
  some (.exit 2,FM 44 [(1,.fn g caps),(5,.vec 5 0 (st.length+i) 4 (st.length+i))],⟨6,.row (aZ (st++(X.args.take i).reverse))::.row X.cells::.dead::os,w,md⟩)
 | 0,m+1,st,_,_,_=>by
   have h1:(0≤(-1:Int))=False:=by simp
   have hr:AV.ai caps≤5:=by omega
   have hm1:min md 3=md:=hmd 3 (by omega);have hm2:min md 5=md:=hmd 5 (by omega);have hfr:=bP st;simp[aC,dt,hr,hfr,hw]
 | i+1,m+1,st,hi,hm,hl=>by
   have hr:AV.ai caps≤5:=by omega
   have hm1:min md 3=md:=hmd 3 (by omega);have hm2:min md 5=md:=hmd 5 (by omega);obtain⟨x,hx⟩:∃x,X.args[i]? =some x:=⟨X.args[i]'(by omega),by simp⟩
   have ih:=rN C n g caps hc X os md hmd w hw i m (st++[x]) (by omega) (by omega) (by simp;omega)
   have ha:X.cp=.sl (X.args.map Tm.enc):=by
    cases X with
    | nl k n s=>simp[Tm.args] at hx
    | mk k n s us=>rfl
   have hX:X.cells=[.int .i64 X.kind,.int .i64 X.num,.str X.name,.sl (X.args.map Tm.enc)]:=by rw[←ha];rfl
   have h5:AV.ai (X.args.map Tm.enc)=0:=bN _;have hxe:=Tm.cw x;have hxc:=Tm.cf x;have hxr:=aN x;have hfr:=bP st;have hfl:=dD st;have w1:IntKind.i64.wrap ((i:Int) - 1)=(i:Int) - 1:=wrap_i64 (by omega) (by omega);have t1:(0≤(i:Int))=True:=eq_true (by omega);have b1:(st.length+1)*56≤140737488355328:=by omega
   have b2:st.length+1 < 9223372036854775808:=by omega
   have htk:X.args.take (i+1)=X.args.take i++[x]:=by
    rw[List.take_add_one,hx];rfl
   have hft:aZ (st++[x])=aZ st++[.int .i64 x.kind,.int .i64 x.num,.str x.name,x.cp]:=by
    simp[aZ,Tm.cells]
   have hft2:List.take (st.length*4) (aZ st)=aZ st:=List.take_of_length_le (by omega);have hfr2:AV.ai (aZ st++[.int .i64 x.kind,.int .i64 x.num,.str x.name,x.cp])=0:=by rw[←hft];exact bP _
   rw[htk,List.reverse_append];simp only[List.length_append,List.length_cons,List.length_nil,Nat.zero_add,List.append_assoc,hft] at ih;have e1:st.length+1+i=st.length+(i+1):=by omega
   rw[e1] at ih;have e2:((i+1:Nat):Int) - 1=(i:Int):=by omega
   rw[e2,aC];rw[hX] at ih ⊢;simp[dt,cK,h5,hx,hxe,hxc,hxr,hfr,hfl,w1,t1,b1,b2,hr,hft2,hfr2,hm1,hm2,aS];exact ih
theorem yh {R:List AV} {st:List Tm} {lb:Nat} (hR:R.length=lb*4) (ht:R.take (st.length*4)=aZ st) (hlb:st.length+1≤lb) (x:Tm):
 (putAt R (st.length*4) x.cells).length=lb*4∧(putAt R (st.length*4) x.cells).take ((st++[x]).length*4)=aZ (st++[x]):=by
 have hc:x.cells.length=4:=rfl;have h1:st.length*4+x.cells.length≤R.length:=by omega
 refine⟨?_,?_⟩
 ·rw[ma x.cells R _ h1];simp only[List.length_append,List.length_take,List.length_drop];omega
 ·have:=kD x.cells h1;rw[List.length_append,show (st.length+[x].length)*4=st.length*4+x.cells.length by simp[hc];omega,this,ht];simp[aZ]
theorem pV (C:Nat→List AV→aa→Option (AV×aa)) (n g:Nat) (caps:List AV) (hc:AV.ai caps≤1) (X:Tm) (os:List bf) (md:Nat) (hmd:∀k,1≤k→min md k=md) (w:Nat) (hw:min w 5=w) (lb:Nat):∀(i m:Nat) (st:List Tm) (R:List AV),i≤X.args.length→i < m→st.length+i≤lb→lb < 1000000000000→R.length=lb*4→R.take (st.length*4)=aZ st→AV.ai R=0→
 ∃R',R'.length=lb*4∧R'.take ((st.length+i)*4)=aZ (st++(X.args.take i).reverse)∧AV.ai R'=0∧
 ju 5 w (cM (aT C n dt) cK 5 m (kv (.fn g caps) (.vec 3 0 st.length 4 lb) (.ptr 4 0) (.int .i64 ((i:Int) - 1))) ⟨5,.row X.cells::.row R::os,5,md⟩)=
  some (.exit 2,FM 44 [(1,.fn g caps),(5,.vec 3 0 (st.length+i) 4 lb)],⟨5,.row X.cells::.row R'::os,w,md⟩)
 | 0,m+1,st,R,_,_,_,_,hR,ht,hrR=>by
   have h1:(0≤(-1:Int))=False:=by simp
   have hr:AV.ai caps≤5:=by omega
   have hm1:min md 3=md:=hmd 3 (by omega);have hm2:min md 5=md:=hmd 5 (by omega);refine⟨R,hR,by simpa using ht,hrR,?_⟩;simp[aC,dt,hr,hw]
 | i+1,m+1,st,R,hi,hm,hlb,hl,hR,ht,hrR=>by
   have hr:AV.ai caps≤5:=by omega
   have hm1:min md 3=md:=hmd 3 (by omega);have hm2:min md 5=md:=hmd 5 (by omega);obtain⟨x,hx⟩:∃x,X.args[i]? =some x:=⟨X.args[i]'(by omega),by simp⟩
   obtain⟨p1,p2⟩:=yh hR ht (by omega) x;have p3:=iQ hrR x (st.length*4) (by omega);obtain⟨R',r1,r2,r3,ih⟩:=pV C n g caps hc X os md hmd w hw lb i m (st++[x]) (putAt R (st.length*4) x.cells) (by omega) (by omega) (by simp;omega) hl p1 p2 p3;have e1:(st++[x]).length+i=st.length+(i+1):=by simp;omega
   have htk:X.args.take (i+1)=X.args.take i++[x]:=by
    rw[List.take_add_one,hx];rfl
   refine⟨R',r1,?_,r3,?_⟩
   ·rw[htk,List.reverse_append,←e1,r2];simp[List.append_assoc]
   have ha:X.cp=.sl (X.args.map Tm.enc):=by
    cases X with
    | nl k n s=>simp[Tm.args] at hx
    | mk k n s us=>rfl
   have hX:X.cells=[.int .i64 X.kind,.int .i64 X.num,.str X.name,.sl (X.args.map Tm.enc)]:=by rw[←ha];rfl
   have h5:AV.ai (X.args.map Tm.enc)=0:=bN _;have hxe:=Tm.cw x;have hxc:=Tm.cf x;have hxr:=aN x;have w1:IntKind.i64.wrap ((i:Int) - 1)=(i:Int) - 1:=wrap_i64 (by omega) (by omega);have t1:(0≤(i:Int))=True:=eq_true (by omega);have b1:st.length*4≤R.length:=by omega
   have b2:st.length+1≤lb:=by omega
   have b3:(st.length+1)*4≤R.length:=by omega
   have hbs:putAt [.int .i64 0,.int .i64 0,.str [],.aw] 0 [.int .i64 x.kind,.int .i64 x.num,.str x.name,x.cp]=[.int .i64 x.kind,.int .i64 x.num,.str x.name,x.cp]:=rfl;have hl1:(st++[x]).length=st.length+1:=by simp
   rw[hl1,show st.length+1+i=st.length+(i+1) by omega] at ih;have e2:((i+1:Nat):Int) - 1=(i:Int):=by omega
   rw[e2,aC];rw[hX,hxc] at ih;rw[hX];simp[dt,cK,h5,hx,hxe,hxc,hxr,w1,t1,b1,b2,b3,hr,hm1,hm2,hrR,hbs,aS,-fW];exact ih
theorem pR (C:Nat→List AV→aa→Option (AV×aa)) (n g:Nat) (caps:List AV) (hc:AV.ai caps≤1) (X:Tm) (os:List bf) (md:Nat) (hmd:∀k,1≤k→min md k=md) (w:Nat) (hw:min w 5=w) (lb:Nat):∀(i m:Nat) (st:List Tm) (R:List AV),i≤X.args.length→i < m→st.length≤lb→lb < st.length+i→st.length+i < 1000000000000→R.length=lb*4→R.take (st.length*4)=aZ st→AV.ai R=0→
 ju 5 w (cM (aT C n dt) cK 5 m (kv (.fn g caps) (.vec 3 0 st.length 4 lb) (.ptr 4 0) (.int .i64 ((i:Int) - 1))) ⟨5,.row X.cells::.row R::os,5,md⟩)=
  some (.exit 2,FM 44 [(1,.fn g caps),(5,.vec 5 0 (st.length+i) 4 (st.length+i))],⟨6,.row (aZ (st++(X.args.take i).reverse))::.row X.cells::.dead::os,w,md⟩)
 | 0,m,st,R,_,_,h1,h2,_,_,_,_=>by omega
 | i+1,0,st,R,_,h,_,_,_,_,_,_=>by omega
 | i+1,m+1,st,R,hi,hm,h1,h2,hl,hR,ht,hrR=>by
   have hr:AV.ai caps≤5:=by omega
   have hm1:min md 3=md:=hmd 3 (by omega);have hm2:min md 5=md:=hmd 5 (by omega);obtain⟨x,hx⟩:∃x,X.args[i]? =some x:=⟨X.args[i]'(by omega),by simp⟩
   have htk:X.args.take (i+1)=X.args.take i++[x]:=by
    rw[List.take_add_one,hx];rfl
   have ha:X.cp=.sl (X.args.map Tm.enc):=by
    cases X with
    | nl k n s=>simp[Tm.args] at hx
    | mk k n s us=>rfl
   have hX:X.cells=[.int .i64 X.kind,.int .i64 X.num,.str X.name,.sl (X.args.map Tm.enc)]:=by rw[←ha];rfl
   have h5:AV.ai (X.args.map Tm.enc)=0:=bN _;have hxe:=Tm.cw x;have hxc:=Tm.cf x;have hxr:=aN x;have w1:IntKind.i64.wrap ((i:Int) - 1)=(i:Int) - 1:=wrap_i64 (by omega) (by omega);have t1:(0≤(i:Int))=True:=eq_true (by omega);have b1:st.length*4≤R.length:=by omega
   have hbs:putAt [.int .i64 0,.int .i64 0,.str [],.aw] 0 [.int .i64 x.kind,.int .i64 x.num,.str x.name,x.cp]=[.int .i64 x.kind,.int .i64 x.num,.str x.name,x.cp]:=rfl;have hl1:(st++[x]).length=st.length+1:=by simp
   have e2:((i+1:Nat):Int) - 1=(i:Int):=by omega
   by_cases hfit:st.length+1≤lb
   ·obtain⟨p1,p2⟩:=yh hR ht (by omega) x;have p3:=iQ hrR x (st.length*4) (by omega);have ih:=pR C n g caps hc X os md hmd w hw lb i m (st++[x]) (putAt R (st.length*4) x.cells) (by omega) (by omega) (by omega) (by omega) (by omega) p1 p2 p3;have b3:(st.length+1)*4≤R.length:=by omega
    rw[hl1,show st.length+1+i=st.length+(i+1) by omega] at ih;rw[e2,aC,htk,List.reverse_append];rw[hX,hxc] at ih;rw[hX];simp only[List.append_assoc] at ih;simp[dt,cK,h5,hx,hxe,hxc,hxr,w1,t1,b1,hfit,b3,hr,hm1,hm2,hrR,hbs,aS,-fW];exact ih
   ·have hlb:lb=st.length:=by omega
    have ih:=rN C n g caps hc X os md hmd w hw i m (st++[x]) (by omega) (by omega) (by omega);have c1:(st.length+1)*56≤140737488355328:=by omega
    have c2:st.length+1 < 9223372036854775808:=by omega
    have hft:aZ (st++[x])=aZ st++[.int .i64 x.kind,.int .i64 x.num,.str x.name,x.cp]:=by
     simp[aZ,Tm.cells]
    have hfr2:AV.ai (aZ st++[.int .i64 x.kind,.int .i64 x.num,.str x.name,x.cp])=0:=by rw[←hft];exact bP _
    rw[hl1,show st.length+1+i=st.length+(i+1) by omega,hft] at ih;rw[e2,aC,htk,List.reverse_append];rw[hX] at ih ⊢;simp only[List.append_assoc] at ih;simp[dt,cK,h5,hx,hxe,hxc,hxr,w1,t1,b1,hfit,c1,c2,hr,hm1,hm2,hrR,ht,hfr2,aS];exact ih
theorem nq {σ:Type} (C:Nat→List AV→aa→Option (AV×aa)) (n g:Nat) (caps:List AV) (hc:AV.ai caps≤2) (fs:Tm→σ→Bool×σ) (tl:σ→List bf) (T:Tm) (mf:Nat→Nat)
 (okX:Tm→Prop) (hokX:∀x,okX x→∀y ∈ x.args,okX y) (okS:σ→Prop) (hokS:∀s x,okS s→(fs x s).1=true→okS (fs x s).2) (u0:Nat→Prop) (hmf:∀md,u0 md→u0 (mf md)) (hmd:∀md,u0 md→∀k,2≤k→min md k=md) (w:Nat) (hw:min w 4=w)
 (hA:∀s x R md,okX x→okS s→u0 md→C g (x.enc::caps) ⟨5,.row x.cells::.row R::.row T.cells::tl s,4,md⟩=some (.bool (fs x s).1,⟨5,.row x.cells::.row R::.row T.cells::tl (fs x s).2,4,mf md⟩))
 (hB:∀s x R md,okX x→okS s→u0 md→C g (x.enc::caps) ⟨6,.row x.cells::.row R::.dead::.row T.cells::tl s,4,md⟩=some (.bool (fs x s).1,⟨6,.row x.cells::.row R::.dead::.row T.cells::tl (fs x s).2,4,mf md⟩)):
 ∀(d m:Nat) (rs:List Tm) (R:List AV) (lb:Nat) (s:σ) (md:Nat),Tm.de rs < d→d≤m→d≤n→Tm.de rs < 1000000000→lb < 1000000000→rs.length≤lb→R.length=lb*4→R.take (rs.length*4)=aZ rs.reverse→AV.ai R=0→(∀x ∈ rs,okX x)→okS s→u0 md→
 (∃Y md',u0 md'∧ju 4 w (cM (aT C n eU) fy 4 m (tE (.fn g caps) (.vec 3 0 rs.length 4 lb)) ⟨4,.row R::.row T.cells::tl s,4,md⟩)=
  some (if (dZ fs d rs s).1 then .exit 0 else .ret,if (dZ fs d rs s).1 then FM 44 [] else FM 44 [(4,.bool false)],⟨4,Y::.row T.cells::tl (dZ fs d rs s).2,w,md'⟩))∧
 (∃Y md',u0 md'∧ju 4 w (cM (aT C n eU) fy 4 m (tE (.fn g caps) (.vec 4 0 rs.length 4 lb)) ⟨5,.row R::.dead::.row T.cells::tl s,4,md⟩)=
  some (if (dZ fs d rs s).1 then .exit 0 else .ret,if (dZ fs d rs s).1 then FM 44 [] else FM 44 [(4,.bool false)],⟨4,Y::.row T.cells::tl (dZ fs d rs s).2,w,md'⟩))
 | 0,m,rs,R,lb,s,md,h,_,_,_,_,_,_,_,_,_,_,_=>by omega
 | d+1,0,rs,R,lb,s,md,_,h,_,_,_,_,_,_,_,_,_,_=>by omega
 | d+1,m+1,[],R,lb,s,md,_,_,_,_,_,_,hR,ht,hrR,hox,hos,hok=>by
   have hr:AV.ai caps≤4:=by omega
   refine⟨⟨.row R,md,hok,?_⟩,⟨.dead,md,hok,?_⟩⟩
   ·simp[aC,eU,dZ,hr,hrR,hw]
   ·simp[aC,eU,dZ,hr,hrR,hw]
 | d+1,m+1,x::rs,R,lb,s,md,hd,hm,hn,hsz,hlb,hlen,hR,ht,hrR,hox,hos,hok=>by
   have hr:AV.ai caps≤4:=by omega
   have hr1:AV.ai caps≤5:=by omega
   have hsx:=gR x;simp only[Tm.de] at hd hsz;have hla:=gq x.args;have hlr:=gq rs;have hs2:Tm.de (x.args++rs)=Tm.de x.args+Tm.de rs:=kG _ _;rw[List.length_cons] at hlen ht;rw[List.reverse_cons] at ht;have hrl:rs.reverse.length=rs.length:=List.length_reverse;rw[←hrl] at ht;obtain⟨t1,t2⟩:=Be ht;rw[hrl] at t1 t2;have hok2:=hmf md hok;have w1:IntKind.i64.wrap (rs.length:Int)=(rs.length:Int):=wrap_i64 (by omega) (by omega);have b1:(0 < (rs.length:Int)+1)=True:=eq_true (by omega);have b2:rs.length*4+4≤R.length:=by omega
   have m1:min md 4=md:=hmd md hok 4 (by omega);have m2:min md 5=md:=hmd md hok 5 (by omega);have b3:((rs.length:Int) < (rs.length:Int)+1)=True:=eq_true (by omega)
   have hsl:fP (rs.length+1) lb none (some (.int .i64 (rs.length:Int))) none=some (0,rs.length,none):=by
    have a1:(rs.length:Int)≤((max (rs.length+1) lb:Nat):Int):=by omega
    simp[fP,sliceB,a1]
   have hxe:=Tm.cw x;have hA':=hA s x R md (hox x (by simp)) hos hok;have hB':=hB s x R md (hox x (by simp)) hos hok;rw[hxe] at hA' hB';have hcl:=Tm.cf x;have hxr:=aN x
   cases hf:(fs x s).1 with
   | false=>
     rw[hf] at hA' hB';have e:dZ fs (d+1) (x::rs) s=(false,(fs x s).2):=by simp[dZ,hf]
     rw[e];rw[hcl] at hA' hB' t2;refine⟨⟨.row R,mf md,hok2,?_⟩,⟨.dead,mf md,hok2,?_⟩⟩
     ·rw[aC];simp[eU,w1,b1,b2,b3,m1,m2,t2,hsl,hA',hr,hr1,hrR,hxr,hw]
     ·rw[aC];simp[eU,w1,b1,b2,b3,m1,m2,t2,hsl,hB',hr,hr1,hrR,hxr,hw]
   | true=>
     rw[hf] at hA' hB';have hos2:=hokS s x hos hf
     have hox2:∀y ∈ x.args++rs,okX y:=fun y hy=>by
      rcases List.mem_append.1 hy with hy | hy
      ·exact hokX x (hox x (by simp)) y hy
      ·exact hox y (by simp[hy])
     have e:dZ fs (d+1) (x::rs) s=dZ fs d (x.args++rs) (fs x s).2:=by simp[dZ,hf]
     rw[e];have hw4:min 4 5=4:=rfl;have hw5:min 4 6=4:=rfl;have hta:x.args.take x.args.length=x.args:=List.take_length;have hst:rs.reverse++x.args.reverse=(x.args++rs).reverse:=by simp
     have hl2:rs.length+x.args.length=(x.args++rs).length:=by simp;omega
     have w2:IntKind.i64.wrap ((x.args.length:Int) - 1)=(x.args.length:Int) - 1:=wrap_i64 (by omega) (by omega)
     have hlv:∀(fr:List AV) (h:aa) (o:cI),o.ev fr=x.cp→bE fr h (.uR o)=some (.int .i64 x.args.length,h):=by
      intro fr h o ho;rw[eC,ho];cases x<;>simp[Tm.cp,Tm.args]
     have t1':R.take (rs.reverse.length*4)=aZ rs.reverse:=by rw[hrl];exact t1
     by_cases hfit:rs.length+x.args.length≤lb
     ·refine⟨?_,?_⟩
      ·obtain⟨R',r1,r2,r3,eq⟩:=pW C n g caps hc x (.row T.cells::tl (fs x s).2) (mf md) (hmd _ hok2) 4 hw4 lb x.args.length n rs.reverse R (Nat.le_refl _) (by omega) (by rw[hrl];exact hfit) (by omega) hR t1' hrR;obtain⟨⟨Y,md',k1,k2⟩,_⟩:=nq C n g caps hc fs tl T mf okX hokX okS hokS u0 hmf hmd w hw hA hB d m (x.args++rs) R' lb (fs x s).2 (mf md) (by omega) (by omega) (by omega) (by omega) hlb (by rw[←hl2];exact hfit) r1 (by rw[←hl2,←hst,←hrl];rw[hta] at r2;exact r2) r3 hox2 hos2 hok2;refine⟨Y,md',k1,?_⟩;rw[hrl] at eq;rw[aC];rw[←hl2] at k2;rw[hcl] at hA' t2 eq;simp only[cK] at eq;simp[eU,cK,fy,w1,w2,b1,b2,b3,m1,m2,t2,hsl,hA',hr,hr1,hrR,hxr,hw,hlv,eq,r3];exact k2
      ·obtain⟨R',r1,r2,r3,eq⟩:=pM C n g caps hc x (.dead::.row T.cells::tl (fs x s).2) (mf md) (hmd _ hok2) 4 hw5 lb x.args.length n rs.reverse R (Nat.le_refl _) (by omega) (by rw[hrl];exact hfit) (by omega) hR t1' hrR;obtain⟨_,⟨Y,md',k1,k2⟩⟩:=nq C n g caps hc fs tl T mf okX hokX okS hokS u0 hmf hmd w hw hA hB d m (x.args++rs) R' lb (fs x s).2 (mf md) (by omega) (by omega) (by omega) (by omega) hlb (by rw[←hl2];exact hfit) r1 (by rw[←hl2,←hst,←hrl];rw[hta] at r2;exact r2) r3 hox2 hos2 hok2;refine⟨Y,md',k1,?_⟩;rw[hrl] at eq;rw[aC];rw[←hl2] at k2;rw[hcl] at hB' t2 eq;simp only[cK] at eq;simp[eU,cK,fy,w1,w2,b1,b2,b3,m1,m2,t2,hsl,hB',hr,hr1,hrR,hxr,hw,hlv,eq,r3];exact k2
     ·have hRn:(aZ (x.args++rs).reverse).length=(x.args++rs).length*4:=by rw[dD,List.length_reverse]
      have hRr:=bP (x.args++rs).reverse;obtain⟨_,⟨Y,md',k1,k2⟩⟩:=nq C n g caps hc fs tl T mf okX hokX okS hokS u0 hmf hmd w hw hA hB d m (x.args++rs) (aZ (x.args++rs).reverse) (x.args++rs).length (fs x s).2 (mf md) (by omega) (by omega) (by omega) (by omega) (by omega) (Nat.le_refl _) hRn (List.take_of_length_le (by omega)) hRr hox2 hos2 hok2;rw[←hl2] at k2;have hRr':=hRr;rw[List.reverse_append] at hRr';refine⟨⟨Y,md',k1,?_⟩,⟨Y,md',k1,?_⟩⟩
      ·have eq:=pN C n g caps hc x (.row T.cells::tl (fs x s).2) (mf md) (hmd _ hok2) 4 hw4 lb x.args.length n rs.reverse R (Nat.le_refl _) (by omega) (by omega) (by omega) (by omega) hR t1' hrR;rw[hta,hst,hrl] at eq;rw[aC];rw[hcl] at hA' t2 eq;simp only[cK] at eq;simp[eU,cK,fy,w1,w2,b1,b2,b3,m1,m2,t2,hsl,hA',hr,hr1,hrR,hxr,hw,hlv,eq,hRr'];rw[List.reverse_append] at k2;exact k2
      ·have eq:=pO C n g caps hc x (.dead::.row T.cells::tl (fs x s).2) (mf md) (hmd _ hok2) 4 hw5 lb x.args.length n rs.reverse R (Nat.le_refl _) (by omega) (by omega) (by omega) (by omega) hR t1' hrR;rw[hta,hst,hrl] at eq;rw[aC];rw[hcl] at hB' t2 eq;simp only[cK] at eq;simp[eU,cK,fy,w1,w2,b1,b2,b3,m1,m2,t2,hsl,hB',hr,hr1,hrR,hxr,hw,hlv,eq,hRr'];rw[List.reverse_append] at k2;exact k2
theorem nh {σ:Type} (C:Nat→List AV→aa→Option (AV×aa)) (n g:Nat) (caps:List AV) (hc:AV.ai caps≤1) (fs:Tm→σ→Bool×σ) (tl:σ→List bf) (T:Tm) (mf:Nat→Nat)
 (okX:Tm→Prop) (hokX:∀x,okX x→∀y ∈ x.args,okX y) (okS:σ→Prop) (hokS:∀s x,okS s→(fs x s).1=true→okS (fs x s).2) (u0:Nat→Prop) (hmf:∀md,u0 md→u0 (mf md)) (hmd:∀md,u0 md→∀k,1≤k→min md k=md) (w:Nat) (hw:min w 3=w)
 (hA:∀s x R md,okX x→okS s→u0 md→C g (x.enc::caps) ⟨4,.row x.cells::.row R::.row T.cells::tl s,3,md⟩=some (.bool (fs x s).1,⟨4,.row x.cells::.row R::.row T.cells::tl (fs x s).2,3,mf md⟩))
 (hB:∀s x R md,okX x→okS s→u0 md→C g (x.enc::caps) ⟨5,.row x.cells::.row R::.dead::.row T.cells::tl s,3,md⟩=some (.bool (fs x s).1,⟨5,.row x.cells::.row R::.dead::.row T.cells::tl (fs x s).2,3,mf md⟩)):
 ∀(d m:Nat) (rs:List Tm) (R:List AV) (lb:Nat) (s:σ) (md:Nat),Tm.de rs < d→d≤m→d≤n→Tm.de rs < 1000000000→lb < 1000000000→rs.length≤lb→R.length=lb*4→R.take (rs.length*4)=aZ rs.reverse→AV.ai R=0→(∀x ∈ rs,okX x)→okS s→u0 md→
 (∃Y md',u0 md'∧ju 3 w (cM (aT C n eU) fy 3 m (tE (.fn g caps) (.vec 2 0 rs.length 4 lb)) ⟨3,.row R::.row T.cells::tl s,3,md⟩)=
  some (if (dZ fs d rs s).1 then .exit 0 else .ret,if (dZ fs d rs s).1 then FM 44 [] else FM 44 [(4,.bool false)],⟨3,Y::.row T.cells::tl (dZ fs d rs s).2,w,md'⟩))∧
 (∃Y md',u0 md'∧ju 3 w (cM (aT C n eU) fy 3 m (tE (.fn g caps) (.vec 3 0 rs.length 4 lb)) ⟨4,.row R::.dead::.row T.cells::tl s,3,md⟩)=
  some (if (dZ fs d rs s).1 then .exit 0 else .ret,if (dZ fs d rs s).1 then FM 44 [] else FM 44 [(4,.bool false)],⟨3,Y::.row T.cells::tl (dZ fs d rs s).2,w,md'⟩))
 | 0,m,rs,R,lb,s,md,h,_,_,_,_,_,_,_,_,_,_,_=>by omega
 | d+1,0,rs,R,lb,s,md,_,h,_,_,_,_,_,_,_,_,_,_=>by omega
 | d+1,m+1,[],R,lb,s,md,_,_,_,_,_,_,hR,ht,hrR,hox,hos,hok=>by
   have hr:AV.ai caps≤3:=by omega
   refine⟨⟨.row R,md,hok,?_⟩,⟨.dead,md,hok,?_⟩⟩
   ·simp[aC,eU,dZ,hr,hrR,hw]
   ·simp[aC,eU,dZ,hr,hrR,hw]
 | d+1,m+1,x::rs,R,lb,s,md,hd,hm,hn,hsz,hlb,hlen,hR,ht,hrR,hox,hos,hok=>by
   have hr:AV.ai caps≤3:=by omega
   have hr1:AV.ai caps≤4:=by omega
   have hsx:=gR x;simp only[Tm.de] at hd hsz;have hla:=gq x.args;have hlr:=gq rs;have hs2:Tm.de (x.args++rs)=Tm.de x.args+Tm.de rs:=kG _ _;rw[List.length_cons] at hlen ht;rw[List.reverse_cons] at ht;have hrl:rs.reverse.length=rs.length:=List.length_reverse;rw[←hrl] at ht;obtain⟨t1,t2⟩:=Be ht;rw[hrl] at t1 t2;have hok2:=hmf md hok;have w1:IntKind.i64.wrap (rs.length:Int)=(rs.length:Int):=wrap_i64 (by omega) (by omega);have b1:(0 < (rs.length:Int)+1)=True:=eq_true (by omega);have b2:rs.length*4+4≤R.length:=by omega
   have m1:min md 3=md:=hmd md hok 3 (by omega);have m2:min md 4=md:=hmd md hok 4 (by omega);have b3:((rs.length:Int) < (rs.length:Int)+1)=True:=eq_true (by omega)
   have hsl:fP (rs.length+1) lb none (some (.int .i64 (rs.length:Int))) none=some (0,rs.length,none):=by
    have a1:(rs.length:Int)≤((max (rs.length+1) lb:Nat):Int):=by omega
    simp[fP,sliceB,a1]
   have hxe:=Tm.cw x;have hA':=hA s x R md (hox x (by simp)) hos hok;have hB':=hB s x R md (hox x (by simp)) hos hok;rw[hxe] at hA' hB';have hcl:=Tm.cf x;have hxr:=aN x
   cases hf:(fs x s).1 with
   | false=>
     rw[hf] at hA' hB';have e:dZ fs (d+1) (x::rs) s=(false,(fs x s).2):=by simp[dZ,hf]
     rw[e];rw[hcl] at hA' hB' t2;refine⟨⟨.row R,mf md,hok2,?_⟩,⟨.dead,mf md,hok2,?_⟩⟩
     ·rw[aC];simp[eU,w1,b1,b2,b3,m1,m2,t2,hsl,hA',hr,hr1,hrR,hxr,hw]
     ·rw[aC];simp[eU,w1,b1,b2,b3,m1,m2,t2,hsl,hB',hr,hr1,hrR,hxr,hw]
   | true=>
     rw[hf] at hA' hB';have hos2:=hokS s x hos hf
     have hox2:∀y ∈ x.args++rs,okX y:=fun y hy=>by
      rcases List.mem_append.1 hy with hy | hy
      ·exact hokX x (hox x (by simp)) y hy
      ·exact hox y (by simp[hy])
     have e:dZ fs (d+1) (x::rs) s=dZ fs d (x.args++rs) (fs x s).2:=by simp[dZ,hf]
     rw[e];have hw4:min 3 4=3:=rfl;have hw5:min 3 5=3:=rfl;have hta:x.args.take x.args.length=x.args:=List.take_length;have hst:rs.reverse++x.args.reverse=(x.args++rs).reverse:=by simp
     have hl2:rs.length+x.args.length=(x.args++rs).length:=by simp;omega
     have w2:IntKind.i64.wrap ((x.args.length:Int) - 1)=(x.args.length:Int) - 1:=wrap_i64 (by omega) (by omega)
     have hlv:∀(fr:List AV) (h:aa) (o:cI),o.ev fr=x.cp→bE fr h (.uR o)=some (.int .i64 x.args.length,h):=by
      intro fr h o ho;rw[eC,ho];cases x<;>simp[Tm.cp,Tm.args]
     have t1':R.take (rs.reverse.length*4)=aZ rs.reverse:=by rw[hrl];exact t1
     by_cases hfit:rs.length+x.args.length≤lb
     ·refine⟨?_,?_⟩
      ·obtain⟨R',r1,r2,r3,eq⟩:=pY C n g caps hc x (.row T.cells::tl (fs x s).2) (mf md) (hmd _ hok2) 3 hw4 lb x.args.length n rs.reverse R (Nat.le_refl _) (by omega) (by rw[hrl];exact hfit) (by omega) hR t1' hrR;obtain⟨⟨Y,md',k1,k2⟩,_⟩:=nh C n g caps hc fs tl T mf okX hokX okS hokS u0 hmf hmd w hw hA hB d m (x.args++rs) R' lb (fs x s).2 (mf md) (by omega) (by omega) (by omega) (by omega) hlb (by rw[←hl2];exact hfit) r1 (by rw[←hl2,←hst,←hrl];rw[hta] at r2;exact r2) r3 hox2 hos2 hok2;refine⟨Y,md',k1,?_⟩;rw[hrl] at eq;rw[aC];rw[←hl2] at k2;rw[hcl] at hA' t2 eq;simp only[cK] at eq;simp[eU,cK,fy,w1,w2,b1,b2,b3,m1,m2,t2,hsl,hA',hr,hr1,hrR,hxr,hw,hlv,eq,r3];exact k2
      ·obtain⟨R',r1,r2,r3,eq⟩:=pV C n g caps hc x (.dead::.row T.cells::tl (fs x s).2) (mf md) (hmd _ hok2) 3 hw5 lb x.args.length n rs.reverse R (Nat.le_refl _) (by omega) (by rw[hrl];exact hfit) (by omega) hR t1' hrR;obtain⟨_,⟨Y,md',k1,k2⟩⟩:=nh C n g caps hc fs tl T mf okX hokX okS hokS u0 hmf hmd w hw hA hB d m (x.args++rs) R' lb (fs x s).2 (mf md) (by omega) (by omega) (by omega) (by omega) hlb (by rw[←hl2];exact hfit) r1 (by rw[←hl2,←hst,←hrl];rw[hta] at r2;exact r2) r3 hox2 hos2 hok2;refine⟨Y,md',k1,?_⟩;rw[hrl] at eq;rw[aC];rw[←hl2] at k2;rw[hcl] at hB' t2 eq;simp only[cK] at eq;simp[eU,cK,fy,w1,w2,b1,b2,b3,m1,m2,t2,hsl,hB',hr,hr1,hrR,hxr,hw,hlv,eq,r3];exact k2
     ·have hRn:(aZ (x.args++rs).reverse).length=(x.args++rs).length*4:=by rw[dD,List.length_reverse]
      have hRr:=bP (x.args++rs).reverse;obtain⟨_,⟨Y,md',k1,k2⟩⟩:=nh C n g caps hc fs tl T mf okX hokX okS hokS u0 hmf hmd w hw hA hB d m (x.args++rs) (aZ (x.args++rs).reverse) (x.args++rs).length (fs x s).2 (mf md) (by omega) (by omega) (by omega) (by omega) (by omega) (Nat.le_refl _) hRn (List.take_of_length_le (by omega)) hRr hox2 hos2 hok2;rw[←hl2] at k2;have hRr':=hRr;rw[List.reverse_append] at hRr';refine⟨⟨Y,md',k1,?_⟩,⟨Y,md',k1,?_⟩⟩
      ·have eq:=pT C n g caps hc x (.row T.cells::tl (fs x s).2) (mf md) (hmd _ hok2) 3 hw4 lb x.args.length n rs.reverse R (Nat.le_refl _) (by omega) (by omega) (by omega) (by omega) hR t1' hrR;rw[hta,hst,hrl] at eq;rw[aC];rw[hcl] at hA' t2 eq;simp only[cK] at eq;simp[eU,cK,fy,w1,w2,b1,b2,b3,m1,m2,t2,hsl,hA',hr,hr1,hrR,hxr,hw,hlv,eq,hRr'];rw[List.reverse_append] at k2;exact k2
      ·have eq:=pR C n g caps hc x (.dead::.row T.cells::tl (fs x s).2) (mf md) (hmd _ hok2) 3 hw5 lb x.args.length n rs.reverse R (Nat.le_refl _) (by omega) (by omega) (by omega) (by omega) hR t1' hrR;rw[hta,hst,hrl] at eq;rw[aC];rw[hcl] at hB' t2 eq;simp only[cK] at eq;simp[eU,cK,fy,w1,w2,b1,b2,b3,m1,m2,t2,hsl,hB',hr,hr1,hrR,hxr,hw,hlv,eq,hRr'];rw[List.reverse_append] at k2;exact k2
def cntF (_:Tm) (k:Nat):Bool×Nat:=(decide (k+1≤2000),k+1)
def vD (t:Tm):Nat:=(dZ cntF (t.size+1) [t] 0).2
theorem Cc:∀(d:Nat) (rs:List Tm) (k:Nat),Tm.de rs < d→k≤2000→(dZ cntF d rs k).2=min (k+Tm.de rs) 2001
 | 0,rs,k,h,_=>by omega
 | d+1,[],k,_,hk=>by simp[dZ,Tm.de];omega
 | d+1,x::rs,k,h,hk=>by
   have hs:=gR x;have h2:=kG x.args rs;simp only[Tm.de] at h ⊢;unfold dZ;simp only[cntF,decide_eq_true_eq];split
   ·rename_i hc;rw[Cc d (x.args++rs) (k+1) (by omega) hc,h2];omega
   ·omega
theorem Cl (t:Tm):vD t=min t.size 2001:=by
 unfold vD;rw[Cc _ _ _ (by simp[Tm.de]) (by omega)];simp[Tm.de]
theorem PT (n:Nat) (x:Tm) (k:Nat) (hk:k≤2000) (R:bf) (T T0:bf) (md:Nat):au (dP []) (n+1) 101 [x.enc,.ptr 1 0] ⟨5,.row x.cells::R::T::.row [.int .i64 k]::[T0],4,md⟩=
 some (.bool (cntF x k).1,⟨5,.row x.cells::R::T::.row [.int .i64 ((cntF x k).2:Nat)]::[T0],4,min md 1⟩):=by
 have hxe:=Tm.cw x;have hcl:=Tm.cf x;have hxr:=aN x;have w1:IntKind.i64.wrap ((k:Int)+1)=(k:Int)+1:=wrap_i64 (by omega) (by omega);rw[hxe,hcl];by_cases hc:k+1≤2000
 ·have hc':((k:Int)+1≤2000)=True:=eq_true (by omega);simp[zP,DV,cntF,hc,hc',w1,hxr]
 ·have hc':((k:Int)+1≤2000)=False:=eq_false (by omega);simp[zP,DV,cntF,hc,hc',w1,hxr]
theorem Lt (n:Nat) (x:Tm) (k:Nat) (hk:k≤2000) (R:bf) (D T T0:bf) (md:Nat):au (dP []) (n+1) 101 [x.enc,.ptr 1 0] ⟨6,.row x.cells::R::D::T::.row [.int .i64 k]::[T0],4,md⟩=
 some (.bool (cntF x k).1,⟨6,.row x.cells::R::D::T::.row [.int .i64 ((cntF x k).2:Nat)]::[T0],4,min md 1⟩):=by
 have hxe:=Tm.cw x;have hcl:=Tm.cf x;have hxr:=aN x;have w1:IntKind.i64.wrap ((k:Int)+1)=(k:Int)+1:=wrap_i64 (by omega) (by omega);rw[hxe,hcl];by_cases hc:k+1≤2000
 ·have hc':((k:Int)+1≤2000)=True:=eq_true (by omega);simp[zP,DV,cntF,hc,hc',w1,hxr]
 ·have hc':((k:Int)+1≤2000)=False:=eq_false (by omega);simp[zP,DV,cntF,hc,hc',w1,hxr]
theorem HE (t:Tm) (hs:t.size < 1000000000) (n:Nat) (hn:t.size+1≤n+1):∃Y md',ju 4 2 (cM (aT (au (dP []) (n+1)) (n+1) eU) fy 4 (n+1) (tE (.fn 101 [.ptr 1 0]) (.vec 3 0 1 4 1)) ⟨4,[.row t.cells,.row t.cells,.row [.int .i64 0],.row t.cells],4,2⟩)=
 some (if (dZ cntF (t.size+1) [t] 0).1 then .exit 0 else .ret,if (dZ cntF (t.size+1) [t] 0).1 then FM 44 [] else FM 44 [(4,.bool false)],⟨4,[Y,.row t.cells,.row [.int .i64 (vD t:Nat)],.row t.cells],2,md'⟩):=by
 have h:=nq (au (dP []) (n+1)) (n+1) 101 [.ptr 1 0] (by simp[AV.ai,AV.refs]) cntF (fun k=>[.row [.int .i64 (k:Nat)],.row t.cells]) t (min · 1)
  (fun _=>True) (fun _ _ _ _=>trivial) (·≤2000) (fun s x _ h=>by simpa[cntF] using h) (fun md=>md=1∨md=2) (fun md h=>by omega) (fun md h k hk=>by omega) 2 rfl
  (fun s x R md _ hs' _=>PT n x s hs' _ _ _ md) (fun s x R md _ hs' _=>Lt n x s hs' _ _ _ _ md)
  (t.size+1) (n+1) [t] t.cells 1 0 2 (by simp[Tm.de]) hn hn (by simp[Tm.de];exact hs) (by omega) (by simp) rfl (by simp[aZ];rfl) (by simp[Tm.cells,AV.ai,AV.refs,aN]) (fun _ _=>trivial) (by omega) (.inr rfl)
 obtain⟨⟨Y,md',_,e⟩,_⟩:=h;exact⟨Y,md',e⟩
def uK:aR:=⟨59,fun | [v]=>(match jm v with | some t=>if t.size < 1000000000 then some (.int .i64 (vD t:Nat)) else none | none=>none) | _=>none⟩
theorem sb:uK.f=59:=(rfl)
theorem IG (t:Tm) (h:t.size < 1000000000):uK.S [t.enc]=some (.int .i64 (vD t:Nat)):=by
 simp only[uK,fH,if_pos h]
theorem KZ:bC Tryz.prog uK:=fun args v hv=>by
 unfold uK at hv ⊢;dsimp only at hv ⊢;split at hv
 ·rename_i x;split at hv
  ·rename_i t ht;split at hv
   ·rename_i hl;cases hv;rw[fa ht];refine ct (n:=t.size+5) (h':=h0) (b8 (ss:=[]) (by simp)) ?_ rfl (by simp[AV.ai,Tm.cT]);obtain⟨Y,md',eq⟩:=HE t hl (t.size+2) (by omega);have hcl:=Tm.cf t;have hxr:=aN t;rw[Tm.cw,hcl];rw[hcl] at eq;simp only[fy] at eq
    cases hb:(dZ cntF (t.size+1) [t] 0).1 with
    | true=>
      rw[hb] at eq;simp only[if_true] at eq;simp[Ny,c59,FO,NW,fy,hxr,eq]
    | false=>
      rw[hb] at eq;simp only[Bool.false_eq_true,if_false] at eq;simp[Ny,c59,FO,NW,fy,hxr,eq]
   ·cases hv
  ·cases hv
 ·cases hv
theorem an (h:aa) (n0 d:Nat) (t:Tm):hO h n0 (d+1) t.cp=some (t.cp,[]):=tL (nf t)
mutual
def Tm.depth:Tm→Nat
 | .nl ..=>1
 | .mk _ _ _ us=>1+Tm.qK us
def Tm.qK:List Tm→Nat
 | []=>0
 | t::r=>max t.depth (Tm.qK r)
end
theorem CQ (t:Tm):t.depth=1+Tm.qK t.args:=by cases t<;>rfl
def jv (most d:Nat):List Tm→Nat
 | []=>d
 | x::r=>if most≤d+1 then d else jv most (max d (min x.depth (most - 1))) r
theorem Ci (most:Nat):∀(us:List Tm) (d:Nat),min (jv most d us+1) most=min (max d (Tm.qK us)+1) most
 | [],d=>by simp[jv,Tm.qK]
 | x::r,d=>by
   unfold jv;simp only[Tm.qK];split
   ·omega
   ·rw[Ci most r];omega
def gy (m:Nat):aR:=⟨102,fun | [v,.int .i64 n]=>(match jm v with | some t=>if n=m∧t.size < 1000000000 then some (.int .i64 (min t.depth m:Nat)) else none | none=>none) | _=>none⟩
theorem kK (m:Nat):(gy m).f=102:=(rfl)
theorem vH (m:Nat) (t:Tm) (h:t.size < 1000000000):(gy m).S [t.enc,.int .i64 (m:Nat)]=some (.int .i64 (min t.depth m:Nat)):=by
 simp only[gy,fH];exact if_pos ⟨trivial,h⟩
theorem CK (m k:Nat) (v:AV) (h:k≠m):(gy m).S [v,.int .i64 (k:Nat)]=none:=by
 simp only[gy];split
 ·rw[if_neg (by omega)]
 ·rfl
theorem xQ (n m:Nat) (hm:m≤100) (hm1:1≤m) (T:bf) (us:List Tm) (hs:Tm.de us < 1000000000):∀(post pre:List Tm) (k d:Nat),us=pre++post→post.length < k→d≤100→
 ∃md,ju 1 0 (cM (aT (au (dP [gy (m - 1)]) (n+1)) (n+1) kE) kF 1 k (LH (.int .i64 m) (.int .i64 d) (.sl (us.map Tm.enc)) (.int .i64 us.length) (.int .i64 pre.length)) ⟨1,[T],1,0⟩)=
   some (.exit 0,FM 30 [(1,.int .i64 m),(5,.int .i64 (jv m d post:Nat))],⟨1,[T],0,md⟩)
 | [],pre,k+1,d,e,_,_=>by
   simp at e;subst e;have h5:AV.ai (us.map Tm.enc)=0:=bN _;exact⟨0,by simp[aC,kE,h5,jv]⟩
 | x::post,pre,k+1,d,e,hk,hd=>by
   have hlu:=gq us;have h1:us[pre.length]? =some x:=by rw[e];simp
   have h5:AV.ai (us.map Tm.enc)=0:=bN _;have h6:((pre.length:Int) < (us.length:Int))=True:=eq_true (by rw[e,List.length_append,List.length_cons];omega);have hpl:pre.length < us.length:=by rw[e];simp
   have h3:IntKind.i64.wrap ((pre.length:Int)+1)=(pre.length:Int)+1:=wrap_i64 (by omega) (by omega);have hxe:=Tm.cw x;have hcl:=Tm.cf x;have hxr:=aN x
   have hxs:x.size < 1000000000:=by
    have:=kG pre (x::post);rw[←e] at this;simp only[Tm.de] at this;omega
   have w1:IntKind.i64.wrap ((m:Int) - 1)=((m - 1:Nat):Int):=by rw[wrap_i64 (by omega) (by omega)];omega
   by_cases hb:m≤d+1
   ·have hb':(((m - 1:Nat):Int)≤(d:Int))=True:=eq_true (by omega);refine⟨0,?_⟩;rw[aC];simp[kE,h1,h5,h6,hxe,hcl,hxr,w1,hb',jv,hb]
   ·have hb':(((m - 1:Nat):Int)≤(d:Int))=False:=eq_false (by omega);have hc:=vH (m - 1) x hxs;rw[hxe,hcl] at hc
    have hmx:(if d < min x.depth (m - 1) then ((min x.depth (m - 1):Nat):Int) else (d:Int))=((max d (min x.depth (m - 1)):Nat):Int):=by
     split<;>omega
    obtain⟨md,ih⟩:=xQ n m hm hm1 T us hs post (pre++[x]) k (max d (min x.depth (m - 1))) (by simp[e]) (by rw[List.length_cons] at hk;omega) (by omega);refine⟨md,?_⟩;simp only[List.length_append,List.length_cons,List.length_nil,Nat.zero_add] at ih;rw[show ((pre.length+1:Nat):Int)=(pre.length:Int)+1 by omega] at ih;rw[aC]
    have hfd:jv m d (x::post)=jv m (max d (min x.depth (m - 1))) post:=by
     rw[jv,if_neg hb]
    rw[hfd];generalize min x.depth (m - 1)=q at hc hmx ih;generalize max d q=q2 at hmx ih;simp[kE,kF,h1,h3,h5,h6,hxe,hcl,hxr,w1,hb',hc,hmx,an,kK];exact ih
theorem zC (m:Nat) (hm1:1≤m) (hm:m≤100) (hp:bC Tryz.prog (gy (m - 1))):bC Tryz.prog (gy m):=fun args v hv=>by
 have hv0:=hv;unfold gy at hv;dsimp only at hv;split at hv
 ·rename_i x n;split at hv
  ·rename_i t ht;split at hv
   ·rename_i hc;obtain⟨rfl,hs⟩:=hc;cases hv;rw[fa ht];have hno:=CK (m - 1) m t.enc (by omega);refine ct (n:=t.size+5) (h':=h0) (b8 (ss:=[gy (m - 1)]) (by simp[hp])) ?_ rfl (by simp[AV.ai,AV.refs,Tm.cT]);rw[kK];have hxe:=Tm.cw t;have hcl:=Tm.cf t;have hxr:=aN t;have hsz:=gR t;have hla:=gq t.args;have hde:=CQ t;have hfe:=Ci m t.args 0;rw[Nat.zero_max,Nat.add_comm (Tm.qK t.args) 1,←hde] at hfe;rw[hxe,hcl] at hno ⊢
    have hr:jv m 0 t.args≤100:=by
     have key:∀(us:List Tm) (d:Nat),d≤100→jv m d us≤100:=by
      intro us
      induction us with
      | nil=>intro d h;exact h
      | cons x r ih=>
        intro d h;unfold jv;split
        ·exact h
        ·exact ih _ (by omega)
     exact key _ 0 (by omega)
    have w2:IntKind.i64.wrap ((jv m 0 t.args:Int)+1)=(jv m 0 t.args:Int)+1:=wrap_i64 (by omega) (by omega)
    have hmn:(if (m:Int) < (jv m 0 t.args:Int)+1 then (m:Int) else (jv m 0 t.args:Int)+1)=((min t.depth m:Nat):Int):=by
     split<;>omega
    obtain⟨md,lp⟩:=xQ (t.size+3) m hm hm1 (.row t.cells) t.args (by omega) t.args [] (t.size+4) 0 rfl (by omega) (by omega);simp only[List.length_nil,show ((0:Nat):Int)=0 from rfl,kF] at lp;rw[hcl] at lp
    have ha:(t.cp=.aw∧t.args=[])∨t.cp=.sl (t.args.map Tm.enc):=by
     cases t with
     | nl k n s=>exact .inl ⟨rfl,rfl⟩
     | mk k n s us=>exact .inr rfl
    generalize t.args=us at *;generalize t.cp=a at *;rcases ha with⟨rfl,rfl⟩ | rfl
    ·simp[jv] at w2 hmn;simp[vP,BM,kF,kE,aC,hno,kK,w2,hmn]
    ·have h5:AV.ai (us.map Tm.enc)=0:=bN _;simp[vP,BM,kF,hno,kK,w2,hmn,lp,h5]
   ·cases hv
  ·cases hv
 ·cases hv
theorem zL:bC Tryz.prog (gy 0):=fun args v hv=>by
 unfold gy at hv;dsimp only at hv;split at hv
 ·rename_i x n;split at hv
  ·rename_i t ht;split at hv
   ·rename_i hc;obtain⟨rfl,hs⟩:=hc;cases hv;rw[fa ht];refine ct (n:=5) (h':=h0) (b8 (ss:=[]) (by simp)) ?_ rfl (by simp[AV.ai,AV.refs,Tm.cT]);rw[kK];have hxe:=Tm.cw t;have hcl:=Tm.cf t;have hxr:=aN t
    have ha:(t.cp=.aw)∨∃us:List Tm,t.cp=.sl (us.map Tm.enc):=by
     cases t with
     | nl k n s=>exact .inl rfl
     | mk k n s us=>exact .inr ⟨us,rfl⟩
    have w0:IntKind.i64.wrap (-1)=-1:=rfl;have w1:IntKind.i64.wrap (0 - 1)=-1:=rfl;have w2:IntKind.i64.wrap (0+1)=1:=rfl;have w3:IntKind.i64.wrap 1=1:=rfl;rw[hxe,hcl];generalize t.cp=a at *;rcases ha with rfl | ⟨us,rfl⟩
    ·simp[vP,BM,kF,kE,aC,w0,w1,w2,w3]
    ·have h5:AV.ai (us.map Tm.enc)=0:=bN _
     cases us with
     | nil=>simp[vP,BM,kF,kE,aC,w0,w1,w2,w3]
     | cons y r=>
       have h6:AV.ai (r.map Tm.enc)=0:=bN _;have hye:=Tm.cw y;have hyc:=Tm.cf y;have hyr:=aN y;have t1:((0:Int) < (r.length:Int)+1)=True:=eq_true (by omega);simp[vP,BM,kF,kE,aC,w0,w1,w2,w3,h6,hye,hyc,hyr,t1]
   ·cases hv
  ·cases hv
 ·cases hv
theorem uE:∀m,m≤100→bC Tryz.prog (gy m)
 | 0,_=>zL
 | m+1,h=>zC (m+1) (by omega) h (uE m (by omega))
def nP:aR:=⟨60,fun | [v]=>(match jm v with | some t=>if t.size < 1000000000 then some (.int .i64 (min t.depth 65:Nat)) else none | none=>none) | _=>none⟩
theorem n5:nP.f=60:=(rfl)
theorem Gw (t:Tm) (h:t.size < 1000000000):nP.S [t.enc]=some (.int .i64 (min t.depth 65:Nat)):=by
 simp only[nP,fH,if_pos h]
theorem Ga:bC Tryz.prog nP:=fun args v hv=>by
 unfold nP at hv ⊢;dsimp only at hv ⊢;split at hv
 ·rename_i x;split at hv
  ·rename_i t ht;split at hv
   ·rename_i hl;cases hv;rw[fa ht];refine ct (n:=3) (h':=h0) (b8 (ss:=[gy 65]) (by simp[uE 65 (by omega)])) ?_ rfl (by simp[AV.ai,Tm.cT]);have hc:=vH 65 t hl;have hxe:=Tm.cw t;have hcl:=Tm.cf t;have hxr:=aN t;rw[hxe,hcl] at hc ⊢;rw[show ((65:Nat):Int)=65 from rfl] at hc;simp[Q2,SX,hc,hxr,an,kK]
   ·cases hv
  ·cases hv
 ·cases hv
mutual
def Tm.gV:Tm→Nat
 | .nl _ _ s=>1+s.length
 | .mk _ _ s us=>1+s.length+Tm.eZ us
def Tm.eZ:List Tm→Nat
 | []=>0
 | t::r=>t.gV+Tm.eZ r
end
theorem yS (t:Tm):t.gV=1+t.name.length+Tm.eZ t.args:=by cases t<;>rfl
theorem yd:∀a b:List Tm,Tm.eZ (a++b)=Tm.eZ a+Tm.eZ b
 | [],b=>by simp[Tm.eZ]
 | t::r,b=>by simp[Tm.eZ,yd r b];omega
mutual
theorem mg:∀t:Tm,t.size≤t.gV
 | .nl _ _ s=>by simp[Tm.size,Tm.gV]
 | .mk _ _ s us=>by
   have:=vJ us;simp[Tm.size,Tm.gV];omega
theorem vJ:∀l:List Tm,Tm.de l≤Tm.eZ l
 | []=>by simp[Tm.de,Tm.eZ]
 | t::r=>by
   have:=mg t;have:=vJ r;simp[Tm.de,Tm.eZ];omega
end
mutual
def Tm.tD (p:Tm→Bool):Tm→Bool
 | .nl k n s=>p (.nl k n s)
 | .mk k n s us=>p (.mk k n s us)&&Tm.gU p us
def Tm.gU (p:Tm→Bool):List Tm→Bool
 | []=>true
 | t::r=>Tm.tD p t&&Tm.gU p r
end
theorem tu (p:Tm→Bool) (t:Tm):t.tD p=(p t&&Tm.gU p t.args):=by cases t<;>simp[Tm.tD,Tm.args,Tm.gU]
theorem AW (p:Tm→Bool):∀a b:List Tm,Tm.gU p (a++b)=(Tm.gU p a&&Tm.gU p b)
 | [],b=>by simp[Tm.gU]
 | t::r,b=>by simp[Tm.gU,AW p r b,Bool.and_assoc]
def EP (p:Tm→Bool) (x:Tm) (_:Unit):Bool×Unit:=(p x,())
theorem BK (p:Tm→Bool):∀(d:Nat) (rs:List Tm),Tm.de rs < d→(dZ (EP p) d rs ()).1=Tm.gU p rs
 | 0,rs,h=>by omega
 | d+1,[],_=>by simp[dZ,Tm.gU]
 | d+1,x::rs,h=>by
   have hs:=gR x;have h2:=kG x.args rs;simp only[Tm.de] at h;have e:dZ (EP p) (d+1) (x::rs) ()=if p x=true then dZ (EP p) d (x.args++rs) () else (false,()):=rfl
   rw[e];simp only[Tm.gU,tu];by_cases hp:p x=true
   ·rw[if_pos hp,hp,BK p d (x.args++rs) (by omega),AW];simp
   ·simp[hp]
def fR (t:Tm):Bool:=decide (t.size≤2000)&&decide (t.depth≤64)&&t.tD oB
mutual
theorem Ay:∀(us:List Tm) (y:Tm),y ∈ us→y.gV≤Tm.eZ us
 | [],y,h=>by simp at h
 | t::r,y,h=>by
   simp only[Tm.eZ];rcases List.mem_cons.1 h with rfl | h
   ·omega
   ·have:=Ay r y h;omega
end
theorem HC (t:Tm) (hs:t.gV < 1000000000) (ss:List aR) (hss:∀(n:Nat) (x:Tm) (h:aa),x.gV < 1000000000→au (dP ss) (n+1) 62 [x.enc] h=some (.bool (oB x),h)) (n:Nat) (hn:t.size+1≤n+1) (T0:bf):∃Y md',ju 3 1 (cM (aT (au (dP ss) (n+1)) (n+1) eU) fy 3 (n+1) (tE (.fn 62 []) (.vec 2 0 1 4 1)) ⟨3,[.row t.cells,.row t.cells,T0],3,1⟩)=
 some (if t.tD oB then .exit 0 else .ret,if t.tD oB then FM 44 [] else FM 44 [(4,.bool false)],⟨3,[Y,.row t.cells,T0],1,md'⟩):=by
 have hsb:=mg t
 have h:=nh (au (dP ss) (n+1)) (n+1) 62 [] (by simp[AV.ai]) (EP oB) (fun _=>[T0]) t id
  (fun x=>x.gV < 1000000000) (fun x hx y hy=>by have:=yS x;have:=Ay x.args y hy;omega) (fun _=>True) (fun _ _ _ _=>trivial) (fun md=>md=1) (fun md h=>h) (fun md h k hk=>by omega) 1 rfl
  (fun s x R md hx _ _=>hss n x _ hx) (fun s x R md hx _ _=>hss n x _ hx)
  (t.size+1) (n+1) [t] t.cells 1 () 1 (by simp[Tm.de]) hn hn (by simp[Tm.de];omega) (by omega) (by simp) rfl (by simp[aZ];rfl) (by simp[Tm.cells,AV.ai,AV.refs,aN]) (fun x hx=>by simp at hx;subst hx;exact hs) trivial rfl
 obtain⟨⟨Y,md',_,e⟩,_⟩:=h;rw[BK oB _ _ (by simp[Tm.de])] at e;have ea:Tm.gU oB [t]=t.tD oB:=by simp[Tm.gU]
 rw[ea] at e;exact⟨Y,md',e⟩
def nW:aR:=⟨27,fun | [v]=>(match jm v with | some t=>if t.gV < 1000000000 then some (.bool (fR t)) else none | none=>none) | _=>none⟩
theorem dL:nW.f=27:=(rfl)
theorem mG (t:Tm) (h:t.gV < 1000000000):nW.S [t.enc]=some (.bool (fR t)):=by
 simp only[nW,fH,if_pos h]
theorem JM (n:Nat) (x:Tm) (h:aa) (hx:x.gV < 1000000000):au (dP [uK,nP,AO]) (n+1) 62 [x.enc] h=some (.bool (oB x),h):=by
 have hb:=yS x;have ho:=MS x (by omega);have hxe:=Tm.cw x;have hcl:=Tm.cf x;rw[hxe,hcl] at ho ⊢;simp[ho,an,sb,n5,w6]
theorem tA:bC Tryz.prog nW:=fun args v hv=>by
 unfold nW at hv ⊢;dsimp only at hv ⊢;split at hv
 ·rename_i x;split at hv
  ·rename_i t ht;split at hv
   ·rename_i hl;cases hv;rw[fa ht];refine ct (n:=t.size+5) (h':=h0) (b8 (ss:=[uK,nP,AO]) (by simp[KZ,Ga,ML])) ?_ rfl (by simp[AV.ai,Tm.cT]);have hsb:=mg t;have c1:=IG t (by omega);have c2:=Gw t (by omega);have hxe:=Tm.cw t;have hcl:=Tm.cf t;have hxr:=aN t;obtain⟨Y,md',eq⟩:=HC t hl [uK,nP,AO] JM (t.size+2) (by omega) (.row t.cells);rw[hxe,hcl] at c1 c2 ⊢;rw[hcl] at eq;simp only[fy] at eq;unfold fR;by_cases h1:t.size≤2000
    ·have h1':(((vD t:Nat):Int)≤2000)=True:=eq_true (by rw[Cl];omega);by_cases h2:t.depth≤64
     ·have h2':(((min t.depth 65:Nat):Int)≤64)=True:=eq_true (by omega);generalize min t.depth 65=q at c2 h2'
      cases hb:t.tD oB with
      | true=>
        rw[hb] at eq;simp only[if_true] at eq;simp[ET,Ph,FO,NW,fy,hxr,an,c1,c2,h1,h1',h2,h2',eq,sb,n5,w6]
      | false=>
        rw[hb] at eq;simp only[Bool.false_eq_true,if_false] at eq;simp[ET,Ph,FO,NW,fy,hxr,an,c1,c2,h1,h1',h2,h2',eq,sb,n5,w6]
     ·have h2':(((min t.depth 65:Nat):Int)≤64)=False:=eq_false (by omega);generalize min t.depth 65=q at c2 h2';simp[ET,Ph,hxr,an,c1,c2,h1,h1',h2,h2',sb,n5,w6]
    ·have h1':(((vD t:Nat):Int)≤2000)=False:=eq_false (by rw[Cl];omega);simp[ET,Ph,hxr,an,c1,h1,h1',sb,n5,w6]
   ·cases hv
  ·cases hv
 ·cases hv
mutual
def nC:Tm→Tm→Bool
 | .nl k n s,b=>decide (k=b.kind)&&decide (n=b.num)&&(s==b.name)&&b.args.isEmpty
 | .mk k n s us,b=>decide (k=b.kind)&&decide (n=b.num)&&(s==b.name)&&jA us b.args
def jA:List Tm→List Tm→Bool
 | [],ws=>ws.isEmpty
 | x::r,ws=>match ws with
   | []=>false
   | y::q=>nC x y&&jA r q
end
theorem kH (ws:List Tm):jA [] ws=ws.isEmpty:=by simp[jA]
theorem nj (x y:Tm) (r q:List Tm):jA (x::r) (y::q)=(nC x y&&jA r q):=by simp[jA]
theorem vS (a b:Tm):nC a b=(decide (a.kind=b.kind)&&decide (a.num=b.num)&&(a.name==b.name)&&jA a.args b.args):=by
 cases a with
 | nl k n s=>
   show _=(_&&jA [] b.args);rw[kH,nC];rfl
 | mk k n s us=>
   rw[nC];rfl
theorem y5:∀(us ws:List Tm),us.length≠ws.length→jA us ws=false
 | [],[],h=>absurd rfl h
 | [],_::_,_=>by simp[kH]
 | _::_,[],_=>by simp[jA]
 | x::r,y::q,h=>by
   have:=y5 r q (by simpa using h);rw[nj,this,Bool.and_false]
def jH (N:Nat):aR:=⟨46,fun | [a,b]=>(match jm a,jm b with | some x,some y=>if x.size < N∧y.size < 1000000000 then some (.bool (nC x y)) else none | _,_=>none) | _=>none⟩
theorem gI (N:Nat):(jH N).f=46:=(rfl)
theorem x7 (N:Nat) (x y:Tm) (h:x.size < N∧y.size < 1000000000):(jH N).S [x.enc,y.enc]=some (.bool (nC x y)):=by
 simp only[jH,fH,if_pos h]
def ly:AV→Option (List Tm)
 | .aw=>some []
 | .sl xs=>ji xs
 | _=>none
theorem zI (t:Tm):ly t.cp=some t.args:=by
 cases t with
 | nl k n s=>rfl
 | mk k n s us=>simp[ly,Tm.cp,Tm.args,←jc,kP]
theorem iO {v:AV} {us:List Tm} (h:ly v=some us):(v=.aw∧us=[])∨v=.sl (us.map Tm.enc):=by
 cases v<;>simp[ly] at h
 ·exact .inl ⟨rfl,h⟩
 ·exact .inr (by rw[ph h])
theorem rh {v:AV} {us:List Tm} (h:ly v=some us):v.refs=0:=by
 rcases iO h with⟨rfl,_⟩ | rfl
 ·rfl
 ·simp[AV.refs,bN]
theorem oO:∀{us:List Tm} {y:Tm},y ∈ us→y.size≤Tm.de us
 | t::r,y,h=>by
   simp only[Tm.de];rcases List.mem_cons.1 h with rfl | h
   ·omega
   ·have:=oO h;omega
theorem At (n N:Nat) (us ws:List Tm) (hl:us.length=ws.length) (hN:N≤1000000000) (h1:Tm.de us < N) (h2:Tm.de ws < 1000000000):∀(post postw pre prew:List Tm) (k:Nat),us=pre++post→ws=prew++postw→pre.length=prew.length→post.length < k→
 ju 0 0 (cM (aT (au (dP [jH N]) (n+1)) (n+1) tO) qM 0 k (Qv (.sl (ws.map Tm.enc)) (.fn 46 []) (.sl (us.map Tm.enc)) (.int .i64 us.length) (.int .i64 pre.length)) ⟨0,[],0,0⟩)=
  some (if jA post postw then .exit 0 else .ret,if jA post postw then FM 32 [] else FM 32 [(6,.bool false)],⟨0,[],0,0⟩)
 | [],[],pre,prew,k+1,e,e2,hp,_=>by
   simp at e;subst e;have h5:AV.ai (us.map Tm.enc)=0:=bN _;have h6:AV.ai (ws.map Tm.enc)=0:=bN _;simp[aC,tO,h5,h6,kH]
 | [],y::postw,pre,prew,k,e,e2,hp,_=>by
   rw[e,e2] at hl;simp at hl;omega
 | x::post,[],pre,prew,k,e,e2,hp,_=>by
   rw[e,e2] at hl;simp at hl;omega
 | x::post,y::postw,pre,prew,k+1,e,e2,hp,hk=>by
   have ih:=At n N us ws hl hN h1 h2 post postw (pre++[x]) (prew++[y]) k (by simp[e]) (by simp[e2]) (by simp[hp]) (by rw[List.length_cons] at hk;omega);have hlu:=gq us;have g1:us[pre.length]? =some x:=by rw[e];simp
   have g2:ws[pre.length]? =some y:=by rw[e2,hp];simp
   have h5:AV.ai (us.map Tm.enc)=0:=bN _;have h5w:AV.ai (ws.map Tm.enc)=0:=bN _;have hpl:pre.length < us.length:=by rw[e];simp
   have h6:((pre.length:Int) < (us.length:Int))=True:=eq_true (by omega);have h3:IntKind.i64.wrap ((pre.length:Int)+1)=(pre.length:Int)+1:=wrap_i64 (by omega) (by omega);have hxe:=Tm.cw x;have hxc:=Tm.cf x;have hxr:=aN x;have hye:=Tm.cw y;have hyc:=Tm.cf y;have hyr:=aN y;have hs:=x7 N x y ⟨by have:=oO (us:=us) (y:=x) (by rw[e];simp);omega,by have:=oO (us:=ws) (y:=y) (by rw[e2];simp);omega⟩;rw[hxe,hxc,hye,hyc] at hs;simp only[List.length_append,List.length_cons,List.length_nil,Nat.zero_add] at ih;rw[show ((pre.length+1:Nat):Int)=(pre.length:Int)+1 by omega] at ih;rw[aC]
   cases hsm:nC x y with
   | false=>
     rw[hsm] at hs;simp[tO,g1,g2,h5,h5w,h6,hxe,hxc,hxr,hye,hyc,hyr,hs,an,gI,nj,hsm]
   | true=>
     rw[hsm] at hs;simp[tO,qM,g1,g2,h3,h5,h5w,h6,hxe,hxc,hxr,hye,hyc,hyr,hs,an,gI,nj,hsm];exact ih
def Gc (N:Nat):aR:=⟨85,fun | [a,b,.fn 46 []]=>(match ly a,ly b with | some us,some ws=>if Tm.de us < N∧Tm.de ws < 1000000000 then some (.bool (jA us ws)) else none | _,_=>none) | _=>none⟩
theorem um (N:Nat):(Gc N).f=85:=(rfl)
theorem MQ (N:Nat) (x y:Tm) (h:Tm.de x.args < N∧Tm.de y.args < 1000000000):(Gc N).S [x.cp,y.cp,.fn 46 []]=some (.bool (jA x.args y.args)):=by
 simp only[Gc,zI,if_pos h]
theorem MR (N:Nat) (hN:N≤1000000000) (hp:bC Tryz.prog (jH N)):bC Tryz.prog (Gc N):=fun args v hv=>by
 unfold Gc at hv;dsimp only at hv;split at hv
 ·rename_i a b;split at hv
  ·rename_i us ws ha hb;split at hv
   ·rename_i hc;cases hv;rw[um];have hra:=rh ha;have hrb:=rh hb;refine ct (n:=us.length+4) (h':=h0) (b8 (ss:=[jH N]) (by simp[hp])) ?_ rfl (by simp[AV.ai,AV.refs,hra,hrb])
    have hlen:∀(v:AV) (l:List Tm),ly v=some l→∀(fr:List AV) (h:aa) (o:cI),o.ev fr=v→bE fr h (.uR o)=some (.int .i64 l.length,h):=by
     intro v l hv fr h o ho;rw[eC,ho];rcases iO hv with⟨rfl,rfl⟩ | rfl<;>simp
    have hla:=hlen a us ha;have hlb:=hlen b ws hb;by_cases hl:us.length=ws.length
    ·have hl':((us.length:Int)=(ws.length:Int))=True:=eq_true (by omega);by_cases hne:us=[]
     ·subst hne;have hw:ws=[]:=List.eq_nil_of_length_eq_zero (by simpa using hl.symm);subst hw;rcases iO ha with⟨rfl,_⟩ | rfl<;>rcases iO hb with⟨rfl,_⟩ | rfl<;>simp[Fj,c85,qM,tO,aC,gI,kH]
     ·have ha':a=.sl (us.map Tm.enc):=by
       rcases iO ha with⟨_,h⟩ | h
       ·exact absurd h hne
       ·exact h
      have hb':b=.sl (ws.map Tm.enc):=by
       rcases iO hb with⟨_,h⟩ | h
       ·subst h;exact absurd (List.eq_nil_of_length_eq_zero (by simpa using hl)) hne
       ·exact h
      subst ha' hb';have lp:=At (us.length+2) N us ws hl hN hc.1 hc.2 us ws [] [] (us.length+3) rfl rfl rfl (by omega);simp only[List.length_nil,qM,show ((0:Nat):Int)=0 from rfl] at lp;have h5:AV.ai (us.map Tm.enc)=0:=bN _;have h6:AV.ai (ws.map Tm.enc)=0:=bN _
      cases hsm:jA us ws with
      | true=>
        rw[hsm] at lp;simp only[if_true] at lp;simp[Fj,c85,qM,h5,h6,hl',lp,gI]
      | false=>
        rw[hsm] at lp;simp only[Bool.false_eq_true,if_false] at lp;simp[Fj,c85,qM,h5,h6,hl',lp,gI]
    ·have hl':((us.length:Int)=(ws.length:Int))=False:=eq_false (by omega);simp[Fj,c85,hla,hlb,hra,hrb,hl,hl',gI,y5 us ws hl]
   ·cases hv
  ·cases hv
 ·cases hv
theorem Cb (N:Nat) (hN:N≤1000000000) (hp:bC Tryz.prog (jH N)):bC Tryz.prog (jH (N+1)):=fun args v hv=>by
 unfold jH at hv;dsimp only at hv;split at hv
 ·rename_i a b;split at hv
  ·rename_i x y ha hb;split at hv
   ·rename_i hc;cases hv;rw[gI,fa ha,fa hb];refine ct (n:=5) (h':=h0) (b8 (ss:=[Gc N]) (by simp[MR N hN hp])) ?_ rfl (by simp[AV.ai,Tm.cT]);have s1:=gR x;have s2:=gR y;have hq:=MQ N x y ⟨by omega,by omega⟩;have hxe:=Tm.cw x;have hxc:=Tm.cf x;have hxr:=aN x;have hye:=Tm.cw y;have hyc:=Tm.cf y;have hyr:=aN y;rw[vS,hxe,hxc,hye,hyc];by_cases c1:x.kind=y.kind
    ·by_cases c2:x.num=y.num
     ·cases c3:x.name==y.name with
      | true=>
        cases c4:jA x.args y.args with
        | true=>
          rw[c4] at hq;simp[Bs,c46,c1,c2,c3,hxr,hyr,hq,an,um]
        | false=>
          rw[c4] at hq;simp[Bs,c46,c1,c2,c3,hxr,hyr,hq,an,um]
      | false=>simp[Bs,c46,c1,c2,c3,hxr,hyr,um]
     ·simp[Bs,c46,c1,c2,hxr,hyr,um]
    ·simp[Bs,c46,c1,hxr,hyr,um]
   ·cases hv
  ·cases hv
 ·cases hv
theorem Cn:bC Tryz.prog (jH 0):=fun args v hv=>by
 unfold jH at hv;dsimp only at hv;split at hv
 ·split at hv
  ·split at hv
   ·rename_i hc;omega
   ·cases hv
  ·cases hv
 ·cases hv
theorem wT:∀N,N≤1000000001→bC Tryz.prog (jH N)
 | 0,_=>Cn
 | N+1,h=>Cb N (by omega) (wT N (by omega))
def vF:aR:=⟨16,fun | [a,b]=>(match jm a,jm b with | some x,some y=>if x.gV < 1000000000∧y.gV < 1000000000 then some (.bool (fR x&&fR y&&nC x y)) else none | _,_=>none) | _=>none⟩
theorem jS:vF.f=16:=(rfl)
theorem J9 (x y:Tm) (h:x.gV < 1000000000∧y.gV < 1000000000):vF.S [x.enc,y.enc]=some (.bool (fR x&&fR y&&nC x y)):=by
 simp only[vF,fH,if_pos h]
theorem J1:bC Tryz.prog vF:=fun args v hv=>by
 unfold vF at hv ⊢;dsimp only at hv ⊢;split at hv
 ·rename_i a b;split at hv
  ·rename_i x y ha hb;split at hv
   ·rename_i hc;cases hv;rw[fa ha,fa hb];refine ct (n:=5) (h':=h0) (b8 (ss:=[nW,jH 1000000000]) (by simp[tA,wT 1000000000 (by omega)])) ?_ rfl (by simp[AV.ai,Tm.cT]);have b1:=mg x;have b2:=mg y;have g1:=mG x hc.1;have g2:=mG y hc.2;have hq:=x7 1000000000 x y ⟨by omega,by omega⟩;have hxe:=Tm.cw x;have hxc:=Tm.cf x;have hxr:=aN x;have hye:=Tm.cw y;have hyc:=Tm.cf y;have hyr:=aN y;rw[hxe,hxc] at g1 hq ⊢;rw[hye,hyc] at g2 hq ⊢
    cases e1:fR x with
    | false=>
      rw[e1] at g1;simp[FK,Pw,g1,hxr,hyr,an,dL,gI]
    | true=>
      rw[e1] at g1
      cases e2:fR y with
      | false=>
        rw[e2] at g2;simp[FK,Pw,g1,g2,hxr,hyr,an,dL,gI]
      | true=>
        rw[e2] at g2
        cases e3:nC x y with
        | false=>
          rw[e3] at hq;simp[FK,Pw,g1,g2,hq,hxr,hyr,an,dL,gI]
        | true=>
          rw[e3] at hq;simp[FK,Pw,g1,g2,hq,hxr,hyr,an,dL,gI]
   ·cases hv
  ·cases hv
 ·cases hv
end Go.Proofs.YtjmeonoabiliiaaGreatDoor

/- slices.Backward's closure: its contract. -/
namespace Go.Proofs.YtjmeonoabiliiaaGreatDoor
open Go Go.RowKit Go.Shelf
attribute [local go_sem] Oper.semAt_some
def xh {len:Nat} (xs:List (Fin len)):Prop:=∀j (h:j < xs.length),(xs[j]).1+j+1=len
theorem Ic (F:Fence) (n:Nat) (h108:F.fn 108) (hro:F.round=none) (hn:1≤n) (l b o b2 o2 len cap:Nat) (hlen:len≤9223372036854775807) (vs:Nat→Nat→Value) (J Jx:List (Fin len)→World→Prop)
 (hY:∀pre x W,J pre W→pre.length < len→YieldAt F (n - 1) Tryz.prog l #[.int .i64 (x.1:Int),.agg #[vs x.1 0,vs x.1 1,vs x.1 2,vs x.1 3]] W fun e W'=>
  (e=.returned (.bool true)∧J (pre++[x]) W'∧(W'.heap[b]? =W.heap[b]?∧W'.heap[b2]? =W.heap[b2]?))∨(e=.returned (.bool false)∧Jx (pre++[x]) W'))
 (W:World) (hb:W.cell? ⟨b,o,none⟩=some (.slice (some ⟨b2,o2,none⟩) len cap)) (hc:∀k j,k < len→j < 4→W.cell? ⟨b2,o2+(k*4+j),none⟩=some (vs k j)) (h0:J [] W):
 CallsIn F n Tryz.prog 108 #[.func (.yield l) #[] #[],.pointer (some ⟨b,o,none⟩)] W fun e W'=>(∃v,e=.returned v)∧
  ((∃ys,(xh ys∧ys.length=len)∧J ys W')∨(∃pre,True∧Jx pre W')):=by
 refine callsIn_of_wp Tryz.func108 rfl h108 ?_ hro;simp only[Tryz.ntmps108,List.size_toArray,List.length_cons,List.length_nil,Nat.reduceAdd,Nat.reduceSub,Array.replicate_succ,Array.replicate_zero,List.push_toArray,List.append_toArray,List.nil_append,List.cons_append]
 gi_wp2
 gi_loopw [3] (fun i wr=>∃pre:List (Fin len),xh pre∧pre.length≤len∧i=.int .i64 ((len:Int) - 1 - pre.length)∧J pre wr∧(wr.heap[b]? =W.heap[b]?∧wr.heap[b2]? =W.heap[b2]?))
  (fun i _=>(intOf i+1).toNat)
 case atStart=>exact⟨[],fun j h=>by simp at h,Nat.zero_le _,by simp,h0,rfl,rfl⟩
 case round=>
  obtain⟨pre,hp,hk,rfl,hJs,hs1,hs2⟩:=hrel
  have hbr:wr.cell? ⟨b,o,none⟩=some (.slice (some ⟨b2,o2,none⟩) len cap):=by
   rw[←hb];unfold World.cell?;rw[hs1]
  by_cases hlt:pre.length < len
  ·obtain⟨m,hm⟩:∃m,m=len - 1 - pre.length:=⟨_,rfl⟩
   have hml:m < len:=by omega
   have hi:(len:Int) - 1 - (pre.length:Int)=(m:Int):=by omega
   rw[hi];clear hi
   have hcr:∀j,j < 4→wr.cell? ⟨b2,o2+m*4+j,none⟩=some (vs m j):=fun j hj=>by
    rw[←hc m j hml hj];unfold World.cell?;rw[hs2,Nat.add_assoc]
   have c0:wr.cell? ⟨b2,o2+m*4,none⟩=some (vs m 0):=hcr 0 (by omega);have c1:=hcr 1 (by omega);have c2:=hcr 2 (by omega);have c3:=hcr 3 (by omega);have hmi:(m:Int) < (len:Int):=by omega
   have hnext:J pre wr→xh (pre++[⟨m,hml⟩])∧(pre++[(⟨m,hml⟩:Fin len)]).length≤len∧(m:Int) - 1=(len:Int) - 1 - (pre++[(⟨m,hml⟩:Fin len)]).length:=fun _=>by
    refine⟨fun j hj=>?_,by simp;omega,by simp;omega⟩;by_cases h:j < pre.length
    ·rw[List.getElem_append_left h];exact hp j h
    ·have:j=pre.length:=by simp at hj;omega
     subst this;simp;omega
   clear hm;obtain⟨fn,tmps,assign,body,hy,hR⟩:=hY pre ⟨m,hml⟩ wr hJs hlt;dsimp only at hy
   gi_wp2
   refine hR.mono ?_;rintro e W3 (⟨rfl,hJ3,hk3,hk4⟩ | ⟨rfl,hJx3⟩)
   ·gi_wp2
    go_roundw
    case rel=>
     obtain⟨n1,n2,n3⟩:=hnext hJs;exact⟨_,n1,n2,by rw[n3],hJ3,hk3.trans hs1,hk4.trans hs2⟩
    case measure=>simp[intOf]
   ·gi_wp2
    refine bodyPost_ret (results_none rfl _ _ _) rfl ?_;exact⟨⟨_,rfl⟩,.inr ⟨_,trivial,hJx3⟩⟩
  ·have hi:(len:Int) - 1 - (pre.length:Int)=-1:=by omega
   rw[hi]
   gi_wp2
   go_end0
   exact⟨⟨_,rfl⟩,.inl ⟨pre,⟨hp,by omega⟩,hJs⟩⟩
theorem zg (F:Fence) (n:Nat) (h108:F.fn 108) (hro:F.round=none) (l b o:Nat) (ad:Option Addr) (cap:Nat) {len:Nat} (J:List (Fin len)→World→Prop)
 (W:World) (hb:W.cell? ⟨b,o,none⟩=some (.slice ad 0 cap)) (h0:J [] W):
 CallsIn F n Tryz.prog 108 #[.func (.yield l) #[] #[],.pointer (some ⟨b,o,none⟩)] W fun e W'=>(∃v,e=.returned v)∧J [] W':=by
 refine callsIn_of_wp Tryz.func108 rfl h108 ?_ hro;simp only[Tryz.ntmps108,List.size_toArray,List.length_cons,List.length_nil,Nat.reduceAdd,Nat.reduceSub,Array.replicate_succ,Array.replicate_zero,List.push_toArray,List.append_toArray,List.nil_append,List.cons_append]
 gi_wp2
 gi_loopw [3] (fun i wr=>i=.int .i64 (-1)∧J [] wr)
  (fun _ _=>0)
 case atStart=>exact⟨rfl,h0⟩
 case round=>
  obtain⟨rfl,hJs⟩:=hrel
  gi_wp2
  go_end0
  exact⟨⟨_,rfl⟩,hJs⟩
theorem DB (n:Nat) (hn:1≤n) (b o len:Nat) (hlen:len≤9223372036854775807) (vs:Nat→Nat→Value) {csl:Value} {Kp:World→World→Prop} (W0:World) (hb:W0.cell? ⟨b,o,none⟩=some csl) (hbl:b < W0.heap.size)
 (hsl:(∃ad cap,csl=.slice ad 0 cap∧len=0)∨∃b2 o2 cap,csl=.slice (some ⟨b2,o2,none⟩) len cap∧b2 < W0.heap.size∧(∀A B,Kp A B→B.heap[b2]? =A.heap[b2]?)∧∀k j,k < len→j < 4→W0.cell? ⟨b2,o2+(k*4+j),none⟩=some (vs k j))
 (hKp:∀A B,Kp A B→B.heap[b]? =A.heap[b]?):
 SeqStopsK Fence.wide n Tryz.prog 108 #[.pointer (some ⟨b,o,none⟩)] (fun x:Fin len=>#[.int .i64 (x.1:Int),.agg #[vs x.1 0,vs x.1 1,vs x.1 2,vs x.1 3]]) Kp (fun ys=>xh ys∧ys.length=len) (fun _=>True) len W0:=by
 intro l J Jx W hW _ _ hY h0;have hb':W.cell? ⟨b,o,none⟩=some csl:=(hW.cell (p:=⟨b,o,none⟩) hbl).trans hb;rcases hsl with⟨ad,cap,rfl,rfl⟩ | ⟨b2,o2,cap,rfl,hb2,hk2,hc⟩
 ·exact (zg Fence.wide n trivial rfl l b o ad cap J W hb' h0).mono fun e W' ⟨he,hj⟩=>⟨he,.inl ⟨[],⟨fun j h=>by simp at h,rfl⟩,hj⟩⟩
 ·refine Ic Fence.wide n trivial rfl hn l b o b2 o2 len cap hlen vs J Jx (fun pre x W1 hJ hl=>?_) W hb' (fun k j hk hj=>(hW.cell (p:=⟨b2,o2+(k*4+j),none⟩) hb2).trans (hc k j hk hj)) h0;obtain⟨fn,tmps,assign,body,e1,e2⟩:=hY pre x W1 hJ hl;refine⟨fn,tmps,assign,body,e1,e2.mono fun e W' h=>?_⟩;rcases h with⟨h1,h2,h3⟩ | h
  ·exact .inl ⟨h1,h2,hKp _ _ h3,hk2 _ _ h3⟩
  ·exact .inr h
end Go.Proofs.YtjmeonoabiliiaaGreatDoor

namespace Go.Proofs.YtjmeonoabiliiaaGreatDoor
open Go Sz
def dH:List Tm→Tm→Tm
 | [],t=>t
 | x::r,t=>.mk 2 0 [46] [x,dH r t]
theorem BH (A:AV) (hA:A.refs=0) (hb:basic A=true):au (dP []) 3 66 [A] h0=some (.fn 108 [.ptr 0 0],⟨1,[.row [A]],0,0⟩):=by
 have h1:=fun (h:aa) (n0 d:Nat)=>tL (h:=h) (n0:=n0) (d:=d) hb
 have h2:=lq hb;simp[SB,S2,h1,h2,hA]
def AG:aR:=⟨66,fun | [.aw]=>some (.fn 108 [.ip [.aw]]) | [.sl xs]=>some (.fn 108 [.ip [.sl xs]]) | _=>none⟩
theorem Fv:AG.f=66:=(rfl)
theorem KN:bC Tryz.prog AG:=fun args v hv=>by
 unfold AG at hv ⊢;dsimp only at hv ⊢;split at hv
 ·cases hv;exact Az (b8 (ss:=[]) (by simp)) (BH _ rfl rfl) rfl rfl
 ·cases hv;exact Az (b8 (ss:=[]) (by simp)) (BH _ rfl rfl) rfl rfl
 ·cases hv
theorem KU (A:AV) (h:A=.aw∨∃xs,A=.sl xs):AG.S [A]=some (.fn 108 [.ip [A]]):=by
 rcases h with rfl | ⟨xs,rfl⟩<;>rfl
def Py:bF:=.aD [⟨(some 3),.op (.box (.tmp 1)),none⟩,⟨(some 4),.op (.box (.const (.agg [(.int .i64 0),(.int .i64 0),(.str []),.aw]))),none⟩]
def OO:bF:=.aD [⟨(some 7),.op (.lZ (.tmp 0)),none⟩,⟨(some 8),.call 66 [(.tmp 7)],none⟩]
def O0:bF:=.block 1 (.aD [⟨(some 11),.op (.ld (some 4) (.tmp 6)),none⟩,⟨(some 12),.op (.ld (some 4) (.tmp 3)),none⟩,
 ⟨(some 13),.op (.tQ 4 2 [(.int .i64 0),(.int .i64 0),(.str []),.aw,(.int .i64 0),(.int .i64 0),(.str []),.aw] [(0,(.tmp 11)),(1,(.tmp 12))]),none⟩,
 ⟨(some 14),.call 47 [(.const (.str [46])),(.tmp 13)],none⟩,⟨none,.op (.st 4 (.tmp 3) (.tmp 14)),none⟩])
def Oh:bF:=.seq (.aD [⟨(some 15),.op (.ld (some 4) (.tmp 3)),none⟩,⟨none,.op (.st 4 (.tmp 4) (.tmp 15)),none⟩]) (.ret (mk 16 [4]))
def zT:List AV:=[.int .i64 0,.int .i64 0,.str [],.aw]
def K8:List aR:=[rO,AG]
theorem Oz:∀s ∈ K8,bC Tryz.prog s:=by simp[K8,rL,KN]
def AX (A:AV) (t:Tm):List AV:=FM 16 [(8,.fn 108 [.ip [A]]),(7,A),(4,.ptr 1 0),(3,.ptr 0 0),(0,A),(1,t.enc)]
theorem IK (A:AV) (t:Tm):aT (au (dP K8) 3) 3 Py (FM 16 [(0,A),(1,t.enc)]) h0=some (.normal,FM 16 [(4,.ptr 1 0),(3,.ptr 0 0),(0,A),(1,t.enc)],⟨2,[.row zT,.row t.cells],0,0⟩):=by
 have e:=t.cw;have r0:=aN t;simp[Py,e,Tm.cells,zT,r0]
theorem IT (A:AV) (h:A=.aw∨∃xs,A=.sl xs) (t:Tm):aT (au (dP K8) 3) 3 OO (FM 16 [(4,.ptr 1 0),(3,.ptr 0 0),(0,A),(1,t.enc)]) ⟨2,[.row zT,.row t.cells],0,0⟩=some (.normal,AX A t,⟨2,[.row zT,.row t.cells],0,0⟩):=by
 have g:=KU A h;have fz:∀(h:aa) (n0 d:Nat),hO h n0 (d+1) A=some (A,[]):=fun h' _ _=>by rcases h with rfl | ⟨xs,rfl⟩<;>rfl
 simp[OO,K8,a6,Fv,fz,g,AX]
theorem JI (A:AV) (t x u:Tm) (i:Nat):aT (au (dP K8) 3) 3 O0 ((((AX A t).set 9 (.int .i64 (i:Int))).set 10 x.enc).set 6 (.ip x.enc.cells)) ⟨2,[.row zT,.row u.cells],2,2⟩=
 some (.normal,FM 16 [(14,(Tm.mk 2 0 [46] [x,u]).enc),(13,.vec 2 0 2 4 2),(12,u.enc),(11,x.enc),(6,.ip x.enc.cells),(10,x.enc),(9,.int .i64 (i:Int)),(8,.fn 108 [.ip [A]]),(7,A),(4,.ptr 1 0),(3,.ptr 0 0),(0,A),(1,t.enc)],⟨3,[.dead,.row zT,.row (Tm.mk 2 0 [46] [x,u]).cells],2,0⟩):=by
 have ex:=x.cw;have eu:=u.cw;have r1:=aN x;have r2:=aN u;have cs:=iq [46] [x,u] (by simp);have c1:=lq (nf x);have c2:=lq (nf u);have ec:(cb [46] [x,u]).enc=.agg [.int .i64 2,.int .i64 0,.str [46],.sl [x.enc,u.enc]]:=by simp[cb,Tm.enc,Tm.pI]
 have em:(Tm.mk 2 0 [46] [x,u]).enc=.agg [.int .i64 2,.int .i64 0,.str [46],.sl [x.enc,u.enc]]:=by simp[Tm.enc,Tm.pI]
 have k1:(Tm.mk 2 0 [46] [x,u]).kind=2:=rfl;have k2:(Tm.mk 2 0 [46] [x,u]).num=0:=rfl;have k3:(Tm.mk 2 0 [46] [x,u]).name=[46]:=rfl;have k4:(Tm.mk 2 0 [46] [x,u]).cp=.sl [x.enc,u.enc]:=rfl;rw[ec] at cs;simp only[List.map_cons,List.map_nil,ex,eu,Tm.cells] at cs;have f1:=fun (h:aa) (n0 d:Nat)=>an h n0 d x
 have f2:=fun (h:aa) (n0 d:Nat)=>an h n0 d u
 simp[O0,K8,AX,Kj,a6,Fv,ex,eu,r1,r2,f1,f2,Tm.cells,cs,c1,c2,AV.cells,em,k1,k2,k3,k4]
theorem IF (A:AV) (t u:Tm):aT (au (dP K8) 3) 3 Oh (AX A t) ⟨2,[.row zT,.row u.cells],2,2⟩=some (.ret,FM 16 [(4,.ptr 1 0)],⟨2,[.row u.cells,.row u.cells],2,1⟩):=by
 have eu:=u.cw;have r2:=aN u;simp[Oh,AX,eu,r2,Tm.cells,zT]
end Go.Proofs.YtjmeonoabiliiaaGreatDoor

namespace Go.Proofs.YtjmeonoabiliiaaGreatDoor
open Go Go.RowKit Sz
variable {X:World→Prop}
theorem enters (f:Nat) {fn:Func} (hfn:Tryz.prog.funcs[f]? =some fn) (hname:(fn.name== "runtime.NumGoroutine")=false) (hbody:fn.body.isSome=true) (cargs:Array Value) (w:World):(callFunc f cargs).run Tryz.prog w=.ok (.enter f cargs) w:=by
 obtain⟨c,hc⟩:=Option.isSome_iff_exists.1 hbody;have hne:¬ fn.name= "runtime.NumGoroutine" :=by simpa using hname
 simp[callFunc,hfn,hne,hc]
theorem Pl:∃i z,Tryz.prog.info? 31=some i∧i.zero=some z∧z.cells.size=i.size∧i.size=4:=by
 have h:(Tryz.prog.info? 31).map (fun i=>(i.zero.map (·.cells.size),i.size))=some (some 4,4):=by kernel_rfl
 obtain⟨i,hi,e⟩:=Option.map_eq_some_iff.1 h;simp only[Prod.mk.injEq,Option.map_eq_some_iff] at e;obtain⟨⟨z,hz,hzs⟩,hs⟩:=e;exact⟨i,z,hi,hz,by omega,hs⟩
mutual
theorem Tm.dY:∀t:Tm,t.enc.dY=true
 | .nl k n s=>rfl
 | .mk k n s us=>by
   have:=Tm.kh us;simp[Tm.enc,AV.dY,AV.kh,this]
theorem Tm.kh:∀l:List Tm,AV.oG (Tm.pI l)=true
 | []=>rfl
 | t::r=>by
   have h1:=Tm.dY t;have h2:=Tm.kh r;have h3:t.enc.cells.isEmpty=false:=by rw[t.cw];rfl
   simp[Tm.pI,AV.oG,h1,h2,h3]
end
theorem Tm.JA (t:Tm):∀v ∈ t.cells,v.dY=true:=by
 have h:=t.dY;rw[t.cw] at h;intro v hv;obtain⟨j,hj,rfl⟩:=List.getElem_of_mem hv;exact iI (by simpa[AV.dY] using h) j hj
theorem Ia {a b:List AV} {w m id:Nat}:live ⟨2,[.row a,.row b],w,m⟩ id↔id < 2:=by
 refine⟨fun⟨o,hg,_⟩=>aa.di hg,fun h=>?_⟩
 match id,h with
 | 0,_=>exact⟨.row b,rfl,fun e=>by cases e⟩
 | 1,_=>exact⟨.row a,rfl,fun e=>by cases e⟩
theorem Sv {a b cs:List AV} {w m id:Nat} (h:(⟨2,[.row a,.row b],w,m⟩:aa).get id=some (.row cs)):cs=a∨cs=b:=by
 have:=aa.di h
 match id,this with
 | 0,_=>exact .inr (by cases h;rfl)
 | 1,_=>exact .inl (by cases h;rfl)
theorem RF {a b:List AV} {es:List (AV×AV)} {w m id:Nat} (h:(⟨2,[.row a,.row b],w,m⟩:aa).get id=some (.map es)):False:=by
 have:=aa.di h
 match id,this with
 | 0,_=>cases h
 | 1,_=>cases h
def uI (us:List Tm) (t:Tm) (pre:List (Fin (us.map Tm.enc).length)):Tm:=pre.foldl (fun u x=>.mk 2 0 [46] [us[x.1]'(by simpa using x.2),u]) t
theorem vB (us:List Tm) (t:Tm) (pre:List (Fin (us.map Tm.enc).length)) (x:Fin (us.map Tm.enc).length):uI us t (pre++[x])=.mk 2 0 [46] [us[x.1]'(by simpa using x.2),uI us t pre]:=by
 simp[uI]
theorem GO (us:List Tm) (t:Tm) (xs:List (Fin (us.map Tm.enc).length)) (h1:xh xs) (h2:xs.length=(us.map Tm.enc).length):uI us t xs=dH us t:=by
 have hl:(us.map Tm.enc).length=us.length:=by simp
 have key:∀k,k≤xs.length→uI us t (xs.take k)=dH (us.drop (us.length - k)) t:=by
  intro k
  induction k with
  | zero=>intro _;simp[uI,dH]
  | succ k ih=>
    intro hk;have hx:=h1 k (by omega);rw[List.take_succ_eq_append_getElem (by omega),vB,ih (by omega)];have hlt:us.length - (k+1) < us.length:=by omega
    rw[List.drop_eq_getElem_cons hlt];have e1:us.length - (k+1)+1=us.length - k:=by omega
    have e2:(xs[k]).1=us.length - (k+1):=by omega
    simp only[e1,dH,e2]
 have:=key xs.length (Nat.le_refl _);rw[List.take_length,h2,hl,Nat.sub_self,List.drop_zero] at this;exact this
theorem Eo {φ:dp} {h:aa} {w:World} {A:AV} {us:List Tm} (hA:(A=.aw∧us=[])∨A=.sl (us.map Tm.enc)) {csl:Value} (hv:dK φ h w A csl):
 ∃vs:Nat→Nat→Value,(∀j (hj:j < (us.map Tm.enc).length),dK φ h w (us.map Tm.enc)[j] (.agg #[vs j 0,vs j 1,vs j 2,vs j 3]))∧
   ((∃ad cap,csl=.slice ad 0 cap∧(us.map Tm.enc).length=0)∨∃b2 o2 cap,csl=.slice (some ⟨b2,o2,none⟩) (us.map Tm.enc).length cap∧Pr φ h w b2∧∀k j,k < (us.map Tm.enc).length→j < 4→w.cell? ⟨b2,o2+(k*4+j),none⟩=some (vs k j)):=by
 rcases hA with⟨rfl,rfl⟩ | rfl
 ·obtain⟨ad,rfl⟩:=hv.jX;exact⟨fun _ _=>default,fun j hj=>by simp at hj,.inl ⟨ad,0,rfl,rfl⟩⟩
 ·rcases hv.nU with⟨ad,cap,e1,rfl⟩ | ⟨b2,o2,cap,sz,vs,rfl,hp,hcap,_,h1,hsz,hcell,hval⟩
  ·refine⟨fun _ _=>default,fun j hj=>?_,.inl ⟨ad,cap,rfl,by rw[e1];rfl⟩⟩;rw[e1] at hj;simp at hj
  ·have hs4:∀k,k < (us.map Tm.enc).length→sz=4:=fun k hk=>by
    have:=hsz k hk;rw[List.getElem_map,Tm.cw] at this;simpa[AV.cells?,Tm.cells] using this.symm
   refine⟨vs,fun j hj=>?_,.inr ⟨b2,o2,cap,rfl,hp,fun k j hk hj=>?_⟩⟩
   ·have:=hval j hj;rw[List.getElem_map,Tm.cw] at this ⊢;refine .agg _ _ rfl (fun k=>?_) fun k hk=>?_
    ·match k with
     | 0=>exact h1 j 0
     | 1=>exact h1 j 1
     | 2=>exact h1 j 2
     | 3=>exact h1 j 3
     | k+4=>rfl
    ·have hk4:k < 4:=hk;have:=this k hk
     match k,hk4 with
     | 0,_=>exact this
     | 1,_=>exact this
     | 2,_=>exact this
     | 3,_=>exact this
   ·have e:=hs4 k hk;subst e;have:=hcell k j hk hj;rw[Nat.add_assoc] at this;exact this
theorem Ei (us:List Tm) (t:Tm) (A:AV) (hA:(A=.aw∧us=[])∨A=.sl (us.map Tm.enc)) (hl:us.length < 1000000000000) {φ:dp} {w:World} {cargs:Array Value} (hr:HR φ h0 w) (hG:fv Tryz.prog X φ h0 w) (ha:iv φ h0 w [A,t.enc] cargs):
 Calls Tryz.prog 33 cargs w (iu φ h0 w (dH us t).enc ⟨2,[.row (dH us t).cells,.row (dH us t).cells],2,1⟩):=by
 obtain⟨hC,hCL⟩:=rS (mI (X:=X) (ss:=K8) fun s hs=>(Oz s hs).lift) 3;have hA':A=.aw∨∃xs,A=.sl xs:=hA.imp (·.1) fun h=>⟨_,h⟩
 have hsz:cargs.size=2:=ha.1;have hfl:(AX A t).length=16:=by simp[AX,FM]
 refine (callsIn_wide (n:=3)).1 ?_;refine callsIn_of_wp_marks Tryz.func33 rfl trivial ?_ rfl;have f0:=C5 ha 16 (by simp);refine wpIn_seq ?_;refine iw (l0:=none) hC hCL mixed 3 _ Py (by kernel_rfl) (IK A t) f0 hr hG fun φ1 a1 w1 f1 r1 x1 d1=>?_
 show Code.wpIn _ _ _ _ _ _ _;refine wpIn_seq (wpIn_seq ?_);refine iw (l0:=none) hC hCL mixed 3 _ OO (by kernel_rfl) (IT A hA' t) f1 r1 (hG.ext x1) fun φ2 a2 w2 f2 r2 x2 d2=>?_
 show Code.wpIn _ _ _ _ _ _ _;refine wpIn_block ?_;obtain⟨r3,x3⟩:=r2.nD 2 2;have f3:=f2.ext x3;have hx:=(x1.trans x2).trans x3;have hG3:=hG.ext hx
 -- the iterator
 have hg8:=f3.2 8;have hg8':dK φ2 ⟨2,[.row zT,.row t.cells],2,2⟩ w2 (.fn 108 [.ip [A]]) (a2.tmps.getD 8 undef):=hg8;obtain⟨cvs,e8,hcs,hcv⟩:=hg8'.w8;have hcv0:=hcv 0 (by simp);obtain⟨b,o,vb,eb,hpb,_,_,hcell,hvb⟩:=(RV.Ej hcv0)
 have hcell0:=hcell 0 (by simp);have hvb0:=hvb 0 (by simp);obtain⟨vs,hEs,hsl⟩:=Eo hA hvb0
 have ecvs:cvs=#[.pointer (some ⟨b,o,none⟩)]:=by
  obtain⟨l⟩:=cvs
  match l,hcs with
  | [c],_=>simpa using eb
 obtain⟨i,z,hi,hz,hzs,his⟩:=Pl;have kp:∀b',Pr φ2 ⟨2,[.row zT,.row t.cells],2,2⟩ w2 b'→∀A' B',Ut φ2 ⟨2,[.row zT,.row t.cells],2,2⟩ w2 A' B'→B'.heap[b']? =A'.heap[b']?:=fun b' hb' A' B' h=>h b' hb'.1 hb'.2.1
 refine zY (X:=X) (C:=au (dP K8) 3) (m:=3) hC hCL mixed (by omega) r3 hG3 f3 (gf:=108) (lb:=#[.pointer (some ⟨b,o,none⟩)]) (by rw[←ecvs];exact e8) (enters 108 Tryz.func108 (by kernel_rfl) rfl) ⟨rfl,rfl,rfl⟩ ⟨rfl,rfl,rfl⟩ hi hz hzs (by rw[hfl];decide) (by rw[hfl];decide) (by rw[hfl];decide) (by decide)
  (Es:=us.map Tm.enc) (vs:=fun j=>#[vs j 0,vs j 1,vs j 2,vs j 3]) hEs (fun v hv=>?_)
  (DB (3 - 1) (by omega) b o (us.map Tm.enc).length (by simp;omega) vs w2 hcell0 hpb.1 (hsl.imp_right fun⟨b2,o2,cap,e1,e2,e3⟩=>⟨b2,o2,cap,e1,e2.1,kp b2 e2,e3⟩) (kp b hpb))
  (acB:=O0) (by kernel_rfl) (fun pre=>⟨2,[.row zT,.row (uI us t pre).cells],2,2⟩) rfl (fun _=>rfl) (fun pre x=>?_) ?_
 ·obtain⟨u,_,rfl⟩:=List.mem_map.1 hv;refine⟨u.cells,u.cw,by rw[his];rfl,?_⟩;have:=u.cT;rw[u.cw] at this;simpa[AV.refs] using this
 ·have hxl:x.1 < us.length:=by simpa using x.2
  have hex:(us.map Tm.enc)[x.1]=(us[x.1]).enc:=by simp
  rw[hex];refine⟨_,_,JI A t us[x.1] (uI us t pre) x.1,Nat.le_refl _,?_,?_,?_,?_⟩
  ·rw[vB];rfl
  ·intro id h;rw[Ia] at h ⊢;exact h
  ·intro id cs h v hv;rcases Sv h with rfl | rfl
   ·simp only[zT,List.mem_cons,List.not_mem_nil,or_false] at hv;rcases hv with rfl | rfl | rfl | rfl<;>rfl
   ·exact Tm.JA _ v hv
  ·intro id es h;exact (RF h).elim
 ·rintro D xs W φ' hD ⟨hdown,hlen⟩ fD rD xD hK;rw[GO us t xs hdown hlen] at *;show Code.wpIn _ _ _ _ _ _ _;refine iw (l0:=none) hC hCL mixed 3 _ Oh (by kernel_rfl) (IF A t (dH us t)) (a:={a2 with defers:={target:=.collected D,args:=#[]}::a2.defers}) fD rD (hG3.ext xD) fun φ4 a4 w4 f4 r4 x4 d4=>?_
  have hd:a4.defers=[{target:=.collected D,args:=#[]}]:=by rw[d4];show _::a2.defers=_;rw[d2,d1]
  show LeavesInM _ _ _ _ a4.tmps _ a4.defers .returning w4;rw[hd]
  have hK4:w4.heap[D]? =some (.deferred (some [])):=by
   refine (x4.pr D ⟨(Array.getElem?_eq_some_iff.1 hK).1,fun id hl e=>?_,fun hgh=>?_⟩).2.trans hK
   ·have hl2:id < 2:=Ia.1 hl;have e1:=xD.uJ id hl2;have e2:=r3.dW (Ia.2 hl2);rw[e1] at e;omega
   ·rw[xD.gh.1] at hgh;have:=(r3.gh D hgh).1;omega
  have hws:=hx.size;refine Nq (rs:=[.cell 4 (some 4)]) hr (by kernel_rfl) f4 r4 ((hx.trans xD).trans x4) hK4 (by omega) (fun id cs h v hv=>?_) (fun id es h=>(RF h).elim) (fun k=>?_) ?_
  ·rcases Sv h with rfl | rfl<;>exact Tm.JA _ v hv
  ·by_cases hk:k < 16
   ·rw[vx _ hk];by_cases h4:k=4
    ·subst h4;rfl
    ·have:lk [(4,AV.ptr 1 0)] k=.undef:=by
      unfold lk;simp[lk,Ne.symm h4]
     rw[this];rfl
   ·have:(FM 16 [(4,AV.ptr 1 0)]).getD k .undef=.undef:=by
     rw[List.getD_eq_getElem?_getD,List.getElem?_eq_none (by rw[jK];omega)];rfl
    rw[this];rfl
  ·rw[(dH us t).cw];rfl
theorem yX (us:List Tm) (t:Tm) (A:AV) (hA:(A=.aw∧us=[])∨A=.sl (us.map Tm.enc)) (hl:us.length < 1000000000000):fX Tryz.prog X 33 [A,t.enc] (dH us t).enc:=
 oX (h':=⟨2,[.row (dH us t).cells,.row (dH us t).cells],2,1⟩) (Tm.cT _) (by
  rcases hA with⟨rfl,_⟩ | rfl<;>simp[AV.ai,AV.refs,Tm.cT]) fun φ w cargs hr hG ha=>.inl ⟨enters 33 Tryz.func33 (by kernel_rfl) rfl _ _,Ei us t A hA hl hr hG ha⟩
def vO:aR:=⟨33,fun
 | [.aw,v]=>(match jm v with | some t=>some t.enc | none=>none)
 | [.sl xs,v]=>(match ji xs,jm v with | some us,some t=>if us.length < 1000000000000 then some (dH us t).enc else none | _,_=>none)
 | _=>none⟩
theorem gC:vO.f=33:=(rfl)
theorem xd (us:List Tm) (t:Tm) (h:us.length < 1000000000000):vO.S [.sl (us.map Tm.enc),t.enc]=some (dH us t).enc:=by
 unfold vO;dsimp only;rw[←jc,kP,fH];exact if_pos h
theorem IY:bC Tryz.prog vO:=fun args v hv=>by
 unfold vO at hv ⊢;dsimp only at hv ⊢;split at hv
 ·split at hv
  ·rename_i t ht;cases hv;rw[fa ht];exact yX [] t .aw (.inl ⟨rfl,rfl⟩) (by simp)
  ·cases hv
 ·split at hv
  ·rename_i us t hu ht;split at hv
   ·rename_i hl;cases hv;rw[fa ht,ph hu];exact yX us t _ (.inr rfl) hl
   ·cases hv
  ·cases hv
 ·cases hv
end Go.Proofs.YtjmeonoabiliiaaGreatDoor

namespace Go.Proofs.YtjmeonoabiliiaaGreatDoor
open Go Sz
end Go.Proofs.YtjmeonoabiliiaaGreatDoor

namespace Go.Proofs.YtjmeonoabiliiaaGreatDoor
open Go Sz Go.RowKit
theorem xi {w w':World} (h:w'=w):Below w.heap.size w w':=h ▸ Below.refl _ _
def ke:aR:=⟨123,fun | [.str s,.str p]=>some (.str (Lib.trimPrefix s p)) | _=>none⟩
theorem jV:ke.f=123:=(rfl)
theorem vZ (s p:List UInt8):ke.S [.str s,.str p]=some (.str (Lib.trimPrefix s p)):=rfl
theorem xp:bC Tryz.prog ke:=fun args v hv=>by
 unfold ke at hv ⊢;dsimp only at hv ⊢;split at hv
 ·rename_i s p;cases hv;exact yz (enters 123 Tryz.func123 rfl rfl) fun w _=>(Tryz.strings_TrimPrefix ⟨s.toArray⟩ ⟨p.toArray⟩ w).mono fun e w' ⟨h1,h2⟩=>⟨by simpa using h1,xi h2⟩
 ·cases hv
def gK:aR:=⟨84,fun | [.str s,.str p]=>some (.bool (Lib.hasPrefix s p)) | _=>none⟩
theorem dE:gK.f=84:=(rfl)
theorem pX (s p:List UInt8):gK.S [.str s,.str p]=some (.bool (Lib.hasPrefix s p)):=rfl
theorem xw:bC Tryz.prog gK:=fun args v hv=>by
 unfold gK at hv ⊢;dsimp only at hv ⊢;split at hv
 ·rename_i s p;cases hv;exact Gg (enters 84 Tryz.func84 rfl rfl) fun w _=>(Tryz.strings_HasPrefix ⟨s.toArray⟩ ⟨p.toArray⟩ w).mono fun e w' ⟨h1,h2⟩=>⟨by simpa using h1,xi h2⟩
 ·cases hv
def kg (c:Nat):List UInt8→Int
 | []=>-1
 | b::r=>if Nat.beq b.toNat c then 0 else match kg c r with | .ofNat n=>.ofNat (n+1) | .negSucc _=>-1
theorem FJ (c:UInt8):∀l,Lib.indexByte l c=kg c.toNat l
 | []=>rfl
 | b::r=>by
   unfold Lib.indexByte kg;rw[FJ c r]
   have e:Nat.beq b.toNat c.toNat=(b==c):=by
    by_cases h:b=c
    ·subst h;simp[Nat.beq_refl]
    ·have h2:(b==c)=false:=by simpa using h
     rw[h2]
     cases h3:Nat.beq b.toNat c.toNat with
     | false=>rfl
     | true=>exact absurd (UInt8.toNat_inj.1 (Nat.eq_of_beq_eq_true h3)) h
   rw[e]
   cases hb:b==c with
   | true=>rfl
   | false=>
     simp only[Bool.false_eq_true,if_false]
     cases h:kg c.toNat r with
     | ofNat n=>
       have:((Int.ofNat n)==-1)=false:=by simp
       rw[this];rfl
     | negSucc n=>
       have hn:n=0:=by
        have:∀l k,kg c.toNat l=.negSucc k→k=0:=fun l=>by
         induction l with
         | nil=>intro k hk;cases hk;rfl
         | cons b r ih=>
           intro k hk;unfold kg at hk;split at hk
           ·cases hk
           ·split at hk
            ·cases hk
            ·cases hk;rfl
        exact this r n h
       subst hn;rfl
def fU:aR:=⟨65,fun | [.str s,.int .u8 c]=>if 0≤c∧c < 256 then some (.int .i64 (kg c.toNat s)) else none | _=>none⟩
theorem aW:fU.f=65:=(rfl)
theorem eQ (s:List UInt8) (c:UInt8):fU.S [.str s,.int .u8 c.toNat]=some (.int .i64 (kg c.toNat s)):=by
 have:c.toNat < 256:=c.toNat_lt;unfold fU;dsimp only;rw[if_pos (by omega),Int.toNat_natCast]
theorem lW:bC Tryz.prog fU:=fun args v hv=>by
 unfold fU at hv ⊢;dsimp only at hv ⊢;split at hv
 ·rename_i s c;split at hv
  ·rename_i hc;cases hv;refine kS (enters 65 Tryz.func65 rfl rfl) fun φ h w cargs hr hG ha=>?_
   obtain⟨cx,cy,rfl,h1,h2⟩:=wB ha;rw[eO h1,int_eq h2];refine (Tryz.strings_IndexByte ⟨s.toArray⟩ c w).mono fun e w' ⟨he,hw⟩=>?_
   refine⟨xi hw,_,he,?_⟩
   have e1:c.toNat.toUInt8.toNat=c.toNat:=by
    show (UInt8.ofNat c.toNat).toNat=_;rw[UInt8.toNat_ofNat'];omega
   rw[FJ,e1];exact .int _ _
  ·cases hv
 ·cases hv
def cm (w:World):Prop:=Lib.TabIs Tryz.prog w "internal/strconv.uint64pow10" .u64 Lib.pow10Tab∧∃te pe,w.cell? ⟨2,0,none⟩=some (.iface te pe)
theorem xM {P:Program} {W:World} {name nm:String} {d:DataW Unit} {rest:List (String×DataW Unit)} {g t:Nat} {ms:Array (String×TypeId)}
 (hg:P.globalNamed name=some g) (hty:(P.globals[g]?).map (·.type)=some t) (ht:P.underlying t=some (.interface ms))
 (h:laidMet P ((name,.iface nm d)::rest) W):∃te pe,W.cell? ⟨g,0,none⟩=some (.iface te pe):=by
 obtain⟨ps,⟨g',t',cs,fuel,p,q,hg',ht',hvar,hd,_,_⟩,_⟩:=h;obtain rfl:=Option.some.inj (hg.symm.trans hg');obtain rfl:=Option.some.inj (hty.symm.trans ht')
 cases fuel with
 | zero=>simp[DataW.trod] at hd
 | succ fuel=>
   have hc:=World.var?_cell hg hvar 0
   match hcs:cs.toList with
   | []=>rw[hcs] at hd;simp[DataW.trod,ht] at hd
   | [v]=>
     have h0:cs[0]? =some v:=by rw[←Array.getElem?_toList,hcs];rfl
     rw[h0] at hc;rw[hcs] at hd
     cases v with
     | iface u v=>exact⟨u,v,hc⟩
     | _=>simp[DataW.trod,ht] at hd
   | v::v'::r=>rw[hcs] at hd;simp[DataW.trod,ht] at hd
theorem JS {φ:dp} {h:aa} {w:World} (hG:fv Tryz.prog cm φ h w):∃te pe,w.cell? ⟨2,0,none⟩=some (.iface te pe):=by
 obtain⟨w1,h1,h2⟩:=hG;obtain⟨te,pe,hc⟩:=h1.2.2;refine⟨te,pe,?_⟩
 have hlt:2 < w1.heap.size:=by
  unfold World.cell? at hc;split at hc
  ·rename_i hb;exact (Array.getElem?_eq_some_iff.1 hb).1
  ·cases hc
 rw[cell?_of_block (h2 2 hlt).2.2];exact hc
theorem wP {φ:dp} {h:aa} {w:World} {x y z:AV} {cargs:Array Value} (ha:iv φ h w [x,y,z] cargs):∃cx cy cz,cargs=#[cx,cy,cz]∧dK φ h w x cx∧dK φ h w y cy∧dK φ h w z cz:=by
 obtain⟨h1,h2⟩:=NU ha;obtain⟨l⟩:=cargs
 match l,h1 with
 | [cx,cy,cz],_=>exact⟨cx,cy,cz,rfl,h2 0 (by simp),h2 1 (by simp),h2 2 (by simp)⟩
def Aa (s:List UInt8):Option AV:=match Lib.parseIntB 64 s with
 | .ok v=>some (.tuple [.int .i64 v,.jt])
 | .range=>some (.tuple [.int .i64 (Lib.intSat 64 s),.iface 217 .undef])
 | _=>none
def xc:aR:=⟨125,fun | [.str s,.int .i64 b,.int .i64 c]=>if b=10∧c=64∧s.length < 281474976710656 then Aa s else none | _=>none⟩
theorem rH:xc.f=125:=(rfl)
theorem HX (s:List UInt8) (h:s.length < 281474976710656):xc.S [.str s,.int .i64 10,.int .i64 64]=Aa s:=if_pos ⟨rfl,rfl,h⟩
theorem HB:eK Tryz.prog cm xc:=fun args v hv=>by
 unfold xc at hv ⊢;dsimp only at hv ⊢;split at hv
 ·rename_i s b c;split at hv
  ·rename_i hn;obtain⟨rfl,rfl,hn⟩:=hn;unfold Aa at hv;split at hv
   ·rename_i v' hp;cases hv;refine kS (enters 125 Tryz.func125 rfl rfl) fun φ h w cargs hr hG ha=>?_
    obtain⟨cx,cy,cz,rfl,h1,h2,h3⟩:=wP ha;rw[eO h1,int_eq h2,int_eq h3];refine (Tryz.strconv_ParseInt_10_at64_ok ⟨s.toArray⟩ (by rw[Lib.size_eq];simp;omega) v' (by simpa using hp) w).mono fun e w' ⟨he,hw⟩=>?_
    refine⟨?_,_,he,?_⟩
    ·rcases hw with rfl | ⟨t,rfl⟩
     ·exact Below.refl _ _
     ·exact Lib.bytesWorld_below _ _ _
    ·refine .tuple _ _ rfl fun j hj=>?_
     match j,hj with
     | 0,_=>exact .int _ _
     | 1,_=>exact .jt
   ·rename_i hp;cases hv;refine kS (enters 125 Tryz.func125 rfl rfl) fun φ h w cargs hr hG ha=>?_
    obtain⟨cx,cy,cz,rfl,h1,h2,h3⟩:=wP ha;rw[eO h1,int_eq h2,int_eq h3];obtain⟨te,pe,hev⟩:=JS hG;refine (Tryz.strconv_ParseInt_10_at64_range ⟨s.toArray⟩ (by rw[Lib.size_eq];simp;omega) (by simpa using hp) _ w hev (.inr ⟨te,pe,rfl⟩)).mono fun e w' ⟨N,he,_,_,hw⟩=>?_
    refine⟨hw,_,he,?_⟩;refine .tuple _ _ rfl fun j hj=>?_
    match j,hj with
    | 0,_=>simpa using (RV.int (φ:=φ) (nx:=h.next) (pr:=Pr φ h w') (w:=w') .i64 (Lib.intSat 64 s))
    | 1,_=>exact .iface _ _ _ (.undef _)
   ·cases hv
  ·cases hv
 ·cases hv
def digits:List UInt8:=[48,49,50,51,52,53,54,55,56,57]
def xX (s:List UInt8):List UInt8:=(s.reverse.dropWhile (digits.contains ·)).reverse.dropWhile (digits.contains ·)
def trimS:aR:=⟨124,fun | [.str s,.str c]=>if s.length < 9223372036854775807∧c=digits then some (.str (xX s)) else none | _=>none⟩
theorem u6:trimS.f=124:=(rfl)
theorem I1 (s:List UInt8) (h:s.length < 9223372036854775807):trimS.S [.str s,.str digits]=some (.str (xX s)):=if_pos ⟨h,rfl⟩
theorem JY:bC Tryz.prog trimS:=fun args v hv=>by
 unfold trimS at hv ⊢;dsimp only at hv ⊢;split at hv
 ·rename_i s c;split at hv
  ·rename_i hl;obtain⟨hl,rfl⟩:=hl;cases hv;refine yz (enters 124 Tryz.func124 rfl rfl) fun w _=>(Any.strings_Trim_laid Tryz.Mo (by kernel_rfl) ⟨s.toArray⟩ ⟨digits.toArray⟩ w (by rw[Lib.size_eq];simp;omega) (by decide) (ascii_of_all (by decide))).mono fun e w' ⟨h1,h2⟩=>⟨?_,h2⟩
   rw[h1];rfl
  ·cases hv
 ·cases hv
end Go.Proofs.YtjmeonoabiliiaaGreatDoor

namespace Go.Proofs.YtjmeonoabiliiaaGreatDoor
open Go Sz
def dB (c:UInt8):Bool:=decide (48≤c.toNat)&&decide (c.toNat≤57)
def eN:List UInt8→Bool
 | []=>true
 | c::r=>dB c&&eN r
@[irreducible] def N4 (acc:Nat) (c:UInt8):Nat:=acc*10+(c.toNat - 48)
theorem LW (acc:Nat) (c:UInt8):N4 acc c=acc*10+(c.toNat - 48):=by unfold N4;rfl
def mX:Nat→List UInt8→Nat
 | acc,[]=>acc
 | acc,c::r=>mX (N4 acc c) r
theorem rQ (acc:Nat):mX acc []=acc:=by rw[mX]
theorem pf (acc:Nat) (c:UInt8) (r:List UInt8):mX acc (c::r)=mX (acc*10+(c.toNat - 48)) r:=by rw[mX,LW]
attribute [irreducible] mX
theorem KL (c:UInt8):digits.contains c=dB c:=by
 have h:∀n:Fin 256,digits.contains (UInt8.ofNat n.1)=dB (UInt8.ofNat n.1):=by decide+kernel
 have:=h ⟨c.toNat,c.toNat_lt⟩;simpa using this
theorem wN:∀{l:List UInt8},eN l=true↔∀c ∈ l,dB c=true
 | []=>by simp[eN]
 | x::r=>by simp[eN,wN (l:=r)]
theorem dropWhile_nil {p:UInt8→Bool}:∀{l:List UInt8},l.dropWhile p=[]↔∀c ∈ l,p c=true
 | []=>by simp
 | x::r=>by
   rw[List.dropWhile_cons];split
   ·rename_i h;rw[dropWhile_nil];simp[h]
   ·rename_i h;simp[h]
theorem yW (s:List UInt8):(xX s=[])↔eN s=true:=by
 unfold xX;have e:(fun c=>digits.contains c)=dB:=funext KL;simp only[e];rw[wN,dropWhile_nil];constructor
 ·intro h c hc;have hs:s.reverse=s.reverse.takeWhile dB++s.reverse.dropWhile dB:=(List.takeWhile_append_dropWhile).symm;have hc':c ∈ s.reverse:=by simpa using hc
  rw[hs,List.mem_append] at hc';rcases hc' with h1 | h1
  ·have key:∀(l:List UInt8),c ∈ l.takeWhile dB→dB c=true:=by
    intro l
    induction l with
    | nil=>simp
    | cons x r ih=>
      rw[List.takeWhile_cons];split
      ·rename_i hx;intro hm;rcases List.mem_cons.1 hm with rfl | hm
       ·exact hx
       ·exact ih hm
      ·simp
   exact key _ h1
  ·exact h c (by simpa using h1)
 ·intro h c hc
  have:c ∈ s:=by
   have h1:c ∈ s.reverse.dropWhile dB:=by simpa using hc
   have:=(List.dropWhile_sublist dB (l:=s.reverse)).subset h1;simpa using this
  exact h c this
theorem zo:∀(l:List UInt8) (acc:Nat),acc≤mX acc l
 | [],acc=>by rw[rQ];exact Nat.le_refl acc
 | c::r,acc=>by have:=zo r (acc*10+(c.toNat - 48));rw[pf];omega
theorem qC (M:Nat) (hM:M≤18446744073709551615):∀(l:List UInt8) (acc:Nat),eN l=true→mX acc l≤M→Lib.parseUintM M acc l=.ok (mX acc l)
 | [],acc,_,_=>by rw[rQ,Lib.parseUintM]
 | c::r,acc,h,hv=>by
   simp only[eN,dB,Bool.and_eq_true,decide_eq_true_eq] at h;have h2:=zo r (acc*10+(c.toNat - 48));rw[pf] at hv ⊢;unfold Lib.parseUintM;rw[if_pos h.1,if_neg (by omega),if_neg (by omega),qC M hM r _ h.2 hv]
def kq (s:List UInt8):Int×Int:=
 let d:=Lib.trimPrefix s [45]
 if d=[] then (0,2) else if eN d=false then (0,2) else match Lib.parseIntB 64 s with | .ok v=>(v,0) | _=>(0,3)
theorem C4 (r:List UInt8):Lib.trimPrefix (45::r) [45]=r:=by
 simp[Lib.trimPrefix,Lib.hasPrefix]
theorem wD (c:UInt8) (r:List UInt8) (h:c≠45):Lib.trimPrefix (c::r) [45]=c::r:=by
 have:Lib.hasPrefix (c::r) [45]=false:=by simp[Lib.hasPrefix,List.isPrefixOf,Ne.symm h]
 simp[Lib.trimPrefix,this]
theorem Kr:Lib.trimPrefix [] [45]=[]:=by decide
theorem RQ {c:UInt8} (h:c≠45):c.toNat≠45:=fun h2=>h (UInt8.toNat_inj.1 h2)
theorem H4 (s:List UInt8) (hr:s≠[]) (hd:eN s=true) (hv:mX 0 s≤9223372036854775807):Lib.parseIntB 64 s=.ok (mX 0 s:Int):=by
 cases s with
 | nil=>exact absurd rfl hr
 | cons c r=>
   have e:=qC 18446744073709551615 (Nat.le_refl _) (c::r) 0 hd (by omega)
   have hc:48≤c.toNat∧c.toNat≤57:=by
    simp only[eN,dB,Bool.and_eq_true,decide_eq_true_eq] at hd;exact hd.1
   unfold Lib.parseIntB Lib.parseUintB;simp only[show (c.toNat=43)=False from eq_false (by omega),show (c.toNat=45)=False from eq_false (by omega),or_false,if_false,hr];rw[show (2 ^ 64 - 1:Nat)=18446744073709551615 by decide,e];simp only[not_false_iff,true_and,false_and,if_false];rw[if_neg (by omega)]
def jM (c:UInt8):Bool:=decide (97≤c.toNat)&&decide (c.toNat≤122)
def jN (c:UInt8):Bool:=(decide (65≤c.toNat)&&decide (c.toNat≤90))||decide (c.toNat=95)
def jy (c:UInt8):Bool:=jM c||jN c||dB c
def GV:List UInt8:=[43,45,42,47,92,94,60,62,61,126,58,46,63,64,35,38,36]
def pF (c:UInt8):Bool:=GV.any fun d=>decide (d.toNat=c.toNat)
def fA (c:UInt8):Bool:=decide (c.toNat=32)||decide (c.toNat=9)||decide (c.toNat=10)||decide (c.toNat=13)
def uq:List UInt8:=[40,41,91,93,123,125,44,124]
def kX (c:UInt8):Bool:=uq.any fun d=>decide (d.toNat=c.toNat)
def runN (p:UInt8→Bool):List UInt8→Nat
 | []=>0
 | c::r=>if p c then runN p r+1 else 0
theorem gQ (p:UInt8→Bool):∀l,runN p l≤l.length
 | []=>Nat.le_refl _
 | c::r=>by
   unfold runN;split
   ·have:=gQ p r;simp;omega
   ·simp
def fj (c:UInt8):Bool:=!decide (c.toNat=10)
def dx:Nat→List UInt8→Nat
 | 0,_=>0
 | _+1,[]=>0
 | n+1,c::r=>if fA c then dx n r+1 else if c.toNat=37 then runN fj (c::r)+dx n ((c::r).drop (runN fj (c::r))) else 0
def jj:List UInt8→Bool
 | []=>false
 | c::r=>decide (c.toNat=46)&&(match r with | []=>true | d::_=>fA d||decide (d.toNat=37))
def j7:List UInt8→Nat
 | []=>0
 | c::r=>if pF c&&!jj (c::r) then j7 r+1 else 0
def ug (d:UInt8):Option UInt8:=if d.toNat=110 then some 10 else if d.toNat=116 then some 9 else if d.toNat=92 then some 92 else if d.toNat=39 then some 39 else none
def eP:Nat→List UInt8→List UInt8→Nat→Option (List UInt8)×Nat
 | 0,_,_,k=>(none,k)
 | _+1,[],_,k=>(none,k)
 | n+1,c::r,acc,k=>
   if c.toNat=39 then (match r with
    | d::r'=>if d.toNat=39 then eP n r' (acc++[39]) (k+2) else (some acc,k+1)
    | []=>(some acc,k+1))
   else if c.toNat < 32∨126 < c.toNat then (none,k)
   else if c.toNat=92 then (match r with
    | d::r'=>(match ug d with | some b=>eP n r' (acc++[b]) (k+2) | none=>(none,k))
    | []=>(none,k))
   else eP n r (acc++[c]) (k+1)
section
variable {n j:Nat} {c d:UInt8} {r acc:List UInt8}
theorem si:eP (n+1) [] acc j=(none,j):=by unfold eP;rfl
theorem xm (hc:c.toNat=39):eP (n+1) [c] acc j=(some acc,j+1):=by unfold eP;rw[if_pos hc]
theorem s9 (hc:c.toNat=39) (hd:d.toNat=39):eP (n+1) (c::d::r) acc j=eP n r (acc++[39]) (j+2):=by
 conv=>lhs;unfold eP
 rw[if_pos hc];dsimp only;rw[if_pos hd]
theorem qQ (hc:c.toNat=39) (hd:¬ d.toNat=39):eP (n+1) (c::d::r) acc j=(some acc,j+1):=by unfold eP;rw[if_pos hc];dsimp only;rw[if_neg hd]
theorem rU (hc:¬ c.toNat=39) (h:c.toNat < 32∨126 < c.toNat):eP (n+1) (c::r) acc j=(none,j):=by unfold eP;rw[if_neg hc,if_pos h]
theorem zM (hc:c.toNat=92):eP (n+1) [c] acc j=(none,j):=by unfold eP;rw[if_neg (by omega),if_neg (by omega),if_pos hc]
theorem tF {b:UInt8} (hc:c.toNat=92) (hd:ug d=some b):eP (n+1) (c::d::r) acc j=eP n r (acc++[b]) (j+2):=by
 conv=>lhs;unfold eP
 rw[if_neg (by omega),if_neg (by omega),if_pos hc];dsimp only;rw[hd]
theorem ui (hc:c.toNat=92) (hd:ug d=none):eP (n+1) (c::d::r) acc j=(none,j):=by
 unfold eP;rw[if_neg (by omega),if_neg (by omega),if_pos hc];dsimp only;rw[hd]
theorem nV (h1:¬ c.toNat=39) (h2:¬ (c.toNat < 32∨126 < c.toNat)) (h3:¬ c.toNat=92):eP (n+1) (c::r) acc j=eP n r (acc++[c]) (j+1):=by
 conv=>lhs;unfold eP
 rw[if_neg h1,if_neg h2,if_neg h3]
theorem zk:∀(n:Nat) (l acc:List UInt8) (j:Nat),l.length < n→(eP n l acc j).2≤j+l.length∧j≤(eP n l acc j).2
 | 0,l,acc,j,h=>by omega
 | n+1,[],acc,j,_=>by rw[si];simp
 | n+1,c::r,acc,j,h=>by
   simp only[List.length_cons] at h ⊢;by_cases h1:c.toNat=39
   ·cases r with
    | nil=>rw[xm h1];simp
    | cons d r'=>
      simp only[List.length_cons] at h ⊢;by_cases h2:d.toNat=39
      ·rw[s9 h1 h2];have:=zk n r' (acc++[39]) (j+2) (by omega);omega
      ·rw[qQ h1 h2];dsimp only;omega
   ·by_cases h2:c.toNat < 32∨126 < c.toNat
    ·rw[rU h1 h2];dsimp only;omega
    ·by_cases h3:c.toNat=92
     ·cases r with
      | nil=>rw[zM h3];simp
      | cons d r'=>
        simp only[List.length_cons] at h ⊢
        cases hd:ug d with
        | none=>rw[ui h3 hd];dsimp only;omega
        | some b=>
          rw[tF h3 hd];have:=zk n r' (acc++[b]) (j+2) (by omega);omega
     ·rw[nV h1 h2 h3];have:=zk n r (acc++[c]) (j+1) (by omega);omega
end
structure Tok where
 kind:Int
 text:List UInt8
 num:Int
 gS:Bool
 at_:Int
 deriving DecidableEq
def Tok.cells (t:Tok):List AV:=[.int .i64 t.kind,.str t.text,.int .i64 t.num,.bool t.gS,.int .i64 t.at_]
def Tok.enc (t:Tok):AV:=.agg t.cells
def rC:Tok:=⟨0,[],0,false,0⟩
def cC:List UInt8→Tok×Nat×Int
 | []=>(rC,0,2)
 | c::r=>
   if jM c then (⟨1,(c::r).take (runN jy (c::r)),0,false,0⟩,runN jy (c::r),0)
   else if jN c then (⟨3,(c::r).take (runN jy (c::r)),0,false,0⟩,runN jy (c::r),0)
   else if dB c then (⟨4,[],(kq ((c::r).take (runN dB (c::r)))).1,false,0⟩,runN dB (c::r),(kq ((c::r).take (runN dB (c::r)))).2)
   else if c.toNat=39 then (match eP (r.length+1) r [] 1 with
    | (some t,k)=>(⟨2,t,0,false,0⟩,k,0)
    | (none,k)=>(rC,k,2))
   else if jj (c::r) then (⟨6,[],0,false,0⟩,1,0)
   else if pF c then (⟨1,(c::r).take (j7 (c::r)),0,false,0⟩,j7 (c::r),0)
   else if c.toNat=59∨c.toNat=33 then (⟨1,[c],0,false,0⟩,1,0)
   else (match r with
    | d::_=>if (c.toNat=91∧d.toNat=93)∨(c.toNat=123∧d.toNat=125) then (⟨1,[c,d],0,false,0⟩,2,0) else if kX c then (⟨5,[c],0,false,0⟩,1,0) else (rC,0,2)
    | []=>if kX c then (⟨5,[c],0,false,0⟩,1,0) else (rC,0,2))
def oA:Nat→List UInt8→Nat→List Tok→List Tok×Int×Int
 | 0,_,j,_=>([],j,3)
 | n+1,s,j,acc=>
   if s.length≤j then (acc,s.length,0)
   else if (cC (s.drop j)).2.2≠0 then ([],j,(cC (s.drop j)).2.2)
   else if (((cC (s.drop j)).1.kind=1∨(cC (s.drop j)).1.kind=2)∧64 < (cC (s.drop j)).1.text.length)∨acc.length=1024 then ([],j,3)
   else oA n s (j+(cC (s.drop j)).2.1+dx (s.length+1) (s.drop (j+(cC (s.drop j)).2.1)))
    (acc++[⟨(cC (s.drop j)).1.kind,(cC (s.drop j)).1.text,(cC (s.drop j)).1.num,decide ((s[j+(cC (s.drop j)).2.1]?.map UInt8.toNat)=some 40),j⟩])
def dJ (s:List UInt8):List Tok×Int×Int:=if 4096 < s.length then ([],4096,3) else oA (s.length+1) s (dx (s.length+1) s) []
theorem jZ {p:UInt8→Bool} {c:UInt8} {r:List UInt8} (h:p c=true):1≤runN p (c::r):=by unfold runN;rw[if_pos h];omega
theorem qT:∀l,j7 l≤l.length
 | []=>Nat.le_refl _
 | c::r=>by
   unfold j7;split
   ·have:=qT r;simp;omega
   ·simp
theorem iH:∀l:List UInt8,(cC l).2.1≤l.length∧((cC l).2.2=0→1≤(cC l).2.1)
 | []=>⟨Nat.le_refl _,fun h=>by simp[cC] at h⟩
 | c::r=>by
   unfold cC;dsimp only;by_cases h1:jM c=true
   ·rw[if_pos h1];exact⟨gQ _ _,fun _=>jZ (by unfold jy;rw[h1];rfl)⟩
   rw[if_neg h1];by_cases h2:jN c=true
   ·rw[if_pos h2];exact⟨gQ _ _,fun _=>jZ (by unfold jy;rw[h2];simp)⟩
   rw[if_neg h2];by_cases h3:dB c=true
   ·rw[if_pos h3];exact⟨gQ _ _,fun _=>jZ h3⟩
   rw[if_neg h3];by_cases h4:c.toNat=39
   ·rw[if_pos h4];obtain⟨b1,b2⟩:=zk (r.length+1) r [] 1 (by omega);generalize eP (r.length+1) r [] 1=q at *;obtain⟨a,k⟩:=q;have b3:k≤1+r.length:=b1;have b4:1≤k:=b2
    cases a with
    | none=>exact⟨(show k≤r.length+1 by omega),fun h=>by simp at h⟩
    | some t=>exact⟨(show k≤r.length+1 by omega),fun _=>b4⟩
   rw[if_neg h4];by_cases h5:jj (c::r)=true
   ·rw[if_pos h5];exact⟨by simp,fun _=>Nat.le_refl _⟩
   rw[if_neg h5];by_cases h6:pF c=true
   ·rw[if_pos h6];refine⟨qT _,fun _=>?_⟩;unfold j7;rw[if_pos (by rw[h6];simp[h5])];omega
   rw[if_neg h6];by_cases h7:c.toNat=59∨c.toNat=33
   ·rw[if_pos h7];exact⟨by simp,fun _=>Nat.le_refl _⟩
   rw[if_neg h7]
   cases r with
   | nil=>
     dsimp only;split
     ·exact⟨by simp,fun _=>Nat.le_refl _⟩
     ·exact⟨by simp,fun h=>by simp at h⟩
   | cons d r'=>
     dsimp only;split
     ·exact⟨by simp,fun _=>(show 1≤2 by omega)⟩
     ·split
      ·exact⟨by simp,fun _=>Nat.le_refl _⟩
      ·exact⟨by simp,fun h=>by simp at h⟩
theorem so (n:Nat):∀l:List UInt8,decide (0≤kg n l)=l.any fun d=>decide (d.toNat=n)
 | []=>rfl
 | d::r=>by
   unfold kg;rw[List.any_cons];by_cases h:d.toNat=n
   ·have:Nat.beq d.toNat n=true:=by rw[h];exact Nat.beq_refl n
    rw[this,if_pos rfl,decide_eq_true h];rfl
   ·have:Nat.beq d.toNat n=false:=by
     cases hb:Nat.beq d.toNat n with
     | false=>rfl
     | true=>exact absurd (Nat.eq_of_beq_eq_true hb) h
    rw[this,if_neg (by simp),decide_eq_false h,Bool.false_or,←so n r]
    cases kg n r with
    | ofNat k=>simp;omega
    | negSucc k=>simp
def K5 (f:Nat) (p:UInt8→Bool):aR:=⟨f,fun | [.int .u8 n]=>if 0≤n∧n < 256 then some (.bool (p (UInt8.ofNat n.toNat))) else none | _=>none⟩
theorem lT (f:Nat) (p:UInt8→Bool) (c:UInt8):(K5 f p).S [.int .u8 c.toNat]=some (.bool (p c)):=by
 have h:=c.toNat_lt;have e:UInt8.ofNat (c.toNat:Int).toNat=c:=by simp
 simp only[K5,e];rw[if_pos (by omega)]
theorem tv {f:Nat} {p:UInt8→Bool} (h:∀c:UInt8,Ij Tryz.prog f [.int .u8 c.toNat] (.bool (p c))):bC Tryz.prog (K5 f p):=fun args v hv=>by
 unfold K5 at hv;dsimp only at hv;split at hv
 ·rename_i n;split at hv
  ·rename_i hc;cases hv;have e:n=((UInt8.ofNat n.toNat).toNat:Int):=by rw[UInt8.toNat_ofNat'];omega
   have:=h (UInt8.ofNat n.toNat);rw[←e] at this;exact this
  ·cases hv
 ·cases hv
def nN:aR:=K5 75 jM
theorem y0:bC Tryz.prog nN:=tv fun c=>by
 refine ct (n:=4) (h':=h0) (b8 (ss:=[]) (by simp)) ?_ rfl rfl;unfold jM;have e97:((97:Int)≤(c.toNat:Int))=(97≤c.toNat):=propext ⟨fun h=>by omega,fun h=>by omega⟩;have e122:((c.toNat:Int)≤122)=(c.toNat≤122):=propext ⟨fun h=>by omega,fun h=>by omega⟩;by_cases h1:97≤c.toNat
 ·by_cases h2:c.toNat≤122
  ·simp[JZ,c75,e97,e122,h1,h2]
  ·simp[JZ,c75,e97,e122,h1,h2]
 ·simp[JZ,c75,e97,e122,h1]
def n9:aR:=K5 78 dB
theorem wv:bC Tryz.prog n9:=tv fun c=>by
 refine ct (n:=4) (h':=h0) (b8 (ss:=[]) (by simp)) ?_ rfl rfl;unfold dB;have e48:((48:Int)≤(c.toNat:Int))=(48≤c.toNat):=propext ⟨fun h=>by omega,fun h=>by omega⟩;have e57:((c.toNat:Int)≤57)=(c.toNat≤57):=propext ⟨fun h=>by omega,fun h=>by omega⟩;by_cases h1:48≤c.toNat
 ·by_cases h2:c.toNat≤57
  ·simp[JR,QF,e48,e57,h1,h2]
  ·simp[JR,QF,e48,e57,h1,h2]
 ·simp[JR,QF,e48,e57,h1]
def nZ:aR:=K5 77 jN
theorem yj:bC Tryz.prog nZ:=tv fun c=>by
 refine ct (n:=4) (h':=h0) (b8 (ss:=[]) (by simp)) ?_ rfl rfl;unfold jN;have e65:((65:Int)≤(c.toNat:Int))=(65≤c.toNat):=propext ⟨fun h=>by omega,fun h=>by omega⟩;have e90:((c.toNat:Int)≤90)=(c.toNat≤90):=propext ⟨fun h=>by omega,fun h=>by omega⟩;have e:((c.toNat:Int)=95)=(c.toNat=95):=propext ⟨fun h=>by omega,fun h=>by omega⟩;by_cases h1:65≤c.toNat
 ·by_cases h2:c.toNat≤90
  ·simp[Bp,Nv,e65,e90,h1,h2]
  ·by_cases h3:c.toNat=95
   ·simp[Bp,Nv,e65,e90,h1,h2,h3,e]
   ·simp[Bp,Nv,e65,e90,h1,h2,h3,e]
 ·by_cases h3:c.toNat=95
  ·simp[Bp,Nv,e65,e90,h1,h3,e]
  ·simp[Bp,Nv,e65,e90,h1,h3,e]
def AE:aR:=K5 76 jy
theorem Il:bC Tryz.prog AE:=tv fun c=>by
 refine ct (n:=4) (h':=h0) (b8 (ss:=[nN,nZ,n9]) (by simp[y0,yj,wv])) ?_ rfl rfl;have c1:nN.S [.int .u8 c.toNat]=_:=lT _ _ c;have c2:nZ.S [.int .u8 c.toNat]=_:=lT _ _ c;have c3:n9.S [.int .u8 c.toNat]=_:=lT _ _ c;have f1:nN.f=75:=(rfl)
 have f2:nZ.f=77:=(rfl)
 have f3:n9.f=78:=(rfl)
 unfold jy;cases h1:jM c<;>cases h2:jN c<;>cases h3:dB c<;>rw[h1] at c1<;>rw[h2] at c2<;>rw[h3] at c3<;>simp[R8,c76,c1,c2,c3,f1,f2,f3]
def Rh:aR:=K5 74 fj
theorem Pc:bC Tryz.prog Rh:=tv fun c=>by
 refine ct (n:=4) (h':=h0) (b8 (ss:=[]) (by simp)) ?_ rfl rfl;unfold fj;have e:((c.toNat:Int)=10)=(c.toNat=10):=propext ⟨fun h=>by omega,fun h=>by omega⟩;by_cases h3:c.toNat=10
 ·simp[Ns,SH,h3,e]
 ·simp[Ns,SH,h3,e]
def H3:aR:=K5 82 pF
theorem F5:bC Tryz.prog H3:=tv fun c=>by
 refine ct (n:=4) (h':=h0) (b8 (ss:=[fU]) (by simp[lW])) ?_ rfl rfl;have c1:=eQ GV c;have e:pF c=decide (0≤kg c.toNat GV):=(so _ _).symm;rw[e];generalize kg c.toNat GV=x at *;simp only[GV] at c1;simp[RX,SP,c1,aW]
theorem A2 (C:Nat→List AV→aa→Option (AV×aa)) (n g:Nat) (p:UInt8→Bool) (hC:∀(c:UInt8) (h:aa),C g [.int .u8 c.toNat] h=some (.bool (p c),h)) (s:List UInt8) (hl:s.length < 1000000000) (i0:Int):
 ∀(post pre:List UInt8) (m:Nat) (md:Nat),s=pre++post→post.length < m→
 ∃md',ju 1 1 (cM (aT C n wF) qj 1 m (Qu (.ptr 0 0) (.fn g []) (.int .i64 i0)) ⟨1,[.row [.str s,.int .i64 pre.length]],1,md⟩)=
   some (.exit 0,FM 50 [(0,.ptr 0 0),(5,.int .i64 i0)],⟨1,[.row [.str s,.int .i64 (pre.length+runN p post:Nat)]],1,md'⟩)
 | [],pre,m+1,md,e,_=>by
   simp at e;subst e;rw[aC];exact⟨md,by simp[wF,qj,runN]⟩
 | c::post,pre,m+1,md,e,hm=>by
   have h1:s[pre.length]? =some c:=by rw[e];simp
   have hpl:pre.length < s.length:=by rw[e];simp
   have h3:IntKind.i64.wrap ((pre.length:Int)+1)=(pre.length:Int)+1:=wrap_i64 (by omega) (by omega);have h6:((pre.length:Int) < (s.length:Int))=True:=eq_true (by omega);rw[aC];unfold runN
   cases hp:p c with
   | false=>exact⟨md,by simp[wF,qj,h1,h6,hC,hp]⟩
   | true=>
     obtain⟨md',ih⟩:=A2 C n g p hC s hl i0 post (pre++[c]) m 0 (by simp[e]) (by rw[List.length_cons] at hm;omega);refine⟨md',?_⟩;simp only[List.length_append,List.length_cons,List.length_nil,Nat.zero_add,Int.natCast_add,Int.natCast_one] at ih;simp only[if_true];rw[show pre.length+(runN p post+1)=pre.length+1+runN p post by omega];simp[wF,qj,h1,h3,h6,hC,hp];exact ih
theorem ub {s:List UInt8} {k q:Nat} (h:k+q≤s.length):sliceB s.length (some (.int .i64 k)) (some (.int .i64 (k+q:Nat)))=some (k,k+q)∧(s.take (k+q)).drop k=(s.drop k).take q:=by
 refine⟨?_,by rw[List.drop_take,Nat.add_sub_cancel_left]⟩;have a1:(0:Int)≤((k+q:Nat):Int)∧((k+q:Nat):Int)≤(s.length:Int):=by omega
 have a2:(k:Int)≤((k+q:Nat):Int):=by omega
 have a3:((k+q:Nat):Int).toNat=k+q:=by omega
 have a4:(k:Int)≤(k:Int)+(q:Int):=by omega
 generalize ((k+q:Nat):Int)=Q at *;simp[sliceB,a1,a2,a3,a4]
def qE (g:Nat):Option (UInt8→Bool):=if g=76 then some jy else if g=78 then some dB else if g=74 then some fj else none
def runM:bL:=⟨73,fun
 | [.ptr 0 0,.fn g []],[.row [.str s,.int .i64 i]]=>(match qE g with
   | some p=>if s.length < 1000000000∧0≤i∧i≤s.length then some (.str ((s.drop i.toNat).take (runN p (s.drop i.toNat))),some [.row [.str s,.int .i64 (i.toNat+runN p (s.drop i.toNat):Nat)]]) else none
   | none=>none)
 | _,_=>none⟩
theorem fV:runM.f=73:=(rfl)
theorem z6 (g:Nat) (p:UInt8→Bool) (hp:qE g=some p) (s:List UInt8) (k:Nat) (hl:s.length < 1000000000) (hk:k≤s.length):
 runM.S [.ptr 0 0,.fn g []] [.row [.str s,.int .i64 k]]=some (.str ((s.drop k).take (runN p (s.drop k))),some [.row [.str s,.int .i64 (k+runN p (s.drop k):Nat)]]):=by
 simp only[runM,hp];rw[if_pos ⟨hl,by omega,by omega⟩,Int.toNat_natCast]
theorem LN:AE.f=76:=(rfl)
theorem gx:n9.f=78:=(rfl)
theorem RW:Rh.f=74:=(rfl)
def Lb:List aR:=[AE,n9,Rh]
theorem Pb:∀s ∈ Lb,bC Tryz.prog s:=by simp[Lb,Il,wv,Pc]
theorem RT (n g:Nat) (p:UInt8→Bool) (hp:qE g=some p) (c:UInt8) (h:aa):au (bj Lb []) (n+1) g [.int .u8 c.toNat] h=some (.bool (p c),h):=by
 have f1:AE.f=76:=(rfl)
 have f2:n9.f=78:=(rfl)
 have f3:Rh.f=74:=(rfl)
 unfold qE at hp;split at hp
 ·rename_i e;subst e;cases hp;have c1:AE.S [.int .u8 c.toNat]=_:=lT _ _ c;simp[Lb,f1,f2,f3,c1]
 ·split at hp
  ·rename_i e;subst e;cases hp;have c1:n9.S [.int .u8 c.toNat]=_:=lT _ _ c;simp[Lb,f1,f2,f3,c1]
  ·split at hp
   ·rename_i e;subst e;cases hp;have c1:Rh.S [.int .u8 c.toNat]=_:=lT _ _ c;simp[Lb,f1,f2,f3,c1]
   ·cases hp
theorem F7:jT Tryz.prog runM:=fun args os v r hv=>by
 unfold runM at hv;dsimp only at hv;split at hv
 ·rename_i g s i;split at hv
  ·rename_i p hp;split at hv
   ·rename_i hc;cases hv;obtain⟨k,rfl⟩:∃k:Nat,i=(k:Int):=⟨i.toNat,by omega⟩
    rw[Int.toNat_natCast,fV];have hk:k≤s.length:=by omega
    have hse:s=s.take k++s.drop k:=(List.take_append_drop k s).symm;have hlt:(s.take k).length=k:=by rw[List.length_take];omega
    obtain⟨md',lp⟩:=A2 (au (bj Lb []) (s.length+4)) (s.length+4) g p (fun c h=>RT (s.length+3) g p hp c h) s hc.1 k (s.drop k) (s.take k) (s.length+4) 1 hse (by rw[List.length_drop];omega);rw[hlt] at lp;have hrl:=gQ p (s.drop k);rw[List.length_drop] at hrl;obtain⟨hsl,htd⟩:=ub (s:=s) (k:=k) (q:=runN p (s.drop k)) (by omega);refine rR (n:=s.length+5) (h1:=⟨1,[.row [.str s,.int .i64 (k+runN p (s.drop k):Nat)]],1,min 1 md'⟩) (sC (ss:=Lb) (ms:=[]) Pb (by simp)) ?_ rfl rfl rfl rfl;rw[oV];simp only[qj,Lb] at lp;generalize (s.drop k).take (runN p (s.drop k))=res at *;generalize k+runN p (s.drop k)=q at *;simp[Lb,Oe,Ta,qj,lp,hsl,htd,LN,gx,RW];omega
   ·cases hv
  ·cases hv
 ·cases hv
theorem ym (c:UInt8):([32,9,10,13]:List UInt8).any (fun d=>decide (d.toNat=c.toNat))=fA c:=by
 simp only[List.any_cons,List.any_nil,Bool.or_false,fA]
 have e:∀n:Nat,decide (n=c.toNat)=decide (c.toNat=n):=fun n=>by
  by_cases h:c.toNat=n
  ·rw[decide_eq_true h,decide_eq_true h.symm]
  ·rw[decide_eq_false h,decide_eq_false (Ne.symm h)]
 rw[show (32:UInt8).toNat=32 from rfl,show (9:UInt8).toNat=9 from rfl,show (10:UInt8).toNat=10 from rfl,show (13:UInt8).toNat=13 from rfl,e,e,e,e];simp[Bool.or_assoc]
def js:List aR:=[fU]
theorem D4:∀s ∈ js,bC Tryz.prog s:=by simp[js,lW]
def H8:List bL:=[runM]
theorem PQ:∀m ∈ H8,jT Tryz.prog m:=by simp[H8,F7]
theorem wR (n:Nat) (s:List UInt8) (hl:s.length < 1000000000):∀(f k m md:Nat),k≤s.length→s.length - k < f→f≤m→
 ∃ex md',(ex=.exit 0∨ex=.ret)∧ju 1 1 (cM (aT (au (bj js H8) (n+1)) (n+1) tR) nu 1 m (Pt (.ptr 0 0)) ⟨1,[.row [.str s,.int .i64 k]],1,md⟩)=
   some (ex,FM 44 [],⟨1,[.row [.str s,.int .i64 (k+dx f (s.drop k):Nat)]],1,md'⟩)
 | 0,k,m,md,_,h,_=>by omega
 | f+1,k,0,md,_,_,h=>by omega
 | f+1,k,m+1,md,hk,hf,hm=>by
   rw[aC];by_cases he:k=s.length
   ·subst he;refine⟨.exit 0,md,.inl rfl,?_⟩;have:s.drop s.length=[]:=List.drop_length;rw[this];simp[tR,nu,dx]
   ·have hks:k < s.length:=by omega
    obtain⟨c,hc⟩:∃c,s[k]? =some c:=⟨s[k],List.getElem?_eq_getElem hks⟩
    have hd:s.drop k=c::s.drop (k+1):=by
     rw[List.drop_eq_getElem_cons hks];congr 1;rw[List.getElem?_eq_getElem hks] at hc;exact Option.some.inj hc
    have h6:((k:Int) < (s.length:Int))=True:=eq_true (by omega);have h3:IntKind.i64.wrap ((k:Int)+1)=(k:Int)+1:=wrap_i64 (by omega) (by omega);have c1:=eQ [32,9,10,13] c;have e1:=so c.toNat [32,9,10,13];rw[ym] at e1;generalize kg c.toNat [32,9,10,13]=x at c1 e1;rw[hd];unfold dx
    cases hb:fA c with
    | true=>
      rw[hb] at e1;have e2:(0≤x)=True:=eq_true (of_decide_eq_true e1);obtain⟨ex,md',hex,ih⟩:=wR n s hl f (k+1) m 0 (by omega) (by omega) (by omega);refine⟨ex,md',hex,?_⟩;simp only[if_true];rw[show k+(dx f (s.drop (k+1))+1)=k+1+dx f (s.drop (k+1)) by omega];simp only[js,H8,Int.natCast_add,Int.natCast_one] at ih;simp[js,H8,tR,nu,hc,h6,h3,c1,e2,aW,fV];exact ih
    | false=>
      rw[hb] at e1;have e2:(0≤x)=False:=eq_false (of_decide_eq_false e1);simp only[Bool.false_eq_true,if_false];by_cases h37:c.toNat=37
      ·have e3:((c.toNat:Int)=37)=True:=eq_true (by omega);rw[if_pos h37];have hr:=z6 74 fj (by simp[qE]) s k hl hk;rw[hd] at hr
       have hrn:runN fj (c::s.drop (k+1))≤s.length - k:=by
        have:=gQ fj (c::s.drop (k+1));rw[←hd,List.length_drop] at this;rw[hd] at this;exact this
       have hr1:1≤runN fj (c::s.drop (k+1)):=by
        unfold runN;have:fj c=true:=by unfold fj;rw[decide_eq_false (by omega)];rfl
        rw[this];simp
       obtain⟨ex,md',hex,ih⟩:=wR n s hl f (k+runN fj (c::s.drop (k+1))) m 0 (by omega) (by omega) (by omega);refine⟨ex,md',hex,?_⟩;have hdd:(c::s.drop (k+1)).drop (runN fj (c::s.drop (k+1)))=s.drop (k+runN fj (c::s.drop (k+1))):=by rw[←hd,List.drop_drop]
       rw[hdd];generalize hq:runN fj (c::s.drop (k+1))=q at *;rw[←Nat.add_assoc];simp only[js,H8,Int.natCast_add,Int.natCast_one] at ih;simp[js,H8,tR,nu,hc,h6,h3,c1,e2,e3,hr,aW,fV];exact ih
      ·have e3:((c.toNat:Int)=37)=False:=eq_false (by omega);rw[if_neg h37];refine⟨.ret,md,.inr rfl,?_⟩;simp[js,H8,tR,nu,hc,h6,h3,c1,e2,e3,aW,fV]
theorem ja:∀(f:Nat) (l:List UInt8),dx f l≤l.length
 | 0,l=>by simp[dx]
 | f+1,[]=>by simp[dx]
 | f+1,c::r=>by
   unfold dx;split
   ·have:=ja f r;simp;omega
   ·split
    ·have h1:=ja f ((c::r).drop (runN fj (c::r)));have h2:=gQ fj (c::r);rw[List.length_drop] at h1;omega
    ·simp
def xo:bL:=⟨44,fun
 | [.ptr 0 0],[.row [.str s,.int .i64 i]]=>if s.length < 1000000000∧0≤i∧i≤s.length then some (.tuple [],some [.row [.str s,.int .i64 (i.toNat+dx (s.length+1) (s.drop i.toNat):Nat)]]) else none
 | _,_=>none⟩
theorem cS:xo.f=44:=(rfl)
theorem wZ (s:List UInt8) (k:Nat) (hl:s.length < 1000000000) (hk:k≤s.length):
 xo.S [.ptr 0 0] [.row [.str s,.int .i64 k]]=some (.tuple [],some [.row [.str s,.int .i64 (k+dx (s.length+1) (s.drop k):Nat)]]):=by
 simp only[xo];rw[if_pos ⟨hl,by omega,by omega⟩,Int.toNat_natCast]
theorem J4:jT Tryz.prog xo:=fun args os v r hv=>by
 unfold xo at hv;dsimp only at hv;split at hv
 ·rename_i s i;split at hv
  ·rename_i hc;cases hv;obtain⟨k,rfl⟩:∃k:Nat,i=(k:Int):=⟨i.toNat,by omega⟩
   rw[Int.toNat_natCast,cS];obtain⟨ex,md',hex,lp⟩:=wR (s.length+4) s hc.1 (s.length+1) k (s.length+5) 1 (by omega) (by omega) (by omega);refine rR (n:=s.length+6) (h1:=⟨1,[.row [.str s,.int .i64 (k+dx (s.length+1) (s.drop k):Nat)]],1,min 1 md'⟩) (sC (ss:=js) (ms:=H8) D4 PQ) ?_ rfl rfl rfl rfl;rw[oV];simp only[nu,js,H8] at lp;generalize k+dx (s.length+1) (s.drop k)=q at *;rcases hex with rfl | rfl
   ·simp[js,H8,Kw,Ss,nu,lp,aW,fV];omega
   ·simp[js,H8,Kw,Ss,nu,lp,aW,fV];omega
  ·cases hv
 ·cases hv
theorem jG {s:List UInt8} {k:Nat} (h:k < s.length):∃c,s[k]? =some c∧s.drop k=c::s.drop (k+1):=
 ⟨s[k],List.getElem?_eq_getElem h,by rw[List.drop_eq_getElem_cons h]⟩
theorem yw (c:UInt8):jj [c]=decide (c.toNat=46):=by simp[jj]
theorem yl (c d:UInt8) (r:List UInt8):jj (c::d::r)=(decide (c.toNat=46)&&(fA d||decide (d.toNat=37))):=rfl
theorem Gt {c:UInt8} {r:List UInt8} (h:¬ c.toNat=46):jj (c::r)=false:=by
 cases r with
 | nil=>rw[yw];exact decide_eq_false h
 | cons d r=>rw[yl,decide_eq_false h];rfl
def wS:bL:=⟨81,fun
 | [.ptr 0 0],[.row [.str s,.int .i64 i]]=>if s.length < 1000000000∧0≤i∧i < s.length then some (.bool (jj (s.drop i.toNat)),none) else none
 | _,_=>none⟩
theorem fh:wS.f=81:=(rfl)
theorem BG (s:List UInt8) (k:Nat) (hl:s.length < 1000000000) (hk:k < s.length):
 wS.S [.ptr 0 0] [.row [.str s,.int .i64 k]]=some (.bool (jj (s.drop k)),none):=by
 simp only[wS];rw[if_pos ⟨hl,by omega,by omega⟩,Int.toNat_natCast]
theorem D6 (c:UInt8):([32,9,10,13,37]:List UInt8).any (fun d=>decide (d.toNat=c.toNat))=(fA c||decide (c.toNat=37)):=by
 have:=ym c;simp only[List.any_cons,List.any_nil,Bool.or_false] at this ⊢;rw[←this]
 have e:decide ((37:UInt8).toNat=c.toNat)=decide (c.toNat=37):=by
  by_cases h:c.toNat=37
  ·rw[decide_eq_true h,decide_eq_true (show (37:UInt8).toNat=c.toNat from h.symm)]
  ·rw[decide_eq_false h,decide_eq_false (show ¬ (37:UInt8).toNat=c.toNat from fun e=>h e.symm)]
 rw[e];simp[Bool.or_assoc]
theorem Cg:jT Tryz.prog wS:=fun args os v r hv=>by
 unfold wS at hv;dsimp only at hv;split at hv
 ·rename_i s i;split at hv
  ·rename_i hc;cases hv;obtain⟨k,rfl⟩:∃k:Nat,i=(k:Int):=⟨i.toNat,by omega⟩
   rw[Int.toNat_natCast,fh];obtain⟨c,h1,hd⟩:=jG (s:=s) (k:=k) (by omega);have h3:IntKind.i64.wrap ((k:Int)+1)=(k:Int)+1:=wrap_i64 (by omega) (by omega);refine yi (n:=6) (h1:=⟨1,[.row [.str s,.int .i64 k]],1,1⟩) (sC (ss:=js) (ms:=[]) D4 (by simp)) ?_ rfl rfl rfl rfl;rw[oV,hd];by_cases h46:c.toNat=46
   ·have e1:((c.toNat:Int)=46)=True:=eq_true (by omega);by_cases hlast:k+1=s.length
    ·have hn:s.drop (k+1)=[]:=by rw[hlast];exact List.drop_length
     have e2:((k:Int)+1=(s.length:Int))=True:=eq_true (by omega);rw[hn,yw,decide_eq_true h46];simp[js,Dw,QB,h1,h3,e1,e2,aW]
    ·obtain⟨d,h2,hd2⟩:=jG (s:=s) (k:=k+1) (by omega);have e2:((k:Int)+1=(s.length:Int))=False:=eq_false (by omega);have c1:=eQ [32,9,10,13,37] d;have e3:=so d.toNat [32,9,10,13,37];rw[D6] at e3;generalize kg d.toNat [32,9,10,13,37]=x at c1 e3;have h2':((k:Int)+1).toNat=k+1:=by omega
     have h2'':((0:Int)≤(k:Int)+1)=True:=eq_true (by omega);rw[hd2,yl,decide_eq_true h46,←e3];simp[js,Dw,QB,h1,h2,h2',h2'',h3,e1,e2,c1,aW]
   ·have e1:((c.toNat:Int)=46)=False:=eq_false (by omega);rw[Gt h46];simp[js,Dw,QB,h1,h3,e1,aW]
  ·cases hv
 ·cases hv
def K3:List aR:=[H3]
theorem PN:∀s ∈ K3,bC Tryz.prog s:=by simp[K3,F5]
def Lc:List bL:=[wS]
theorem Pq:∀m ∈ Lc,jT Tryz.prog m:=by simp[Lc,Cg]
theorem gH:H3.f=82:=(rfl)
theorem EN (c:UInt8):H3.S [.int .u8 c.toNat]=some (.bool (pF c)):=lT _ _ c
theorem E3:∀l,j7 l≤l.length
 | []=>Nat.le_refl _
 | c::r=>by
   unfold j7;split
   ·have:=E3 r;simp;omega
   ·simp
theorem Ca (n:Nat) (s:List UInt8) (hl:s.length < 1000000000) (i0:Int):∀(post pre:List UInt8) (m:Nat) (md:Nat),s=pre++post→post.length < m→
 ∃md',ju 1 1 (cM (aT (au (bj K3 Lc) (n+1)) (n+1) tf) oE 1 m (Oc (.ptr 0 0) (.int .i64 i0)) ⟨1,[.row [.str s,.int .i64 pre.length]],1,md⟩)=
   some (.exit 0,FM 52 [(0,.ptr 0 0),(3,.int .i64 i0)],⟨1,[.row [.str s,.int .i64 (pre.length+j7 post:Nat)]],1,md'⟩)
 | [],pre,m+1,md,e,_=>by
   simp at e;subst e;rw[aC];exact⟨md,by simp[tf,oE,j7]⟩
 | c::post,pre,m+1,md,e,hm=>by
   have h1:s[pre.length]? =some c:=by rw[e];simp
   have hpl:pre.length < s.length:=by rw[e];simp
   have hdp:s.drop pre.length=c::post:=by rw[e];simp
   have h3:IntKind.i64.wrap ((pre.length:Int)+1)=(pre.length:Int)+1:=wrap_i64 (by omega) (by omega);have h6:((pre.length:Int) < (s.length:Int))=True:=eq_true (by omega);have c1:=EN c;have c2:=BG s pre.length hl hpl;rw[hdp] at c2;rw[aC];unfold j7
   cases hp:pF c with
   | false=>
     rw[hp] at c1;exact⟨md,by simp[K3,Lc,tf,oE,h1,h6,c1,gH,fh]⟩
   | true=>
     rw[hp] at c1
     cases hq:jj (c::post) with
     | true=>
       rw[hq] at c2;exact⟨md,by simp[K3,Lc,tf,oE,h1,h6,c1,c2,gH,fh]⟩
     | false=>
       rw[hq] at c2;obtain⟨md',ih⟩:=Ca n s hl i0 post (pre++[c]) m 0 (by simp[e]) (by rw[List.length_cons] at hm;omega);refine⟨md',?_⟩;simp only[List.length_append,List.length_cons,List.length_nil,Nat.zero_add,K3,Lc,Int.natCast_add,Int.natCast_one] at ih;simp only[Bool.not_false,Bool.and_self,if_true];rw[show pre.length+(j7 post+1)=pre.length+1+j7 post by omega];simp[K3,Lc,tf,oE,h1,h3,h6,c1,c2,gH,fh];exact ih
def yC:bL:=⟨83,fun
 | [.ptr 0 0],[.row [.str s,.int .i64 i]]=>if s.length < 1000000000∧0≤i∧i≤s.length then some (.str ((s.drop i.toNat).take (j7 (s.drop i.toNat))),some [.row [.str s,.int .i64 (i.toNat+j7 (s.drop i.toNat):Nat)]]) else none
 | _,_=>none⟩
theorem gB:yC.f=83:=(rfl)
theorem Ki (s:List UInt8) (k:Nat) (hl:s.length < 1000000000) (hk:k≤s.length):
 yC.S [.ptr 0 0] [.row [.str s,.int .i64 k]]=some (.str ((s.drop k).take (j7 (s.drop k))),some [.row [.str s,.int .i64 (k+j7 (s.drop k):Nat)]]):=by
 simp only[yC];rw[if_pos ⟨hl,by omega,by omega⟩,Int.toNat_natCast]
theorem Ku:jT Tryz.prog yC:=fun args os v r hv=>by
 unfold yC at hv;dsimp only at hv;split at hv
 ·rename_i s i;split at hv
  ·rename_i hc;cases hv;obtain⟨k,rfl⟩:∃k:Nat,i=(k:Int):=⟨i.toNat,by omega⟩
   rw[Int.toNat_natCast,gB];have hk:k≤s.length:=by omega
   have hse:s=s.take k++s.drop k:=(List.take_append_drop k s).symm;have hlt:(s.take k).length=k:=by rw[List.length_take];omega
   obtain⟨md',lp⟩:=Ca (s.length+4) s hc.1 k (s.drop k) (s.take k) (s.length+5) 1 hse (by rw[List.length_drop];omega);rw[hlt] at lp;have hrl:=E3 (s.drop k);rw[List.length_drop] at hrl;obtain⟨hsl,htd⟩:=ub (s:=s) (k:=k) (q:=j7 (s.drop k)) (by omega);refine rR (n:=s.length+6) (h1:=⟨1,[.row [.str s,.int .i64 (k+j7 (s.drop k):Nat)]],1,min 1 md'⟩) (sC (ss:=K3) (ms:=Lc) PN Pq) ?_ rfl rfl rfl rfl;rw[oV];simp only[oE,K3,Lc] at lp;generalize (s.drop k).take (j7 (s.drop k))=res at *;generalize k+j7 (s.drop k)=q at *;simp[K3,Lc,Qh,SU,oE,lp,hsl,htd,gH,fh];omega
  ·cases hv
 ·cases hv
end Go.Proofs.YtjmeonoabiliiaaGreatDoor
