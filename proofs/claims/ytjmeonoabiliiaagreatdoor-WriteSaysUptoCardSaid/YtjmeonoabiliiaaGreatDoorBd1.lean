import Derived.Test.YtjmeonoabiliiaaGreatDoorAt
import Derived.Test.YtjmeonoabiliiaaGreatDoorEnv
import Derived.Test.YtjmeonoabiliiaaGreatDoorFast
import Derived.Test.YtjmeonoabiliiaaGreatDoorArg
import Derived.RangeFuncNested
import Derived.RangeFuncBound
import Derived.RangeFuncCalls
import Derived.RangeFuncLeaves
import Derived.Shelf.Abstract
import Derived.Shelf.RegionOpen
import Derived.WalkKit
import Derived.OwnWalkIn
import Derived.TacticsInMore
import Derived.LoopNIn
import Derived.LoopIn
import Derived.Test.YtjmeonoabiliiaaGreatDoorProg
import Derived.Test.YtjmeonoabiliiaaGreatDoorIter
import Derived.Test.YtjmeonoabiliiaaGreatDoorShelf
import Derived.Lib.ItoaNum
import Derived.LaidSub
import Derived.MakeChecks
import Derived.Shelf.Strings.SlTrimAscii
set_option linter.unusedVariables false
set_option linter.unusedSimpArgs false
set_option linter.unusedSectionVars false
set_option maxHeartbeats 16000000
set_option maxRecDepth 100000

namespace Go.Proofs.YtjmeonoabiliiaaGreatDoor
open Go Sz
inductive Tm where
 | nl (k n:Int) (s:List UInt8)
 | mk (k n:Int) (s:List UInt8) (us:List Tm)
mutual
def Tm.enc:Tm→AV
 | .nl k n s=>.agg [.int .i64 k,.int .i64 n,.str s,.ax]
 | .mk k n s us=>.agg [.int .i64 k,.int .i64 n,.str s,.sl (Tm.qC us)]
def Tm.qC:List Tm→List AV
 | []=>[]
 | t::r=>t.enc::Tm.qC r
end
theorem j6:∀l:List Tm,Tm.qC l=l.map Tm.enc
 | []=>rfl
 | t::r=>by simp[Tm.qC,j6 r]
def Tm.kind:Tm→Int | .nl k _ _=>k | .mk k _ _ _=>k
def Tm.num:Tm→Int | .nl _ n _=>n | .mk _ n _ _=>n
def Tm.name:Tm→List UInt8 | .nl _ _ s=>s | .mk _ _ s _=>s
def Tm.args:Tm→List Tm | .nl ..=>[] | .mk _ _ _ us=>us
def Tm.aJ:Tm→AV | .nl ..=>.ax | .mk _ _ _ us=>.sl (us.map Tm.enc)
def Tm.cells (t:Tm):List AV:=[.int .i64 t.kind,.int .i64 t.num,.str t.name,t.aJ]
theorem Tm.an (t:Tm):t.cells=[.int .i64 t.kind,.int .i64 t.num,.str t.name,t.aJ]:=rfl
theorem Tm.ay (t:Tm):t.enc=.agg t.cells:=by
 cases t with
 | nl k n s=>rfl
 | mk k n s us=>simp only[Tm.enc,Tm.cells,Tm.kind,Tm.num,Tm.name,Tm.aJ,j6]
mutual
theorem Tm.ba:∀t:Tm,t.enc.refs=0
 | .nl k n s=>rfl
 | .mk k n s us=>by simp[Tm.enc,AV.refs,AV.af,Tm.vP us]
theorem Tm.vP:∀l:List Tm,AV.af (Tm.qC l)=0
 | []=>rfl
 | t::r=>by simp[Tm.qC,AV.af,Tm.ba t,Tm.vP r]
end
theorem aB (l:List Tm):AV.af (l.map Tm.enc)=0:=by rw[←j6];exact Tm.vP l
theorem ah (t:Tm):t.aJ.refs=0:=by
 cases t with
 | nl k n s=>rfl
 | mk k n s us=>simp[Tm.aJ,AV.refs,aB]
mutual
def dB:AV→Option Tm
 | .agg [.int .i64 k,.int .i64 n,.str s,.ax]=>some (.nl k n s)
 | .agg [.int .i64 k,.int .i64 n,.str s,.sl xs]=>(jA xs).map (.mk k n s)
 | _=>none
def jA:List AV→Option (List Tm)
 | []=>some []
 | v::r=>match dB v,jA r with
   | some t,some l=>some (t::l)
   | _,_=>none
end
mutual
theorem aX:∀t:Tm,dB t.enc=some t
 | .nl k n s=>by simp[Tm.enc,dB]
 | .mk k n s us=>by simp[Tm.enc,dB,ny us]
theorem ny:∀l:List Tm,jA (Tm.qC l)=some l
 | []=>by simp[Tm.qC,jA]
 | t::r=>by simp[Tm.qC,jA,aX t,ny r]
end
theorem Bu:∀(n:Nat) (v:AV) (t:Tm),SizeOf.sizeOf v≤n→dB v=some t→v=t.enc
 | 0,v,t,h,_=>by cases v<;>simp at h
 | n+1,v,t,h,e=>by
   have hl:∀(xs:List AV) (l:List Tm),SizeOf.sizeOf xs≤n→jA xs=some l→xs=Tm.qC l:=by
    intro xs
    induction xs with
    | nil=>intro l _ e;simp[jA] at e;subst e;rfl
    | cons x r ih=>
      intro l hx e;simp only[jA] at e;split at e
      ·rename_i t l' h1 h2;cases e;simp only[List.cons.sizeOf_spec] at hx;rw[Bu n x t (by omega) h1,ih l' (by omega) h2];rfl
      ·cases e
   unfold dB at e;split at e
   ·cases e;rfl
   ·rename_i k q s xs;obtain⟨us,h1,rfl⟩:=Option.map_eq_some_iff.1 e;simp only[AV.agg.sizeOf_spec,List.cons.sizeOf_spec,AV.sl.sizeOf_spec] at h;rw[hl xs us (by omega) h1];rfl
   ·cases e
theorem bc {v:AV} {t:Tm} (h:dB v=some t):v=t.enc:=Bu _ v t (Nat.le_refl _) h
def IY (c:UInt8):Bool:=!((decide (c.toNat < 32)||decide (126 < c.toNat))&&decide (c.toNat≠9)&&decide (c.toNat≠10))
def gu:List UInt8→Bool
 | []=>true
 | c::r=>IY c&&gu r
def jw (s:List UInt8):Bool:=gu s&&decide (s.length≤64)
def R0 (s:List UInt8):List AV:=s.map fun b=>.int .u8 b.toNat
theorem zM:∀s:List UInt8,AV.af (R0 s)=0
 | []=>rfl
 | c::r=>by
   have:=zM r;unfold R0 at this ⊢;simp[AV.af,AV.refs,this]
theorem Br (C:Nat→List AV→aa→Option (AV×aa)) (n:Nat) (s:List UInt8) (hs:s.length < 4611686018427387904):∀post pre m,s=pre++post→post.length < m→
 er 0 0 (aT (ak C n l9) iR 0 m (Ru (.str s) (.sl (R0 s)) (.int .i64 s.length) (.int .i64 pre.length)) ⟨0,[],0,0⟩)=
  if gu post then some (.exit 0,FM 30 [(0,.str s)],⟨0,[],0,0⟩) else some (.ret,FM 30 [(2,.bool false)],⟨0,[],0,0⟩)
 | [],pre,m+1,e,_=>by
   simp at e;subst e;simp[ae,l9,gu]
 | c::post,pre,m+1,e,hm=>by
   have ih:=Br C n s hs post (pre++[c]) m (by simp[e]) (by rw[List.length_cons] at hm;omega);have h1:(R0 s)[pre.length]? =some (.int .u8 c.toNat):=by unfold R0;rw[e];simp
   have h3:IntKind.i64.wrap ((pre.length:Int)+1)=(pre.length:Int)+1:=by
    rw[iG (by rw[e] at hs;simp at hs;omega)];simp
   have h5:=zM s;have h6:((pre.length:Int) < (s.length:Int))=True:=eq_true (by rw[e,List.length_append,List.length_cons];omega);simp only[List.length_append,List.length_cons,List.length_nil,Nat.zero_add,Int.natCast_add,Int.natCast_one] at ih;have ho:IY c=!((decide (c.toNat < 32)||decide (126 < c.toNat))&&decide (c.toNat≠9)&&decide (c.toNat≠10)):=rfl;rw[ae];by_cases a1:c.toNat < 32
   ·have b1:((c.toNat:Int) < 32)=True:=eq_true (by omega);by_cases a3:c.toNat=9
    ·have b3:((c.toNat:Int)=9)=True:=eq_true (by omega);have ho:IY c=true:=by rw[ho];simp[a3]
     simp[l9,iR,h1,h3,h5,h6,b1,b3,gu,ho];exact ih
    ·have b3:((c.toNat:Int)=9)=False:=eq_false (by omega);by_cases a4:c.toNat=10
     ·have b4:((c.toNat:Int)=10)=True:=eq_true (by omega);have ho:IY c=true:=by rw[ho];simp[a4]
      simp[l9,iR,h1,h3,h5,h6,b1,b3,b4,gu,ho];exact ih
     ·have b4:((c.toNat:Int)=10)=False:=eq_false (by omega);have ho:IY c=false:=by rw[ho];simp[a1,a3,a4]
      simp[l9,iR,h1,h3,h5,h6,b1,b3,b4,gu,ho]
   ·have b1:((c.toNat:Int) < 32)=False:=eq_false (by omega);by_cases a2:126 < c.toNat
    ·have b2:(126 < (c.toNat:Int))=True:=eq_true (by omega);have b3:((c.toNat:Int)=9)=False:=eq_false (by omega);have b4:((c.toNat:Int)=10)=False:=eq_false (by omega)
     have ho:IY c=false:=by
      rw[ho];have:c.toNat≠9:=by omega
      have:c.toNat≠10:=by omega
      simp[*]
     simp[l9,iR,h1,h3,h5,h6,b1,b2,b3,b4,gu,ho]
    ·have b2:(126 < (c.toNat:Int))=False:=eq_false (by omega);have ho:IY c=true:=by rw[ho];simp[a1,a2]
     simp[l9,iR,h1,h3,h5,h6,b1,b2,gu,ho];exact ih
def tc:ai:=⟨103,fun | [.str s]=>if s.length < 4611686018427387904 then some (.bool (jw s)) else none | _=>none⟩
theorem dJ:tc.f=103:=(rfl)
theorem G5 (s:List UInt8) (h:s.length < 4611686018427387904):tc.S [.str s]=some (.bool (jw s)):=if_pos h
theorem HU:az Tryz.prog tc:=fun args v hv=>by
 unfold tc at hv ⊢;dsimp only at hv ⊢;split at hv
 ·rename_i s;split at hv
  ·rename_i hs;cases hv;refine aH (n:=s.length+2) (h':=h0) (aG (ss:=[]) (by simp)) ?_ rfl rfl;have lp:=Br (aw (a8 []) (s.length+1)) (s.length+1) s hs s [] (s.length+1) rfl (by omega);simp only[List.length_nil,show ((0:Nat):Int)=0 from rfl,iR] at lp;have h5:=zM s;have e5:(s.map fun b=>AV.int .u8 b.toNat)=R0 s:=rfl;have e6:(R0 s).length=s.length:=by simp[R0]
   unfold jw
   cases ha:gu s with
   | false=>
     rw[ha] at lp;simp at lp;simp[Gk,Km,iR,e5,e6,h5,lp]
   | true=>
     rw[ha] at lp;simp at lp;by_cases hl:s.length≤64
     ·have hl':((s.length:Int)≤64)=True:=eq_true (by omega);simp[Gk,Km,iR,e5,e6,h5,lp,hl,hl']
     ·have hl':((s.length:Int)≤64)=False:=eq_false (by omega);simp[Gk,Km,iR,e5,e6,h5,lp,hl,hl']
  ·cases hv
 ·cases hv
def fc (t:Tm):Bool:=
 if t.kind=0 then decide (0≤t.num)&&decide (t.num≤2147483647)&&decide (t.name=[])&&decide (t.args.length=0)
 else if t.kind=1 then decide (t.name=[])&&decide (t.args.length=0)
 else if t.kind=2 then decide (t.num=0)&&jw t.name&&decide (t.args.length≤8)
 else false
theorem OM (t:Tm):∃k n s a,t.enc=.agg [.int .i64 k,.int .i64 n,.str s,a]∧t.kind=k∧t.num=n∧t.name=s∧a.refs=0∧((a=.ax∧t.args=[])∨a=.sl (t.args.map Tm.enc)):=by
 cases t with
 | nl k n s=>exact⟨k,n,s,.ax,rfl,rfl,rfl,rfl,rfl,.inl ⟨rfl,rfl⟩⟩
 | mk k n s us=>exact⟨k,n,s,_,(Tm.mk k n s us).ay,rfl,rfl,rfl,ah _,.inr rfl⟩
def Fl:ai:=⟨62,fun | [v]=>(match dB v with | some t=>if t.name.length < 4611686018427387904 then some (.bool (fc t)) else none | none=>none) | _=>none⟩
theorem zt:Fl.f=62:=(rfl)
theorem Q3 (t:Tm) (h:t.name.length < 4611686018427387904):Fl.S [t.enc]=some (.bool (fc t)):=by
 simp only[Fl,aX,if_pos h]
theorem Rh:az Tryz.prog Fl:=fun args v hv=>by
 unfold Fl at hv ⊢;dsimp only at hv ⊢;split at hv
 ·rename_i x;split at hv
  ·rename_i t ht;split at hv
   ·rename_i hl;cases hv;rw[bc ht];refine aH (n:=5) (h':=h0) (aG (ss:=[tc]) (by simp[HU])) ?_ rfl (by simp[AV.af,Tm.ba]);obtain⟨k,n,s,a,e,e1,e2,e3,hr,ha⟩:=OM t;have hg:=G5 s (by rw[←e3];exact hl);unfold fc;rw[e,e1,e2,e3]
    have ha0:(a=.ax∧t.args.length=0)∨(∃l:List AV,a=.sl l∧l.length=t.args.length):=by
     rcases ha with⟨h1,h2⟩ | h1
     ·exact .inl ⟨h1,by rw[h2];rfl⟩
     ·exact .inr ⟨_,h1,by simp⟩
    generalize t.args.length=q at ha0;clear ha e1 e2 e3 ht hl e;by_cases k0:k=0
    ·subst k0;by_cases c1:0≤n
     ·by_cases c2:n≤2147483647
      ·cases s with
       | nil=>
         rcases ha0 with⟨rfl,rfl⟩ | ⟨l,rfl,rfl⟩
         ·simp[ky,CP,c1,c2,dJ]
         ·by_cases c4:l.length=0
          ·have c4':((l.length:Int)=0)=True:=eq_true (by omega);simp only[AV.refs] at hr;simp[ky,CP,c1,c2,c4',c4,hr,dJ]
          ·have c4':((l.length:Int)=0)=False:=eq_false (by omega);simp only[AV.refs] at hr;simp[ky,CP,c1,c2,c4',c4,hr,dJ]
       | cons c r=>simp[ky,CP,c1,c2,dJ,hr]
      ·simp[ky,CP,c1,c2,dJ,hr]
     ·simp[ky,CP,c1,dJ,hr]
    ·by_cases k1:k=1
     ·subst k1
      cases s with
      | nil=>
        rcases ha0 with⟨rfl,rfl⟩ | ⟨l,rfl,rfl⟩
        ·simp[ky,CP,dJ]
        ·by_cases c4:l.length=0
         ·have c4':((l.length:Int)=0)=True:=eq_true (by omega);simp only[AV.refs] at hr;simp[ky,CP,c4',c4,hr,dJ]
         ·have c4':((l.length:Int)=0)=False:=eq_false (by omega);simp only[AV.refs] at hr;simp[ky,CP,c4',c4,hr,dJ]
      | cons c r=>simp[ky,CP,dJ,hr]
     ·by_cases k2:k=2
      ·subst k2;by_cases c1:n=0
       ·cases hgn:jw s with
        | false=>
          rw[hgn] at hg;simp[ky,CP,c1,hg,dJ,hr]
        | true=>
          rw[hgn] at hg;rcases ha0 with⟨rfl,rfl⟩ | ⟨l,rfl,rfl⟩
          ·simp[ky,CP,c1,hg,dJ]
          ·by_cases c4:l.length≤8
           ·have c4':((l.length:Int)≤8)=True:=eq_true (by omega);simp only[AV.refs] at hr;simp[ky,CP,c1,hg,c4',c4,hr,dJ]
           ·have c4':((l.length:Int)≤8)=False:=eq_false (by omega);simp only[AV.refs] at hr;simp[ky,CP,c1,hg,c4',c4,hr,dJ]
       ·simp[ky,CP,c1,dJ,hr]
      ·simp[ky,CP,k0,k1,k2,dJ,hr]
   ·cases hv
  ·cases hv
 ·cases hv
theorem zN (t:Tm):basic t.aJ=true:=by cases t<;>rfl
theorem Nr (t:Tm):x8 4 t.enc:=by
 rw[Tm.ay];refine⟨rfl,?_,fun h=>by omega,fun _=>rfl,rfl⟩;have:=zN t;simp only[AV.cells,Tm.cells,List.all_cons,List.all_nil,this];rfl
theorem mR (us:List Tm):∀x ∈ us.map Tm.enc,x8 4 x:=by
 intro x hx;obtain⟨t,_,rfl⟩:=List.mem_map.1 hx;exact Nr t
def aq (us:List Tm):List AV:=us.flatMap Tm.cells
theorem ph (us:List Tm):(us.map Tm.enc).flatMap AV.cells=aq us:=by
 induction us with
 | nil=>rfl
 | cons t r ih=>
   unfold aq at ih ⊢;rw[List.map_cons,List.flatMap_cons,List.flatMap_cons,ih,Tm.ay];rfl
theorem cg (us:List Tm):(aq us).length=us.length*4:=by
 rw[←ph,sh (mR us),List.length_map]
theorem aK (us:List Tm):AV.af (aq us)=0:=by
 rw[←ph];exact ke (tD (mR us))
theorem MC (h:aa) (us:List Tm):au h 4 (.sl (us.map Tm.enc))=some (us.length,aq us):=by
 have e:au h 4 (.sl (us.map Tm.enc))=if ((us.map Tm.enc).all fun x=>(x.cells?.map List.length)==some 4) then some ((us.map Tm.enc).length,(us.map Tm.enc).flatMap AV.cells) else none:=rfl
 rw[e,if_pos (Eb (mR us)),List.length_map,ph]
def M1:ai:=⟨48,fun | [.int .i64 n]=>some (Tm.nl 1 n []).enc | _=>none⟩
theorem Uf:M1.f=48:=(rfl)
theorem Rj:az Tryz.prog M1:=fun args v hv=>by
 unfold M1 at hv ⊢;dsimp only at hv ⊢;split at hv
 ·cases hv;refine aH (n:=3) (h':=h0) (aG (ss:=[]) (by simp)) ?_ rfl rfl;simp[V0,Ww,Tm.enc]
 ·cases hv
def OO:ai:=⟨32,fun | [.int .i64 n]=>some (Tm.nl 0 n []).enc | _=>none⟩
theorem T2:OO.f=32:=(rfl)
theorem QE:az Tryz.prog OO:=fun args v hv=>by
 unfold OO at hv ⊢;dsimp only at hv ⊢;split at hv
 ·cases hv;refine aH (n:=3) (h':=h0) (aG (ss:=[]) (by simp)) ?_ rfl rfl;simp[VO,WL,Tm.enc]
 ·cases hv
def Fi:ai:=⟨28,fun | [.str s]=>some (Tm.nl 2 0 s).enc | _=>none⟩
theorem QK:Fi.f=28:=(rfl)
theorem Pe:az Tryz.prog Fi:=fun args v hv=>by
 unfold Fi at hv ⊢;dsimp only at hv ⊢;split at hv
 ·cases hv;refine aH (n:=3) (h':=h0) (aG (ss:=[]) (by simp)) ?_ rfl rfl;simp[Vo,c28,Tm.enc]
 ·cases hv
def I7 (s:List UInt8):List Tm→Tm
 | []=>.nl 2 0 s
 | us=>.mk 2 0 s us
def yp:ai:=⟨47,fun
 | [.str s,.ax]=>some (Tm.nl 2 0 s).enc
 | [.str s,.sl xs]=>(match jA xs with | some us=>if us.length < 1000000000000 then some (I7 s us).enc else none | none=>none)
 | _=>none⟩
theorem PW:yp.f=47:=(rfl)
theorem u6:∀{xs:List AV} {us:List Tm},jA xs=some us→xs=us.map Tm.enc
 | [],us,e=>by simp[jA] at e;subst e;rfl
 | x::r,us,e=>by
   simp only[jA] at e;split at e
   ·rename_i t l h1 h2;cases e;rw[bc h1,u6 h2];rfl
   ·cases e
theorem Om:az Tryz.prog yp:=fun args v hv=>by
 unfold yp at hv ⊢;dsimp only at hv ⊢;split at hv
 ·cases hv;refine aH (n:=4) (h':=h0) (aG (ss:=[]) (by simp)) ?_ rfl rfl;simp[Ni,Up,Tm.enc]
 ·rename_i s xs;split at hv
  ·rename_i us hx;split at hv
   ·rename_i hl;cases hv;rw[u6 hx];refine aH (n:=4) (h':=h0) (aG (ss:=[]) (by simp)) ?_ (Tm.ba _) (by simp[AV.af,AV.refs,aB])
    cases us with
    | nil=>simp[Ni,Up,Tm.enc,I7]
    | cons t r=>
      have h5:AV.af (r.map Tm.enc)=0:=aB _;have h6:t.enc.refs=0:=Tm.ba _;have hcl:=JE 86 (xs:=t.enc::r.map Tm.enc) (by simp);have he:=fun h=>MC h (t::r)
      have b1:(r.length+1)*56≤140737488355328:=by simp at hl;omega
      have b2:r.length+1 < 9223372036854775808:=by simp at hl;omega
      have e:(I7 s (t::r)).enc=.agg [.int .i64 2,.int .i64 0,.str s,.sl (t.enc::r.map Tm.enc)]:=by simp[I7,Tm.enc,j6,Tm.qC]
      have hfr:=aK (t::r)
      have hf:∀(X:aC) (wl md d:Nat),gr ⟨2,[.row (aq (t::r)),X],wl,md⟩ 0 (d+2) (.vec 1 0 (r.length+1) 4 (r.length+1))=some (.sl ((t::r).map Tm.enc),[1]):=fun X wl md d=>
       p8 (by omega) rfl (by omega) (mR (t::r)) (by simp) (by rw[cg];simp) (by rw[ph,List.take_of_length_le];rw[cg];simp)
      rw[e];simp only[List.map_cons,List.length_cons] at he hf;simp[Ni,Up,U3,WE,hcl,h5,h6,b1,b2,he,hfr,hf,wQ]
   ·cases hv
  ·cases hv
 ·cases hv
theorem uG:∀{a b:List AV},AV.af a=0→AV.af b=0→AV.af (a++b)=0
 | [],b,_,hb=>hb
 | v::r,b,ha,hb=>by
   simp only[AV.af] at ha;simp only[List.cons_append,AV.af];rw[uG (a:=r) (by omega) hb];omega
theorem uV:∀{a:List AV},AV.af a=0→∀k,AV.af (a.take k)=0∧AV.af (a.drop k)=0
 | [],_,k=>by simp[AV.af]
 | v::r,ha,0=>⟨by simp[AV.af],by simpa using ha⟩
 | v::r,ha,k+1=>by
   simp only[AV.af] at ha;have:=uV (a:=r) (by omega) k;simp only[List.take_succ_cons,List.drop_succ_cons,AV.af];exact⟨by rw[this.1];omega,this.2⟩
theorem dM {R:List AV} (h:AV.af R=0) (x:Tm) (k:Nat) (hk:k+4≤R.length):AV.af (putAt R k x.cells)=0:=by
 rw[kf x.cells R k (by have:x.cells.length=4:=rfl;omega)];have q1:AV.af x.cells=0:=by simp[Tm.cells,AV.af,AV.refs,ah]
 exact uG (uG (uV h _).1 q1) (uV h _).2
def dN {σ:Type} (fs:Tm→σ→Bool×σ):Nat→List Tm→σ→Bool×σ
 | 0,_,s=>(true,s)
 | _+1,[],s=>(true,s)
 | d+1,x::rs,s=>if (fs x s).1 then dN fs d (x.args++rs) (fs x s).2 else (false,(fs x s).2)
mutual
def Tm.size:Tm→Nat
 | .nl ..=>1
 | .mk _ _ _ us=>1+Tm.aI us
def Tm.aI:List Tm→Nat
 | []=>0
 | t::r=>t.size+Tm.aI r
end
theorem aM (t:Tm):t.size=1+Tm.aI t.args:=by cases t<;>rfl
theorem iB:∀a b:List Tm,Tm.aI (a++b)=Tm.aI a+Tm.aI b
 | [],b=>by simp[Tm.aI]
 | t::r,b=>by simp[Tm.aI,iB r b];omega
theorem ct:∀a:List Tm,a.length≤Tm.aI a
 | []=>by simp
 | t::r=>by
   have:=ct r;have:=aM t;simp[Tm.aI];omega
theorem xW {R:List AV} {st:List Tm} {x:Tm} (h:R.take ((st.length+1)*4)=aq (st++[x])):R.take (st.length*4)=aq st∧(R.drop (st.length*4)).take 4=x.cells:=by
 have e:aq (st++[x])=aq st++x.cells:=by simp[aq]
 have hl:=cg st;refine⟨?_,?_⟩
 ·have:=congrArg (List.take (st.length*4)) h;rw[List.take_take,Nat.min_eq_left (by omega),e,List.take_left' hl] at this;exact this
 ·have:=congrArg (List.drop (st.length*4)) h;rw[List.drop_take,e,List.drop_left' hl,show (st.length+1)*4 - st.length*4=4 by omega] at this;exact this
theorem tH (C:Nat→List AV→aa→Option (AV×aa)) (n g:Nat) (caps:List AV) (hc:AV.af caps≤2) (X:Tm) (os:List aC) (md:Nat) (hmd:∀k,2≤k→min md k=md) (w:Nat) (hw:min w 5=w):∀(i m:Nat) (st:List Tm),i≤X.args.length→i < m→st.length+i < 1000000000000→
 er 5 w (aT (ak C n aV) aL 5 m (ep (.fn g caps) (.vec 5 0 st.length 4 st.length) (.ptr 4 0) (.int .i64 ((i:Int) - 1))) ⟨6,.row (aq st)::.row X.cells::.dead::os,5,md⟩)=
  some (.exit 2,FM 44 [(1,.fn g caps),(5,.vec 5 0 (st.length+i) 4 (st.length+i))],⟨6,.row (aq (st++(X.args.take i).reverse))::.row X.cells::.dead::os,w,md⟩)
 | 0,m+1,st,_,_,_=>by
   have h1:(0≤(-1:Int))=False:=by simp
   have hr:AV.af caps≤5:=by omega
   have hm1:min md 3=md:=hmd 3 (by omega);have hm2:min md 5=md:=hmd 5 (by omega);have hfr:=aK st;simp[ae,aV,hr,hfr,hw]
 | i+1,m+1,st,hi,hm,hl=>by
   have hr:AV.af caps≤5:=by omega
   have hm1:min md 3=md:=hmd 3 (by omega);have hm2:min md 5=md:=hmd 5 (by omega);obtain⟨x,hx⟩:∃x,X.args[i]? =some x:=⟨X.args[i]'(by omega),by simp⟩
   have ih:=tH C n g caps hc X os md hmd w hw i m (st++[x]) (by omega) (by omega) (by simp;omega)
   have ha:X.aJ=.sl (X.args.map Tm.enc):=by
    cases X with
    | nl k n s=>simp[Tm.args] at hx
    | mk k n s us=>rfl
   have hX:X.cells=[.int .i64 X.kind,.int .i64 X.num,.str X.name,.sl (X.args.map Tm.enc)]:=by rw[←ha];rfl
   have h5:AV.af (X.args.map Tm.enc)=0:=aB _;have hxe:=Tm.ay x;have hxc:=Tm.an x;have hxr:=ah x;have hfr:=aK st;have hfl:=cg st;have w1:IntKind.i64.wrap ((i:Int) - 1)=(i:Int) - 1:=wrap_i64 (by omega) (by omega);have t1:(0≤(i:Int))=True:=eq_true (by omega);have b1:(st.length+1)*56≤140737488355328:=by omega
   have b2:st.length+1 < 9223372036854775808:=by omega
   have htk:X.args.take (i+1)=X.args.take i++[x]:=by
    rw[List.take_add_one,hx];rfl
   have hft:aq (st++[x])=aq st++[.int .i64 x.kind,.int .i64 x.num,.str x.name,x.aJ]:=by
    simp[aq,Tm.cells]
   have hft2:List.take (st.length*4) (aq st)=aq st:=List.take_of_length_le (by omega);have hfr2:AV.af (aq st++[.int .i64 x.kind,.int .i64 x.num,.str x.name,x.aJ])=0:=by rw[←hft];exact aK _
   rw[htk,List.reverse_append];simp only[List.length_append,List.length_cons,List.length_nil,Nat.zero_add,List.append_assoc,hft] at ih;have e1:st.length+1+i=st.length+(i+1):=by omega
   rw[e1] at ih;have e2:((i+1:Nat):Int) - 1=(i:Int):=by omega
   rw[e2,ae];rw[hX] at ih ⊢;simp[aV,aL,h5,hx,hxe,hxc,hxr,hfr,hfl,w1,t1,b1,b2,hr,hft2,hfr2,hm1,hm2,au];exact ih
theorem Bn {R:List AV} {st:List Tm} {lb:Nat} (hR:R.length=lb*4) (ht:R.take (st.length*4)=aq st) (hlb:st.length+1≤lb) (x:Tm):
 (putAt R (st.length*4) x.cells).length=lb*4∧(putAt R (st.length*4) x.cells).take ((st++[x]).length*4)=aq (st++[x]):=by
 have hc:x.cells.length=4:=rfl;have h1:st.length*4+x.cells.length≤R.length:=by omega
 refine⟨?_,?_⟩
 ·rw[kf x.cells R _ h1];simp only[List.length_append,List.length_take,List.length_drop];omega
 ·have:=gR x.cells h1;rw[List.length_append,show (st.length+[x].length)*4=st.length*4+x.cells.length by simp[hc];omega,this,ht];simp[aq]
theorem qU (C:Nat→List AV→aa→Option (AV×aa)) (n g:Nat) (caps:List AV) (hc:AV.af caps≤2) (X:Tm) (os:List aC) (md:Nat) (hmd:∀k,2≤k→min md k=md) (w:Nat) (hw:min w 5=w) (lb:Nat):∀(i m:Nat) (st:List Tm) (R:List AV),i≤X.args.length→i < m→st.length+i≤lb→lb < 1000000000000→R.length=lb*4→R.take (st.length*4)=aq st→AV.af R=0→
 ∃R',R'.length=lb*4∧R'.take ((st.length+i)*4)=aq (st++(X.args.take i).reverse)∧AV.af R'=0∧
 er 5 w (aT (ak C n aV) aL 5 m (ep (.fn g caps) (.vec 3 0 st.length 4 lb) (.ptr 4 0) (.int .i64 ((i:Int) - 1))) ⟨5,.row X.cells::.row R::os,5,md⟩)=
  some (.exit 2,FM 44 [(1,.fn g caps),(5,.vec 3 0 (st.length+i) 4 lb)],⟨5,.row X.cells::.row R'::os,w,md⟩)
 | 0,m+1,st,R,_,_,_,_,hR,ht,hrR=>by
   have h1:(0≤(-1:Int))=False:=by simp
   have hr:AV.af caps≤5:=by omega
   have hm1:min md 3=md:=hmd 3 (by omega);have hm2:min md 5=md:=hmd 5 (by omega);refine⟨R,hR,by simpa using ht,hrR,?_⟩;simp[ae,aV,hr,hw]
 | i+1,m+1,st,R,hi,hm,hlb,hl,hR,ht,hrR=>by
   have hr:AV.af caps≤5:=by omega
   have hm1:min md 3=md:=hmd 3 (by omega);have hm2:min md 5=md:=hmd 5 (by omega);obtain⟨x,hx⟩:∃x,X.args[i]? =some x:=⟨X.args[i]'(by omega),by simp⟩
   obtain⟨p1,p2⟩:=Bn hR ht (by omega) x;have p3:=dM hrR x (st.length*4) (by omega);obtain⟨R',r1,r2,r3,ih⟩:=qU C n g caps hc X os md hmd w hw lb i m (st++[x]) (putAt R (st.length*4) x.cells) (by omega) (by omega) (by simp;omega) hl p1 p2 p3;have e1:(st++[x]).length+i=st.length+(i+1):=by simp;omega
   have htk:X.args.take (i+1)=X.args.take i++[x]:=by
    rw[List.take_add_one,hx];rfl
   refine⟨R',r1,?_,r3,?_⟩
   ·rw[htk,List.reverse_append,←e1,r2];simp[List.append_assoc]
   have ha:X.aJ=.sl (X.args.map Tm.enc):=by
    cases X with
    | nl k n s=>simp[Tm.args] at hx
    | mk k n s us=>rfl
   have hX:X.cells=[.int .i64 X.kind,.int .i64 X.num,.str X.name,.sl (X.args.map Tm.enc)]:=by rw[←ha];rfl
   have h5:AV.af (X.args.map Tm.enc)=0:=aB _;have hxe:=Tm.ay x;have hxc:=Tm.an x;have hxr:=ah x;have w1:IntKind.i64.wrap ((i:Int) - 1)=(i:Int) - 1:=wrap_i64 (by omega) (by omega);have t1:(0≤(i:Int))=True:=eq_true (by omega);have b1:st.length*4≤R.length:=by omega
   have b2:st.length+1≤lb:=by omega
   have b3:(st.length+1)*4≤R.length:=by omega
   have hbs:putAt [.int .i64 0,.int .i64 0,.str [],.ax] 0 [.int .i64 x.kind,.int .i64 x.num,.str x.name,x.aJ]=[.int .i64 x.kind,.int .i64 x.num,.str x.name,x.aJ]:=rfl;have hl1:(st++[x]).length=st.length+1:=by simp
   rw[hl1,show st.length+1+i=st.length+(i+1) by omega] at ih;have e2:((i+1:Nat):Int) - 1=(i:Int):=by omega
   rw[e2,ae];rw[hX,hxc] at ih;rw[hX];simp[aV,aL,h5,hx,hxe,hxc,hxr,w1,t1,b1,b2,b3,hr,hm1,hm2,hrR,hbs,au,-cY];exact ih
theorem qH (C:Nat→List AV→aa→Option (AV×aa)) (n g:Nat) (caps:List AV) (hc:AV.af caps≤2) (X:Tm) (os:List aC) (md:Nat) (hmd:∀k,2≤k→min md k=md) (w:Nat) (hw:min w 5=w) (lb:Nat):∀(i m:Nat) (st:List Tm) (R:List AV),i≤X.args.length→i < m→st.length≤lb→lb < st.length+i→st.length+i < 1000000000000→R.length=lb*4→R.take (st.length*4)=aq st→AV.af R=0→
 er 5 w (aT (ak C n aV) aL 5 m (ep (.fn g caps) (.vec 3 0 st.length 4 lb) (.ptr 4 0) (.int .i64 ((i:Int) - 1))) ⟨5,.row X.cells::.row R::os,5,md⟩)=
  some (.exit 2,FM 44 [(1,.fn g caps),(5,.vec 5 0 (st.length+i) 4 (st.length+i))],⟨6,.row (aq (st++(X.args.take i).reverse))::.row X.cells::.dead::os,w,md⟩)
 | 0,m,st,R,_,_,h1,h2,_,_,_,_=>by omega
 | i+1,0,st,R,_,h,_,_,_,_,_,_=>by omega
 | i+1,m+1,st,R,hi,hm,h1,h2,hl,hR,ht,hrR=>by
   have hr:AV.af caps≤5:=by omega
   have hm1:min md 3=md:=hmd 3 (by omega);have hm2:min md 5=md:=hmd 5 (by omega);obtain⟨x,hx⟩:∃x,X.args[i]? =some x:=⟨X.args[i]'(by omega),by simp⟩
   have htk:X.args.take (i+1)=X.args.take i++[x]:=by
    rw[List.take_add_one,hx];rfl
   have ha:X.aJ=.sl (X.args.map Tm.enc):=by
    cases X with
    | nl k n s=>simp[Tm.args] at hx
    | mk k n s us=>rfl
   have hX:X.cells=[.int .i64 X.kind,.int .i64 X.num,.str X.name,.sl (X.args.map Tm.enc)]:=by rw[←ha];rfl
   have h5:AV.af (X.args.map Tm.enc)=0:=aB _;have hxe:=Tm.ay x;have hxc:=Tm.an x;have hxr:=ah x;have w1:IntKind.i64.wrap ((i:Int) - 1)=(i:Int) - 1:=wrap_i64 (by omega) (by omega);have t1:(0≤(i:Int))=True:=eq_true (by omega);have b1:st.length*4≤R.length:=by omega
   have hbs:putAt [.int .i64 0,.int .i64 0,.str [],.ax] 0 [.int .i64 x.kind,.int .i64 x.num,.str x.name,x.aJ]=[.int .i64 x.kind,.int .i64 x.num,.str x.name,x.aJ]:=rfl;have hl1:(st++[x]).length=st.length+1:=by simp
   have e2:((i+1:Nat):Int) - 1=(i:Int):=by omega
   by_cases hfit:st.length+1≤lb
   ·obtain⟨p1,p2⟩:=Bn hR ht (by omega) x;have p3:=dM hrR x (st.length*4) (by omega);have ih:=qH C n g caps hc X os md hmd w hw lb i m (st++[x]) (putAt R (st.length*4) x.cells) (by omega) (by omega) (by omega) (by omega) (by omega) p1 p2 p3;have b3:(st.length+1)*4≤R.length:=by omega
    rw[hl1,show st.length+1+i=st.length+(i+1) by omega] at ih;rw[e2,ae,htk,List.reverse_append];rw[hX,hxc] at ih;rw[hX];simp only[List.append_assoc] at ih;simp[aV,aL,h5,hx,hxe,hxc,hxr,w1,t1,b1,hfit,b3,hr,hm1,hm2,hrR,hbs,au,-cY];exact ih
   ·have hlb:lb=st.length:=by omega
    have ih:=tH C n g caps hc X os md hmd w hw i m (st++[x]) (by omega) (by omega) (by omega);have c1:(st.length+1)*56≤140737488355328:=by omega
    have c2:st.length+1 < 9223372036854775808:=by omega
    have hft:aq (st++[x])=aq st++[.int .i64 x.kind,.int .i64 x.num,.str x.name,x.aJ]:=by
     simp[aq,Tm.cells]
    have hfr2:AV.af (aq st++[.int .i64 x.kind,.int .i64 x.num,.str x.name,x.aJ])=0:=by rw[←hft];exact aK _
    rw[hl1,show st.length+1+i=st.length+(i+1) by omega,hft] at ih;rw[e2,ae,htk,List.reverse_append];rw[hX] at ih ⊢;simp only[List.append_assoc] at ih;simp[aV,aL,h5,hx,hxe,hxc,hxr,w1,t1,b1,hfit,c1,c2,hr,hm1,hm2,hrR,ht,hfr2,au];exact ih
theorem s0 (C:Nat→List AV→aa→Option (AV×aa)) (n g:Nat) (caps:List AV) (hc:AV.af caps≤2) (X:Tm) (os:List aC) (md:Nat) (hmd:∀k,2≤k→min md k=md) (w:Nat) (hw:min w 6=w):∀(i m:Nat) (st:List Tm),i≤X.args.length→i < m→st.length+i < 1000000000000→
 er 6 w (aT (ak C n aV) aL 6 m (ep (.fn g caps) (.vec 6 0 st.length 4 st.length) (.ptr 5 0) (.int .i64 ((i:Int) - 1))) ⟨7,.row (aq st)::.row X.cells::.dead::os,6,md⟩)=
  some (.exit 2,FM 44 [(1,.fn g caps),(5,.vec 6 0 (st.length+i) 4 (st.length+i))],⟨7,.row (aq (st++(X.args.take i).reverse))::.row X.cells::.dead::os,w,md⟩)
 | 0,m+1,st,_,_,_=>by
   have h1:(0≤(-1:Int))=False:=by simp
   have hr:AV.af caps≤6:=by omega
   have hm1:min md 4=md:=hmd 4 (by omega);have hm2:min md 6=md:=hmd 6 (by omega);have hfr:=aK st;simp[ae,aV,hr,hfr,hw]
 | i+1,m+1,st,hi,hm,hl=>by
   have hr:AV.af caps≤6:=by omega
   have hm1:min md 4=md:=hmd 4 (by omega);have hm2:min md 6=md:=hmd 6 (by omega);obtain⟨x,hx⟩:∃x,X.args[i]? =some x:=⟨X.args[i]'(by omega),by simp⟩
   have ih:=s0 C n g caps hc X os md hmd w hw i m (st++[x]) (by omega) (by omega) (by simp;omega)
   have ha:X.aJ=.sl (X.args.map Tm.enc):=by
    cases X with
    | nl k n s=>simp[Tm.args] at hx
    | mk k n s us=>rfl
   have hX:X.cells=[.int .i64 X.kind,.int .i64 X.num,.str X.name,.sl (X.args.map Tm.enc)]:=by rw[←ha];rfl
   have h5:AV.af (X.args.map Tm.enc)=0:=aB _;have hxe:=Tm.ay x;have hxc:=Tm.an x;have hxr:=ah x;have hfr:=aK st;have hfl:=cg st;have w1:IntKind.i64.wrap ((i:Int) - 1)=(i:Int) - 1:=wrap_i64 (by omega) (by omega);have t1:(0≤(i:Int))=True:=eq_true (by omega);have b1:(st.length+1)*56≤140737488355328:=by omega
   have b2:st.length+1 < 9223372036854775808:=by omega
   have htk:X.args.take (i+1)=X.args.take i++[x]:=by
    rw[List.take_add_one,hx];rfl
   have hft:aq (st++[x])=aq st++[.int .i64 x.kind,.int .i64 x.num,.str x.name,x.aJ]:=by
    simp[aq,Tm.cells]
   have hft2:List.take (st.length*4) (aq st)=aq st:=List.take_of_length_le (by omega);have hfr2:AV.af (aq st++[.int .i64 x.kind,.int .i64 x.num,.str x.name,x.aJ])=0:=by rw[←hft];exact aK _
   rw[htk,List.reverse_append];simp only[List.length_append,List.length_cons,List.length_nil,Nat.zero_add,List.append_assoc,hft] at ih;have e1:st.length+1+i=st.length+(i+1):=by omega
   rw[e1] at ih;have e2:((i+1:Nat):Int) - 1=(i:Int):=by omega
   rw[e2,ae];rw[hX] at ih ⊢;simp[aV,aL,h5,hx,hxe,hxc,hxr,hfr,hfl,w1,t1,b1,b2,hr,hft2,hfr2,hm1,hm2,au];exact ih
theorem A0 {R:List AV} {st:List Tm} {lb:Nat} (hR:R.length=lb*4) (ht:R.take (st.length*4)=aq st) (hlb:st.length+1≤lb) (x:Tm):
 (putAt R (st.length*4) x.cells).length=lb*4∧(putAt R (st.length*4) x.cells).take ((st++[x]).length*4)=aq (st++[x]):=by
 have hc:x.cells.length=4:=rfl;have h1:st.length*4+x.cells.length≤R.length:=by omega
 refine⟨?_,?_⟩
 ·rw[kf x.cells R _ h1];simp only[List.length_append,List.length_take,List.length_drop];omega
 ·have:=gR x.cells h1;rw[List.length_append,show (st.length+[x].length)*4=st.length*4+x.cells.length by simp[hc];omega,this,ht];simp[aq]
theorem qI (C:Nat→List AV→aa→Option (AV×aa)) (n g:Nat) (caps:List AV) (hc:AV.af caps≤2) (X:Tm) (os:List aC) (md:Nat) (hmd:∀k,2≤k→min md k=md) (w:Nat) (hw:min w 6=w) (lb:Nat):∀(i m:Nat) (st:List Tm) (R:List AV),i≤X.args.length→i < m→st.length+i≤lb→lb < 1000000000000→R.length=lb*4→R.take (st.length*4)=aq st→AV.af R=0→
 ∃R',R'.length=lb*4∧R'.take ((st.length+i)*4)=aq (st++(X.args.take i).reverse)∧AV.af R'=0∧
 er 6 w (aT (ak C n aV) aL 6 m (ep (.fn g caps) (.vec 4 0 st.length 4 lb) (.ptr 5 0) (.int .i64 ((i:Int) - 1))) ⟨6,.row X.cells::.row R::os,6,md⟩)=
  some (.exit 2,FM 44 [(1,.fn g caps),(5,.vec 4 0 (st.length+i) 4 lb)],⟨6,.row X.cells::.row R'::os,w,md⟩)
 | 0,m+1,st,R,_,_,_,_,hR,ht,hrR=>by
   have h1:(0≤(-1:Int))=False:=by simp
   have hr:AV.af caps≤6:=by omega
   have hm1:min md 4=md:=hmd 4 (by omega);have hm2:min md 6=md:=hmd 6 (by omega);refine⟨R,hR,by simpa using ht,hrR,?_⟩;simp[ae,aV,hr,hw]
 | i+1,m+1,st,R,hi,hm,hlb,hl,hR,ht,hrR=>by
   have hr:AV.af caps≤6:=by omega
   have hm1:min md 4=md:=hmd 4 (by omega);have hm2:min md 6=md:=hmd 6 (by omega);obtain⟨x,hx⟩:∃x,X.args[i]? =some x:=⟨X.args[i]'(by omega),by simp⟩
   obtain⟨p1,p2⟩:=A0 hR ht (by omega) x;have p3:=dM hrR x (st.length*4) (by omega);obtain⟨R',r1,r2,r3,ih⟩:=qI C n g caps hc X os md hmd w hw lb i m (st++[x]) (putAt R (st.length*4) x.cells) (by omega) (by omega) (by simp;omega) hl p1 p2 p3;have e1:(st++[x]).length+i=st.length+(i+1):=by simp;omega
   have htk:X.args.take (i+1)=X.args.take i++[x]:=by
    rw[List.take_add_one,hx];rfl
   refine⟨R',r1,?_,r3,?_⟩
   ·rw[htk,List.reverse_append,←e1,r2];simp[List.append_assoc]
   have ha:X.aJ=.sl (X.args.map Tm.enc):=by
    cases X with
    | nl k n s=>simp[Tm.args] at hx
    | mk k n s us=>rfl
   have hX:X.cells=[.int .i64 X.kind,.int .i64 X.num,.str X.name,.sl (X.args.map Tm.enc)]:=by rw[←ha];rfl
   have h5:AV.af (X.args.map Tm.enc)=0:=aB _;have hxe:=Tm.ay x;have hxc:=Tm.an x;have hxr:=ah x;have w1:IntKind.i64.wrap ((i:Int) - 1)=(i:Int) - 1:=wrap_i64 (by omega) (by omega);have t1:(0≤(i:Int))=True:=eq_true (by omega);have b1:st.length*4≤R.length:=by omega
   have b2:st.length+1≤lb:=by omega
   have b3:(st.length+1)*4≤R.length:=by omega
   have hbs:putAt [.int .i64 0,.int .i64 0,.str [],.ax] 0 [.int .i64 x.kind,.int .i64 x.num,.str x.name,x.aJ]=[.int .i64 x.kind,.int .i64 x.num,.str x.name,x.aJ]:=rfl;have hl1:(st++[x]).length=st.length+1:=by simp
   rw[hl1,show st.length+1+i=st.length+(i+1) by omega] at ih;have e2:((i+1:Nat):Int) - 1=(i:Int):=by omega
   rw[e2,ae];rw[hX,hxc] at ih;rw[hX];simp[aV,aL,h5,hx,hxe,hxc,hxr,w1,t1,b1,b2,b3,hr,hm1,hm2,hrR,hbs,au,-cY];exact ih
theorem qL (C:Nat→List AV→aa→Option (AV×aa)) (n g:Nat) (caps:List AV) (hc:AV.af caps≤2) (X:Tm) (os:List aC) (md:Nat) (hmd:∀k,2≤k→min md k=md) (w:Nat) (hw:min w 6=w) (lb:Nat):∀(i m:Nat) (st:List Tm) (R:List AV),i≤X.args.length→i < m→st.length≤lb→lb < st.length+i→st.length+i < 1000000000000→R.length=lb*4→R.take (st.length*4)=aq st→AV.af R=0→
 er 6 w (aT (ak C n aV) aL 6 m (ep (.fn g caps) (.vec 4 0 st.length 4 lb) (.ptr 5 0) (.int .i64 ((i:Int) - 1))) ⟨6,.row X.cells::.row R::os,6,md⟩)=
  some (.exit 2,FM 44 [(1,.fn g caps),(5,.vec 6 0 (st.length+i) 4 (st.length+i))],⟨7,.row (aq (st++(X.args.take i).reverse))::.row X.cells::.dead::os,w,md⟩)
 | 0,m,st,R,_,_,h1,h2,_,_,_,_=>by omega
 | i+1,0,st,R,_,h,_,_,_,_,_,_=>by omega
 | i+1,m+1,st,R,hi,hm,h1,h2,hl,hR,ht,hrR=>by
   have hr:AV.af caps≤6:=by omega
   have hm1:min md 4=md:=hmd 4 (by omega);have hm2:min md 6=md:=hmd 6 (by omega);obtain⟨x,hx⟩:∃x,X.args[i]? =some x:=⟨X.args[i]'(by omega),by simp⟩
   have htk:X.args.take (i+1)=X.args.take i++[x]:=by
    rw[List.take_add_one,hx];rfl
   have ha:X.aJ=.sl (X.args.map Tm.enc):=by
    cases X with
    | nl k n s=>simp[Tm.args] at hx
    | mk k n s us=>rfl
   have hX:X.cells=[.int .i64 X.kind,.int .i64 X.num,.str X.name,.sl (X.args.map Tm.enc)]:=by rw[←ha];rfl
   have h5:AV.af (X.args.map Tm.enc)=0:=aB _;have hxe:=Tm.ay x;have hxc:=Tm.an x;have hxr:=ah x;have w1:IntKind.i64.wrap ((i:Int) - 1)=(i:Int) - 1:=wrap_i64 (by omega) (by omega);have t1:(0≤(i:Int))=True:=eq_true (by omega);have b1:st.length*4≤R.length:=by omega
   have hbs:putAt [.int .i64 0,.int .i64 0,.str [],.ax] 0 [.int .i64 x.kind,.int .i64 x.num,.str x.name,x.aJ]=[.int .i64 x.kind,.int .i64 x.num,.str x.name,x.aJ]:=rfl;have hl1:(st++[x]).length=st.length+1:=by simp
   have e2:((i+1:Nat):Int) - 1=(i:Int):=by omega
   by_cases hfit:st.length+1≤lb
   ·obtain⟨p1,p2⟩:=A0 hR ht (by omega) x;have p3:=dM hrR x (st.length*4) (by omega);have ih:=qL C n g caps hc X os md hmd w hw lb i m (st++[x]) (putAt R (st.length*4) x.cells) (by omega) (by omega) (by omega) (by omega) (by omega) p1 p2 p3;have b3:(st.length+1)*4≤R.length:=by omega
    rw[hl1,show st.length+1+i=st.length+(i+1) by omega] at ih;rw[e2,ae,htk,List.reverse_append];rw[hX,hxc] at ih;rw[hX];simp only[List.append_assoc] at ih;simp[aV,aL,h5,hx,hxe,hxc,hxr,w1,t1,b1,hfit,b3,hr,hm1,hm2,hrR,hbs,au,-cY];exact ih
   ·have hlb:lb=st.length:=by omega
    have ih:=s0 C n g caps hc X os md hmd w hw i m (st++[x]) (by omega) (by omega) (by omega);have c1:(st.length+1)*56≤140737488355328:=by omega
    have c2:st.length+1 < 9223372036854775808:=by omega
    have hft:aq (st++[x])=aq st++[.int .i64 x.kind,.int .i64 x.num,.str x.name,x.aJ]:=by
     simp[aq,Tm.cells]
    have hfr2:AV.af (aq st++[.int .i64 x.kind,.int .i64 x.num,.str x.name,x.aJ])=0:=by rw[←hft];exact aK _
    rw[hl1,show st.length+1+i=st.length+(i+1) by omega,hft] at ih;rw[e2,ae,htk,List.reverse_append];rw[hX] at ih ⊢;simp only[List.append_assoc] at ih;simp[aV,aL,h5,hx,hxe,hxc,hxr,w1,t1,b1,hfit,c1,c2,hr,hm1,hm2,hrR,ht,hfr2,au];exact ih
theorem tC (C:Nat→List AV→aa→Option (AV×aa)) (n g:Nat) (caps:List AV) (hc:AV.af caps≤1) (X:Tm) (os:List aC) (md:Nat) (hmd:∀k,1≤k→min md k=md) (w:Nat) (hw:min w 4=w):∀(i m:Nat) (st:List Tm),i≤X.args.length→i < m→st.length+i < 1000000000000→
 er 4 w (aT (ak C n aV) aL 4 m (ep (.fn g caps) (.vec 4 0 st.length 4 st.length) (.ptr 3 0) (.int .i64 ((i:Int) - 1))) ⟨5,.row (aq st)::.row X.cells::.dead::os,4,md⟩)=
  some (.exit 2,FM 44 [(1,.fn g caps),(5,.vec 4 0 (st.length+i) 4 (st.length+i))],⟨5,.row (aq (st++(X.args.take i).reverse))::.row X.cells::.dead::os,w,md⟩)
 | 0,m+1,st,_,_,_=>by
   have h1:(0≤(-1:Int))=False:=by simp
   have hr:AV.af caps≤4:=by omega
   have hm1:min md 2=md:=hmd 2 (by omega);have hm2:min md 4=md:=hmd 4 (by omega);have hfr:=aK st;simp[ae,aV,hr,hfr,hw]
 | i+1,m+1,st,hi,hm,hl=>by
   have hr:AV.af caps≤4:=by omega
   have hm1:min md 2=md:=hmd 2 (by omega);have hm2:min md 4=md:=hmd 4 (by omega);obtain⟨x,hx⟩:∃x,X.args[i]? =some x:=⟨X.args[i]'(by omega),by simp⟩
   have ih:=tC C n g caps hc X os md hmd w hw i m (st++[x]) (by omega) (by omega) (by simp;omega)
   have ha:X.aJ=.sl (X.args.map Tm.enc):=by
    cases X with
    | nl k n s=>simp[Tm.args] at hx
    | mk k n s us=>rfl
   have hX:X.cells=[.int .i64 X.kind,.int .i64 X.num,.str X.name,.sl (X.args.map Tm.enc)]:=by rw[←ha];rfl
   have h5:AV.af (X.args.map Tm.enc)=0:=aB _;have hxe:=Tm.ay x;have hxc:=Tm.an x;have hxr:=ah x;have hfr:=aK st;have hfl:=cg st;have w1:IntKind.i64.wrap ((i:Int) - 1)=(i:Int) - 1:=wrap_i64 (by omega) (by omega);have t1:(0≤(i:Int))=True:=eq_true (by omega);have b1:(st.length+1)*56≤140737488355328:=by omega
   have b2:st.length+1 < 9223372036854775808:=by omega
   have htk:X.args.take (i+1)=X.args.take i++[x]:=by
    rw[List.take_add_one,hx];rfl
   have hft:aq (st++[x])=aq st++[.int .i64 x.kind,.int .i64 x.num,.str x.name,x.aJ]:=by
    simp[aq,Tm.cells]
   have hft2:List.take (st.length*4) (aq st)=aq st:=List.take_of_length_le (by omega);have hfr2:AV.af (aq st++[.int .i64 x.kind,.int .i64 x.num,.str x.name,x.aJ])=0:=by rw[←hft];exact aK _
   rw[htk,List.reverse_append];simp only[List.length_append,List.length_cons,List.length_nil,Nat.zero_add,List.append_assoc,hft] at ih;have e1:st.length+1+i=st.length+(i+1):=by omega
   rw[e1] at ih;have e2:((i+1:Nat):Int) - 1=(i:Int):=by omega
   rw[e2,ae];rw[hX] at ih ⊢;simp[aV,aL,h5,hx,hxe,hxc,hxr,hfr,hfl,w1,t1,b1,b2,hr,hft2,hfr2,hm1,hm2,au];exact ih
theorem AN {R:List AV} {st:List Tm} {lb:Nat} (hR:R.length=lb*4) (ht:R.take (st.length*4)=aq st) (hlb:st.length+1≤lb) (x:Tm):
 (putAt R (st.length*4) x.cells).length=lb*4∧(putAt R (st.length*4) x.cells).take ((st++[x]).length*4)=aq (st++[x]):=by
 have hc:x.cells.length=4:=rfl;have h1:st.length*4+x.cells.length≤R.length:=by omega
 refine⟨?_,?_⟩
 ·rw[kf x.cells R _ h1];simp only[List.length_append,List.length_take,List.length_drop];omega
 ·have:=gR x.cells h1;rw[List.length_append,show (st.length+[x].length)*4=st.length*4+x.cells.length by simp[hc];omega,this,ht];simp[aq]
theorem qN (C:Nat→List AV→aa→Option (AV×aa)) (n g:Nat) (caps:List AV) (hc:AV.af caps≤1) (X:Tm) (os:List aC) (md:Nat) (hmd:∀k,1≤k→min md k=md) (w:Nat) (hw:min w 4=w) (lb:Nat):∀(i m:Nat) (st:List Tm) (R:List AV),i≤X.args.length→i < m→st.length+i≤lb→lb < 1000000000000→R.length=lb*4→R.take (st.length*4)=aq st→AV.af R=0→
 ∃R',R'.length=lb*4∧R'.take ((st.length+i)*4)=aq (st++(X.args.take i).reverse)∧AV.af R'=0∧
 er 4 w (aT (ak C n aV) aL 4 m (ep (.fn g caps) (.vec 2 0 st.length 4 lb) (.ptr 3 0) (.int .i64 ((i:Int) - 1))) ⟨4,.row X.cells::.row R::os,4,md⟩)=
  some (.exit 2,FM 44 [(1,.fn g caps),(5,.vec 2 0 (st.length+i) 4 lb)],⟨4,.row X.cells::.row R'::os,w,md⟩)
 | 0,m+1,st,R,_,_,_,_,hR,ht,hrR=>by
   have h1:(0≤(-1:Int))=False:=by simp
   have hr:AV.af caps≤4:=by omega
   have hm1:min md 2=md:=hmd 2 (by omega);have hm2:min md 4=md:=hmd 4 (by omega);refine⟨R,hR,by simpa using ht,hrR,?_⟩;simp[ae,aV,hr,hw]
 | i+1,m+1,st,R,hi,hm,hlb,hl,hR,ht,hrR=>by
   have hr:AV.af caps≤4:=by omega
   have hm1:min md 2=md:=hmd 2 (by omega);have hm2:min md 4=md:=hmd 4 (by omega);obtain⟨x,hx⟩:∃x,X.args[i]? =some x:=⟨X.args[i]'(by omega),by simp⟩
   obtain⟨p1,p2⟩:=AN hR ht (by omega) x;have p3:=dM hrR x (st.length*4) (by omega);obtain⟨R',r1,r2,r3,ih⟩:=qN C n g caps hc X os md hmd w hw lb i m (st++[x]) (putAt R (st.length*4) x.cells) (by omega) (by omega) (by simp;omega) hl p1 p2 p3;have e1:(st++[x]).length+i=st.length+(i+1):=by simp;omega
   have htk:X.args.take (i+1)=X.args.take i++[x]:=by
    rw[List.take_add_one,hx];rfl
   refine⟨R',r1,?_,r3,?_⟩
   ·rw[htk,List.reverse_append,←e1,r2];simp[List.append_assoc]
   have ha:X.aJ=.sl (X.args.map Tm.enc):=by
    cases X with
    | nl k n s=>simp[Tm.args] at hx
    | mk k n s us=>rfl
   have hX:X.cells=[.int .i64 X.kind,.int .i64 X.num,.str X.name,.sl (X.args.map Tm.enc)]:=by rw[←ha];rfl
   have h5:AV.af (X.args.map Tm.enc)=0:=aB _;have hxe:=Tm.ay x;have hxc:=Tm.an x;have hxr:=ah x;have w1:IntKind.i64.wrap ((i:Int) - 1)=(i:Int) - 1:=wrap_i64 (by omega) (by omega);have t1:(0≤(i:Int))=True:=eq_true (by omega);have b1:st.length*4≤R.length:=by omega
   have b2:st.length+1≤lb:=by omega
   have b3:(st.length+1)*4≤R.length:=by omega
   have hbs:putAt [.int .i64 0,.int .i64 0,.str [],.ax] 0 [.int .i64 x.kind,.int .i64 x.num,.str x.name,x.aJ]=[.int .i64 x.kind,.int .i64 x.num,.str x.name,x.aJ]:=rfl;have hl1:(st++[x]).length=st.length+1:=by simp
   rw[hl1,show st.length+1+i=st.length+(i+1) by omega] at ih;have e2:((i+1:Nat):Int) - 1=(i:Int):=by omega
   rw[e2,ae];rw[hX,hxc] at ih;rw[hX];simp[aV,aL,h5,hx,hxe,hxc,hxr,w1,t1,b1,b2,b3,hr,hm1,hm2,hrR,hbs,au,-cY];exact ih
theorem qK (C:Nat→List AV→aa→Option (AV×aa)) (n g:Nat) (caps:List AV) (hc:AV.af caps≤1) (X:Tm) (os:List aC) (md:Nat) (hmd:∀k,1≤k→min md k=md) (w:Nat) (hw:min w 4=w) (lb:Nat):∀(i m:Nat) (st:List Tm) (R:List AV),i≤X.args.length→i < m→st.length≤lb→lb < st.length+i→st.length+i < 1000000000000→R.length=lb*4→R.take (st.length*4)=aq st→AV.af R=0→
 er 4 w (aT (ak C n aV) aL 4 m (ep (.fn g caps) (.vec 2 0 st.length 4 lb) (.ptr 3 0) (.int .i64 ((i:Int) - 1))) ⟨4,.row X.cells::.row R::os,4,md⟩)=
  some (.exit 2,FM 44 [(1,.fn g caps),(5,.vec 4 0 (st.length+i) 4 (st.length+i))],⟨5,.row (aq (st++(X.args.take i).reverse))::.row X.cells::.dead::os,w,md⟩)
 | 0,m,st,R,_,_,h1,h2,_,_,_,_=>by omega
 | i+1,0,st,R,_,h,_,_,_,_,_,_=>by omega
 | i+1,m+1,st,R,hi,hm,h1,h2,hl,hR,ht,hrR=>by
   have hr:AV.af caps≤4:=by omega
   have hm1:min md 2=md:=hmd 2 (by omega);have hm2:min md 4=md:=hmd 4 (by omega);obtain⟨x,hx⟩:∃x,X.args[i]? =some x:=⟨X.args[i]'(by omega),by simp⟩
   have htk:X.args.take (i+1)=X.args.take i++[x]:=by
    rw[List.take_add_one,hx];rfl
   have ha:X.aJ=.sl (X.args.map Tm.enc):=by
    cases X with
    | nl k n s=>simp[Tm.args] at hx
    | mk k n s us=>rfl
   have hX:X.cells=[.int .i64 X.kind,.int .i64 X.num,.str X.name,.sl (X.args.map Tm.enc)]:=by rw[←ha];rfl
   have h5:AV.af (X.args.map Tm.enc)=0:=aB _;have hxe:=Tm.ay x;have hxc:=Tm.an x;have hxr:=ah x;have w1:IntKind.i64.wrap ((i:Int) - 1)=(i:Int) - 1:=wrap_i64 (by omega) (by omega);have t1:(0≤(i:Int))=True:=eq_true (by omega);have b1:st.length*4≤R.length:=by omega
   have hbs:putAt [.int .i64 0,.int .i64 0,.str [],.ax] 0 [.int .i64 x.kind,.int .i64 x.num,.str x.name,x.aJ]=[.int .i64 x.kind,.int .i64 x.num,.str x.name,x.aJ]:=rfl;have hl1:(st++[x]).length=st.length+1:=by simp
   have e2:((i+1:Nat):Int) - 1=(i:Int):=by omega
   by_cases hfit:st.length+1≤lb
   ·obtain⟨p1,p2⟩:=AN hR ht (by omega) x;have p3:=dM hrR x (st.length*4) (by omega);have ih:=qK C n g caps hc X os md hmd w hw lb i m (st++[x]) (putAt R (st.length*4) x.cells) (by omega) (by omega) (by omega) (by omega) (by omega) p1 p2 p3;have b3:(st.length+1)*4≤R.length:=by omega
    rw[hl1,show st.length+1+i=st.length+(i+1) by omega] at ih;rw[e2,ae,htk,List.reverse_append];rw[hX,hxc] at ih;rw[hX];simp only[List.append_assoc] at ih;simp[aV,aL,h5,hx,hxe,hxc,hxr,w1,t1,b1,hfit,b3,hr,hm1,hm2,hrR,hbs,au,-cY];exact ih
   ·have hlb:lb=st.length:=by omega
    have ih:=tC C n g caps hc X os md hmd w hw i m (st++[x]) (by omega) (by omega) (by omega);have c1:(st.length+1)*56≤140737488355328:=by omega
    have c2:st.length+1 < 9223372036854775808:=by omega
    have hft:aq (st++[x])=aq st++[.int .i64 x.kind,.int .i64 x.num,.str x.name,x.aJ]:=by
     simp[aq,Tm.cells]
    have hfr2:AV.af (aq st++[.int .i64 x.kind,.int .i64 x.num,.str x.name,x.aJ])=0:=by rw[←hft];exact aK _
    rw[hl1,show st.length+1+i=st.length+(i+1) by omega,hft] at ih;rw[e2,ae,htk,List.reverse_append];rw[hX] at ih ⊢;simp only[List.append_assoc] at ih;simp[aV,aL,h5,hx,hxe,hxc,hxr,w1,t1,b1,hfit,c1,c2,hr,hm1,hm2,hrR,ht,hfr2,au];exact ih
theorem sr (C:Nat→List AV→aa→Option (AV×aa)) (n g:Nat) (caps:List AV) (hc:AV.af caps≤1) (X:Tm) (os:List aC) (md:Nat) (hmd:∀k,1≤k→min md k=md) (w:Nat) (hw:min w 5=w):∀(i m:Nat) (st:List Tm),i≤X.args.length→i < m→st.length+i < 1000000000000→
 er 5 w (aT (ak C n aV) aL 5 m (ep (.fn g caps) (.vec 5 0 st.length 4 st.length) (.ptr 4 0) (.int .i64 ((i:Int) - 1))) ⟨6,.row (aq st)::.row X.cells::.dead::os,5,md⟩)=
  some (.exit 2,FM 44 [(1,.fn g caps),(5,.vec 5 0 (st.length+i) 4 (st.length+i))],⟨6,.row (aq (st++(X.args.take i).reverse))::.row X.cells::.dead::os,w,md⟩)
 | 0,m+1,st,_,_,_=>by
   have h1:(0≤(-1:Int))=False:=by simp
   have hr:AV.af caps≤5:=by omega
   have hm1:min md 3=md:=hmd 3 (by omega);have hm2:min md 5=md:=hmd 5 (by omega);have hfr:=aK st;simp[ae,aV,hr,hfr,hw]
 | i+1,m+1,st,hi,hm,hl=>by
   have hr:AV.af caps≤5:=by omega
   have hm1:min md 3=md:=hmd 3 (by omega);have hm2:min md 5=md:=hmd 5 (by omega);obtain⟨x,hx⟩:∃x,X.args[i]? =some x:=⟨X.args[i]'(by omega),by simp⟩
   have ih:=sr C n g caps hc X os md hmd w hw i m (st++[x]) (by omega) (by omega) (by simp;omega)
   have ha:X.aJ=.sl (X.args.map Tm.enc):=by
    cases X with
    | nl k n s=>simp[Tm.args] at hx
    | mk k n s us=>rfl
   have hX:X.cells=[.int .i64 X.kind,.int .i64 X.num,.str X.name,.sl (X.args.map Tm.enc)]:=by rw[←ha];rfl
   have h5:AV.af (X.args.map Tm.enc)=0:=aB _;have hxe:=Tm.ay x;have hxc:=Tm.an x;have hxr:=ah x;have hfr:=aK st;have hfl:=cg st;have w1:IntKind.i64.wrap ((i:Int) - 1)=(i:Int) - 1:=wrap_i64 (by omega) (by omega);have t1:(0≤(i:Int))=True:=eq_true (by omega);have b1:(st.length+1)*56≤140737488355328:=by omega
   have b2:st.length+1 < 9223372036854775808:=by omega
   have htk:X.args.take (i+1)=X.args.take i++[x]:=by
    rw[List.take_add_one,hx];rfl
   have hft:aq (st++[x])=aq st++[.int .i64 x.kind,.int .i64 x.num,.str x.name,x.aJ]:=by
    simp[aq,Tm.cells]
   have hft2:List.take (st.length*4) (aq st)=aq st:=List.take_of_length_le (by omega);have hfr2:AV.af (aq st++[.int .i64 x.kind,.int .i64 x.num,.str x.name,x.aJ])=0:=by rw[←hft];exact aK _
   rw[htk,List.reverse_append];simp only[List.length_append,List.length_cons,List.length_nil,Nat.zero_add,List.append_assoc,hft] at ih;have e1:st.length+1+i=st.length+(i+1):=by omega
   rw[e1] at ih;have e2:((i+1:Nat):Int) - 1=(i:Int):=by omega
   rw[e2,ae];rw[hX] at ih ⊢;simp[aV,aL,h5,hx,hxe,hxc,hxr,hfr,hfl,w1,t1,b1,b2,hr,hft2,hfr2,hm1,hm2,au];exact ih
theorem BB {R:List AV} {st:List Tm} {lb:Nat} (hR:R.length=lb*4) (ht:R.take (st.length*4)=aq st) (hlb:st.length+1≤lb) (x:Tm):
 (putAt R (st.length*4) x.cells).length=lb*4∧(putAt R (st.length*4) x.cells).take ((st++[x]).length*4)=aq (st++[x]):=by
 have hc:x.cells.length=4:=rfl;have h1:st.length*4+x.cells.length≤R.length:=by omega
 refine⟨?_,?_⟩
 ·rw[kf x.cells R _ h1];simp only[List.length_append,List.length_take,List.length_drop];omega
 ·have:=gR x.cells h1;rw[List.length_append,show (st.length+[x].length)*4=st.length*4+x.cells.length by simp[hc];omega,this,ht];simp[aq]
theorem qV (C:Nat→List AV→aa→Option (AV×aa)) (n g:Nat) (caps:List AV) (hc:AV.af caps≤1) (X:Tm) (os:List aC) (md:Nat) (hmd:∀k,1≤k→min md k=md) (w:Nat) (hw:min w 5=w) (lb:Nat):∀(i m:Nat) (st:List Tm) (R:List AV),i≤X.args.length→i < m→st.length+i≤lb→lb < 1000000000000→R.length=lb*4→R.take (st.length*4)=aq st→AV.af R=0→
 ∃R',R'.length=lb*4∧R'.take ((st.length+i)*4)=aq (st++(X.args.take i).reverse)∧AV.af R'=0∧
 er 5 w (aT (ak C n aV) aL 5 m (ep (.fn g caps) (.vec 3 0 st.length 4 lb) (.ptr 4 0) (.int .i64 ((i:Int) - 1))) ⟨5,.row X.cells::.row R::os,5,md⟩)=
  some (.exit 2,FM 44 [(1,.fn g caps),(5,.vec 3 0 (st.length+i) 4 lb)],⟨5,.row X.cells::.row R'::os,w,md⟩)
 | 0,m+1,st,R,_,_,_,_,hR,ht,hrR=>by
   have h1:(0≤(-1:Int))=False:=by simp
   have hr:AV.af caps≤5:=by omega
   have hm1:min md 3=md:=hmd 3 (by omega);have hm2:min md 5=md:=hmd 5 (by omega);refine⟨R,hR,by simpa using ht,hrR,?_⟩;simp[ae,aV,hr,hw]
 | i+1,m+1,st,R,hi,hm,hlb,hl,hR,ht,hrR=>by
   have hr:AV.af caps≤5:=by omega
   have hm1:min md 3=md:=hmd 3 (by omega);have hm2:min md 5=md:=hmd 5 (by omega);obtain⟨x,hx⟩:∃x,X.args[i]? =some x:=⟨X.args[i]'(by omega),by simp⟩
   obtain⟨p1,p2⟩:=BB hR ht (by omega) x;have p3:=dM hrR x (st.length*4) (by omega);obtain⟨R',r1,r2,r3,ih⟩:=qV C n g caps hc X os md hmd w hw lb i m (st++[x]) (putAt R (st.length*4) x.cells) (by omega) (by omega) (by simp;omega) hl p1 p2 p3;have e1:(st++[x]).length+i=st.length+(i+1):=by simp;omega
   have htk:X.args.take (i+1)=X.args.take i++[x]:=by
    rw[List.take_add_one,hx];rfl
   refine⟨R',r1,?_,r3,?_⟩
   ·rw[htk,List.reverse_append,←e1,r2];simp[List.append_assoc]
   have ha:X.aJ=.sl (X.args.map Tm.enc):=by
    cases X with
    | nl k n s=>simp[Tm.args] at hx
    | mk k n s us=>rfl
   have hX:X.cells=[.int .i64 X.kind,.int .i64 X.num,.str X.name,.sl (X.args.map Tm.enc)]:=by rw[←ha];rfl
   have h5:AV.af (X.args.map Tm.enc)=0:=aB _;have hxe:=Tm.ay x;have hxc:=Tm.an x;have hxr:=ah x;have w1:IntKind.i64.wrap ((i:Int) - 1)=(i:Int) - 1:=wrap_i64 (by omega) (by omega);have t1:(0≤(i:Int))=True:=eq_true (by omega);have b1:st.length*4≤R.length:=by omega
   have b2:st.length+1≤lb:=by omega
   have b3:(st.length+1)*4≤R.length:=by omega
   have hbs:putAt [.int .i64 0,.int .i64 0,.str [],.ax] 0 [.int .i64 x.kind,.int .i64 x.num,.str x.name,x.aJ]=[.int .i64 x.kind,.int .i64 x.num,.str x.name,x.aJ]:=rfl;have hl1:(st++[x]).length=st.length+1:=by simp
   rw[hl1,show st.length+1+i=st.length+(i+1) by omega] at ih;have e2:((i+1:Nat):Int) - 1=(i:Int):=by omega
   rw[e2,ae];rw[hX,hxc] at ih;rw[hX];simp[aV,aL,h5,hx,hxe,hxc,hxr,w1,t1,b1,b2,b3,hr,hm1,hm2,hrR,hbs,au,-cY];exact ih
theorem qT (C:Nat→List AV→aa→Option (AV×aa)) (n g:Nat) (caps:List AV) (hc:AV.af caps≤1) (X:Tm) (os:List aC) (md:Nat) (hmd:∀k,1≤k→min md k=md) (w:Nat) (hw:min w 5=w) (lb:Nat):∀(i m:Nat) (st:List Tm) (R:List AV),i≤X.args.length→i < m→st.length≤lb→lb < st.length+i→st.length+i < 1000000000000→R.length=lb*4→R.take (st.length*4)=aq st→AV.af R=0→
 er 5 w (aT (ak C n aV) aL 5 m (ep (.fn g caps) (.vec 3 0 st.length 4 lb) (.ptr 4 0) (.int .i64 ((i:Int) - 1))) ⟨5,.row X.cells::.row R::os,5,md⟩)=
  some (.exit 2,FM 44 [(1,.fn g caps),(5,.vec 5 0 (st.length+i) 4 (st.length+i))],⟨6,.row (aq (st++(X.args.take i).reverse))::.row X.cells::.dead::os,w,md⟩)
 | 0,m,st,R,_,_,h1,h2,_,_,_,_=>by omega
 | i+1,0,st,R,_,h,_,_,_,_,_,_=>by omega
 | i+1,m+1,st,R,hi,hm,h1,h2,hl,hR,ht,hrR=>by
   have hr:AV.af caps≤5:=by omega
   have hm1:min md 3=md:=hmd 3 (by omega);have hm2:min md 5=md:=hmd 5 (by omega);obtain⟨x,hx⟩:∃x,X.args[i]? =some x:=⟨X.args[i]'(by omega),by simp⟩
   have htk:X.args.take (i+1)=X.args.take i++[x]:=by
    rw[List.take_add_one,hx];rfl
   have ha:X.aJ=.sl (X.args.map Tm.enc):=by
    cases X with
    | nl k n s=>simp[Tm.args] at hx
    | mk k n s us=>rfl
   have hX:X.cells=[.int .i64 X.kind,.int .i64 X.num,.str X.name,.sl (X.args.map Tm.enc)]:=by rw[←ha];rfl
   have h5:AV.af (X.args.map Tm.enc)=0:=aB _;have hxe:=Tm.ay x;have hxc:=Tm.an x;have hxr:=ah x;have w1:IntKind.i64.wrap ((i:Int) - 1)=(i:Int) - 1:=wrap_i64 (by omega) (by omega);have t1:(0≤(i:Int))=True:=eq_true (by omega);have b1:st.length*4≤R.length:=by omega
   have hbs:putAt [.int .i64 0,.int .i64 0,.str [],.ax] 0 [.int .i64 x.kind,.int .i64 x.num,.str x.name,x.aJ]=[.int .i64 x.kind,.int .i64 x.num,.str x.name,x.aJ]:=rfl;have hl1:(st++[x]).length=st.length+1:=by simp
   have e2:((i+1:Nat):Int) - 1=(i:Int):=by omega
   by_cases hfit:st.length+1≤lb
   ·obtain⟨p1,p2⟩:=BB hR ht (by omega) x;have p3:=dM hrR x (st.length*4) (by omega);have ih:=qT C n g caps hc X os md hmd w hw lb i m (st++[x]) (putAt R (st.length*4) x.cells) (by omega) (by omega) (by omega) (by omega) (by omega) p1 p2 p3;have b3:(st.length+1)*4≤R.length:=by omega
    rw[hl1,show st.length+1+i=st.length+(i+1) by omega] at ih;rw[e2,ae,htk,List.reverse_append];rw[hX,hxc] at ih;rw[hX];simp only[List.append_assoc] at ih;simp[aV,aL,h5,hx,hxe,hxc,hxr,w1,t1,b1,hfit,b3,hr,hm1,hm2,hrR,hbs,au,-cY];exact ih
   ·have hlb:lb=st.length:=by omega
    have ih:=sr C n g caps hc X os md hmd w hw i m (st++[x]) (by omega) (by omega) (by omega);have c1:(st.length+1)*56≤140737488355328:=by omega
    have c2:st.length+1 < 9223372036854775808:=by omega
    have hft:aq (st++[x])=aq st++[.int .i64 x.kind,.int .i64 x.num,.str x.name,x.aJ]:=by
     simp[aq,Tm.cells]
    have hfr2:AV.af (aq st++[.int .i64 x.kind,.int .i64 x.num,.str x.name,x.aJ])=0:=by rw[←hft];exact aK _
    rw[hl1,show st.length+1+i=st.length+(i+1) by omega,hft] at ih;rw[e2,ae,htk,List.reverse_append];rw[hX] at ih ⊢;simp only[List.append_assoc] at ih;simp[aV,aL,h5,hx,hxe,hxc,hxr,w1,t1,b1,hfit,c1,c2,hr,hm1,hm2,hrR,ht,hfr2,au];exact ih
theorem nO {σ:Type} (C:Nat→List AV→aa→Option (AV×aa)) (n g:Nat) (caps:List AV) (hc:AV.af caps≤2) (fs:Tm→σ→Bool×σ) (tl:σ→List aC) (T:Tm) (mf:Nat→Nat)
 (okX:Tm→Prop) (hokX:∀x,okX x→∀y ∈ x.args,okX y) (okS:σ→Prop) (hokS:∀s x,okS s→(fs x s).1=true→okS (fs x s).2) (lG:Nat→Prop) (hmf:∀md,lG md→lG (mf md)) (hmd:∀md,lG md→∀k,2≤k→min md k=md) (w:Nat) (hw:min w 4=w)
 (hA:∀s x R md,okX x→okS s→lG md→C g (x.enc::caps) ⟨5,.row x.cells::.row R::.row T.cells::tl s,4,md⟩=some (.bool (fs x s).1,⟨5,.row x.cells::.row R::.row T.cells::tl (fs x s).2,4,mf md⟩))
 (hB:∀s x R md,okX x→okS s→lG md→C g (x.enc::caps) ⟨6,.row x.cells::.row R::.dead::.row T.cells::tl s,4,md⟩=some (.bool (fs x s).1,⟨6,.row x.cells::.row R::.dead::.row T.cells::tl (fs x s).2,4,mf md⟩)):
 ∀(d m:Nat) (rs:List Tm) (R:List AV) (lb:Nat) (s:σ) (md:Nat),Tm.aI rs < d→d≤m→d≤n→Tm.aI rs < 1000000000→lb < 1000000000→rs.length≤lb→R.length=lb*4→R.take (rs.length*4)=aq rs.reverse→AV.af R=0→(∀x ∈ rs,okX x)→okS s→lG md→
 (∃Y md',lG md'∧er 4 w (aT (ak C n cq) cF 4 m (kS (.fn g caps) (.vec 3 0 rs.length 4 lb)) ⟨4,.row R::.row T.cells::tl s,4,md⟩)=
  some (if (dN fs d rs s).1 then .exit 0 else .ret,if (dN fs d rs s).1 then FM 44 [] else FM 44 [(4,.bool false)],⟨4,Y::.row T.cells::tl (dN fs d rs s).2,w,md'⟩))∧
 (∃Y md',lG md'∧er 4 w (aT (ak C n cq) cF 4 m (kS (.fn g caps) (.vec 4 0 rs.length 4 lb)) ⟨5,.row R::.dead::.row T.cells::tl s,4,md⟩)=
  some (if (dN fs d rs s).1 then .exit 0 else .ret,if (dN fs d rs s).1 then FM 44 [] else FM 44 [(4,.bool false)],⟨4,Y::.row T.cells::tl (dN fs d rs s).2,w,md'⟩))
 | 0,m,rs,R,lb,s,md,h,_,_,_,_,_,_,_,_,_,_,_=>by omega
 | d+1,0,rs,R,lb,s,md,_,h,_,_,_,_,_,_,_,_,_,_=>by omega
 | d+1,m+1,[],R,lb,s,md,_,_,_,_,_,_,hR,ht,hrR,hox,hos,hok=>by
   have hr:AV.af caps≤4:=by omega
   refine⟨⟨.row R,md,hok,?_⟩,⟨.dead,md,hok,?_⟩⟩
   ·simp[ae,cq,dN,hr,hrR,hw]
   ·simp[ae,cq,dN,hr,hrR,hw]
 | d+1,m+1,x::rs,R,lb,s,md,hd,hm,hn,hsz,hlb,hlen,hR,ht,hrR,hox,hos,hok=>by
   have hr:AV.af caps≤4:=by omega
   have hr1:AV.af caps≤5:=by omega
   have hsx:=aM x;simp only[Tm.aI] at hd hsz;have hla:=ct x.args;have hlr:=ct rs;have hs2:Tm.aI (x.args++rs)=Tm.aI x.args+Tm.aI rs:=iB _ _;rw[List.length_cons] at hlen ht;rw[List.reverse_cons] at ht;have hrl:rs.reverse.length=rs.length:=List.length_reverse;rw[←hrl] at ht;obtain⟨t1,t2⟩:=xW ht;rw[hrl] at t1 t2;have hok2:=hmf md hok;have w1:IntKind.i64.wrap (rs.length:Int)=(rs.length:Int):=wrap_i64 (by omega) (by omega);have b1:(0 < (rs.length:Int)+1)=True:=eq_true (by omega);have b2:rs.length*4+4≤R.length:=by omega
   have m1:min md 4=md:=hmd md hok 4 (by omega);have m2:min md 5=md:=hmd md hok 5 (by omega);have b3:((rs.length:Int) < (rs.length:Int)+1)=True:=eq_true (by omega)
   have hsl:eP (rs.length+1) lb none (some (.int .i64 (rs.length:Int))) none=some (0,rs.length,none):=by
    have a1:(rs.length:Int)≤((max (rs.length+1) lb:Nat):Int):=by omega
    simp[eP,sliceB,a1]
   have hxe:=Tm.ay x;have hA':=hA s x R md (hox x (by simp)) hos hok;have hB':=hB s x R md (hox x (by simp)) hos hok;rw[hxe] at hA' hB';have hcl:=Tm.an x;have hxr:=ah x
   cases hf:(fs x s).1 with
   | false=>
     rw[hf] at hA' hB';have e:dN fs (d+1) (x::rs) s=(false,(fs x s).2):=by simp[dN,hf]
     rw[e];rw[hcl] at hA' hB' t2;refine⟨⟨.row R,mf md,hok2,?_⟩,⟨.dead,mf md,hok2,?_⟩⟩
     ·rw[ae];simp[cq,w1,b1,b2,b3,m1,m2,t2,hsl,hA',hr,hr1,hrR,hxr,hw]
     ·rw[ae];simp[cq,w1,b1,b2,b3,m1,m2,t2,hsl,hB',hr,hr1,hrR,hxr,hw]
   | true=>
     rw[hf] at hA' hB';have hos2:=hokS s x hos hf
     have hox2:∀y ∈ x.args++rs,okX y:=fun y hy=>by
      rcases List.mem_append.1 hy with hy | hy
      ·exact hokX x (hox x (by simp)) y hy
      ·exact hox y (by simp[hy])
     have e:dN fs (d+1) (x::rs) s=dN fs d (x.args++rs) (fs x s).2:=by simp[dN,hf]
     rw[e];have hw4:min 4 5=4:=rfl;have hw5:min 4 6=4:=rfl;have hta:x.args.take x.args.length=x.args:=List.take_length;have hst:rs.reverse++x.args.reverse=(x.args++rs).reverse:=by simp
     have hl2:rs.length+x.args.length=(x.args++rs).length:=by simp;omega
     have w2:IntKind.i64.wrap ((x.args.length:Int) - 1)=(x.args.length:Int) - 1:=wrap_i64 (by omega) (by omega)
     have hlv:∀(fr:List AV) (h:aa) (o:bW),o.ev fr=x.aJ→aW fr h (.ud o)=some (.int .i64 x.args.length,h):=by
      intro fr h o ho;rw[jy,ho];cases x<;>simp[Tm.aJ,Tm.args]
     have t1':R.take (rs.reverse.length*4)=aq rs.reverse:=by rw[hrl];exact t1
     by_cases hfit:rs.length+x.args.length≤lb
     ·refine⟨?_,?_⟩
      ·obtain⟨R',r1,r2,r3,eq⟩:=qU C n g caps hc x (.row T.cells::tl (fs x s).2) (mf md) (hmd _ hok2) 4 hw4 lb x.args.length n rs.reverse R (Nat.le_refl _) (by omega) (by rw[hrl];exact hfit) (by omega) hR t1' hrR;obtain⟨⟨Y,md',k1,k2⟩,_⟩:=nO C n g caps hc fs tl T mf okX hokX okS hokS lG hmf hmd w hw hA hB d m (x.args++rs) R' lb (fs x s).2 (mf md) (by omega) (by omega) (by omega) (by omega) hlb (by rw[←hl2];exact hfit) r1 (by rw[←hl2,←hst,←hrl];rw[hta] at r2;exact r2) r3 hox2 hos2 hok2;refine⟨Y,md',k1,?_⟩;rw[hrl] at eq;rw[ae];rw[←hl2] at k2;rw[hcl] at hA' t2 eq;simp only[aL] at eq;simp[cq,aL,cF,w1,w2,b1,b2,b3,m1,m2,t2,hsl,hA',hr,hr1,hrR,hxr,hw,hlv,eq,r3];exact k2
      ·obtain⟨R',r1,r2,r3,eq⟩:=qI C n g caps hc x (.dead::.row T.cells::tl (fs x s).2) (mf md) (hmd _ hok2) 4 hw5 lb x.args.length n rs.reverse R (Nat.le_refl _) (by omega) (by rw[hrl];exact hfit) (by omega) hR t1' hrR;obtain⟨_,⟨Y,md',k1,k2⟩⟩:=nO C n g caps hc fs tl T mf okX hokX okS hokS lG hmf hmd w hw hA hB d m (x.args++rs) R' lb (fs x s).2 (mf md) (by omega) (by omega) (by omega) (by omega) hlb (by rw[←hl2];exact hfit) r1 (by rw[←hl2,←hst,←hrl];rw[hta] at r2;exact r2) r3 hox2 hos2 hok2;refine⟨Y,md',k1,?_⟩;rw[hrl] at eq;rw[ae];rw[←hl2] at k2;rw[hcl] at hB' t2 eq;simp only[aL] at eq;simp[cq,aL,cF,w1,w2,b1,b2,b3,m1,m2,t2,hsl,hB',hr,hr1,hrR,hxr,hw,hlv,eq,r3];exact k2
     ·have hRn:(aq (x.args++rs).reverse).length=(x.args++rs).length*4:=by rw[cg,List.length_reverse]
      have hRr:=aK (x.args++rs).reverse;obtain⟨_,⟨Y,md',k1,k2⟩⟩:=nO C n g caps hc fs tl T mf okX hokX okS hokS lG hmf hmd w hw hA hB d m (x.args++rs) (aq (x.args++rs).reverse) (x.args++rs).length (fs x s).2 (mf md) (by omega) (by omega) (by omega) (by omega) (by omega) (Nat.le_refl _) hRn (List.take_of_length_le (by omega)) hRr hox2 hos2 hok2;rw[←hl2] at k2;have hRr':=hRr;rw[List.reverse_append] at hRr';refine⟨⟨Y,md',k1,?_⟩,⟨Y,md',k1,?_⟩⟩
      ·have eq:=qH C n g caps hc x (.row T.cells::tl (fs x s).2) (mf md) (hmd _ hok2) 4 hw4 lb x.args.length n rs.reverse R (Nat.le_refl _) (by omega) (by omega) (by omega) (by omega) hR t1' hrR;rw[hta,hst,hrl] at eq;rw[ae];rw[hcl] at hA' t2 eq;simp only[aL] at eq;simp[cq,aL,cF,w1,w2,b1,b2,b3,m1,m2,t2,hsl,hA',hr,hr1,hrR,hxr,hw,hlv,eq,hRr'];rw[List.reverse_append] at k2;exact k2
      ·have eq:=qL C n g caps hc x (.dead::.row T.cells::tl (fs x s).2) (mf md) (hmd _ hok2) 4 hw5 lb x.args.length n rs.reverse R (Nat.le_refl _) (by omega) (by omega) (by omega) (by omega) hR t1' hrR;rw[hta,hst,hrl] at eq;rw[ae];rw[hcl] at hB' t2 eq;simp only[aL] at eq;simp[cq,aL,cF,w1,w2,b1,b2,b3,m1,m2,t2,hsl,hB',hr,hr1,hrR,hxr,hw,hlv,eq,hRr'];rw[List.reverse_append] at k2;exact k2
theorem nU {σ:Type} (C:Nat→List AV→aa→Option (AV×aa)) (n g:Nat) (caps:List AV) (hc:AV.af caps≤1) (fs:Tm→σ→Bool×σ) (tl:σ→List aC) (T:Tm) (mf:Nat→Nat)
 (okX:Tm→Prop) (hokX:∀x,okX x→∀y ∈ x.args,okX y) (okS:σ→Prop) (hokS:∀s x,okS s→(fs x s).1=true→okS (fs x s).2) (lG:Nat→Prop) (hmf:∀md,lG md→lG (mf md)) (hmd:∀md,lG md→∀k,1≤k→min md k=md) (w:Nat) (hw:min w 3=w)
 (hA:∀s x R md,okX x→okS s→lG md→C g (x.enc::caps) ⟨4,.row x.cells::.row R::.row T.cells::tl s,3,md⟩=some (.bool (fs x s).1,⟨4,.row x.cells::.row R::.row T.cells::tl (fs x s).2,3,mf md⟩))
 (hB:∀s x R md,okX x→okS s→lG md→C g (x.enc::caps) ⟨5,.row x.cells::.row R::.dead::.row T.cells::tl s,3,md⟩=some (.bool (fs x s).1,⟨5,.row x.cells::.row R::.dead::.row T.cells::tl (fs x s).2,3,mf md⟩)):
 ∀(d m:Nat) (rs:List Tm) (R:List AV) (lb:Nat) (s:σ) (md:Nat),Tm.aI rs < d→d≤m→d≤n→Tm.aI rs < 1000000000→lb < 1000000000→rs.length≤lb→R.length=lb*4→R.take (rs.length*4)=aq rs.reverse→AV.af R=0→(∀x ∈ rs,okX x)→okS s→lG md→
 (∃Y md',lG md'∧er 3 w (aT (ak C n cq) cF 3 m (kS (.fn g caps) (.vec 2 0 rs.length 4 lb)) ⟨3,.row R::.row T.cells::tl s,3,md⟩)=
  some (if (dN fs d rs s).1 then .exit 0 else .ret,if (dN fs d rs s).1 then FM 44 [] else FM 44 [(4,.bool false)],⟨3,Y::.row T.cells::tl (dN fs d rs s).2,w,md'⟩))∧
 (∃Y md',lG md'∧er 3 w (aT (ak C n cq) cF 3 m (kS (.fn g caps) (.vec 3 0 rs.length 4 lb)) ⟨4,.row R::.dead::.row T.cells::tl s,3,md⟩)=
  some (if (dN fs d rs s).1 then .exit 0 else .ret,if (dN fs d rs s).1 then FM 44 [] else FM 44 [(4,.bool false)],⟨3,Y::.row T.cells::tl (dN fs d rs s).2,w,md'⟩))
 | 0,m,rs,R,lb,s,md,h,_,_,_,_,_,_,_,_,_,_,_=>by omega
 | d+1,0,rs,R,lb,s,md,_,h,_,_,_,_,_,_,_,_,_,_=>by omega
 | d+1,m+1,[],R,lb,s,md,_,_,_,_,_,_,hR,ht,hrR,hox,hos,hok=>by
   have hr:AV.af caps≤3:=by omega
   refine⟨⟨.row R,md,hok,?_⟩,⟨.dead,md,hok,?_⟩⟩
   ·simp[ae,cq,dN,hr,hrR,hw]
   ·simp[ae,cq,dN,hr,hrR,hw]
 | d+1,m+1,x::rs,R,lb,s,md,hd,hm,hn,hsz,hlb,hlen,hR,ht,hrR,hox,hos,hok=>by
   have hr:AV.af caps≤3:=by omega
   have hr1:AV.af caps≤4:=by omega
   have hsx:=aM x;simp only[Tm.aI] at hd hsz;have hla:=ct x.args;have hlr:=ct rs;have hs2:Tm.aI (x.args++rs)=Tm.aI x.args+Tm.aI rs:=iB _ _;rw[List.length_cons] at hlen ht;rw[List.reverse_cons] at ht;have hrl:rs.reverse.length=rs.length:=List.length_reverse;rw[←hrl] at ht;obtain⟨t1,t2⟩:=xW ht;rw[hrl] at t1 t2;have hok2:=hmf md hok;have w1:IntKind.i64.wrap (rs.length:Int)=(rs.length:Int):=wrap_i64 (by omega) (by omega);have b1:(0 < (rs.length:Int)+1)=True:=eq_true (by omega);have b2:rs.length*4+4≤R.length:=by omega
   have m1:min md 3=md:=hmd md hok 3 (by omega);have m2:min md 4=md:=hmd md hok 4 (by omega);have b3:((rs.length:Int) < (rs.length:Int)+1)=True:=eq_true (by omega)
   have hsl:eP (rs.length+1) lb none (some (.int .i64 (rs.length:Int))) none=some (0,rs.length,none):=by
    have a1:(rs.length:Int)≤((max (rs.length+1) lb:Nat):Int):=by omega
    simp[eP,sliceB,a1]
   have hxe:=Tm.ay x;have hA':=hA s x R md (hox x (by simp)) hos hok;have hB':=hB s x R md (hox x (by simp)) hos hok;rw[hxe] at hA' hB';have hcl:=Tm.an x;have hxr:=ah x
   cases hf:(fs x s).1 with
   | false=>
     rw[hf] at hA' hB';have e:dN fs (d+1) (x::rs) s=(false,(fs x s).2):=by simp[dN,hf]
     rw[e];rw[hcl] at hA' hB' t2;refine⟨⟨.row R,mf md,hok2,?_⟩,⟨.dead,mf md,hok2,?_⟩⟩
     ·rw[ae];simp[cq,w1,b1,b2,b3,m1,m2,t2,hsl,hA',hr,hr1,hrR,hxr,hw]
     ·rw[ae];simp[cq,w1,b1,b2,b3,m1,m2,t2,hsl,hB',hr,hr1,hrR,hxr,hw]
   | true=>
     rw[hf] at hA' hB';have hos2:=hokS s x hos hf
     have hox2:∀y ∈ x.args++rs,okX y:=fun y hy=>by
      rcases List.mem_append.1 hy with hy | hy
      ·exact hokX x (hox x (by simp)) y hy
      ·exact hox y (by simp[hy])
     have e:dN fs (d+1) (x::rs) s=dN fs d (x.args++rs) (fs x s).2:=by simp[dN,hf]
     rw[e];have hw4:min 3 4=3:=rfl;have hw5:min 3 5=3:=rfl;have hta:x.args.take x.args.length=x.args:=List.take_length;have hst:rs.reverse++x.args.reverse=(x.args++rs).reverse:=by simp
     have hl2:rs.length+x.args.length=(x.args++rs).length:=by simp;omega
     have w2:IntKind.i64.wrap ((x.args.length:Int) - 1)=(x.args.length:Int) - 1:=wrap_i64 (by omega) (by omega)
     have hlv:∀(fr:List AV) (h:aa) (o:bW),o.ev fr=x.aJ→aW fr h (.ud o)=some (.int .i64 x.args.length,h):=by
      intro fr h o ho;rw[jy,ho];cases x<;>simp[Tm.aJ,Tm.args]
     have t1':R.take (rs.reverse.length*4)=aq rs.reverse:=by rw[hrl];exact t1
     by_cases hfit:rs.length+x.args.length≤lb
     ·refine⟨?_,?_⟩
      ·obtain⟨R',r1,r2,r3,eq⟩:=qN C n g caps hc x (.row T.cells::tl (fs x s).2) (mf md) (hmd _ hok2) 3 hw4 lb x.args.length n rs.reverse R (Nat.le_refl _) (by omega) (by rw[hrl];exact hfit) (by omega) hR t1' hrR;obtain⟨⟨Y,md',k1,k2⟩,_⟩:=nU C n g caps hc fs tl T mf okX hokX okS hokS lG hmf hmd w hw hA hB d m (x.args++rs) R' lb (fs x s).2 (mf md) (by omega) (by omega) (by omega) (by omega) hlb (by rw[←hl2];exact hfit) r1 (by rw[←hl2,←hst,←hrl];rw[hta] at r2;exact r2) r3 hox2 hos2 hok2;refine⟨Y,md',k1,?_⟩;rw[hrl] at eq;rw[ae];rw[←hl2] at k2;rw[hcl] at hA' t2 eq;simp only[aL] at eq;simp[cq,aL,cF,w1,w2,b1,b2,b3,m1,m2,t2,hsl,hA',hr,hr1,hrR,hxr,hw,hlv,eq,r3];exact k2
      ·obtain⟨R',r1,r2,r3,eq⟩:=qV C n g caps hc x (.dead::.row T.cells::tl (fs x s).2) (mf md) (hmd _ hok2) 3 hw5 lb x.args.length n rs.reverse R (Nat.le_refl _) (by omega) (by rw[hrl];exact hfit) (by omega) hR t1' hrR;obtain⟨_,⟨Y,md',k1,k2⟩⟩:=nU C n g caps hc fs tl T mf okX hokX okS hokS lG hmf hmd w hw hA hB d m (x.args++rs) R' lb (fs x s).2 (mf md) (by omega) (by omega) (by omega) (by omega) hlb (by rw[←hl2];exact hfit) r1 (by rw[←hl2,←hst,←hrl];rw[hta] at r2;exact r2) r3 hox2 hos2 hok2;refine⟨Y,md',k1,?_⟩;rw[hrl] at eq;rw[ae];rw[←hl2] at k2;rw[hcl] at hB' t2 eq;simp only[aL] at eq;simp[cq,aL,cF,w1,w2,b1,b2,b3,m1,m2,t2,hsl,hB',hr,hr1,hrR,hxr,hw,hlv,eq,r3];exact k2
     ·have hRn:(aq (x.args++rs).reverse).length=(x.args++rs).length*4:=by rw[cg,List.length_reverse]
      have hRr:=aK (x.args++rs).reverse;obtain⟨_,⟨Y,md',k1,k2⟩⟩:=nU C n g caps hc fs tl T mf okX hokX okS hokS lG hmf hmd w hw hA hB d m (x.args++rs) (aq (x.args++rs).reverse) (x.args++rs).length (fs x s).2 (mf md) (by omega) (by omega) (by omega) (by omega) (by omega) (Nat.le_refl _) hRn (List.take_of_length_le (by omega)) hRr hox2 hos2 hok2;rw[←hl2] at k2;have hRr':=hRr;rw[List.reverse_append] at hRr';refine⟨⟨Y,md',k1,?_⟩,⟨Y,md',k1,?_⟩⟩
      ·have eq:=qK C n g caps hc x (.row T.cells::tl (fs x s).2) (mf md) (hmd _ hok2) 3 hw4 lb x.args.length n rs.reverse R (Nat.le_refl _) (by omega) (by omega) (by omega) (by omega) hR t1' hrR;rw[hta,hst,hrl] at eq;rw[ae];rw[hcl] at hA' t2 eq;simp only[aL] at eq;simp[cq,aL,cF,w1,w2,b1,b2,b3,m1,m2,t2,hsl,hA',hr,hr1,hrR,hxr,hw,hlv,eq,hRr'];rw[List.reverse_append] at k2;exact k2
      ·have eq:=qT C n g caps hc x (.dead::.row T.cells::tl (fs x s).2) (mf md) (hmd _ hok2) 3 hw5 lb x.args.length n rs.reverse R (Nat.le_refl _) (by omega) (by omega) (by omega) (by omega) hR t1' hrR;rw[hta,hst,hrl] at eq;rw[ae];rw[hcl] at hB' t2 eq;simp only[aL] at eq;simp[cq,aL,cF,w1,w2,b1,b2,b3,m1,m2,t2,hsl,hB',hr,hr1,hrR,hxr,hw,hlv,eq,hRr'];rw[List.reverse_append] at k2;exact k2
def cntF (_:Tm) (k:Nat):Bool×Nat:=(decide (k+1≤2000),k+1)
def zl (t:Tm):Nat:=(dN cntF (t.size+1) [t] 0).2
theorem FD:∀(d:Nat) (rs:List Tm) (k:Nat),Tm.aI rs < d→k≤2000→(dN cntF d rs k).2=min (k+Tm.aI rs) 2001
 | 0,rs,k,h,_=>by omega
 | d+1,[],k,_,hk=>by simp[dN,Tm.aI];omega
 | d+1,x::rs,k,h,hk=>by
   have hs:=aM x;have h2:=iB x.args rs;simp only[Tm.aI] at h ⊢;unfold dN;simp only[cntF,decide_eq_true_eq];split
   ·rename_i hc;rw[FD d (x.args++rs) (k+1) (by omega) hc,h2];omega
   ·omega
theorem Ea (t:Tm):zl t=min t.size 2001:=by
 unfold zl;rw[FD _ _ _ (by simp[Tm.aI]) (by omega)];simp[Tm.aI]
theorem SE (n:Nat) (x:Tm) (k:Nat) (hk:k≤2000) (R:aC) (T T0:aC) (md:Nat):aw (a8 []) (n+1) 101 [x.enc,.ptr 1 0] ⟨5,.row x.cells::R::T::.row [.int .i64 k]::[T0],4,md⟩=
 some (.bool (cntF x k).1,⟨5,.row x.cells::R::T::.row [.int .i64 ((cntF x k).2:Nat)]::[T0],4,min md 1⟩):=by
 have hxe:=Tm.ay x;have hcl:=Tm.an x;have hxr:=ah x;have w1:IntKind.i64.wrap ((k:Int)+1)=(k:Int)+1:=wrap_i64 (by omega) (by omega);rw[hxe,hcl];by_cases hc:k+1≤2000
 ·have hc':((k:Int)+1≤2000)=True:=eq_true (by omega);simp[B8,G0,cntF,hc,hc',w1,hxr]
 ·have hc':((k:Int)+1≤2000)=False:=eq_false (by omega);simp[B8,G0,cntF,hc,hc',w1,hxr]
theorem QW (n:Nat) (x:Tm) (k:Nat) (hk:k≤2000) (R:aC) (D T T0:aC) (md:Nat):aw (a8 []) (n+1) 101 [x.enc,.ptr 1 0] ⟨6,.row x.cells::R::D::T::.row [.int .i64 k]::[T0],4,md⟩=
 some (.bool (cntF x k).1,⟨6,.row x.cells::R::D::T::.row [.int .i64 ((cntF x k).2:Nat)]::[T0],4,min md 1⟩):=by
 have hxe:=Tm.ay x;have hcl:=Tm.an x;have hxr:=ah x;have w1:IntKind.i64.wrap ((k:Int)+1)=(k:Int)+1:=wrap_i64 (by omega) (by omega);rw[hxe,hcl];by_cases hc:k+1≤2000
 ·have hc':((k:Int)+1≤2000)=True:=eq_true (by omega);simp[B8,G0,cntF,hc,hc',w1,hxr]
 ·have hc':((k:Int)+1≤2000)=False:=eq_false (by omega);simp[B8,G0,cntF,hc,hc',w1,hxr]
theorem KH (t:Tm) (hs:t.size < 1000000000) (n:Nat) (hn:t.size+1≤n+1):∃Y md',er 4 2 (aT (ak (aw (a8 []) (n+1)) (n+1) cq) cF 4 (n+1) (kS (.fn 101 [.ptr 1 0]) (.vec 3 0 1 4 1)) ⟨4,[.row t.cells,.row t.cells,.row [.int .i64 0],.row t.cells],4,2⟩)=
 some (if (dN cntF (t.size+1) [t] 0).1 then .exit 0 else .ret,if (dN cntF (t.size+1) [t] 0).1 then FM 44 [] else FM 44 [(4,.bool false)],⟨4,[Y,.row t.cells,.row [.int .i64 (zl t:Nat)],.row t.cells],2,md'⟩):=by
 have h:=nO (aw (a8 []) (n+1)) (n+1) 101 [.ptr 1 0] (by simp[AV.af,AV.refs]) cntF (fun k=>[.row [.int .i64 (k:Nat)],.row t.cells]) t (min · 1)
  (fun _=>True) (fun _ _ _ _=>trivial) (·≤2000) (fun s x _ h=>by simpa[cntF] using h) (fun md=>md=1∨md=2) (fun md h=>by omega) (fun md h k hk=>by omega) 2 rfl
  (fun s x R md _ hs' _=>SE n x s hs' _ _ _ md) (fun s x R md _ hs' _=>QW n x s hs' _ _ _ _ md)
  (t.size+1) (n+1) [t] t.cells 1 0 2 (by simp[Tm.aI]) hn hn (by simp[Tm.aI];exact hs) (by omega) (by simp) rfl (by simp[aq];rfl) (by simp[Tm.cells,AV.af,AV.refs,ah]) (fun _ _=>trivial) (by omega) (.inr rfl)
 obtain⟨⟨Y,md',_,e⟩,_⟩:=h;exact⟨Y,md',e⟩
def wL:ai:=⟨59,fun | [v]=>(match dB v with | some t=>if t.size < 1000000000 then some (.int .i64 (zl t:Nat)) else none | none=>none) | _=>none⟩
theorem tT:wL.f=59:=(rfl)
theorem Nt (t:Tm) (h:t.size < 1000000000):wL.S [t.enc]=some (.int .i64 (zl t:Nat)):=by
 simp only[wL,aX,if_pos h]
theorem Pm:az Tryz.prog wL:=fun args v hv=>by
 unfold wL at hv ⊢;dsimp only at hv ⊢;split at hv
 ·rename_i x;split at hv
  ·rename_i t ht;split at hv
   ·rename_i hl;cases hv;rw[bc ht];refine aH (n:=t.size+5) (h':=h0) (aG (ss:=[]) (by simp)) ?_ rfl (by simp[AV.af,Tm.ba]);obtain⟨Y,md',eq⟩:=KH t hl (t.size+2) (by omega);have hcl:=Tm.an t;have hxr:=ah t;rw[Tm.ay,hcl];rw[hcl] at eq;simp only[cF] at eq
    cases hb:(dN cntF (t.size+1) [t] 0).1 with
    | true=>
      rw[hb] at eq;simp only[if_true] at eq;simp[R6,c59,Au,Qu,cF,hxr,eq]
    | false=>
      rw[hb] at eq;simp only[Bool.false_eq_true,if_false] at eq;simp[R6,c59,Au,Qu,cF,hxr,eq]
   ·cases hv
  ·cases hv
 ·cases hv
theorem ag (h:aa) (n0 d:Nat) (t:Tm):gr h n0 (d+1) t.aJ=some (t.aJ,[]):=AF (zN t)
mutual
def Tm.depth:Tm→Nat
 | .nl ..=>1
 | .mk _ _ _ us=>1+Tm.iu us
def Tm.iu:List Tm→Nat
 | []=>0
 | t::r=>max t.depth (Tm.iu r)
end
theorem lq (t:Tm):t.depth=1+Tm.iu t.args:=by cases t<;>rfl
def jo (most d:Nat):List Tm→Nat
 | []=>d
 | x::r=>if most≤d+1 then d else jo most (max d (min x.depth (most - 1))) r
theorem Dr (most:Nat):∀(us:List Tm) (d:Nat),min (jo most d us+1) most=min (max d (Tm.iu us)+1) most
 | [],d=>by simp[jo,Tm.iu]
 | x::r,d=>by
   unfold jo;simp only[Tm.iu];split
   ·omega
   ·rw[Dr most r];omega
def gp (m:Nat):ai:=⟨102,fun | [v,.int .i64 n]=>(match dB v with | some t=>if n=m∧t.size < 1000000000 then some (.int .i64 (min t.depth m:Nat)) else none | none=>none) | _=>none⟩
theorem kO (m:Nat):(gp m).f=102:=(rfl)
theorem zf (m:Nat) (t:Tm) (h:t.size < 1000000000):(gp m).S [t.enc,.int .i64 (m:Nat)]=some (.int .i64 (min t.depth m:Nat)):=by
 simp only[gp,aX];exact if_pos ⟨trivial,h⟩
theorem HQ (m k:Nat) (v:AV) (h:k≠m):(gp m).S [v,.int .i64 (k:Nat)]=none:=by
 simp only[gp];split
 ·rw[if_neg (by omega)]
 ·rfl
theorem BY (n m:Nat) (hm:m≤100) (hm1:1≤m) (T:aC) (us:List Tm) (hs:Tm.aI us < 1000000000):∀(post pre:List Tm) (k d:Nat),us=pre++post→post.length < k→d≤100→
 ∃md,er 1 0 (aT (ak (aw (a8 [gp (m - 1)]) (n+1)) (n+1) kJ) kE 1 k (PZ (.int .i64 m) (.int .i64 d) (.sl (us.map Tm.enc)) (.int .i64 us.length) (.int .i64 pre.length)) ⟨1,[T],1,0⟩)=
   some (.exit 0,FM 30 [(1,.int .i64 m),(5,.int .i64 (jo m d post:Nat))],⟨1,[T],0,md⟩)
 | [],pre,k+1,d,e,_,_=>by
   simp at e;subst e;have h5:AV.af (us.map Tm.enc)=0:=aB _;exact⟨0,by simp[ae,kJ,h5,jo]⟩
 | x::post,pre,k+1,d,e,hk,hd=>by
   have hlu:=ct us;have h1:us[pre.length]? =some x:=by rw[e];simp
   have h5:AV.af (us.map Tm.enc)=0:=aB _;have h6:((pre.length:Int) < (us.length:Int))=True:=eq_true (by rw[e,List.length_append,List.length_cons];omega);have hpl:pre.length < us.length:=by rw[e];simp
   have h3:IntKind.i64.wrap ((pre.length:Int)+1)=(pre.length:Int)+1:=wrap_i64 (by omega) (by omega);have hxe:=Tm.ay x;have hcl:=Tm.an x;have hxr:=ah x
   have hxs:x.size < 1000000000:=by
    have:=iB pre (x::post);rw[←e] at this;simp only[Tm.aI] at this;omega
   have w1:IntKind.i64.wrap ((m:Int) - 1)=((m - 1:Nat):Int):=by rw[wrap_i64 (by omega) (by omega)];omega
   by_cases hb:m≤d+1
   ·have hb':(((m - 1:Nat):Int)≤(d:Int))=True:=eq_true (by omega);refine⟨0,?_⟩;rw[ae];simp[kJ,h1,h5,h6,hxe,hcl,hxr,w1,hb',jo,hb]
   ·have hb':(((m - 1:Nat):Int)≤(d:Int))=False:=eq_false (by omega);have hc:=zf (m - 1) x hxs;rw[hxe,hcl] at hc
    have hmx:(if d < min x.depth (m - 1) then ((min x.depth (m - 1):Nat):Int) else (d:Int))=((max d (min x.depth (m - 1)):Nat):Int):=by
     split<;>omega
    obtain⟨md,ih⟩:=BY n m hm hm1 T us hs post (pre++[x]) k (max d (min x.depth (m - 1))) (by simp[e]) (by rw[List.length_cons] at hk;omega) (by omega);refine⟨md,?_⟩;simp only[List.length_append,List.length_cons,List.length_nil,Nat.zero_add] at ih;rw[show ((pre.length+1:Nat):Int)=(pre.length:Int)+1 by omega] at ih;rw[ae]
    have hfd:jo m d (x::post)=jo m (max d (min x.depth (m - 1))) post:=by
     rw[jo,if_neg hb]
    rw[hfd];generalize min x.depth (m - 1)=q at hc hmx ih;generalize max d q=q2 at hmx ih;simp[kJ,kE,h1,h3,h5,h6,hxe,hcl,hxr,w1,hb',hc,hmx,ag,kO];exact ih
theorem Dd (m:Nat) (hm1:1≤m) (hm:m≤100) (hp:az Tryz.prog (gp (m - 1))):az Tryz.prog (gp m):=fun args v hv=>by
 have hv0:=hv;unfold gp at hv;dsimp only at hv;split at hv
 ·rename_i x n;split at hv
  ·rename_i t ht;split at hv
   ·rename_i hc;obtain⟨rfl,hs⟩:=hc;cases hv;rw[bc ht];have hno:=HQ (m - 1) m t.enc (by omega);refine aH (n:=t.size+5) (h':=h0) (aG (ss:=[gp (m - 1)]) (by simp[hp])) ?_ rfl (by simp[AV.af,AV.refs,Tm.ba]);rw[kO];have hxe:=Tm.ay t;have hcl:=Tm.an t;have hxr:=ah t;have hsz:=aM t;have hla:=ct t.args;have hde:=lq t;have hfe:=Dr m t.args 0;rw[Nat.zero_max,Nat.add_comm (Tm.iu t.args) 1,←hde] at hfe;rw[hxe,hcl] at hno ⊢
    have hr:jo m 0 t.args≤100:=by
     have key:∀(us:List Tm) (d:Nat),d≤100→jo m d us≤100:=by
      intro us
      induction us with
      | nil=>intro d h;exact h
      | cons x r ih=>
        intro d h;unfold jo;split
        ·exact h
        ·exact ih _ (by omega)
     exact key _ 0 (by omega)
    have w2:IntKind.i64.wrap ((jo m 0 t.args:Int)+1)=(jo m 0 t.args:Int)+1:=wrap_i64 (by omega) (by omega)
    have hmn:(if (m:Int) < (jo m 0 t.args:Int)+1 then (m:Int) else (jo m 0 t.args:Int)+1)=((min t.depth m:Nat):Int):=by
     split<;>omega
    obtain⟨md,lp⟩:=BY (t.size+3) m hm hm1 (.row t.cells) t.args (by omega) t.args [] (t.size+4) 0 rfl (by omega) (by omega);simp only[List.length_nil,show ((0:Nat):Int)=0 from rfl,kE] at lp;rw[hcl] at lp
    have ha:(t.aJ=.ax∧t.args=[])∨t.aJ=.sl (t.args.map Tm.enc):=by
     cases t with
     | nl k n s=>exact .inl ⟨rfl,rfl⟩
     | mk k n s us=>exact .inr rfl
    generalize t.args=us at *;generalize t.aJ=a at *;rcases ha with⟨rfl,rfl⟩ | rfl
    ·simp[jo] at w2 hmn;simp[zu,E8,kE,kJ,ae,hno,kO,w2,hmn]
    ·have h5:AV.af (us.map Tm.enc)=0:=aB _;simp[zu,E8,kE,hno,kO,w2,hmn,lp,h5]
   ·cases hv
  ·cases hv
 ·cases hv
theorem Cl:az Tryz.prog (gp 0):=fun args v hv=>by
 unfold gp at hv;dsimp only at hv;split at hv
 ·rename_i x n;split at hv
  ·rename_i t ht;split at hv
   ·rename_i hc;obtain⟨rfl,hs⟩:=hc;cases hv;rw[bc ht];refine aH (n:=5) (h':=h0) (aG (ss:=[]) (by simp)) ?_ rfl (by simp[AV.af,AV.refs,Tm.ba]);rw[kO];have hxe:=Tm.ay t;have hcl:=Tm.an t;have hxr:=ah t
    have ha:(t.aJ=.ax)∨∃us:List Tm,t.aJ=.sl (us.map Tm.enc):=by
     cases t with
     | nl k n s=>exact .inl rfl
     | mk k n s us=>exact .inr ⟨us,rfl⟩
    have w0:IntKind.i64.wrap (-1)=-1:=rfl;have w1:IntKind.i64.wrap (0 - 1)=-1:=rfl;have w2:IntKind.i64.wrap (0+1)=1:=rfl;have w3:IntKind.i64.wrap 1=1:=rfl;rw[hxe,hcl];generalize t.aJ=a at *;rcases ha with rfl | ⟨us,rfl⟩
    ·simp[zu,E8,kE,kJ,ae,w0,w1,w2,w3]
    ·have h5:AV.af (us.map Tm.enc)=0:=aB _
     cases us with
     | nil=>simp[zu,E8,kE,kJ,ae,w0,w1,w2,w3]
     | cons y r=>
       have h6:AV.af (r.map Tm.enc)=0:=aB _;have hye:=Tm.ay y;have hyc:=Tm.an y;have hyr:=ah y;have t1:((0:Int) < (r.length:Int)+1)=True:=eq_true (by omega);simp[zu,E8,kE,kJ,ae,w0,w1,w2,w3,h6,hye,hyc,hyr,t1]
   ·cases hv
  ·cases hv
 ·cases hv
theorem wH:∀m,m≤100→az Tryz.prog (gp m)
 | 0,_=>Cl
 | m+1,h=>Dd (m+1) (by omega) h (wH m (by omega))
def oJ:ai:=⟨60,fun | [v]=>(match dB v with | some t=>if t.size < 1000000000 then some (.int .i64 (min t.depth 65:Nat)) else none | none=>none) | _=>none⟩
theorem oP:oJ.f=60:=(rfl)
theorem KD (t:Tm) (h:t.size < 1000000000):oJ.S [t.enc]=some (.int .i64 (min t.depth 65:Nat)):=by
 simp only[oJ,aX,if_pos h]
theorem LC:az Tryz.prog oJ:=fun args v hv=>by
 unfold oJ at hv ⊢;dsimp only at hv ⊢;split at hv
 ·rename_i x;split at hv
  ·rename_i t ht;split at hv
   ·rename_i hl;cases hv;rw[bc ht];refine aH (n:=3) (h':=h0) (aG (ss:=[gp 65]) (by simp[wH 65 (by omega)])) ?_ rfl (by simp[AV.af,Tm.ba]);have hc:=zf 65 t hl;have hxe:=Tm.ay t;have hcl:=Tm.an t;have hxr:=ah t;rw[hxe,hcl] at hc ⊢;rw[show ((65:Nat):Int)=65 from rfl] at hc;simp[UU,WC,hc,hxr,ag,kO]
   ·cases hv
  ·cases hv
 ·cases hv
mutual
def Tm.eU:Tm→Nat
 | .nl _ _ s=>1+s.length
 | .mk _ _ s us=>1+s.length+Tm.kA us
def Tm.kA:List Tm→Nat
 | []=>0
 | t::r=>t.eU+Tm.kA r
end
theorem ng (t:Tm):t.eU=1+t.name.length+Tm.kA t.args:=by cases t<;>rfl
mutual
theorem iD:∀t:Tm,t.size≤t.eU
 | .nl _ _ s=>by simp[Tm.size,Tm.eU]
 | .mk _ _ s us=>by
   have:=zr us;simp[Tm.size,Tm.eU];omega
theorem zr:∀l:List Tm,Tm.aI l≤Tm.kA l
 | []=>by simp[Tm.aI,Tm.kA]
 | t::r=>by
   have:=iD t;have:=zr r;simp[Tm.aI,Tm.kA];omega
end
mutual
def Tm.eM (p:Tm→Bool):Tm→Bool
 | .nl k n s=>p (.nl k n s)
 | .mk k n s us=>p (.mk k n s us)&&Tm.eN p us
def Tm.eN (p:Tm→Bool):List Tm→Bool
 | []=>true
 | t::r=>Tm.eM p t&&Tm.eN p r
end
theorem dd (p:Tm→Bool) (t:Tm):t.eM p=(p t&&Tm.eN p t.args):=by cases t<;>simp[Tm.eM,Tm.args,Tm.eN]
theorem Ek (p:Tm→Bool):∀a b:List Tm,Tm.eN p (a++b)=(Tm.eN p a&&Tm.eN p b)
 | [],b=>by simp[Tm.eN]
 | t::r,b=>by simp[Tm.eN,Ek p r b,Bool.and_assoc]
def Jo (p:Tm→Bool) (x:Tm) (_:Unit):Bool×Unit:=(p x,())
theorem E4 (p:Tm→Bool):∀(d:Nat) (rs:List Tm),Tm.aI rs < d→(dN (Jo p) d rs ()).1=Tm.eN p rs
 | 0,rs,h=>by omega
 | d+1,[],_=>by simp[dN,Tm.eN]
 | d+1,x::rs,h=>by
   have hs:=aM x;have h2:=iB x.args rs;simp only[Tm.aI] at h;have e:dN (Jo p) (d+1) (x::rs) ()=if p x=true then dN (Jo p) d (x.args++rs) () else (false,()):=rfl
   rw[e];simp only[Tm.eN,dd];by_cases hp:p x=true
   ·rw[if_pos hp,hp,E4 p d (x.args++rs) (by omega),Ek];simp
   ·simp[hp]
def dp (t:Tm):Bool:=decide (t.size≤2000)&&decide (t.depth≤64)&&t.eM fc
mutual
theorem ti:∀(us:List Tm) (y:Tm),y ∈ us→y.eU≤Tm.kA us
 | [],y,h=>by simp at h
 | t::r,y,h=>by
   simp only[Tm.kA];rcases List.mem_cons.1 h with rfl | h
   ·omega
   ·have:=ti r y h;omega
end
theorem KB (t:Tm) (hs:t.eU < 1000000000) (ss:List ai) (hss:∀(n:Nat) (x:Tm) (h:aa),x.eU < 1000000000→aw (a8 ss) (n+1) 62 [x.enc] h=some (.bool (fc x),h)) (n:Nat) (hn:t.size+1≤n+1) (T0:aC):∃Y md',er 3 1 (aT (ak (aw (a8 ss) (n+1)) (n+1) cq) cF 3 (n+1) (kS (.fn 62 []) (.vec 2 0 1 4 1)) ⟨3,[.row t.cells,.row t.cells,T0],3,1⟩)=
 some (if t.eM fc then .exit 0 else .ret,if t.eM fc then FM 44 [] else FM 44 [(4,.bool false)],⟨3,[Y,.row t.cells,T0],1,md'⟩):=by
 have hsb:=iD t
 have h:=nU (aw (a8 ss) (n+1)) (n+1) 62 [] (by simp[AV.af]) (Jo fc) (fun _=>[T0]) t id
  (fun x=>x.eU < 1000000000) (fun x hx y hy=>by have:=ng x;have:=ti x.args y hy;omega) (fun _=>True) (fun _ _ _ _=>trivial) (fun md=>md=1) (fun md h=>h) (fun md h k hk=>by omega) 1 rfl
  (fun s x R md hx _ _=>hss n x _ hx) (fun s x R md hx _ _=>hss n x _ hx)
  (t.size+1) (n+1) [t] t.cells 1 () 1 (by simp[Tm.aI]) hn hn (by simp[Tm.aI];omega) (by omega) (by simp) rfl (by simp[aq];rfl) (by simp[Tm.cells,AV.af,AV.refs,ah]) (fun x hx=>by simp at hx;subst hx;exact hs) trivial rfl
 obtain⟨⟨Y,md',_,e⟩,_⟩:=h;rw[E4 fc _ _ (by simp[Tm.aI])] at e;have ea:Tm.eN fc [t]=t.eM fc:=by simp[Tm.eN]
 rw[ea] at e;exact⟨Y,md',e⟩
def dD:ai:=⟨27,fun | [v]=>(match dB v with | some t=>if t.eU < 1000000000 then some (.bool (dp t)) else none | none=>none) | _=>none⟩
theorem aS:dD.f=27:=(rfl)
theorem vz (t:Tm) (h:t.eU < 1000000000):dD.S [t.enc]=some (.bool (dp t)):=by
 simp only[dD,aX,if_pos h]
theorem OK (n:Nat) (x:Tm) (h:aa) (hx:x.eU < 1000000000):aw (a8 [wL,oJ,Fl]) (n+1) 62 [x.enc] h=some (.bool (fc x),h):=by
 have hb:=ng x;have ho:=Q3 x (by omega);have hxe:=Tm.ay x;have hcl:=Tm.an x;rw[hxe,hcl] at ho ⊢;simp[ho,ag,tT,oP,zt]
theorem vx:az Tryz.prog dD:=fun args v hv=>by
 unfold dD at hv ⊢;dsimp only at hv ⊢;split at hv
 ·rename_i x;split at hv
  ·rename_i t ht;split at hv
   ·rename_i hl;cases hv;rw[bc ht];refine aH (n:=t.size+5) (h':=h0) (aG (ss:=[wL,oJ,Fl]) (by simp[Pm,LC,Rh])) ?_ rfl (by simp[AV.af,Tm.ba]);have hsb:=iD t;have c1:=Nt t (by omega);have c2:=KD t (by omega);have hxe:=Tm.ay t;have hcl:=Tm.an t;have hxr:=ah t;obtain⟨Y,md',eq⟩:=KB t hl [wL,oJ,Fl] OK (t.size+2) (by omega) (.row t.cells);rw[hxe,hcl] at c1 c2 ⊢;rw[hcl] at eq;simp only[cF] at eq;unfold dp;by_cases h1:t.size≤2000
    ·have h1':(((zl t:Nat):Int)≤2000)=True:=eq_true (by rw[Ea];omega);by_cases h2:t.depth≤64
     ·have h2':(((min t.depth 65:Nat):Int)≤64)=True:=eq_true (by omega);generalize min t.depth 65=q at c2 h2'
      cases hb:t.eM fc with
      | true=>
        rw[hb] at eq;simp only[if_true] at eq;simp[Js,Tn,Au,Qu,cF,hxr,ag,c1,c2,h1,h1',h2,h2',eq,tT,oP,zt]
      | false=>
        rw[hb] at eq;simp only[Bool.false_eq_true,if_false] at eq;simp[Js,Tn,Au,Qu,cF,hxr,ag,c1,c2,h1,h1',h2,h2',eq,tT,oP,zt]
     ·have h2':(((min t.depth 65:Nat):Int)≤64)=False:=eq_false (by omega);generalize min t.depth 65=q at c2 h2';simp[Js,Tn,hxr,ag,c1,c2,h1,h1',h2,h2',tT,oP,zt]
    ·have h1':(((zl t:Nat):Int)≤2000)=False:=eq_false (by rw[Ea];omega);simp[Js,Tn,hxr,ag,c1,h1,h1',tT,oP,zt]
   ·cases hv
  ·cases hv
 ·cases hv
mutual
def sB:Tm→Tm→Bool
 | .nl k n s,b=>decide (k=b.kind)&&decide (n=b.num)&&(s==b.name)&&b.args.isEmpty
 | .mk k n s us,b=>decide (k=b.kind)&&decide (n=b.num)&&(s==b.name)&&kB us b.args
def kB:List Tm→List Tm→Bool
 | [],ws=>ws.isEmpty
 | x::r,ws=>match ws with
   | []=>false
   | y::q=>sB x y&&kB r q
end
theorem pC (ws:List Tm):kB [] ws=ws.isEmpty:=by simp[kB]
theorem yU (x y:Tm) (r q:List Tm):kB (x::r) (y::q)=(sB x y&&kB r q):=by simp[kB]
theorem D4 (a b:Tm):sB a b=(decide (a.kind=b.kind)&&decide (a.num=b.num)&&(a.name==b.name)&&kB a.args b.args):=by
 cases a with
 | nl k n s=>
   show _=(_&&kB [] b.args);rw[pC,sB];rfl
 | mk k n s us=>
   rw[sB];rfl
theorem BO:∀(us ws:List Tm),us.length≠ws.length→kB us ws=false
 | [],[],h=>absurd rfl h
 | [],_::_,_=>by simp[pC]
 | _::_,[],_=>by simp[kB]
 | x::r,y::q,h=>by
   have:=BO r q (by simpa using h);rw[yU,this,Bool.and_false]
theorem jE:∀{us:List Tm} {y:Tm},y ∈ us→y.size≤Tm.aI us
 | t::r,y,h=>by
   simp only[Tm.aI];rcases List.mem_cons.1 h with rfl | h
   ·omega
   ·have:=jE h;omega
end Go.Proofs.YtjmeonoabiliiaaGreatDoor

/- slices.Backward's closure: its contract. -/
namespace Go.Proofs.YtjmeonoabiliiaaGreatDoor
open Go Go.RowKit Go.Shelf
attribute [local go_sem] Oper.semAt_some
end Go.Proofs.YtjmeonoabiliiaaGreatDoor

namespace Go.Proofs.YtjmeonoabiliiaaGreatDoor
open Go Sz
def zT:List AV:=[.int .i64 0,.int .i64 0,.str [],.ax]
end Go.Proofs.YtjmeonoabiliiaaGreatDoor

namespace Go.Proofs.YtjmeonoabiliiaaGreatDoor
open Go Go.RowKit Sz
variable {X:World→Prop}
theorem enters (f:Nat) {fn:Func} (hfn:Tryz.prog.funcs[f]? =some fn) (hname:(fn.name== "runtime.NumGoroutine")=false) (hbody:fn.body.isSome=true) (cargs:Array Value) (w:World):(callFunc f cargs).run Tryz.prog w=.ok (.enter f cargs) w:=by
 obtain⟨c,hc⟩:=Option.isSome_iff_exists.1 hbody;have hne:¬ fn.name= "runtime.NumGoroutine" :=by simpa using hname
 simp[callFunc,hfn,hne,hc]
mutual
theorem Tm.fC:∀t:Tm,t.enc.fC=true
 | .nl k n s=>rfl
 | .mk k n s us=>by
   have:=Tm.kp us;simp[Tm.enc,AV.fC,AV.kp,this]
theorem Tm.kp:∀l:List Tm,AV.pj (Tm.qC l)=true
 | []=>rfl
 | t::r=>by
   have h1:=Tm.fC t;have h2:=Tm.kp r;have h3:t.enc.cells.isEmpty=false:=by rw[t.ay];rfl
   simp[Tm.qC,AV.pj,h1,h2,h3]
end
end Go.Proofs.YtjmeonoabiliiaaGreatDoor

namespace Go.Proofs.YtjmeonoabiliiaaGreatDoor
open Go Sz
structure aF where
 n:List UInt8
 k:List UInt8
 l:Int
def aF.cells (o:aF):List AV:=[.str o.n,.str o.k,.int .i64 o.l]
def aF.enc (o:aF):AV:=.agg o.cells
def iJ:AV→Option aF
 | .agg [.str a,.str b,.int .i64 l]=>some ⟨a,b,l⟩
 | _=>none
def lP:List AV→Option (List aF)
 | []=>some []
 | v::r=>match iJ v,lP r with
   | some o,some os=>some (o::os)
   | _,_=>none
theorem x7 (o:aF):iJ o.enc=some o:=rfl
theorem mb:∀l:List aF,lP (l.map aF.enc)=some l
 | []=>rfl
 | o::r=>by
   show (match iJ o.enc,lP (r.map aF.enc) with | some o,some os=>some (o::os) | _,_=>none)=_;rw[x7,mb r]
theorem fV {v:AV} {o:aF} (h:iJ v=some o):v=o.enc:=by
 unfold iJ at h;split at h
 ·cases h;rfl
 ·cases h
theorem nM:∀{vs:List AV} {l:List aF},lP vs=some l→vs=l.map aF.enc
 | [],l,h=>by cases h;rfl
 | v::r,l,h=>by
   unfold lP at h;split at h
   ·rename_i o os h1 h2;cases h;rw[fV h1,nM h2];rfl
   ·cases h
theorem aZ:∀l:List aF,AV.af (l.map aF.enc)=0
 | []=>rfl
 | o::r=>by simp[AV.af,aZ r,aF.enc,aF.cells,AV.refs]
theorem qw (l:List aF):∀x ∈ l.map aF.enc,x8 3 x:=by
 intro x hx;obtain⟨o,_,rfl⟩:=List.mem_map.1 hx;exact⟨rfl,rfl,(fun h=>by cases h),fun _=>rfl,rfl⟩
def dX (b:List UInt8):Bool:=b==[102,121]||b==[102,120]
def bK (b:List UInt8):Bool:=b==[120,102,120]||b==[120,102,121]||b==[121,102,120]
def pn:ai:=⟨106,fun | [v]=>(iJ v).map fun o=>.bool (dX o.k) | _=>none⟩
theorem fy:pn.f=106:=(rfl)
theorem pL (a b:List UInt8) (l:Int):pn.S [.agg [.str a,.str b,.int .i64 l]]=some (.bool (dX b)):=(rfl)
theorem vV:az Tryz.prog pn:=fun args v hv=>by
 unfold pn at hv ⊢;dsimp only at hv ⊢;split at hv
 ·rename_i x;obtain⟨o,ho,rfl⟩:=Option.map_eq_some_iff.1 hv;rw[fV ho];refine aH (n:=5) (h':=h0) (aG (ss:=[]) (by simp)) ?_ rfl (by simp[AV.af,AV.refs,aF.enc,aF.cells]);obtain⟨a,b,l⟩:=o;cases e1:b==[102,121]<;>cases e2:b==[102,120]<;>simp[Uh,Q8,dX,aF.enc,aF.cells,e1,e2]
 ·cases hv
def pt:ai:=⟨158,fun | [v]=>(iJ v).map fun o=>.bool (bK o.k) | _=>none⟩
theorem gB:pt.f=158:=(rfl)
theorem FB (a b:List UInt8) (l:Int):pt.S [.agg [.str a,.str b,.int .i64 l]]=some (.bool (bK b)):=(rfl)
theorem En:az Tryz.prog pt:=fun args v hv=>by
 unfold pt at hv ⊢;dsimp only at hv ⊢;split at hv
 ·rename_i x;obtain⟨o,ho,rfl⟩:=Option.map_eq_some_iff.1 hv;rw[fV ho];refine aH (n:=5) (h':=h0) (aG (ss:=[]) (by simp)) ?_ rfl (by simp[AV.af,AV.refs,aF.enc,aF.cells]);obtain⟨a,b,l⟩:=o;cases e1:b==[120,102,120]<;>cases e2:b==[120,102,121]<;>cases e3:b==[121,102,120]<;>simp[Ul,Q4,bK,aF.enc,aF.cells,e1,e2,e3]
 ·cases hv
def iI (a b:List UInt8) (l:Int):Bool:=
 if a==[44] then b==[120,102,121]&&decide (l=1000)
 else if a==[] then false else if decide (64 < a.length) then false else if a==[124] then false else if a==[91,93] then false else if a==[123,125] then false
 else (bK b||dX b)&&decide (1≤l)&&decide (l≤1200)
def HP:ai:=⟨118,fun | [v]=>(iJ v).map fun o=>.bool (iI o.n o.k o.l) | _=>none⟩
theorem rk:HP.f=118:=(rfl)
theorem QV (a b:List UInt8) (l:Int):HP.S [.agg [.str a,.str b,.int .i64 l]]=some (.bool (iI a b l)):=(rfl)
theorem Rt:az Tryz.prog HP:=fun args v hv=>by
 unfold HP at hv ⊢;dsimp only at hv ⊢;split at hv
 ·rename_i x;obtain⟨o,ho,rfl⟩:=Option.map_eq_some_iff.1 hv;rw[fV ho];refine aH (n:=20) (h':=h0) (aG (ss:=[pn,pt]) (by simp[vV,En])) ?_ rfl (by simp[AV.af,AV.refs,aF.enc,aF.cells]);obtain⟨a,b,l⟩:=o;have hA:=pL a b l;have hB:=FB a b l
  have hl:decide ((64:Int) < (a.length:Int))=decide (64 < a.length):=by
   congr 1;exact propext ⟨fun h=>by omega,fun h=>by omega⟩
  cases e1:a==[44] with
  | true=>cases e2:b==[120,102,121]<;>simp[fy,gB,sa,Ab,iI,aF.enc,aF.cells,e1,e2]
  | false=>
  cases e2:a==[] with
  | true=>simp[fy,gB,sa,Ab,iI,aF.enc,aF.cells,e1,e2]
  | false=>
  cases e3:decide (64 < a.length) with
  | true=>simp[fy,gB,sa,Ab,iI,aF.enc,aF.cells,e1,e2,e3,hl]
  | false=>
  cases e4:a==[124] with
  | true=>simp[fy,gB,sa,Ab,iI,aF.enc,aF.cells,e1,e2,e3,hl,e4,Cm,C3,c157,GW,tB,tW,ae]
  | false=>
  cases e5:a==[91,93] with
  | true=>simp[fy,gB,sa,Ab,iI,aF.enc,aF.cells,e1,e2,e3,hl,e4,e5,Cm,C3,c157,GW,tB,tW,ae,IntKind.wrap,IntKind.signed,IntKind.bits]
  | false=>
  cases e6:a==[123,125] with
  | true=>simp[fy,gB,sa,Ab,iI,aF.enc,aF.cells,e1,e2,e3,hl,e4,e5,e6,Cm,C3,c157,GW,tB,tW,ae,IntKind.wrap,IntKind.signed,IntKind.bits]
  | false=>
  cases e7:bK b<;>cases e8:dX b<;>cases e9:decide (1≤l)<;>simp only[e7,e8] at hA hB<;>
   simp[fy,gB,sa,Ab,iI,aF.enc,aF.cells,e1,e2,e3,hl,e4,e5,e6,e7,e8,e9,hA,hB,fy,gB,Cm,C3,c157,GW,tB,tW,ae,IntKind.wrap,IntKind.signed,IntKind.bits]
 ·cases hv
def dt {α:Type} (p:α→Bool):List α→Option Nat
 | []=>none
 | x::r=>if p x then some 0 else (dt p r).map (·+1)
theorem mQ {α:Type} {p:α→Bool}:∀{l:List α} {i:Nat},dt p l=some i→i < l.length
 | [],i,h=>by cases h
 | x::r,i,h=>by
   simp only[dt] at h;split at h
   ·cases h;simp
   ·obtain⟨j,hj,rfl⟩:=Option.map_eq_some_iff.1 h;have:=mQ hj;simp;omega
def kq (a b:aF):Bool:=a.n==b.n&&dX a.k==dX b.k
def rz:ai:=⟨117,fun | [v,w]=>(match iJ v,iJ w with | some a,some b=>some (.bool (kq a b)) | _,_=>none) | _=>none⟩
theorem lC:rz.f=117:=(rfl)
theorem Lq (a b:List UInt8) (l:Int) (a' b':List UInt8) (l':Int):rz.S [.agg [.str a,.str b,.int .i64 l],.agg [.str a',.str b',.int .i64 l']]=some (.bool (kq ⟨a,b,l⟩ ⟨a',b',l'⟩)):=(rfl)
theorem LL:az Tryz.prog rz:=fun args v hv=>by
 unfold rz at hv ⊢;dsimp only at hv ⊢;split at hv
 ·rename_i x y;split at hv
  ·rename_i o p h1 h2;cases hv;rw[fV h1,fV h2];refine aH (n:=5) (h':=h0) (aG (ss:=[pn]) (by simp[vV])) ?_ rfl (by simp[AV.af,AV.refs,aF.enc,aF.cells]);obtain⟨a,b,l⟩:=o;obtain⟨a',b',l'⟩:=p;have hA:=pL a b l;have hB:=pL a' b' l';cases e1:a==a'<;>simp[Tf,c117,aF.enc,aF.cells,kq,e1,hA,hB,fy]
  ·cases hv
 ·cases hv
theorem AX (C:Nat→List AV→aa→Option (AV×aa)) (n:Nat) (l:List aF) (g:Nat) (caps:List AV) (hn:Nat) (os:List aC) (p:aF→Bool) (hcap:AV.af caps≤hn) (hl:l.length < 4611686018427387904)
 (hg:∀o ∈ l,C g (.agg [.str o.n,.str o.k,.int .i64 o.l]::caps) ⟨hn,os,hn,hn⟩=some (.bool (p o),⟨hn,os,hn,hn⟩)):∀post pre m,l=pre++post→post.length < m→
 aT (ak C n qt) lO hn m (Rs (.sl (l.map aF.enc)) (.fn g caps) (.int .i64 l.length) (.int .i64 pre.length)) ⟨hn,os,hn,hn⟩=
  match dt p post with
  | some i=>some (.ret,FM 19 [(4,.int .i64 (pre.length+i:Nat))],⟨hn,os,hn,hn⟩)
  | none=>some (.exit 0,FM 19 [],⟨hn,os,hn,hn⟩)
 | [],pre,m+1,e,_=>by
   subst e;have h5:AV.af (pre.map aF.enc)=0:=aZ _;simp[dt,ae,qt,h5]
 | o::post,pre,m+1,e,hm=>by
   have ho:=hg o (by simp[e]);have ih:=AX C n l g caps hn os p hcap hl hg post (pre++[o]) m (by simp[e]) (by rw[List.length_cons] at hm;omega);have h1:l[pre.length]? =some o:=by rw[e];simp
   have h3:IntKind.i64.wrap ((pre.length:Int)+1)=(pre.length:Int)+1:=by
    rw[iG (by rw[e] at hl;simp at hl;omega)];simp
   have h4:o.enc=.agg [.str o.n,.str o.k,.int .i64 o.l]:=rfl;have h5:AV.af (l.map aF.enc)=0:=aZ l;have h6:((pre.length:Int) < (l.length:Int))=True:=eq_true (by rw[e,List.length_append,List.length_cons];omega);simp only[List.length_append,List.length_cons,List.length_nil,Nat.zero_add,Int.natCast_add,Int.natCast_one] at ih;rw[ae]
   cases hp:p o with
   | true=>
     rw[hp] at ho;simp[dt,qt,lO,ho,h1,h3,h4,h5,h6,hp,hcap]
   | false=>
     rw[hp] at ho;simp[dt,qt,lO,ho,h1,h3,h4,h5,h6,hp,hcap];refine Eq.trans ih ?_
     cases dt p post with
     | none=>rfl
     | some i=>
       show some (Ex.ret,FM 19 [(4,AV.int .i64 ((pre.length+1+i:Nat):Int))],_)=some (Ex.ret,FM 19 [(4,AV.int .i64 ((pre.length+(i+1):Nat):Int))],_);rw[show pre.length+(i+1)=pre.length+1+i by omega]
def wW:Option Nat→Int
 | some i=>i
 | none=>-1
theorem qX (ss:List ai) (n:Nat) (l:List aF) (g:Nat) (caps:List AV) (hn:Nat) (os:List aC) (wl md:Nat) (p:aF→Bool) (hcap:AV.af caps≤hn) (hl:l.length < 4611686018427387904) (hm:l.length < n)
 (hg:∀o ∈ l,aw (a8 ss) n g (.agg [.str o.n,.str o.k,.int .i64 o.l]::caps) ⟨hn,os,hn,hn⟩=some (.bool (p o),⟨hn,os,hn,hn⟩)):
 bX ss n 104 [.sl (l.map aF.enc),.fn g caps] ⟨hn,os,wl,md⟩=some (.int .i64 (wW (dt p l)),⟨hn,os,wl,md⟩):=by
 have h:=AX (aw (a8 ss) n) n l g caps hn os p hcap hl hg l [] n rfl hm;simp only[List.length_nil,lO,Int.natCast_zero] at h;have h5:AV.af (l.map aF.enc)=0:=aZ l
 cases hf:dt p l with
 | none=>
   rw[hf] at h;simp[Hf,KJ,lO,h5,hcap,h,wW]
 | some i=>
   rw[hf] at h;simp only[Nat.zero_add] at h;simp[Hf,KJ,lO,h5,hcap,h,wW]
def jn:List aF→List aF→Bool
 | _,[]=>true
 | pre,o::post=>if !iI o.n o.k o.l then false else if (dt (fun x=>kq x o) pre).isSome then false else jn (pre++[o]) post
def bM (l:List aF):Bool:=decide (l.length≤128)&&jn [] l
theorem FG (l:List aF) (n:Nat) (hl:l.length < 4611686018427387904) (hn:l.length < n):∀post pre m,l=pre++post→post.length < m→
 ∃md,er 1 0 (aT (ak (aw (a8 [HP,rz]) (n+10)) (n+10) rY) nK 1 m (N9 (.ptr 0 0) (.sl (l.map aF.enc)) (.int .i64 l.length) (.int .i64 pre.length)) ⟨1,[.row [.sl (l.map aF.enc)]],1,0⟩)=
   some (if jn pre post then .exit 0 else .ret,if jn pre post then FM 31 [] else FM 31 [(2,.bool false)],⟨1,[.row [.sl (l.map aF.enc)]],0,md⟩)
 | [],pre,m+1,e,_=>by
   subst e;exact⟨0,by simp[jn,ae,rY]⟩
 | o::post,pre,m+1,e,hm=>by
   obtain⟨md,ih⟩:=FG l n hl hn post (pre++[o]) m (by simp[e]) (by rw[List.length_cons] at hm;omega);refine⟨if !iI o.n o.k o.l then 0 else if (dt (fun x=>kq x o) pre).isSome then 0 else md,?_⟩;have h1:l[pre.length]? =some o:=by rw[e];simp
   have h3:IntKind.i64.wrap ((pre.length:Int)+1)=(pre.length:Int)+1:=by
    rw[iG (by rw[e] at hl;simp at hl;omega)];simp
   have h4:o.enc=.agg [.str o.n,.str o.k,.int .i64 o.l]:=rfl;have h5:AV.af (l.map aF.enc)=0:=aZ l;have h6:((pre.length:Int) < (l.length:Int))=True:=eq_true (by rw[e,List.length_append,List.length_cons];omega);have h7:l.take pre.length=pre:=by rw[e];simp
   have h8:=Eb (qw l);have h9:pre.length≤l.length:=by rw[e];simp
   have hM:=QV o.n o.k o.l
   have hf:=qX [HP,rz] (n+8) pre 116 [.ptr 1 0] 2 [.row [.str o.n,.str o.k,.int .i64 o.l],.row [.sl (l.map aF.enc)]] 2 2 (fun x=>kq x o) (by simp[AV.af,AV.refs]) (by omega) (by omega)
    (fun x hx=>by
     have hA:=Lq x.n x.k x.l o.n o.k o.l;simp[SW,c116,hA,lC,rk])
   simp only[List.length_append,List.length_cons,List.length_nil,Nat.zero_add,Int.natCast_add,Int.natCast_one] at ih;rw[ae]
   cases hm:iI o.n o.k o.l with
   | false=>
     rw[hm] at hM;simp[jn,rY,nK,h1,h3,h4,h5,h6,hm,hM,rk,lC]
   | true=>
     rw[hm] at hM
     cases hs:dt (fun x=>kq x o) pre with
     | none=>
       rw[hs] at hf;simp[jn,rY,nK,h1,h3,h4,h5,h6,hm,hM,hs,h8,h9,h7,hf,wW,rk,lC,eP,sliceB,NY,c119,←List.map_take];exact ih
     | some i=>
       rw[hs] at hf;simp[jn,rY,nK,h1,h3,h4,h5,h6,hm,hM,hs,h8,h9,h7,hf,wW,rk,lC,eP,sliceB,NY,c119,←List.map_take]
def nW:ai:=⟨70,fun | [.agg [.sl xs]]=>(match lP xs with | some l=>if l.length < 4611686018427387904 then some (.bool (bM l)) else none | none=>none) | _=>none⟩
theorem pV:nW.f=70:=(rfl)
theorem yi (l:List aF) (h:l.length < 4611686018427387904):nW.S [.agg [.sl (l.map aF.enc)]]=some (.bool (bM l)):=by
 simp only[nW,mb,if_pos h]
theorem xY:az Tryz.prog nW:=fun args v hv=>by
 unfold nW at hv ⊢;dsimp only at hv ⊢;split at hv
 ·rename_i xs;split at hv
  ·rename_i l hd;split at hv
   ·rename_i hl;cases hv;rw[nM hd];refine aH (n:=l.length+12) (h':=h0) (aG (ss:=[HP,rz]) (by simp[Rt,LL])) ?_ rfl (by simp[AV.af,AV.refs,aZ]);have h5:AV.af (l.map aF.enc)=0:=aZ l;by_cases h:l.length≤128
    ·obtain⟨md,e⟩:=FG l (l.length+1) hl (by omega) l [] (l.length+11) rfl (by omega);simp only[List.length_nil,nK,N9,Int.natCast_zero] at e;have hd:((128:Int) < (l.length:Int))=False:=eq_false (by omega)
     cases hg:jn [] l with
     | true=>
       rw[hg] at e;simp only[if_true] at e;simp[IT,c70,nK,h5,e,bM,h,hd,hg,rk,lC]
     | false=>
       rw[hg] at e;simp only[Bool.false_eq_true,if_false] at e;simp[IT,c70,nK,h5,e,bM,h,hd,hg,rk,lC]
    ·have hd:((128:Int) < (l.length:Int))=True:=eq_true (by omega);simp[IT,c70,bM,h,hd,rk,lC]
   ·cases hv
  ·cases hv
 ·cases hv
def eX:aF:=⟨[],[],0⟩
def aQ (l:List aF) (name:List UInt8) (ahead:Bool):aF×Bool:=
 match dt (fun o=>o.n==name&&dX o.k==ahead) l with
 | none=>(eX,false)
 | some i=>if bM l then (l.getD i eX,true) else (eX,false)
def IK:ai:=⟨63,fun | [.agg [.sl xs],.str s,.bool b]=>(match lP xs with | some l=>if l.length < 4611686018427387904 then some (.tuple [(aQ l s b).1.enc,.bool (aQ l s b).2]) else none | none=>none) | _=>none⟩
theorem Nd (l:List aF) (s:List UInt8) (b:Bool) (h:l.length < 4611686018427387904):IK.S [.agg [.sl (l.map aF.enc)],.str s,.bool b]=some (.tuple [(aQ l s b).1.enc,.bool (aQ l s b).2]):=by
 simp only[IK,mb,if_pos h]
theorem MR:az Tryz.prog IK:=fun args v hv=>by
 unfold IK at hv ⊢;dsimp only at hv ⊢;split at hv
 ·rename_i xs s b;split at hv
  ·rename_i l hd;split at hv
   ·rename_i hl;cases hv;rw[nM hd];refine aH (n:=l.length+12) (h':=h0) (aG (ss:=[pn,nW]) (by simp[vV,xY])) ?_ (by simp[AV.refs,AV.af,aF.enc,aF.cells]) (by simp[AV.af,AV.refs,aZ]);have h5:AV.af (l.map aF.enc)=0:=aZ l
    have hf:=qX [pn,nW] (l.length+10) l 105 [.ptr 1 0,.ptr 2 0] 4 [.row [.str [],.str [],.int .i64 0],.row [.bool b],.row [.str s],.row [.sl (l.map aF.enc)]] 0 0 (fun o=>o.n==s&&dX o.k==b) (by simp[AV.af,AV.refs]) hl (by omega)
     (fun x hx=>by
      have hA:=pL x.n x.k x.l;cases e1:x.n==s<;>simp[Sa,c105,e1,hA,fy,pV])
    have hg:=yi l hl
    cases hs:dt (fun o=>o.n==s&&dX o.k==b) l with
    | none=>
      rw[hs] at hf;simp[IH,Sd,hf,aQ,hs,aF.enc,aF.cells,eX,wW,fy,pV]
    | some i=>
      rw[hs] at hf;have hi:=mQ hs;have h1:l[i]? =some l[i]:=List.getElem?_eq_getElem hi;have h4:l[i].enc=.agg [.str l[i].n,.str l[i].k,.int .i64 l[i].l]:=rfl;have hne:((i:Int) < 0)=False:=eq_false (by omega);have hgd:l.getD i eX=l[i]:=by simp[List.getD,h1]
      cases hgk:bM l with
      | false=>
        rw[hgk] at hg;simp[IH,Sd,hf,aQ,hs,aF.enc,aF.cells,eX,hg,hgk,hne,wW,fy,pV]
      | true=>
        rw[hgk] at hg;simp[IH,Sd,hf,aQ,hs,hg,hgk,h1,h4,hne,hgd,wW,fy,pV]
   ·cases hv
  ·cases hv
 ·cases hv
def a6:AV→Option (List aF)
 | .ax=>some []
 | .sl xs=>lP xs
 | _=>none
theorem aD {x:AV} {l:List aF} (h:a6 x=some l):(x=.ax∧l=[])∨x=.sl (l.map aF.enc):=by
 cases x<;>simp[a6] at h
 ·exact .inl ⟨rfl,h⟩
 ·exact .inr (by rw[nM h])
theorem bC {x:AV} {l:List aF} (h:a6 x=some l):x.refs=0:=by
 rcases aD h with⟨rfl,_⟩ | rfl
 ·rfl
 ·simp[AV.refs,aZ]
theorem pE (l:List aF):a6 (.sl (l.map aF.enc))=some l:=mb l
def Gq:ai:=⟨70,fun | [.agg [.ax]]=>some (.bool true) | _=>none⟩
theorem J5:Gq.S [.agg [.ax]]=some (.bool true):=(rfl)
theorem JK:az Tryz.prog Gq:=fun args v hv=>by
 unfold Gq at hv ⊢;dsimp only at hv ⊢;split at hv
 ·cases hv;refine aH (n:=10) (h':=h0) (aG (ss:=[]) (by simp)) ?_ rfl rfl;simp[IT,c70,nK,rY,ae]
 ·cases hv
def F4:ai:=⟨63,fun | [.agg [.ax],.str _,.bool _]=>some (.tuple [eX.enc,.bool false]) | _=>none⟩
theorem KL (s:List UInt8) (b:Bool):F4.S [.agg [.ax],.str s,.bool b]=some (.tuple [eX.enc,.bool false]):=(rfl)
theorem LP:az Tryz.prog F4:=fun args v hv=>by
 unfold F4 at hv ⊢;dsimp only at hv ⊢;split at hv
 ·cases hv;refine aH (n:=10) (h':=h0) (aG (ss:=[]) (by simp)) ?_ rfl (by simp[AV.af,AV.refs]);simp[IH,Sd,Hf,KJ,lO,qt,ae,eX,aF.enc,aF.cells]
 ·cases hv
def qA:ai:=⟨70,fun | [.agg [x]]=>(match a6 x with | some l=>if l.length < 4611686018427387904 then some (.bool (bM l)) else none | none=>none) | _=>none⟩
theorem qn:qA.f=70:=(rfl)
theorem H3 {x:AV} {l:List aF} (hx:a6 x=some l) (h:l.length < 4611686018427387904):qA.S [.agg [x]]=some (.bool (bM l)):=by
 simp only[qA,hx,if_pos h]
theorem Ha:az Tryz.prog qA:=fun args v hv=>by
 unfold qA at hv ⊢;dsimp only at hv ⊢;split at hv
 ·split at hv
  ·rename_i l hd;split at hv
   ·rename_i hl;cases hv;rcases aD hd with⟨rfl,rfl⟩ | rfl
    ·exact JK _ _ J5
    ·exact xY _ _ (yi l hl)
   ·cases hv
  ·cases hv
 ·cases hv
def rq:ai:=⟨63,fun | [.agg [x],.str s,.bool b]=>(match a6 x with | some l=>if l.length < 4611686018427387904 then some (.tuple [(aQ l s b).1.enc,.bool (aQ l s b).2]) else none | none=>none) | _=>none⟩
theorem ue:rq.f=63:=(rfl)
theorem A2 {x:AV} {l:List aF} (hx:a6 x=some l) (s:List UInt8) (b:Bool) (h:l.length < 4611686018427387904):rq.S [.agg [x],.str s,.bool b]=some (.tuple [(aQ l s b).1.enc,.bool (aQ l s b).2]):=by
 simp only[rq,hx,if_pos h]
theorem AY:az Tryz.prog rq:=fun args v hv=>by
 unfold rq at hv ⊢;dsimp only at hv ⊢;split at hv
 ·split at hv
  ·rename_i l hd;split at hv
   ·rename_i hl;cases hv;rcases aD hd with⟨rfl,rfl⟩ | rfl
    ·exact LP _ _ (KL _ _)
    ·exact MR _ _ (Nd l _ _ hl)
   ·cases hv
  ·cases hv
 ·cases hv
def RQ:ai:=⟨29,fun | [.agg [x],.str s]=>(match a6 x with | some l=>if l.length < 4611686018427387904 then some (.tuple [(aQ l s false).1.enc,.bool (aQ l s false).2]) else none | none=>none) | _=>none⟩
theorem xQ:RQ.f=29:=(rfl)
theorem Pn {x:AV} {l:List aF} (hx:a6 x=some l) (s:List UInt8) (h:l.length < 4611686018427387904):RQ.S [.agg [x],.str s]=some (.tuple [(aQ l s false).1.enc,.bool (aQ l s false).2]):=by
 simp only[RQ,hx,if_pos h]
theorem OU:az Tryz.prog RQ:=fun args v hv=>by
 unfold RQ at hv ⊢;dsimp only at hv ⊢;split at hv
 ·rename_i x s;split at hv
  ·rename_i l hd;split at hv
   ·rename_i hl;cases hv;have hr:=bC hd;refine aH (n:=6) (h':=h0) (aG (ss:=[rq]) (by simp[AY])) ?_ (by simp[AV.refs,AV.af,aF.enc,aF.cells]) (by simp[AV.af,AV.refs,hr]);have q:=A2 hd s false hl;simp only[aF.enc,aF.cells] at q ⊢;rcases aD hd with⟨rfl,rfl⟩ | rfl
    ·simp[RZ,Wh,ue,q]
    ·simp[RZ,Wh,ue,q]
   ·cases hv
  ·cases hv
 ·cases hv
def z8:ai:=⟨30,fun | [.agg [x],.str s]=>(match a6 x with | some l=>if l.length < 4611686018427387904 then some (.tuple [(aQ l s true).1.enc,.bool (aQ l s true).2]) else none | none=>none) | _=>none⟩
theorem kT:z8.f=30:=(rfl)
theorem IW {x:AV} {l:List aF} (hx:a6 x=some l) (s:List UInt8) (h:l.length < 4611686018427387904):z8.S [.agg [x],.str s]=some (.tuple [(aQ l s true).1.enc,.bool (aQ l s true).2]):=by
 simp only[z8,hx,if_pos h]
theorem Ju:az Tryz.prog z8:=fun args v hv=>by
 unfold z8 at hv ⊢;dsimp only at hv ⊢;split at hv
 ·rename_i x s;split at hv
  ·rename_i l hd;split at hv
   ·rename_i hl;cases hv;have hr:=bC hd;refine aH (n:=6) (h':=h0) (aG (ss:=[rq]) (by simp[AY])) ?_ (by simp[AV.refs,AV.af,aF.enc,aF.cells]) (by simp[AV.af,AV.refs,hr]);have q:=A2 hd s true hl;simp only[aF.enc,aF.cells] at q ⊢;rcases aD hd with⟨rfl,rfl⟩ | rfl
    ·simp[Rz,VP,ue,q]
    ·simp[Rz,VP,ue,q]
   ·cases hv
  ·cases hv
 ·cases hv
def bz (o:aF):Int×Int:=
 if o.k=[120,102,120] then (o.l - 1,o.l - 1) else if o.k=[120,102,121] then (o.l - 1,o.l) else if o.k=[121,102,120] then (o.l,o.l - 1)
 else if o.k=[102,121] then (0,o.l) else if o.k=[102,120] then (0,o.l - 1) else (0,0)
def mq:ai:=⟨122,fun | [v]=>(match iJ v with | some o=>if 0≤o.l∧o.l≤1200 then some (.tuple [.int .i64 (bz o).1,.int .i64 (bz o).2]) else none | none=>none) | _=>none⟩
theorem cT:mq.f=122:=(rfl)
theorem Bt (o:aF) (h:0≤o.l∧o.l≤1200):mq.S [.agg [.str o.n,.str o.k,.int .i64 o.l]]=some (.tuple [.int .i64 (bz o).1,.int .i64 (bz o).2]):=if_pos h
theorem Aw:az Tryz.prog mq:=fun args v hv=>by
 unfold mq at hv ⊢;dsimp only at hv ⊢;split at hv
 ·rename_i x;split at hv
  ·rename_i o hd;split at hv
   ·rename_i hl;cases hv;rw[fV hd];refine aH (n:=6) (h':=h0) (aG (ss:=[]) (by simp)) ?_ (by simp[AV.refs,AV.af]) (by simp[AV.af,AV.refs,aF.enc,aF.cells]);have w:IntKind.i64.wrap (o.l - 1)=o.l - 1:=wrap_i64 (by omega) (by omega);obtain⟨n,k,l⟩:=o;dsimp only at w;have hb:∀a b:List UInt8,a≠b→(a==b)=false:=fun a b h=>by simpa using h
    unfold bz;dsimp only;by_cases h1:k=[120,102,120]
    ·subst h1;simp[vQ,Cy,aF.enc,aF.cells,w]
    rw[if_neg h1];have e1:=hb _ _ h1;by_cases h2:k=[120,102,121]
    ·subst h2;simp[vQ,Cy,aF.enc,aF.cells,w]
    rw[if_neg h2];have e2:=hb _ _ h2;by_cases h3:k=[121,102,120]
    ·subst h3;simp[vQ,Cy,aF.enc,aF.cells,w]
    rw[if_neg h3];have e3:=hb _ _ h3;by_cases h4:k=[102,121]
    ·subst h4;simp[vQ,Cy,aF.enc,aF.cells,w]
    rw[if_neg h4];have e4:=hb _ _ h4;by_cases h5:k=[102,120]
    ·subst h5;simp[vQ,Cy,aF.enc,aF.cells,w]
    rw[if_neg h5];have e5:=hb _ _ h5;simp[vQ,Cy,aF.enc,aF.cells,w,h1,h2,h3,h4,h5,e1,e2,e3,e4,e5]
   ·cases hv
  ·cases hv
 ·cases hv
theorem Cn {a b:List UInt8} {l:Int} (h:iI a b l=true):1≤l∧l≤1200:=by
 unfold iI at h;split at h
 ·simp only[Bool.and_eq_true,decide_eq_true_eq] at h;omega
 ·simp at h;omega
theorem A9:∀(post pre:List aF),jn pre post=true→∀o ∈ post,iI o.n o.k o.l=true
 | [],_,_,o,h=>by simp at h
 | x::r,pre,hg,o,h=>by
   unfold jn at hg
   cases hm:iI x.n x.k x.l with
   | false=>rw[hm] at hg;simp at hg
   | true=>
     rw[hm] at hg;simp only[Bool.not_true,Bool.false_eq_true,if_false] at hg;split at hg
     ·cases hg
     ·rcases List.mem_cons.1 h with rfl | h
      ·exact hm
      ·exact A9 r _ hg o h
theorem nf {l:List aF} (h:bM l=true):∀o ∈ l,iI o.n o.k o.l=true:=by
 unfold bM at h;rw[Bool.and_eq_true] at h;exact A9 l [] h.2
theorem vy (l:List aF) (s:List UInt8) (b:Bool):0≤(aQ l s b).1.l∧(aQ l s b).1.l≤1200:=by
 unfold aQ;split
 ·exact⟨Int.le_refl 0,by simp[eX]⟩
 ·rename_i i hi;split
  ·rename_i hg;have hlt:=mQ hi;have hd:l.getD i eX=l[i]:=by simp[List.getD,List.getElem?_eq_getElem hlt]
   dsimp only;rw[hd];have:=Cn (nf hg l[i] (List.getElem_mem hlt));omega
  ·exact⟨Int.le_refl 0,by simp[eX]⟩
end Go.Proofs.YtjmeonoabiliiaaGreatDoor

namespace Go.Proofs.YtjmeonoabiliiaaGreatDoor
open Go Sz Go.RowKit
theorem uk {w w':World} (h:w'=w):Below w.heap.size w w':=h ▸ Below.refl _ _
def kh:ai:=⟨123,fun | [.str s,.str p]=>some (.str (Lib.trimPrefix s p)) | _=>none⟩
theorem jR:kh.f=123:=(rfl)
theorem zI (s p:List UInt8):kh.S [.str s,.str p]=some (.str (Lib.trimPrefix s p)):=rfl
theorem xI:az Tryz.prog kh:=fun args v hv=>by
 unfold kh at hv ⊢;dsimp only at hv ⊢;split at hv
 ·rename_i s p;cases hv;exact BW (enters 123 Tryz.func123 rfl rfl) fun w _=>(Tryz.strings_TrimPrefix ⟨s.toArray⟩ ⟨p.toArray⟩ w).mono fun e w' ⟨h1,h2⟩=>⟨by simpa using h1,uk h2⟩
 ·cases hv
def gv:ai:=⟨84,fun | [.str s,.str p]=>some (.bool (Lib.hasPrefix s p)) | _=>none⟩
theorem db:gv.f=84:=(rfl)
theorem qP (s p:List UInt8):gv.S [.str s,.str p]=some (.bool (Lib.hasPrefix s p)):=rfl
theorem Ak:az Tryz.prog gv:=fun args v hv=>by
 unfold gv at hv ⊢;dsimp only at hv ⊢;split at hv
 ·rename_i s p;cases hv;exact LA (enters 84 Tryz.func84 rfl rfl) fun w _=>(Tryz.strings_HasPrefix ⟨s.toArray⟩ ⟨p.toArray⟩ w).mono fun e w' ⟨h1,h2⟩=>⟨by simpa using h1,uk h2⟩
 ·cases hv
def ie (c:Nat):List UInt8→Int
 | []=>-1
 | b::r=>if Nat.beq b.toNat c then 0 else match ie c r with | .ofNat n=>.ofNat (n+1) | .negSucc _=>-1
theorem Iw (c:UInt8):∀l,Lib.indexByte l c=ie c.toNat l
 | []=>rfl
 | b::r=>by
   unfold Lib.indexByte ie;rw[Iw c r]
   have e:Nat.beq b.toNat c.toNat=(b==c):=by
    by_cases h:b=c
    ·subst h;simp[Nat.beq_refl]
    ·have h2:(b==c)=false:=by simpa using h
     rw[h2]
     cases h3:Nat.beq b.toNat c.toNat with
     | false=>rfl
     | true=>exact absurd (UInt8.toNat_inj.1 (Nat.eq_of_beq_eq_true h3)) h
   rw[e]
   cases hb:b==c with
   | true=>rfl
   | false=>
     simp only[Bool.false_eq_true,if_false]
     cases h:ie c.toNat r with
     | ofNat n=>
       have:((Int.ofNat n)==-1)=false:=by simp
       rw[this];rfl
     | negSucc n=>
       have hn:n=0:=by
        have:∀l k,ie c.toNat l=.negSucc k→k=0:=fun l=>by
         induction l with
         | nil=>intro k hk;cases hk;rfl
         | cons b r ih=>
           intro k hk;unfold ie at hk;split at hk
           ·cases hk
           ·split at hk
            ·cases hk
            ·cases hk;rfl
        exact this r n h
       subst hn;rfl
def ff:ai:=⟨65,fun | [.str s,.int .u8 c]=>if 0≤c∧c < 256 then some (.int .i64 (ie c.toNat s)) else none | _=>none⟩
theorem ar:ff.f=65:=(rfl)
theorem dC (s:List UInt8) (c:UInt8):ff.S [.str s,.int .u8 c.toNat]=some (.int .i64 (ie c.toNat s)):=by
 have:c.toNat < 256:=c.toNat_lt;unfold ff;dsimp only;rw[if_pos (by omega),Int.toNat_natCast]
theorem jO:az Tryz.prog ff:=fun args v hv=>by
 unfold ff at hv ⊢;dsimp only at hv ⊢;split at hv
 ·rename_i s c;split at hv
  ·rename_i hc;cases hv;refine gy (enters 65 Tryz.func65 rfl rfl) fun φ h w cargs hr hG ha=>?_
   obtain⟨cx,cy,rfl,h1,h2⟩:=mI ha;rw[dP h1,int_eq h2];refine (Tryz.strings_IndexByte ⟨s.toArray⟩ c w).mono fun e w' ⟨he,hw⟩=>?_
   refine⟨uk hw,_,he,?_⟩
   have e1:c.toNat.toUInt8.toNat=c.toNat:=by
    show (UInt8.ofNat c.toNat).toNat=_;rw[UInt8.toNat_ofNat'];omega
   rw[Iw,e1];exact .int _ _
  ·cases hv
 ·cases hv
def Lk:Nat→Nat→List UInt8
 | 0,_=>[]
 | f+1,u=>if u < 10 then [UInt8.ofNat (48+u)] else Lk f (u / 10)++[UInt8.ofNat (48+u % 10)]
theorem zH:∀(f u:Nat),u < 10 ^ (f+1)→Lk (f+1) u=Lib.decDigits u
 | 0,u,h=>by
   have:u < 10:=by simpa using h
   rw[Lib.decDigits,dif_pos this];simp[Lk,this]
 | f+1,u,h=>by
   rw[Lib.decDigits];unfold Lk;by_cases h1:u < 10
   ·rw[if_pos h1,dif_pos h1]
   ·rw[if_neg h1,dif_neg h1,zH f (u / 10) (by rw[Nat.pow_succ] at h;omega)]
def fj (n:Int):List UInt8:=if n < 0 then 45::Lk 20 n.natAbs else Lk 20 n.toNat
theorem mO (n:Int) (h1:-9223372036854775808≤n) (h2:n < 9223372036854775808):fj n=Lib.itoa n:=by
 unfold fj Lib.itoa;rw[zH 19 _ (by omega),zH 19 _ (by omega)]
def dm (w:World):Prop:=Lib.TabIs Tryz.prog w "internal/strconv.uint64pow10" .u64 Lib.pow10Tab∧∃te pe,w.cell? ⟨2,0,none⟩=some (.iface te pe)
theorem Af {P:Program} {W:World} {name nm:String} {d:DataW Unit} {rest:List (String×DataW Unit)} {g t:Nat} {ms:Array (String×TypeId)}
 (hg:P.globalNamed name=some g) (hty:(P.globals[g]?).map (·.type)=some t) (ht:P.underlying t=some (.interface ms))
 (h:laidMet P ((name,.iface nm d)::rest) W):∃te pe,W.cell? ⟨g,0,none⟩=some (.iface te pe):=by
 obtain⟨ps,⟨g',t',cs,fuel,p,q,hg',ht',hvar,hd,_,_⟩,_⟩:=h;obtain rfl:=Option.some.inj (hg.symm.trans hg');obtain rfl:=Option.some.inj (hty.symm.trans ht')
 cases fuel with
 | zero=>simp[DataW.trod] at hd
 | succ fuel=>
   have hc:=World.var?_cell hg hvar 0
   match hcs:cs.toList with
   | []=>rw[hcs] at hd;simp[DataW.trod,ht] at hd
   | [v]=>
     have h0:cs[0]? =some v:=by rw[←Array.getElem?_toList,hcs];rfl
     rw[h0] at hc;rw[hcs] at hd
     cases v with
     | iface u v=>exact⟨u,v,hc⟩
     | _=>simp[DataW.trod,ht] at hd
   | v::v'::r=>rw[hcs] at hd;simp[DataW.trod,ht] at hd
theorem N7 {φ:dj} {h:aa} {w:World} (hG:gZ Tryz.prog dm φ h w):∃te pe,w.cell? ⟨2,0,none⟩=some (.iface te pe):=by
 obtain⟨w1,h1,h2⟩:=hG;obtain⟨te,pe,hc⟩:=h1.2.2;refine⟨te,pe,?_⟩
 have hlt:2 < w1.heap.size:=by
  unfold World.cell? at hc;split at hc
  ·rename_i hb;exact (Array.getElem?_eq_some_iff.1 hb).1
  ·cases hc
 rw[cell?_of_block (h2 2 hlt).2.2];exact hc
def tX:ai:=⟨175,fun | [.int .i64 n,.int .i64 b]=>if b=10∧-9223372036854775808≤n∧n < 9223372036854775808 then some (.str (fj n)) else none | _=>none⟩
theorem JR:tX.f=175:=(rfl)
theorem HN (n:Int) (h:-9223372036854775808≤n∧n < 9223372036854775808):tX.S [.int .i64 n,.int .i64 10]=some (.str (fj n)):=if_pos ⟨rfl,h⟩
theorem H8:ck Tryz.prog dm tX:=fun args v hv=>by
 unfold tX at hv ⊢;dsimp only at hv ⊢;split at hv
 ·rename_i n b;split at hv
  ·rename_i hn;obtain⟨rfl,hn⟩:=hn;cases hv;rw[mO n hn.1 hn.2];refine gy (enters 175 Tryz.func175 rfl rfl) fun φ h w cargs hr hG ha=>?_
   obtain⟨cx,cy,rfl,h1,h2⟩:=mI ha;rw[int_eq h1,int_eq h2];refine (Tryz.strconv_FormatInt_10 n hn.1 (by omega) w (hG.Xq fun w h=>h.1)).mono fun e w' ⟨he,k,os,hw⟩=>?_
   subst hw;exact⟨Hq _ _ _,_,he,.OP _⟩
  ·cases hv
 ·cases hv
theorem xz {φ:dj} {h:aa} {w:World} {x y z:AV} {cargs:Array Value} (ha:ju φ h w [x,y,z] cargs):∃cx cy cz,cargs=#[cx,cy,cz]∧dL φ h w x cx∧dL φ h w y cy∧dL φ h w z cz:=by
 obtain⟨h1,h2⟩:=RE ha;obtain⟨l⟩:=cargs
 match l,h1 with
 | [cx,cy,cz],_=>exact⟨cx,cy,cz,rfl,h2 0 (by simp),h2 1 (by simp),h2 2 (by simp)⟩
def C4 (s:List UInt8):Option AV:=match Lib.parseIntB 64 s with
 | .ok v=>some (.tuple [.int .i64 v,.jI])
 | .range=>some (.tuple [.int .i64 (Lib.intSat 64 s),.iface 217 .undef])
 | _=>none
def yB:ai:=⟨125,fun | [.str s,.int .i64 b,.int .i64 c]=>if b=10∧c=64∧s.length < 281474976710656 then C4 s else none | _=>none⟩
theorem um:yB.f=125:=(rfl)
theorem Ln (s:List UInt8) (h:s.length < 281474976710656):yB.S [.str s,.int .i64 10,.int .i64 64]=C4 s:=if_pos ⟨rfl,rfl,h⟩
theorem Kz:ck Tryz.prog dm yB:=fun args v hv=>by
 unfold yB at hv ⊢;dsimp only at hv ⊢;split at hv
 ·rename_i s b c;split at hv
  ·rename_i hn;obtain⟨rfl,rfl,hn⟩:=hn;unfold C4 at hv;split at hv
   ·rename_i v' hp;cases hv;refine gy (enters 125 Tryz.func125 rfl rfl) fun φ h w cargs hr hG ha=>?_
    obtain⟨cx,cy,cz,rfl,h1,h2,h3⟩:=xz ha;rw[dP h1,int_eq h2,int_eq h3];refine (Tryz.strconv_ParseInt_10_at64_ok ⟨s.toArray⟩ (by rw[Lib.size_eq];simp;omega) v' (by simpa using hp) w).mono fun e w' ⟨he,hw⟩=>?_
    refine⟨?_,_,he,?_⟩
    ·rcases hw with rfl | ⟨t,rfl⟩
     ·exact Below.refl _ _
     ·exact Lib.bytesWorld_below _ _ _
    ·refine .tuple _ _ rfl fun j hj=>?_
     match j,hj with
     | 0,_=>exact .int _ _
     | 1,_=>exact .jI
   ·rename_i hp;cases hv;refine gy (enters 125 Tryz.func125 rfl rfl) fun φ h w cargs hr hG ha=>?_
    obtain⟨cx,cy,cz,rfl,h1,h2,h3⟩:=xz ha;rw[dP h1,int_eq h2,int_eq h3];obtain⟨te,pe,hev⟩:=N7 hG;refine (Tryz.strconv_ParseInt_10_at64_range ⟨s.toArray⟩ (by rw[Lib.size_eq];simp;omega) (by simpa using hp) _ w hev (.inr ⟨te,pe,rfl⟩)).mono fun e w' ⟨N,he,_,_,hw⟩=>?_
    refine⟨hw,_,he,?_⟩;refine .tuple _ _ rfl fun j hj=>?_
    match j,hj with
    | 0,_=>simpa using (RV.int (φ:=φ) (nx:=h.next) (pr:=Pr φ h w') (w:=w') .i64 (Lib.intSat 64 s))
    | 1,_=>exact .iface _ _ _ (.undef _)
   ·cases hv
  ·cases hv
 ·cases hv
def digits:List UInt8:=[48,49,50,51,52,53,54,55,56,57]
def AO (s:List UInt8):List UInt8:=(s.reverse.dropWhile (digits.contains ·)).reverse.dropWhile (digits.contains ·)
def trimS:ai:=⟨124,fun | [.str s,.str c]=>if s.length < 9223372036854775807∧c=digits then some (.str (AO s)) else none | _=>none⟩
theorem w9:trimS.f=124:=(rfl)
theorem Ny (s:List UInt8) (h:s.length < 9223372036854775807):trimS.S [.str s,.str digits]=some (.str (AO s)):=if_pos ⟨h,rfl⟩
theorem Nk:az Tryz.prog trimS:=fun args v hv=>by
 unfold trimS at hv ⊢;dsimp only at hv ⊢;split at hv
 ·rename_i s c;split at hv
  ·rename_i hl;obtain⟨hl,rfl⟩:=hl;cases hv;refine BW (enters 124 Tryz.func124 rfl rfl) fun w _=>(Any.strings_Trim_laid Tryz.PJ (by kernel_rfl) ⟨s.toArray⟩ ⟨digits.toArray⟩ w (by rw[Lib.size_eq];simp;omega) (by decide) (ascii_of_all (by decide))).mono fun e w' ⟨h1,h2⟩=>⟨?_,h2⟩
   rw[h1];rfl
  ·cases hv
 ·cases hv
def nT:List AV→Option (List (List UInt8))
 | []=>some []
 | .str s::r=>(nT r).map (s::·)
 | _=>none
def tv:AV→Option (List (List UInt8))
 | .ax=>some []
 | .sl xs=>nT xs
 | _=>none
theorem vX:∀l:List (List UInt8),nT (l.map .str)=some l
 | []=>rfl
 | s::r=>by simp[nT,vX r]
theorem wi:∀(xs:List AV) (l:List (List UInt8)),nT xs=some l→xs=l.map .str
 | [],l,h=>by simp[nT] at h;subst h;rfl
 | x::r,l,h=>by
   cases x<;>simp[nT] at h;obtain⟨t,h1,rfl⟩:=h;simp[wi r t h1]
theorem Gj (l:List (List UInt8)):tv (.sl (l.map .str))=some l:=vX l
theorem Fx {v:AV} {l:List (List UInt8)} (h:tv v=some l):v=.sl (l.map .str)∨(v=.ax∧l=[]):=by
 cases v<;>simp[tv] at h
 ·exact .inr ⟨rfl,h⟩
 ·exact .inl (by rw[wi _ _ h])
theorem qe (l:List (List UInt8)):AV.af (l.map .str)=0:=by
 induction l with
 | nil=>rfl
 | cons s r ih=>simp[AV.af,AV.refs,ih]
def AS:ai:=⟨176,fun | [x,.str p]=>(match tv x with | some l=>if (Lib.join l p).length≤140737488355328∧l.length≤140737488355328 then some (.str (Lib.join l p)) else none | none=>none) | _=>none⟩
theorem kK:AS.f=176:=(rfl)
theorem xT (x:AV) (l:List (List UInt8)) (p:List UInt8) (hx:tv x=some l) (h:(Lib.join l p).length≤140737488355328∧l.length≤140737488355328):AS.S [x,.str p]=some (.str (Lib.join l p)):=by
 unfold AS;dsimp only;rw[hx];exact if_pos h
theorem Pq:az Tryz.prog AS:=fun args v hv=>by
 unfold AS at hv ⊢;dsimp only at hv ⊢;split at hv
 ·rename_i x p;split at hv
  ·rename_i l hx;split at hv
   ·rename_i hl;cases hv
    obtain⟨k1,k2⟩:=KY (P:=Tryz.prog) (f:=176) (xs:=l) (p:=p) (r:=Lib.join l p) (enters 176 Tryz.func176 rfl rfl) (fun he a c w=>by
     subst he;exact (Tryz.strings_Join_none a c ⟨p.toArray⟩ w).mono fun e w' ⟨h1,h2⟩=>⟨h1,uk h2⟩)
     (fun bk o c w hc hb hcap=>by
      have e1:(l.map fun x=>(⟨x.toArray⟩:ByteArray)).map (fun x=>x.data.toList)=l:=by
       rw[List.map_map];exact (List.map_congr_left fun x _=>by simp).trans (List.map_id l)
      have:=Tryz.strings_Join bk o c (l.map fun x=>⟨x.toArray⟩) ⟨p.toArray⟩ w hc hb (by simpa using hl.2) (by simpa using hcap) (by rw[e1];exact hl.1);rw[e1,List.length_map] at this;exact this)
    rcases Fx hx with rfl | ⟨rfl,rfl⟩
    ·exact k1
    ·exact k2 rfl
   ·cases hv
  ·cases hv
 ·cases hv
end Go.Proofs.YtjmeonoabiliiaaGreatDoor

namespace Go.Proofs.YtjmeonoabiliiaaGreatDoor
open Go Sz
def mA:Nat→Tm→List Tm×Tm
 | 0,t=>([],t)
 | n+1,t=>match t.args with
   | [x,r]=>if t.kind=2∧t.name=[46] then (x::(mA n r).1,(mA n r).2) else ([],t)
   | _=>([],t)
def aE (t:Tm):List Tm×Tm:=mA t.size t
theorem Fm:∀(n:Nat) (t:Tm),t.size≤n→mA n t=aE t:=by
 have key:∀(n m:Nat) (t:Tm),t.size≤n→t.size≤m→mA n t=mA m t:=by
  intro n
  induction n with
  | zero=>intro m t h;have:=aM t;omega
  | succ n ih=>
    intro m t h1 h2
    cases m with
    | zero=>have:=aM t;omega
    | succ m=>
      have hs:=aM t;unfold mA;split
      ·rename_i x r he;rw[he] at hs;simp[Tm.aI] at hs;rw[ih m r (by omega) (by omega)]
      ·rfl
 exact fun n t h=>key n t.size t h (Nat.le_refl _)
def dx (t:Tm):Bool:=decide (t.kind=2)&&decide (t.name=[46])&&decide (t.args.length=2)
theorem fT {t:Tm} (h:dx t=false):aE t=([],t):=by
 unfold aE
 cases hs:t.size with
 | zero=>rfl
 | succ n=>
   unfold mA;split
   ·rename_i x r he;rw[if_neg];intro hk;simp[dx,he,hk] at h
   ·rfl
theorem eb {t:Tm} (h:dx t=true):∃x r,t.args=[x,r]∧aE t=(x::(aE r).1,(aE r).2):=by
 simp only[dx,Bool.and_eq_true,decide_eq_true_eq] at h;obtain⟨⟨h1,h2⟩,h3⟩:=h
 match ha:t.args,h3 with
 | [x,r],_=>
   refine⟨x,r,rfl,?_⟩
   have e:aE t=mA (t.size - 1+1) t:=by
    have:=aM t;unfold aE;congr 1;omega
   rw[e];unfold mA;rw[ha];simp only[h1,h2,and_self,if_true];have hs:=aM t;rw[ha] at hs;simp[Tm.aI] at hs;rw[Fm _ r (by omega)]
def cN (c:UInt8):Bool:=decide (48≤c.toNat)&&decide (c.toNat≤57)
def bJ:List UInt8→Bool
 | []=>true
 | c::r=>cN c&&bJ r
@[irreducible] def R7 (acc:Nat) (c:UInt8):Nat:=acc*10+(c.toNat - 48)
theorem PY (acc:Nat) (c:UInt8):R7 acc c=acc*10+(c.toNat - 48):=by unfold R7;rfl
def iO:Nat→List UInt8→Nat
 | acc,[]=>acc
 | acc,c::r=>iO (R7 acc c) r
theorem jf (acc:Nat):iO acc []=acc:=by rw[iO]
theorem fW (acc:Nat) (c:UInt8) (r:List UInt8):iO acc (c::r)=iO (acc*10+(c.toNat - 48)) r:=by rw[iO,PY]
attribute [irreducible] iO
theorem NS (c:UInt8):digits.contains c=cN c:=by
 have h:∀n:Fin 256,digits.contains (UInt8.ofNat n.1)=cN (UInt8.ofNat n.1):=by decide+kernel
 have:=h ⟨c.toNat,c.toNat_lt⟩;simpa using this
theorem yG:∀a b,bJ (a++b)=(bJ a&&bJ b)
 | [],b=>by simp[bJ]
 | x::r,b=>by simp[bJ,yG r b,Bool.and_assoc]
theorem xZ:∀{l:List UInt8},bJ l=true↔∀c ∈ l,cN c=true
 | []=>by simp[bJ]
 | x::r=>by simp[bJ,xZ (l:=r)]
theorem dropWhile_nil {p:UInt8→Bool}:∀{l:List UInt8},l.dropWhile p=[]↔∀c ∈ l,p c=true
 | []=>by simp
 | x::r=>by
   rw[List.dropWhile_cons];split
   ·rename_i h;rw[dropWhile_nil];simp[h]
   ·rename_i h;simp[h]
theorem BD (s:List UInt8):(AO s=[])↔bJ s=true:=by
 unfold AO;have e:(fun c=>digits.contains c)=cN:=funext NS;simp only[e];rw[xZ,dropWhile_nil];constructor
 ·intro h c hc;have hs:s.reverse=s.reverse.takeWhile cN++s.reverse.dropWhile cN:=(List.takeWhile_append_dropWhile).symm;have hc':c ∈ s.reverse:=by simpa using hc
  rw[hs,List.mem_append] at hc';rcases hc' with h1 | h1
  ·have key:∀(l:List UInt8),c ∈ l.takeWhile cN→cN c=true:=by
    intro l
    induction l with
    | nil=>simp
    | cons x r ih=>
      rw[List.takeWhile_cons];split
      ·rename_i hx;intro hm;rcases List.mem_cons.1 hm with rfl | hm
       ·exact hx
       ·exact ih hm
      ·simp
   exact key _ h1
  ·exact h c (by simpa using h1)
 ·intro h c hc
  have:c ∈ s:=by
   have h1:c ∈ s.reverse.dropWhile cN:=by simpa using hc
   have:=(List.dropWhile_sublist cN (l:=s.reverse)).subset h1;simpa using this
  exact h c this
theorem xb:∀(l:List UInt8) (acc:Nat),acc≤iO acc l
 | [],acc=>by rw[jf];exact Nat.le_refl acc
 | c::r,acc=>by have:=xb r (acc*10+(c.toNat - 48));rw[fW];omega
theorem lz (M:Nat) (hM:M≤18446744073709551615):∀(l:List UInt8) (acc:Nat),bJ l=true→iO acc l≤M→Lib.parseUintM M acc l=.ok (iO acc l)
 | [],acc,_,_=>by rw[jf,Lib.parseUintM]
 | c::r,acc,h,hv=>by
   simp only[bJ,cN,Bool.and_eq_true,decide_eq_true_eq] at h;have h2:=xb r (acc*10+(c.toNat - 48));rw[fW] at hv ⊢;unfold Lib.parseUintM;rw[if_pos h.1,if_neg (by omega),if_neg (by omega),lz M hM r _ h.2 hv]
def fX (s:List UInt8):Int×Int:=
 let d:=Lib.trimPrefix s [45]
 if d=[] then (0,2) else if bJ d=false then (0,2) else match Lib.parseIntB 64 s with | .ok v=>(v,0) | _=>(0,3)
theorem yT (r:List UInt8):Lib.trimPrefix (45::r) [45]=r:=by
 simp[Lib.trimPrefix,Lib.hasPrefix]
theorem zq (c:UInt8) (r:List UInt8) (h:c≠45):Lib.trimPrefix (c::r) [45]=c::r:=by
 have:Lib.hasPrefix (c::r) [45]=false:=by simp[Lib.hasPrefix,List.isPrefixOf,Ne.symm h]
 simp[Lib.trimPrefix,this]
theorem MH:Lib.trimPrefix [] [45]=[]:=by decide
theorem V3 {c:UInt8} (h:c≠45):c.toNat≠45:=fun h2=>h (UInt8.toNat_inj.1 h2)
theorem Ks (r:List UInt8) (hr:r≠[]) (hd:bJ r=true) (hv:iO 0 r≤9223372036854775808):Lib.parseIntB 64 (45::r)=.ok (-(iO 0 r:Int)):=by
 have e:=lz 18446744073709551615 (Nat.le_refl _) r 0 hd (by omega);unfold Lib.parseIntB Lib.parseUintB;simp only[show (45:UInt8).toNat=45 from rfl,or_true,if_true,hr,if_false];rw[show (2 ^ 64 - 1:Nat)=18446744073709551615 by decide,e];simp only[not_true,false_and,if_false,true_and];rw[if_neg (by omega)]
theorem JI (s:List UInt8) (hr:s≠[]) (hd:bJ s=true) (hv:iO 0 s≤9223372036854775807):Lib.parseIntB 64 s=.ok (iO 0 s:Int):=by
 cases s with
 | nil=>exact absurd rfl hr
 | cons c r=>
   have e:=lz 18446744073709551615 (Nat.le_refl _) (c::r) 0 hd (by omega)
   have hc:48≤c.toNat∧c.toNat≤57:=by
    simp only[bJ,cN,Bool.and_eq_true,decide_eq_true_eq] at hd;exact hd.1
   unfold Lib.parseIntB Lib.parseUintB;simp only[show (c.toNat=43)=False from eq_false (by omega),show (c.toNat=45)=False from eq_false (by omega),or_false,if_false,hr];rw[show (2 ^ 64 - 1:Nat)=18446744073709551615 by decide,e];simp only[not_false_iff,true_and,false_and,if_false];rw[if_neg (by omega)]
theorem Ix:∀(n u:Nat),u≤n→bJ (Lib.decDigits u)=true∧Lib.decDigits u≠[]∧iO 0 (Lib.decDigits u)=u:=by
 have hap:∀(a b:List UInt8) (k:Nat),iO k (a++b)=iO (iO k a) b:=by
  intro a
  induction a with
  | nil=>intro b k;rw[jf];rfl
  | cons x r ih=>intro b k;rw[List.cons_append,fW,fW];exact ih b _
 have hdg:∀d,d < 10→cN (UInt8.ofNat (48+d))=true∧(UInt8.ofNat (48+d)).toNat=48+d:=by
  intro d hd;have e:(UInt8.ofNat (48+d)).toNat=48+d:=by rw[UInt8.toNat_ofNat'];omega
  refine⟨?_,e⟩;simp only[cN,e,Bool.and_eq_true,decide_eq_true_eq];omega
 intro n
 induction n with
 | zero=>
   intro u hu;have:u=0:=by omega
   subst this;rw[Lib.decDigits];simp[bJ,fW,jf];decide
 | succ n ih=>
   intro u hu;rw[Lib.decDigits];by_cases h:u < 10
   ·rw[dif_pos h];have:=hdg u h;refine⟨by simp only[bJ,Bool.and_true];exact this.1,by simp,?_⟩;rw[fW,jf,this.2];omega
   ·rw[dif_neg h];obtain⟨h1,h2,h3⟩:=ih (u / 10) (by omega);have:=hdg (u % 10) (by omega);refine⟨by rw[yG,h1];simp only[bJ,Bool.and_true,Bool.true_and];exact this.1,by simp,?_⟩;rw[hap,h3];rw[fW,jf,this.2];omega
theorem Qk (n:Int) (h1:-9223372036854775808≤n) (h2:n < 9223372036854775808):gu (Lib.itoa n)=true∧(Lib.itoa n).length≤20:=by
 have dl:∀(k u:Nat),u < 10 ^ (k+1)→(Lib.decDigits u).length≤k+1:=by
  intro k
  induction k with
  | zero=>intro u hu;rw[Lib.decDigits,dif_pos (by simpa using hu)];simp
  | succ k ih=>
    intro u hu;rw[Lib.decDigits];by_cases h:u < 10
    ·rw[dif_pos h];simp
    ·rw[dif_neg h];have:=ih (u / 10) (by rw[Nat.pow_succ] at hu;omega);simp;omega
 have ok:∀l:List UInt8,bJ l=true→gu l=true:=by
  intro l
  induction l with
  | nil=>intro _;rfl
  | cons c r ih=>
    intro h;simp only[bJ,cN,Bool.and_eq_true,decide_eq_true_eq] at h;simp only[gu,Bool.and_eq_true];refine⟨?_,ih h.2⟩;have h1:¬ (c.toNat < 32):=by omega
    have h2:¬ (126 < c.toNat):=by omega
    simp[IY,h1,h2]
 unfold Lib.itoa;by_cases hn:n < 0
 ·rw[if_pos hn];obtain⟨d1,_,_⟩:=Ix n.natAbs n.natAbs (Nat.le_refl _);have:=dl 18 n.natAbs (by omega);refine⟨?_,by simp;omega⟩;simp only[gu,ok _ d1,Bool.and_true];decide
 ·rw[if_neg hn];obtain⟨d1,_,_⟩:=Ix n.toNat n.toNat (Nat.le_refl _);have:=dl 18 n.toNat (by omega);exact⟨ok _ d1,by omega⟩
def LH:List Tm→AV
 | []=>.ax
 | x::r=>.sl ((x::r).map Tm.enc)
theorem jv (us:List Tm) (x:Tm):aq (us++[x])=aq us++x.cells:=by simp[aq]
theorem Ff (C:Nat→List AV→aa→Option (AV×aa)) (n:Nat):∀(k:Nat) (t:Tm) (acc:List Tm) (m:Nat),t.size≤k→acc≠[]→acc.length+t.size≤1000000000→k < m→
 ∃md,er 2 0 (aT (ak C n gx) fv 2 m (MQ (.ptr 0 0) (.vec 2 0 acc.length 4 acc.length) (.ptr 1 0)) ⟨3,[.row (aq acc),.row zT,.row t.cells],2,0⟩)=
   some (.exit 0,FM 35 [(1,.ptr 0 0),(2,.vec 2 0 (acc++(aE t).1).length 4 (acc++(aE t).1).length),(3,.ptr 1 0)],⟨3,[.row (aq (acc++(aE t).1)),.row zT,.row (aE t).2.cells],0,md⟩)
 | 0,t,acc,m,h,_,_,_=>by have:=aM t;omega
 | k+1,t,acc,m+1,h,hne,hs,hm=>by
   have hf:=aK acc;rw[ae]
   cases hd:dx t with
   | false=>
     rw[fT hd]
     cases t with
     | nl kk nn ss=>
       have hc:(Tm.nl kk nn ss).cells=[.int .i64 kk,.int .i64 nn,.str ss,.ax]:=rfl;by_cases h1:kk=2
       ·subst h1
        cases h2:(ss==[46]) with
        | false=>exact⟨0,by simp[gx,fv,hc,h2,hf]⟩
        | true=>exact⟨0,by simp[gx,fv,hc,h2,hf]⟩
       ·exact⟨0,by simp[gx,fv,hc,h1,hf]⟩
     | mk kk nn ss us=>
       have hc:(Tm.mk kk nn ss us).cells=[.int .i64 kk,.int .i64 nn,.str ss,.sl (us.map Tm.enc)]:=rfl;have hr:=aB us;by_cases h1:kk=2
       ·subst h1
        cases h2:(ss==[46]) with
        | false=>exact⟨0,by simp[gx,fv,hc,h2,hf,hr]⟩
        | true=>
          have h3:((us.length:Int)=2)=False:=eq_false fun e=>by
           have h2':=eq_of_beq h2;simp[dx,Tm.kind,Tm.name,Tm.args,h2'] at hd;exact of_decide_eq_false hd (by omega)
          exact⟨0,by simp[gx,fv,hc,h2,h3,hf,hr]⟩
       ·exact⟨0,by simp[gx,fv,hc,h1,hf,hr]⟩
   | true=>
     obtain⟨x,r,ha,e⟩:=eb hd;have hsz:=aM t;rw[ha] at hsz;simp only[Tm.aI] at hsz
     cases t with
     | nl kk nn ss=>cases ha
     | mk kk nn ss us=>
       simp only[Tm.args] at ha;subst ha;simp only[dx,Bool.and_eq_true] at hd;obtain⟨⟨hd1,hd2⟩,_⟩:=hd;obtain rfl:kk=2:=of_decide_eq_true hd1;obtain rfl:ss=[46]:=of_decide_eq_true hd2;obtain⟨md,ih⟩:=Ff C n k r (acc++[x]) m (by omega) (by simp) (by simp;omega) (by omega);refine⟨md,?_⟩;rw[e];have hc:(Tm.mk 2 nn [46] [x,r]).cells=[.int .i64 2,.int .i64 nn,.str [46],.sl [x.enc,r.enc]]:=rfl;have hxe:=Tm.ay x;have hxc:=Tm.an x;have hxr:=ah x;have hre:=Tm.ay r;have hrc:=Tm.an r;have hrr:=ah r;have hf2:AV.af (aq acc++x.cells)=0:=by rw[←jv];exact aK _
       rw[hxc] at hf2;have h8:(acc.length+1)*56≤140737488355328:=by omega
       have h9:acc.length+1 < 9223372036854775808:=by omega
       have h10:(aq acc).take (acc.length*4)=aq acc:=by rw[List.take_of_length_le];rw[cg];exact Nat.le_refl _
       have h11:=cg acc;simp only[jv,List.length_append,List.length_cons,List.length_nil,Nat.zero_add,hrc,hxc] at ih;simp[gx,fv,hc,hxe,hxc,hxr,hre,hrc,hrr,hf,hf2,h8,h9,h10,h11,au];refine Eq.trans ih ?_;simp[aq,hxc,Nat.add_comm,Nat.add_left_comm,Nat.add_assoc]
def vT (id:Nat):List Tm→AV
 | []=>.ax
 | x::r=>.vec id 0 (r.length+1) 4 (r.length+1)
def hT (us:List Tm) (B:List aC):List aC:=match us with
 | []=>B
 | x::r=>.row (aq (x::r))::B
theorem Na {h:aa} {n0 d id:Nat} (x:Tm) (r:List Tm) (hid:n0≤id) (hg:h.get id=some (.row (aq (x::r)))):
 gr h n0 (d+2) (.vec id 0 (r.length+1) 4 (r.length+1))=some (.sl ((x::r).map Tm.enc),[id]):=
 p8 hid hg (by omega) (mR (x::r)) (by simp) (by rw[cg];simp) (by rw[ph,List.take_of_length_le];rw[cg];simp)
theorem JU (C:Nat→List AV→aa→Option (AV×aa)) (n:Nat) (t:Tm) (m:Nat) (hs:t.size≤999999999) (hm:t.size < m):
 ∃md,er 2 0 (aT (ak C n gx) fv 2 m (MQ (.ptr 0 0) .ax (.ptr 1 0)) ⟨2,[.row zT,.row t.cells],2,0⟩)=
   some (.exit 0,FM 35 [(1,.ptr 0 0),(2,vT 2 (aE t).1),(3,.ptr 1 0)],⟨(hT (aE t).1 [.row zT,.row (aE t).2.cells]).length,hT (aE t).1 [.row zT,.row (aE t).2.cells],0,md⟩):=by
 cases m with
 | zero=>omega
 | succ m=>
   rw[ae]
   cases hd:dx t with
   | false=>
     rw[fT hd]
     cases t with
     | nl kk nn ss=>
       have hc:(Tm.nl kk nn ss).cells=[.int .i64 kk,.int .i64 nn,.str ss,.ax]:=rfl;by_cases h1:kk=2
       ·subst h1
        cases h2:(ss==[46]) with
        | false=>exact⟨0,by simp[gx,fv,hc,h2,vT,hT]⟩
        | true=>exact⟨0,by simp[gx,fv,hc,h2,vT,hT]⟩
       ·exact⟨0,by simp[gx,fv,hc,h1,vT,hT]⟩
     | mk kk nn ss us=>
       have hc:(Tm.mk kk nn ss us).cells=[.int .i64 kk,.int .i64 nn,.str ss,.sl (us.map Tm.enc)]:=rfl;have hr:=aB us;by_cases h1:kk=2
       ·subst h1
        cases h2:(ss==[46]) with
        | false=>exact⟨0,by simp[gx,fv,hc,h2,hr,vT,hT]⟩
        | true=>
          have h3:((us.length:Int)=2)=False:=eq_false fun e=>by
           have h2':=eq_of_beq h2;simp[dx,Tm.kind,Tm.name,Tm.args,h2'] at hd;exact of_decide_eq_false hd (by omega)
          exact⟨0,by simp[gx,fv,hc,h2,h3,hr,vT,hT]⟩
       ·exact⟨0,by simp[gx,fv,hc,h1,hr,vT,hT]⟩
   | true=>
     obtain⟨x,r,ha,e⟩:=eb hd;have hsz:=aM t;rw[ha] at hsz;simp only[Tm.aI] at hsz
     cases t with
     | nl kk nn ss=>cases ha
     | mk kk nn ss us=>
       simp only[Tm.args] at ha;subst ha;simp only[dx,Bool.and_eq_true] at hd;obtain⟨⟨hd1,hd2⟩,_⟩:=hd;obtain rfl:kk=2:=of_decide_eq_true hd1;obtain rfl:ss=[46]:=of_decide_eq_true hd2;obtain⟨md,ih⟩:=Ff C n r.size r [x] m (Nat.le_refl _) (by simp) (by simp;omega) (by omega);refine⟨md,?_⟩;rw[e];have hc:(Tm.mk 2 nn [46] [x,r]).cells=[.int .i64 2,.int .i64 nn,.str [46],.sl [x.enc,r.enc]]:=rfl;have hxe:=Tm.ay x;have hxc:=Tm.an x;have hxr:=ah x;have hre:=Tm.ay r;have hrc:=Tm.an r;have hrr:=ah r;simp only[aq,List.flatMap_cons,List.flatMap_nil,List.append_nil,List.length_append,List.length_cons,List.length_nil,Nat.zero_add,hrc,hxc] at ih;simp[gx,fv,hc,hxe,hxc,hxr,hre,hrc,hrr,au];refine Eq.trans ih ?_;simp[vT,hT,aq,hxc,Nat.add_comm,Nat.add_left_comm,Nat.add_assoc]
def ri (t:Tm):List Tm×Tm:=if dp t then aE t else ([],t)
def vi:ai:=⟨34,fun | [v]=>(match dB v with | some t=>if t.eU < 1000000000 then some (.tuple [LH (ri t).1,(ri t).2.enc]) else none | none=>none) | _=>none⟩
theorem ug:vi.f=34:=(rfl)
theorem Kj (t:Tm) (h:t.eU < 1000000000):vi.S [t.enc]=some (.tuple [LH (ri t).1,(ri t).2.enc]):=by
 simp only[vi,aX,if_pos h]
theorem Ei (us:List Tm):(LH us).refs=0:=by cases us<;>simp[LH,AV.refs]
theorem Kx:az Tryz.prog vi:=fun args v hv=>by
 unfold vi at hv ⊢;dsimp only at hv ⊢;split at hv
 ·rename_i x;split at hv
  ·rename_i t ht;split at hv
   ·rename_i hl;cases hv;rw[bc ht];refine aH (n:=t.size+5) (h':=h0) (aG (ss:=[dD]) (by simp[vx])) ?_ (by simp[AV.refs,AV.af,Ei,Tm.ba]) (by simp[AV.af,Tm.ba]);have hsb:=iD t;have c1:=vz t (by omega);have hxe:=Tm.ay t;have hcl:=Tm.an t;have hxr:=ah t;obtain⟨md,eq⟩:=JU (aw (a8 [dD]) (t.size+4)) (t.size+4) t (t.size+4) (by omega) (by omega);unfold ri
    cases hg:dp t with
    | false=>
      rw[hg] at c1;rw[hxe,hcl] at c1 ⊢;simp[Oq,Uu,c1,hxr,ag,aS,LH];rw[hxe,hcl]
    | true=>
      rw[hg] at c1;generalize aE t=p at eq;obtain⟨us,tl⟩:=p;dsimp only at eq ⊢;simp only[if_true];rw[hxe,hcl] at c1 ⊢;rw[hcl] at eq;simp only[fv,zT] at eq;have htl:=Tm.ay tl;have htc:=Tm.an tl;have htr:=ah tl;rw[htl,htc];rw[htc] at eq
      cases us with
      | nil=>
        simp only[vT,hT,zT,List.length_cons,List.length_nil] at eq;simp[Oq,Uu,fv,c1,hxr,htr,ag,aS,LH,eq]
      | cons y r=>
        simp only[vT,hT,zT,List.length_cons,List.length_nil] at eq;have hf2:=aK (y::r);have hf:∀(A B:aC) (wl md d:Nat),gr ⟨3,[.row (aq (y::r)),A,B],wl,md⟩ 0 (d+2) (.vec 2 0 (r.length+1) 4 (r.length+1))=some (.sl ((y::r).map Tm.enc),[2]):=fun A B wl md d=>Na y r (by omega) rfl
        simp only[List.map_cons] at hf;simp[Oq,Uu,fv,c1,hxr,htr,hf2,ag,aS,LH,eq,hf]
   ·cases hv
  ·cases hv
 ·cases hv
def p9:ai:=⟨79,fun | [.str s]=>if s.length < 281474976710656 then some (.tuple [.int .i64 (fX s).1,.int .i64 (fX s).2]) else none | _=>none⟩
theorem ey:p9.f=79:=(rfl)
theorem Hh (s:List UInt8) (h:s.length < 281474976710656):p9.S [.str s]=some (.tuple [.int .i64 (fX s).1,.int .i64 (fX s).2]):=if_pos h
theorem FF (s:List UInt8) (hd:Lib.trimPrefix s [45]≠[]) (ha:bJ (Lib.trimPrefix s [45])=true):(∃v,Lib.parseIntB 64 s=.ok v)∨Lib.parseIntB 64 s=.range:=by
 have pu:∀(M:Nat) (l:List UInt8) (acc:Nat),bJ l=true→(∃u,Lib.parseUintM M acc l=.ok u)∨Lib.parseUintM M acc l=.range:=by
  intro M l
  induction l with
  | nil=>intro acc _;exact .inl ⟨acc,rfl⟩
  | cons c r ih=>
    intro acc h;simp only[bJ,cN,Bool.and_eq_true,decide_eq_true_eq] at h;unfold Lib.parseUintM;rw[if_pos h.1];split
    ·exact .inr rfl
    ·split
     ·exact .inr rfl
     ·exact ih _ h.2
 cases s with
 | nil=>exact absurd MH hd
 | cons c r=>
   by_cases hc:c=45
   ·subst hc;rw[yT] at hd ha;unfold Lib.parseIntB Lib.parseUintB;simp only[show (45:UInt8).toNat=45 from rfl,or_true,if_true,hd,if_false];rcases pu (2 ^ 64 - 1) r 0 ha with⟨u,e⟩ | e
    ·rw[e];simp only[not_true,false_and,if_false,true_and];split
     ·exact .inr rfl
     ·exact .inl ⟨_,rfl⟩
    ·rw[e];exact .inr rfl
   ·rw[zq c r hc] at ha;have h:=V3 hc
    have hg:48≤c.toNat∧c.toNat≤57:=by
     simp only[bJ,cN,Bool.and_eq_true,decide_eq_true_eq] at ha;exact ha.1
    unfold Lib.parseIntB Lib.parseUintB;simp only[show (c.toNat=43)=False from eq_false (by omega),show (c.toNat=45)=False from eq_false h,or_false,if_false,reduceCtorEq];rcases pu (2 ^ 64 - 1) (c::r) 0 ha with⟨u,e⟩ | e
    ·rw[e];simp only[not_false_iff,true_and,false_and,if_false];split
     ·exact .inr rfl
     ·exact .inl ⟨_,rfl⟩
    ·rw[e];exact .inr rfl
theorem F9:ck Tryz.prog dm p9:=fun args v hv=>by
 unfold p9 at hv ⊢;dsimp only at hv ⊢;split at hv
 ·rename_i s;split at hv
  ·rename_i hl;cases hv;refine aH (n:=5) (h':=h0) (gQ (ss:=[kh,trimS,yB]) (by simp[xI.lift,Nk.lift,Kz])) ?_ (by simp[AV.refs,AV.af]) (by simp[AV.refs,AV.af]);have c1:=zI s [45];have hdl:(Lib.trimPrefix s [45]).length≤s.length:=by unfold Lib.trimPrefix;split<;>simp
   have c2:=Ny (Lib.trimPrefix s [45]) (by omega);unfold digits at c2;have c3:=Ln s hl;unfold fX;dsimp only;have hb:∀l:List UInt8,(l==[])=decide (l=[]):=fun l=>by cases l<;>rfl
   by_cases hd:Lib.trimPrefix s [45]=[]
   ·rw[if_pos hd];rw[hd] at c1;simp[ID,Tl,c1,jR,w9,um]
   ·rw[if_neg hd];have e1:(Lib.trimPrefix s [45]==[])=false:=by rw[hb];simpa using hd
    cases ha:bJ (Lib.trimPrefix s [45]) with
    | false=>
      have e2:(AO (Lib.trimPrefix s [45])==[])=false:=by
       rw[hb];simp only[decide_eq_false_iff_not];intro h;rw[BD,ha] at h;cases h
      simp[ID,Tl,c1,c2,e1,e2,jR,w9,um]
    | true=>
      have e2:AO (Lib.trimPrefix s [45])=[]:=(BD _).2 ha;rw[e2] at c2;unfold C4 at c3;rcases FF s hd ha with⟨u,e⟩ | e
      ·rw[e] at c3 ⊢;dsimp only at c3;simp[ID,Tl,c1,c2,c3,e1,jR,w9,um]
      ·rw[e] at c3 ⊢;dsimp only at c3;simp[ID,Tl,c1,c2,c3,e1,jR,w9,um]
  ·cases hv
 ·cases hv
def wo:ai:=⟨135,fun | [.int .i64 n]=>if -9223372036854775808≤n∧n < 9223372036854775808 then some (.str (fj n)) else none | _=>none⟩
theorem fp:wo.f=135:=(rfl)
theorem FU (n:Int) (h:-9223372036854775808≤n∧n < 9223372036854775808):wo.S [.int .i64 n]=some (.str (fj n)):=if_pos h
theorem Mx:ck Tryz.prog dm wo:=fun args v hv=>by
 unfold wo at hv ⊢;dsimp only at hv ⊢;split at hv
 ·rename_i n;split at hv
  ·rename_i hl;cases hv;refine aH (n:=5) (h':=h0) (gQ (ss:=[tX]) (by simp[H8])) ?_ (by simp[AV.refs]) (by simp[AV.af,AV.refs]);have c1:=HN n hl;simp[Ue,Qv,c1,JR]
  ·cases hv
 ·cases hv
theorem uD (t:Tm) (fr:List AV) (h:aa) (o:bW) (ho:o.ev fr=t.aJ):aW fr h (.ud o)=some (.int .i64 t.args.length,h):=by
 rw[jy,ho]
 cases t with
 | nl k n s=>rfl
 | mk k n s us=>simp[Tm.aJ,Tm.args]
def ze:ai:=⟨131,fun | [.str s]=>some (Tm.nl 2 0 s).enc | _=>none⟩
theorem tJ:ze.f=131:=(rfl)
theorem Kh (s:List UInt8):ze.S [.str s]=some (.agg [.int .i64 2,.int .i64 0,.str s,.ax]):=rfl
theorem K3:az Tryz.prog ze:=fun args v hv=>by
 unfold ze at hv ⊢;dsimp only at hv ⊢;split at hv
 ·cases hv;refine aH (n:=3) (h':=h0) (aG (ss:=[]) (by simp)) ?_ rfl rfl;simp[Sq,c131,Tm.enc]
 ·cases hv
def gi (N:Nat):ai:=⟨37,fun | [a,b]=>(match dB a,dB b with | some x,some y=>if x.size < N∧y.size < 1000000000 then some (.bool (sB x y)) else none | _,_=>none) | _=>none⟩
theorem ec (N:Nat):(gi N).f=37:=(rfl)
theorem rn (N:Nat) (x y:Tm) (h:x.size < N∧y.size < 1000000000):(gi N).S [x.enc,y.enc]=some (.bool (sB x y)):=by
 simp only[gi,aX,if_pos h]
theorem GA (N:Nat) (x y:Tm) (h:N≤x.size):(gi N).S [x.enc,y.enc]=none:=by
 simp only[gi,aX];rw[if_neg (by omega)]
theorem E6 (n N:Nat) (us ws:List Tm) (hl:us.length=ws.length) (hN:N≤1000000000) (h1:Tm.aI us < N) (h2:Tm.aI ws < 1000000000) (K M K' M':Int) (s s':List UInt8):∀(post postw pre prew:List Tm) (k:Nat),us=pre++post→ws=prew++postw→pre.length=prew.length→post.length < k→
 ∃md,er 2 0 (aT (ak (aw (a8 [gi N]) (n+1)) (n+1) uO) r7 2 k (Ts (.ptr 0 0) (.ptr 1 0) (.int .i64 pre.length)) ⟨2,[.row [.int .i64 K',.int .i64 M',.str s',.sl (ws.map Tm.enc)],.row [.int .i64 K,.int .i64 M,.str s,.sl (us.map Tm.enc)]],2,0⟩)=
   some (if kB post postw then .exit 0 else .ret,if kB post postw then FM 53 [] else FM 53 [(4,.bool false)],⟨2,[.row [.int .i64 K',.int .i64 M',.str s',.sl (ws.map Tm.enc)],.row [.int .i64 K,.int .i64 M,.str s,.sl (us.map Tm.enc)]],0,md⟩)
 | [],[],pre,prew,k+1,e,e2,hp,_=>by
   simp at e;subst e;have h5:AV.af (us.map Tm.enc)=0:=aB _;have h6:AV.af (ws.map Tm.enc)=0:=aB _;exact⟨0,by simp[ae,uO,h5,h6,pC]⟩
 | [],y::postw,pre,prew,k,e,e2,hp,_=>by
   rw[e,e2] at hl;simp at hl;omega
 | x::post,[],pre,prew,k+1,e,e2,hp,_=>by
   rw[e,e2] at hl;simp at hl;omega
 | x::post,y::postw,pre,prew,k+1,e,e2,hp,hk=>by
   obtain⟨md,ih⟩:=E6 n N us ws hl hN h1 h2 K M K' M' s s' post postw (pre++[x]) (prew++[y]) k (by simp[e]) (by simp[e2]) (by simp[hp]) (by rw[List.length_cons] at hk;omega);have hlu:=ct us;have g1:us[pre.length]? =some x:=by rw[e];simp
   have g2:ws[pre.length]? =some y:=by rw[e2,hp];simp
   have h5:AV.af (us.map Tm.enc)=0:=aB _;have h5w:AV.af (ws.map Tm.enc)=0:=aB _;have hpl:pre.length < us.length:=by rw[e];simp
   have h6:((pre.length:Int) < (us.length:Int))=True:=eq_true (by omega);have h3:IntKind.i64.wrap ((pre.length:Int)+1)=(pre.length:Int)+1:=wrap_i64 (by omega) (by omega);have hxe:=Tm.ay x;have hxc:=Tm.an x;have hxr:=ah x;have hye:=Tm.ay y;have hyc:=Tm.an y;have hyr:=ah y;have hs:=rn N x y ⟨by have:=jE (us:=us) (y:=x) (by rw[e];simp);omega,by have:=jE (us:=ws) (y:=y) (by rw[e2];simp);omega⟩;rw[hxe,hxc,hye,hyc] at hs;simp only[List.length_append,List.length_cons,List.length_nil,Nat.zero_add] at ih;rw[show ((pre.length+1:Nat):Int)=(pre.length:Int)+1 by omega] at ih;rw[ae,yU]
   cases hsm:sB x y with
   | false=>
     rw[hsm] at hs;exact⟨0,by simp[uO,g1,g2,h5,h5w,h6,hxe,hxc,hxr,hye,hyc,hyr,hs,ag,ec]⟩
   | true=>
     rw[hsm] at hs;refine⟨md,?_⟩;simp[uO,r7,g1,g2,h3,h5,h5w,h6,hxe,hxc,hxr,hye,hyc,hyr,hs,ag,ec];exact ih
theorem CG (N:Nat) (hN:N≤1000000000) (hp:az Tryz.prog (gi N)):az Tryz.prog (gi (N+1)):=fun args v hv=>by
 unfold gi at hv;dsimp only at hv;split at hv
 ·rename_i a b;split at hv
  ·rename_i x y ha hb;split at hv
   ·rename_i hc;rcases Nat.lt_or_ge x.size N with hlt | hge
    ·refine hp _ _ ?_;rw[bc ha,bc hb,rn N x y ⟨hlt,hc.2⟩];exact hv
    cases hv;rw[ec,bc ha,bc hb];have hno:=GA N x y hge;have s1:=aM x;have s2:=aM y;refine aH (n:=x.size+5) (h':=h0) (aG (ss:=[gi N]) (by simp[hp])) ?_ rfl (by simp[AV.af,Tm.ba]);have hxe:=Tm.ay x;have hxc:=Tm.an x;have hxr:=ah x;have hye:=Tm.ay y;have hyc:=Tm.an y;have hyr:=ah y;have hlx:=uD x;have hly:=uD y;rw[D4];rw[hxe,hxc,hye,hyc] at hno ⊢;by_cases c1:x.kind=y.kind
    ·rw[c1] at hno ⊢;by_cases c2:x.num=y.num
     ·rw[c2] at hno ⊢
      cases c3:x.name==y.name with
      | true=>
        by_cases c4:x.args.length=y.args.length
        ·have hls:=ct x.args;by_cases hne:x.args=[]
         ·have hw:y.args=[]:=List.eq_nil_of_length_eq_zero (by rw[hne] at c4;simpa using c4.symm);rw[hne,hw]
          have a1:x.aJ=.ax∨x.aJ=.sl []:=by
           cases x with
           | nl k n s=>exact .inl rfl
           | mk k n s us=>simp only[Tm.args] at hne;subst hne;exact .inr rfl
          have a2:y.aJ=.ax∨y.aJ=.sl []:=by
           cases y with
           | nl k n s=>exact .inl rfl
           | mk k n s us=>simp only[Tm.args] at hw;subst hw;exact .inr rfl
          rcases a1 with a1 | a1<;>rcases a2 with a2 | a2<;>rw[a1,a2] at hno ⊢<;>simp[yj,c37,r7,uO,ae,c1,c2,c3,hno,ec,pC,ag]
         ·have a1:x.aJ=.sl (x.args.map Tm.enc):=by
           cases x with
           | nl k n s=>exact absurd rfl hne
           | mk k n s us=>rfl
          have a2:y.aJ=.sl (y.args.map Tm.enc):=by
           cases y with
           | nl k n s=>exact absurd (List.eq_nil_of_length_eq_zero (by simpa[Tm.args] using c4)) hne
           | mk k n s us=>rfl
          have h5:=aB x.args;have h6:=aB y.args;have c4':((x.args.length:Int)=(y.args.length:Int))=True:=eq_true (by omega);obtain⟨md,lp⟩:=E6 (x.size+3) N x.args y.args c4 hN (by omega) (by omega) y.kind y.num y.kind y.num x.name y.name x.args y.args [] [] (x.size+4) rfl rfl rfl (by omega);simp only[List.length_nil,r7,show ((0:Nat):Int)=0 from rfl] at lp;rw[a1,a2] at hno ⊢
          cases hsm:kB x.args y.args with
          | true=>
            rw[hsm] at lp;simp only[if_true] at lp;simp[yj,c37,r7,c1,c2,c3,c4',h5,h6,hno,lp,ec]
          | false=>
            rw[hsm] at lp;simp only[Bool.false_eq_true,if_false] at lp;simp[yj,c37,r7,c1,c2,c3,c4',h5,h6,hno,lp,ec]
        ·have c4':((x.args.length:Int)=(y.args.length:Int))=False:=eq_false (by omega);simp[yj,c37,c1,c2,c3,c4',hxr,hyr,hlx,hly,hno,ec,ag,BO _ _ c4]
      | false=>simp[yj,c37,c1,c2,c3,hxr,hyr,hno,ec,ag]
     ·simp[yj,c37,c1,c2,hxr,hyr,hno,ec,ag]
    ·simp[yj,c37,c1,hxr,hyr,hno,ec,ag]
   ·cases hv
  ·cases hv
 ·cases hv
theorem CT:az Tryz.prog (gi 0):=fun args v hv=>by
 unfold gi at hv;dsimp only at hv;split at hv
 ·split at hv
  ·split at hv
   ·rename_i hc;omega
   ·cases hv
  ·cases hv
 ·cases hv
theorem wM:∀N,N≤1000000001→az Tryz.prog (gi N)
 | 0,_=>CT
 | N+1,h=>CG N (by omega) (wM N (by omega))
mutual
def fS:Tm→Int→Int
 | .nl ..,_=>1
 | .mk _ _ _ us,m=>fq us m 1
def fq:List Tm→Int→Int→Int
 | [],_,n=>n
 | x::r,m,n=>if n≤m then fq r m (n+fS x (m - n)) else n
end
theorem Gs (t:Tm) (m:Int):fS t m=fq t.args m 1:=by cases t<;>simp[fS,fq,Tm.args]
mutual
theorem vw:∀(t:Tm) (m:Int),1≤fS t m∧fS t m≤t.size
 | .nl ..,m=>by simp[fS,Tm.size]
 | .mk _ _ _ us,m=>by
   have:=rO us m 1;simp only[fS,Tm.size];omega
theorem rO:∀(us:List Tm) (m n:Int),n≤fq us m n∧fq us m n≤n+Tm.aI us
 | [],m,n=>by simp[fq,Tm.aI]
 | x::r,m,n=>by
   have h1:=vw x (m - n);have h2:=rO r m (n+fS x (m - n));simp only[fq,Tm.aI];split<;>omega
end
mutual
theorem BP:∀(t:Tm) (m:Int),0≤m→(((t.size:Int)≤m→fS t m=t.size)∧(m < t.size→m < fS t m))
 | .nl ..,m,h=>by simp[fS,Tm.size]
 | .mk _ _ _ us,m,h=>by
   have:=xA us m 1 h (by omega);simp only[fS,Tm.size];constructor
   ·intro h1;have:=this.1 (by omega);omega
   ·intro h1;exact this.2 (by omega)
theorem xA:∀(us:List Tm) (m n:Int),0≤m→1≤n→((n+Tm.aI us≤m→fq us m n=n+Tm.aI us)∧(m < n+Tm.aI us→m < fq us m n))
 | [],m,n,_,_=>by simp[fq,Tm.aI]
 | x::r,m,n,h,hn=>by
   simp only[fq,Tm.aI];have b1:=vw x (m - n);split
   ·have h1:=BP x (m - n) (by omega);have h2:=xA r m (n+fS x (m - n)) h (by omega);have h3:=rO r m (n+fS x (m - n));constructor
    ·intro g;have e:=h1.1 (by omega);have:=h2.1 (by omega);omega
    ·intro g;by_cases c:(x.size:Int)≤m - n
     ·have e:=h1.1 c;exact h2.2 (by omega)
     ·have e:=h1.2 (by omega);omega
   ·constructor<;>intro g<;>omega
end
def gk (N:Nat):ai:=⟨90,fun | [v,.int .i64 m]=>(match dB v with | some t=>if t.size < N∧0≤m∧m≤2000 then some (.int .i64 (fS t m)) else none | none=>none) | _=>none⟩
theorem jJ (N:Nat):(gk N).f=90:=(rfl)
theorem rJ (N:Nat) (x:Tm) (m:Int) (h:x.size < N∧0≤m∧m≤2000):(gk N).S [x.enc,.int .i64 m]=some (.int .i64 (fS x m)):=by
 simp only[gk,aX,if_pos h]
theorem H0 (N:Nat) (x:Tm) (m:Int) (h:N≤x.size):(gk N).S [x.enc,.int .i64 m]=none:=by
 simp only[gk,aX];rw[if_neg (by omega)]
theorem Ef (n N:Nat) (us:List Tm) (hN:N≤1000000000) (h1:Tm.aI us < N) (m:Int) (hm:0≤m∧m≤2000) (K M:Int) (s:List UInt8):∀(post pre:List Tm) (k:Nat) (q:Int),us=pre++post→post.length < k→1≤q→q+Tm.aI post≤1000000000→
 ∃md,er 1 0 (aT (ak (aw (a8 [gk N]) (n+1)) (n+1) vc) uC 1 k (S2 (.int .i64 m) (.ptr 0 0) (.int .i64 q) (.int .i64 pre.length)) ⟨1,[.row [.int .i64 K,.int .i64 M,.str s,.sl (us.map Tm.enc)]],1,0⟩)=
   some (.exit 0,FM 31 [(5,.int .i64 (fq post m q))],⟨1,[.row [.int .i64 K,.int .i64 M,.str s,.sl (us.map Tm.enc)]],0,md⟩)
 | [],pre,k+1,q,e,_,_,_=>by
   simp at e;subst e;have h5:AV.af (us.map Tm.enc)=0:=aB _;exact⟨0,by simp[ae,vc,h5,fq]⟩
 | x::post,pre,k+1,q,e,hk,hq,hql=>by
   have hlu:=ct us;have g1:us[pre.length]? =some x:=by rw[e];simp
   have h5:AV.af (us.map Tm.enc)=0:=aB _;have hpl:pre.length < us.length:=by rw[e];simp
   have h6:((pre.length:Int) < (us.length:Int))=True:=eq_true (by omega);have h3:IntKind.i64.wrap ((pre.length:Int)+1)=(pre.length:Int)+1:=wrap_i64 (by omega) (by omega);have hxe:=Tm.ay x;have hxc:=Tm.an x;have hxr:=ah x;by_cases c:q≤m
   ·have hxs:x.size < N:=by have:=jE (us:=us) (y:=x) (by rw[e];simp);omega
    have hs:=rJ N x (m - q) ⟨hxs,by omega,by omega⟩;have hb:=vw x (m - q);simp only[Tm.aI] at hql;have w1:IntKind.i64.wrap (m - q)=m - q:=wrap_i64 (by omega) (by omega);have w2:IntKind.i64.wrap (q+fS x (m - q))=q+fS x (m - q):=wrap_i64 (by omega) (by omega);obtain⟨md,ih⟩:=Ef n N us hN h1 m hm K M s post (pre++[x]) k (q+fS x (m - q)) (by simp[e]) (by rw[List.length_cons] at hk;omega) (by omega) (by omega);simp only[List.length_append,List.length_cons,List.length_nil,Nat.zero_add] at ih;rw[show ((pre.length+1:Nat):Int)=(pre.length:Int)+1 by omega] at ih
    have hsd:fq (x::post) m q=fq post m (q+fS x (m - q)):=by
     rw[fq,if_pos c]
    rw[hsd,ae];rw[hxe,hxc] at hs;generalize fS x (m - q)=z at *;refine⟨md,?_⟩;simp[vc,uC,g1,h3,h5,h6,c,hxe,hxc,hxr,hs,w1,w2,ag,jJ];exact ih
   ·have hsd:fq (x::post) m q=q:=by
     rw[fq,if_neg c]
    rw[hsd,ae];exact⟨0,by simp[vc,h5,h6,c]⟩
theorem CB (N:Nat) (hN:N≤1000000000) (hp:az Tryz.prog (gk N)):az Tryz.prog (gk (N+1)):=fun args v hv=>by
 unfold gk at hv;dsimp only at hv;split at hv
 ·rename_i a m;split at hv
  ·rename_i x ha;split at hv
   ·rename_i hc;rcases Nat.lt_or_ge x.size N with hlt | hge
    ·refine hp _ _ ?_;rw[bc ha,rJ N x m ⟨hlt,hc.2⟩];exact hv
    cases hv;rw[jJ,bc ha];have hno:=H0 N x m hge;have s1:=aM x;have hla:=ct x.args;refine aH (n:=x.size+5) (h':=h0) (aG (ss:=[gk N]) (by simp[hp])) ?_ rfl (by simp[AV.af,AV.refs,Tm.ba]);have hxe:=Tm.ay x;have hxc:=Tm.an x;rw[Gs];rw[hxe,hxc] at hno ⊢;obtain⟨md,lp⟩:=Ef (x.size+3) N x.args hN (by omega) m hc.2 x.kind x.num x.name x.args [] (x.size+4) 1 rfl (by omega) (by omega) (by omega);simp only[List.length_nil,uC,show ((0:Nat):Int)=0 from rfl] at lp;have h5:=aB x.args
    cases x with
    | nl kk nn ss=>
      simp only[Tm.aJ,Tm.kind,Tm.num,Tm.name,Tm.args] at hno ⊢;simp[RG,Wi,uC,vc,ae,hno,jJ,fq]
    | mk kk nn ss us=>
      simp only[Tm.aJ,Tm.kind,Tm.num,Tm.name,Tm.args] at hno lp h5 ⊢;simp[RG,Wi,uC,hno,h5,lp,jJ]
   ·cases hv
  ·cases hv
 ·cases hv
theorem Ck:az Tryz.prog (gk 0):=fun args v hv=>by
 unfold gk at hv;dsimp only at hv;split at hv
 ·split at hv
  ·split at hv
   ·rename_i hc;omega
   ·cases hv
  ·cases hv
 ·cases hv
theorem vZ:∀N,N≤1000000001→az Tryz.prog (gk N)
 | 0,_=>Ck
 | N+1,h=>CB N (by omega) (vZ N (by omega))
def ko (m d:Nat):List Tm→Nat
 | []=>d
 | x::r=>ko m (max d (min x.depth m)) r
theorem A8 (m:Nat):∀(us:List Tm) (d:Nat),d≤m→ko m d us=min (max d (Tm.iu us)) m
 | [],d,h=>by simp[ko,Tm.iu];omega
 | x::r,d,h=>by
   simp only[ko,Tm.iu];rw[A8 m r _ (by omega)];omega
def eY (m:Nat):ai:=⟨91,fun | [v,.int .i64 n]=>(match dB v with | some t=>if n=m∧t.size < 1000000000 then some (.int .i64 (min t.depth (m+1):Nat)) else none | none=>none) | _=>none⟩
theorem fH (m:Nat):(eY m).f=91:=(rfl)
theorem wA (m:Nat) (t:Tm) (h:t.size < 1000000000):(eY m).S [t.enc,.int .i64 (m:Nat)]=some (.int .i64 (min t.depth (m+1):Nat)):=by
 simp only[eY,aX];exact if_pos ⟨trivial,h⟩
theorem Ej (m k:Nat) (v:AV) (h:k≠m):(eY m).S [v,.int .i64 (k:Nat)]=none:=by
 simp only[eY];split
 ·rw[if_neg (by omega)]
 ·rfl
theorem EP (n m:Nat) (hm:m≤100) (K M:Int) (s:List UInt8) (us:List Tm) (hs:Tm.aI us < 1000000000):∀(post pre:List Tm) (k d:Nat),us=pre++post→post.length < k→d≤m+1→
 ∃md,er 1 0 (aT (ak (aw (a8 [eY m]) (n+1)) (n+1) vN) rP 1 k (TZ (.int .i64 ((m:Int)+1)) (.ptr 0 0) (.int .i64 d) (.int .i64 pre.length)) ⟨1,[.row [.int .i64 K,.int .i64 M,.str s,.sl (us.map Tm.enc)]],1,0⟩)=
   some (.exit 0,FM 31 [(5,.int .i64 (ko (m+1) d post:Nat))],⟨1,[.row [.int .i64 K,.int .i64 M,.str s,.sl (us.map Tm.enc)]],0,md⟩)
 | [],pre,k+1,d,e,_,_=>by
   simp at e;subst e;have h5:AV.af (us.map Tm.enc)=0:=aB _;exact⟨0,by simp[ae,vN,h5,ko]⟩
 | x::post,pre,k+1,d,e,hk,hd=>by
   have hlu:=ct us;have h1:us[pre.length]? =some x:=by rw[e];simp
   have h5:AV.af (us.map Tm.enc)=0:=aB _;have hpl:pre.length < us.length:=by rw[e];simp
   have h6:((pre.length:Int) < (us.length:Int))=True:=eq_true (by omega);have h3:IntKind.i64.wrap ((pre.length:Int)+1)=(pre.length:Int)+1:=wrap_i64 (by omega) (by omega);have hxe:=Tm.ay x;have hcl:=Tm.an x;have hxr:=ah x
   have hxs:x.size < 1000000000:=by
    have:=jE (us:=us) (y:=x) (by rw[e];simp);omega
   have w1:IntKind.i64.wrap ((m:Int)+1 - 1)=(m:Int):=by rw[wrap_i64 (by omega) (by omega)];omega
   have w1':IntKind.i64.wrap (m:Int)=(m:Int):=by rw[wrap_i64 (by omega) (by omega)]
   have hc:=wA m x hxs;rw[hxe,hcl] at hc;obtain⟨md,ih⟩:=EP n m hm K M s us hs post (pre++[x]) k (max d (min x.depth (m+1))) (by simp[e]) (by rw[List.length_cons] at hk;omega) (by omega);refine⟨md,?_⟩;simp only[List.length_append,List.length_cons,List.length_nil,Nat.zero_add] at ih;rw[show ((pre.length+1:Nat):Int)=(pre.length:Int)+1 by omega] at ih;rw[ae];rw[ko];generalize min x.depth (m+1)=q at hc ih ⊢;by_cases hq:d < q
   ·have hq':((d:Int) < (q:Int))=True:=eq_true (by omega);rw[show max d q=q by omega] at ih ⊢;simp[vN,rP,h1,h3,h5,h6,hxe,hcl,hxr,w1,w1',hc,hq',ag,fH];exact ih
   ·have hq':((d:Int) < (q:Int))=False:=eq_false (by omega);rw[show max d q=d by omega] at ih ⊢;simp[vN,rP,h1,h3,h5,h6,hxe,hcl,hxr,w1,w1',hc,hq',ag,fH];exact ih
theorem zY (m:Nat) (hm:m < 100) (hp:az Tryz.prog (eY m)):az Tryz.prog (eY (m+1)):=fun args v hv=>by
 unfold eY at hv;dsimp only at hv;split at hv
 ·rename_i x n;split at hv
  ·rename_i t ht;split at hv
   ·rename_i hc;obtain⟨rfl,hs⟩:=hc;cases hv;rw[bc ht];have hno:=Ej m (m+1) t.enc (by omega);refine aH (n:=t.size+5) (h':=h0) (aG (ss:=[eY m]) (by simp[hp])) ?_ rfl (by simp[AV.af,AV.refs,Tm.ba]);rw[fH];have hxe:=Tm.ay t;have hcl:=Tm.an t;have hsz:=aM t;have hla:=ct t.args;have hde:=lq t;have hfe:=A8 (m+1) t.args 0 (by omega);obtain⟨md,lp⟩:=EP (t.size+3) m (by omega) t.kind t.num t.name t.args (by omega) t.args [] (t.size+4) 0 rfl (by omega) (by omega);simp only[List.length_nil,show ((0:Nat):Int)=0 from rfl,rP] at lp;have hz:((min t.depth (m+1+1):Nat):Int)=(ko (m+1) 0 t.args:Int)+1:=by omega
    rw[hz];have w2:IntKind.i64.wrap ((ko (m+1) 0 t.args:Int)+1)=(ko (m+1) 0 t.args:Int)+1:=wrap_i64 (by omega) (by omega);rw[hxe,hcl] at hno ⊢;have hpos:((m:Int)+1≤0)=False:=eq_false (by omega);simp only[Int.natCast_add,Int.natCast_one] at hno;have h5:=aB t.args
    cases t with
    | nl kk nn ss=>
      simp only[Tm.aJ,Tm.kind,Tm.num,Tm.name,Tm.args] at hno w2 ⊢;simp[ko] at w2;simp[Nl,c91,rP,vN,ae,hno,hpos,fH,ko,w2]
    | mk kk nn ss us=>
      simp only[Tm.aJ,Tm.kind,Tm.num,Tm.name,Tm.args] at hno lp h5 w2 ⊢;simp[Nl,c91,rP,hno,hpos,h5,lp,fH,w2]
   ·cases hv
  ·cases hv
 ·cases hv
theorem JG (t:Tm):1≤t.depth:=by have:=lq t;omega
theorem Ae:az Tryz.prog (eY 0):=fun args v hv=>by
 unfold eY at hv;dsimp only at hv;split at hv
 ·rename_i x n;split at hv
  ·rename_i t ht;split at hv
   ·rename_i hc;obtain⟨rfl,hs⟩:=hc;cases hv;rw[bc ht];refine aH (n:=5) (h':=h0) (aG (ss:=[]) (by simp)) ?_ rfl (by simp[AV.af,AV.refs,Tm.ba]);rw[fH];have hxe:=Tm.ay t;have hcl:=Tm.an t;have hxr:=ah t;have hd:=JG t;rw[show min t.depth (0+1)=1 by omega];rw[hxe,hcl];simp[Nl,c91,hxr]
   ·cases hv
  ·cases hv
 ·cases hv
theorem s7:∀m,m≤100→az Tryz.prog (eY m)
 | 0,_=>Ae
 | m+1,h=>zY m (by omega) (s7 m (by omega))
end Go.Proofs.YtjmeonoabiliiaaGreatDoor
