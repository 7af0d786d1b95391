import Derived.Test.YtjmeonoabiliiaaGreatDoorAt
import Derived.Test.YtjmeonoabiliiaaGreatDoorBd1
set_option linter.unusedVariables false
set_option linter.unusedSimpArgs false
set_option linter.unusedSectionVars false
set_option maxHeartbeats 16000000
set_option maxRecDepth 100000

namespace Go.Proofs.YtjmeonoabiliiaaGreatDoor
open Go Sz
def fo (N:Nat):ai:=⟨92,fun | [v]=>(match dB v with | some t=>if t.size < N∧t.eU < 1000000000 then some (.bool (t.eM fc)) else none | none=>none) | _=>none⟩
theorem cJ (N:Nat):(fo N).f=92:=(rfl)
theorem rR (N:Nat) (x:Tm) (h:x.size < N∧x.eU < 1000000000):(fo N).S [x.enc]=some (.bool (x.eM fc)):=by
 simp only[fo,aX,if_pos h]
theorem GI (N:Nat) (x:Tm) (h:N≤x.size):(fo N).S [x.enc]=none:=by
 simp only[fo,aX];rw[if_neg (by omega)]
theorem As (C:Nat→List AV→aa→Option (AV×aa)) (n:Nat) (s:List UInt8) (hs:s.length < 4611686018427387904) (K M:Int) (A:AV) (hA:A.refs=0):∀post pre m,s=pre++post→post.length < m→
 er 1 0 (aT (ak C n oB) km 1 m (SB (.ptr 0 0) (.int .i64 pre.length)) ⟨1,[.row [.int .i64 K,.int .i64 M,.str s,A]],1,0⟩)=
  some (if gu post then .exit 1 else .ret,if gu post then FM 96 [(1,.ptr 0 0)] else FM 96 [(2,.bool false)],⟨1,[.row [.int .i64 K,.int .i64 M,.str s,A]],0,0⟩)
 | [],pre,m+1,e,_=>by
   simp at e;subst e;simp[ae,oB,gu,hA]
 | c::post,pre,m+1,e,hm=>by
   have ih:=As C n s hs K M A hA post (pre++[c]) m (by simp[e]) (by rw[List.length_cons] at hm;omega);have h1:s[pre.length]? =some c:=by rw[e];simp
   have h3:IntKind.i64.wrap ((pre.length:Int)+1)=(pre.length:Int)+1:=by
    rw[iG (by rw[e] at hs;simp at hs;omega)];simp
   have h6:((pre.length:Int) < (s.length:Int))=True:=eq_true (by rw[e,List.length_append,List.length_cons];omega);simp only[List.length_append,List.length_cons,List.length_nil,Nat.zero_add,Int.natCast_add,Int.natCast_one] at ih;have ho:IY c=!((decide (c.toNat < 32)||decide (126 < c.toNat))&&decide (c.toNat≠9)&&decide (c.toNat≠10)):=rfl;rw[ae];by_cases a3:c.toNat=9
   ·have b3:((c.toNat:Int)=9)=True:=eq_true (by omega);have ho:IY c=true:=by rw[ho];simp[a3]
    simp[oB,km,h1,h3,h6,b3,gu,ho,hA];exact ih
   ·have b3:((c.toNat:Int)=9)=False:=eq_false (by omega);by_cases a4:c.toNat=10
    ·have b4:((c.toNat:Int)=10)=True:=eq_true (by omega);have ho:IY c=true:=by rw[ho];simp[a4]
     simp[oB,km,h1,h3,h6,b3,b4,gu,ho,hA];exact ih
    ·have b4:((c.toNat:Int)=10)=False:=eq_false (by omega);by_cases a1:c.toNat < 32
     ·have b1:((c.toNat:Int) < 32)=True:=eq_true (by omega);have ho:IY c=false:=by rw[ho];simp[a1,a3,a4]
      simp[oB,km,h1,h3,h6,b1,b3,b4,gu,ho,hA]
     ·have b1:((c.toNat:Int) < 32)=False:=eq_false (by omega);by_cases a2:126 < c.toNat
      ·have b2:(126 < (c.toNat:Int))=True:=eq_true (by omega);have ho:IY c=false:=by rw[ho];simp[a1,a2,a3,a4]
       simp[oB,km,h1,h3,h6,b1,b2,b3,b4,gu,ho,hA]
      ·have b2:(126 < (c.toNat:Int))=False:=eq_false (by omega);have ho:IY c=true:=by rw[ho];simp[a1,a2]
       simp[oB,km,h1,h3,h6,b1,b2,b3,b4,gu,ho,hA];exact ih
theorem Mk {us:List Tm} {y:Tm} (h:y ∈ us):y.eU≤Tm.kA us:=ti us y h
theorem BU (n N:Nat) (us:List Tm) (hN:N≤1000000000) (h1:Tm.aI us < N) (h2:Tm.kA us < 1000000000) (K M:Int) (s:List UInt8):∀(post pre:List Tm) (k:Nat),us=pre++post→post.length < k→
 ∃md,er 1 0 (aT (ak (aw (a8 [fo N]) (n+1)) (n+1) rA) mg 1 k (NH (.ptr 0 0) (.int .i64 pre.length)) ⟨1,[.row [.int .i64 K,.int .i64 M,.str s,.sl (us.map Tm.enc)]],1,0⟩)=
   some (if Tm.eN fc post then .exit 3 else .ret,if Tm.eN fc post then FM 96 [] else FM 96 [(2,.bool false)],⟨1,[.row [.int .i64 K,.int .i64 M,.str s,.sl (us.map Tm.enc)]],0,md⟩)
 | [],pre,k+1,e,_=>by
   simp at e;subst e;have h5:AV.af (us.map Tm.enc)=0:=aB _;exact⟨0,by simp[ae,rA,h5,Tm.eN]⟩
 | x::post,pre,k+1,e,hk=>by
   have hlu:=ct us;have g1:us[pre.length]? =some x:=by rw[e];simp
   have h5:AV.af (us.map Tm.enc)=0:=aB _;have hpl:pre.length < us.length:=by rw[e];simp
   have h6:((pre.length:Int) < (us.length:Int))=True:=eq_true (by omega);have h3:IntKind.i64.wrap ((pre.length:Int)+1)=(pre.length:Int)+1:=wrap_i64 (by omega) (by omega);have hxe:=Tm.ay x;have hxc:=Tm.an x;have hxr:=ah x;have hx:x ∈ us:=by rw[e];simp
   have hs:=rR N x ⟨by have:=jE hx;omega,by have:=Mk hx;omega⟩;obtain⟨md,ih⟩:=BU n N us hN h1 h2 K M s post (pre++[x]) k (by simp[e]) (by rw[List.length_cons] at hk;omega);simp only[List.length_append,List.length_cons,List.length_nil,Nat.zero_add] at ih;rw[show ((pre.length+1:Nat):Int)=(pre.length:Int)+1 by omega] at ih;rw[ae];rw[show Tm.eN fc (x::post)=(x.eM fc&&Tm.eN fc post) by simp[Tm.eN]];rw[hxe,hxc] at hs
   cases ha:x.eM fc with
   | false=>
     rw[ha] at hs;exact⟨0,by simp[rA,mg,g1,h3,h5,h6,hxe,hxc,hxr,hs,ag,cJ]⟩
   | true=>
     rw[ha] at hs;refine⟨md,?_⟩;simp[rA,mg,g1,h3,h5,h6,hxe,hxc,hxr,hs,ag,cJ];exact ih
theorem HD (C:Nat→List AV→aa→Option (AV×aa)) (n k:Nat) (K M:Int) (s:List UInt8):er 1 0 (aT (ak C n rA) mg 1 (k+1) (NH (.ptr 0 0) (.int .i64 0)) ⟨1,[.row [.int .i64 K,.int .i64 M,.str s,.ax]],1,0⟩)=
 some (.exit 3,FM 96 [],⟨1,[.row [.int .i64 K,.int .i64 M,.str s,.ax]],0,0⟩):=by
 simp[ae,rA]
theorem Dj (N:Nat) (hN:N≤1000000000) (hp:az Tryz.prog (fo N)):az Tryz.prog (fo (N+1)):=fun args v hv=>by
 unfold fo at hv;dsimp only at hv;split at hv
 ·rename_i a;split at hv
  ·rename_i x ha;split at hv
   ·rename_i hc;rcases Nat.lt_or_ge x.size N with hlt | hge
    ·refine hp _ _ ?_;rw[bc ha,rR N x ⟨hlt,hc.2⟩];exact hv
    cases hv;rw[cJ,bc ha];have hno:=GI N x hge;have s1:=aM x;have b1:=ng x;have hla:=ct x.args;refine aH (n:=x.eU+9) (h':=h0) (aG (ss:=[fo N]) (by simp[hp])) ?_ rfl (by simp[AV.af,AV.refs,Tm.ba]);have hxe:=Tm.ay x;have hxc:=Tm.an x;have hl:=uD x;have hr:=ah x;have hsb:=iD x;rw[dd]
    have hone:fc x=if x.kind=0 then decide (0≤x.num)&&decide (x.num≤2147483647)&&decide (x.name=[])&&decide (x.args.length=0)
     else if x.kind=1 then decide (x.name=[])&&decide (x.args.length=0)
     else if x.kind=2 then decide (x.num=0)&&jw x.name&&decide (x.args.length≤8)
     else false:=rfl
    rw[hone];rw[hxe,hxc] at hno ⊢;by_cases k0:x.kind=0
    ·rw[k0] at hno ⊢;by_cases c1:0≤x.num
     ·by_cases c2:x.num < 2147483648
      ·have c2':(x.num≤2147483647)=True:=eq_true (by omega)
       cases hnm:x.name with
       | nil=>
         rw[hnm] at hno;by_cases c4:x.args.length=0
         ·have c4':((x.args.length:Int)=0)=True:=eq_true (by omega);have c5:x.args=[]:=List.eq_nil_of_length_eq_zero c4;simp[kC,Ca,hno,c1,c2,c2',c4,c4',c5,hl,hr,ag,cJ,Tm.eN]
         ·have c4':((x.args.length:Int)=0)=False:=eq_false (by omega);have c5:(x.args=[])=False:=eq_false (fun h=>c4 (by rw[h];rfl));simp[kC,Ca,hno,c1,c2,c2',c4,c4',c5,hl,hr,ag,cJ]
       | cons c r=>
         rw[hnm] at hno;simp[kC,Ca,hno,c1,c2,c2',hl,hr,ag,cJ]
      ·have c2':(x.num≤2147483647)=False:=eq_false (by omega);simp[kC,Ca,hno,c1,c2,c2',hl,hr,ag,cJ]
     ·simp[kC,Ca,hno,c1,hl,hr,ag,cJ]
    ·by_cases k1:x.kind=1
     ·rw[k1] at hno ⊢
      cases hnm:x.name with
      | nil=>
        rw[hnm] at hno;by_cases c4:x.args.length=0
        ·have c4':((x.args.length:Int)=0)=True:=eq_true (by omega);have c5:x.args=[]:=List.eq_nil_of_length_eq_zero c4;simp[kC,Ca,hno,c4,c4',c5,hl,hr,ag,cJ,Tm.eN]
        ·have c4':((x.args.length:Int)=0)=False:=eq_false (by omega);have c5:(x.args=[])=False:=eq_false (fun h=>c4 (by rw[h];rfl));simp[kC,Ca,hno,c4,c4',c5,hl,hr,ag,cJ]
      | cons c r=>
        rw[hnm] at hno;simp[kC,Ca,hno,hl,hr,ag,cJ]
     ·by_cases k2:x.kind=2
      ·rw[k2] at hno ⊢;by_cases c1:x.num=0
       ·rw[c1] at hno ⊢;by_cases c2:x.name.length≤64
        ·have c2':((64:Int) < (x.name.length:Int))=False:=eq_false (by omega);by_cases c3:x.args.length≤8
         ·have c3':((8:Int) < (x.args.length:Int))=False:=eq_false (by omega);have lp0:=As (aw (a8 [fo N]) (x.eU+8)) (x.eU+8) x.name (by omega) 2 0 x.aJ hr x.name [] (x.eU+8) rfl (by omega);simp only[List.length_nil,km,show ((0:Nat):Int)=0 from rfl] at lp0
          cases hao:gu x.name with
          | false=>
            rw[hao] at lp0;simp only[Bool.false_eq_true,if_false] at lp0;have hgn:jw x.name=false:=by simp[jw,hao]
            simp[kC,Ca,km,hno,c2',c3',hgn,hl,hr,lp0,ag,cJ]
          | true=>
            rw[hao] at lp0;simp only[if_true] at lp0;have hgn:jw x.name=true:=by simp[jw,hao,c2]
            cases x with
            | nl kk nn ss=>
              simp only[Tm.aJ,Tm.kind,Tm.num,Tm.name,Tm.args] at *;have lp1:=HD (aw (a8 [fo N]) ((Tm.nl kk nn ss).eU+8)) ((Tm.nl kk nn ss).eU+8) ((Tm.nl kk nn ss).eU+7) 2 0 ss;simp only[mg] at lp1;simp[kC,Ca,km,mg,hno,c2',hgn,lp0,lp1,cJ,Tm.eN]
            | mk kk nn ss us=>
              simp only[Tm.aJ,Tm.kind,Tm.num,Tm.name,Tm.args] at *;have h5:=aB us;obtain⟨md1,lp1⟩:=BU ((Tm.mk kk nn ss us).eU+7) N us hN (by omega) (by omega) 2 0 ss us [] ((Tm.mk kk nn ss us).eU+8) rfl (by omega);simp only[List.length_nil,mg,show ((0:Nat):Int)=0 from rfl] at lp1
              cases hal:Tm.eN fc us with
              | false=>
                rw[hal] at lp1;simp only[Bool.false_eq_true,if_false] at lp1;simp[kC,Ca,km,mg,hno,c2',c3',hgn,h5,lp0,lp1,cJ,c3,hal]
              | true=>
                rw[hal] at lp1;simp only[if_true] at lp1;simp[kC,Ca,km,mg,hno,c2',c3',hgn,h5,lp0,lp1,cJ,c3,hal]
         ·have c3':((8:Int) < (x.args.length:Int))=True:=eq_true (by omega);simp[kC,Ca,hno,c2',c3',c3,hl,hr,ag,cJ]
        ·have c2':((64:Int) < (x.name.length:Int))=True:=eq_true (by omega);have hgn:jw x.name=false:=by simp[jw,c2]
         simp[kC,Ca,hno,c2',hgn,hl,hr,ag,cJ]
       ·simp[kC,Ca,hno,c1,hl,hr,ag,cJ]
      ·simp[kC,Ca,hno,k0,k1,k2,hl,hr,ag,cJ]
   ·cases hv
  ·cases hv
 ·cases hv
theorem Cq:az Tryz.prog (fo 0):=fun args v hv=>by
 unfold fo at hv;dsimp only at hv;split at hv
 ·split at hv
  ·split at hv
   ·rename_i hc;omega
   ·cases hv
  ·cases hv
 ·cases hv
theorem wK:∀N,N≤1000000001→az Tryz.prog (fo N)
 | 0,_=>Cq
 | N+1,h=>Dj N (by omega) (wK N (by omega))
def jg:ai:=⟨52,fun | [v]=>(match dB v with | some t=>if t.eU < 1000000000 then some (.bool (dp t)) else none | none=>none) | _=>none⟩
theorem bY:jg.f=52:=(rfl)
theorem uP (t:Tm) (h:t.eU < 1000000000):jg.S [t.enc]=some (.bool (dp t)):=by
 simp only[jg,aX,if_pos h]
theorem uA:az Tryz.prog jg:=fun args v hv=>by
 unfold jg at hv ⊢;dsimp only at hv ⊢;split at hv
 ·rename_i x;split at hv
  ·rename_i t ht;split at hv
   ·rename_i hl;cases hv;rw[bc ht];refine aH (n:=5) (h':=h0) (aG (ss:=[gk 1000000000,eY 64,fo 1000000000]) (by simp[vZ 1000000000 (by omega),s7 64 (by omega),wK 1000000000 (by omega)])) ?_ rfl (by simp[AV.af,Tm.ba]);have hsb:=iD t;have c1:=rJ 1000000000 t 2000 ⟨by omega,by omega,by omega⟩;have c2:=wA 64 t (by omega);have c3:=rR 1000000000 t ⟨by omega,hl⟩;have hlw:=BP t 2000 (by omega);have hxe:=Tm.ay t;have hcl:=Tm.an t;have hxr:=ah t;rw[show ((64:Nat):Int)=64 from rfl] at c2;unfold dp;rw[hxe,hcl] at c1 c2 c3 ⊢;by_cases d1:t.size≤2000
    ·have e1:=hlw.1 (by omega);have d1':(fS t 2000≤2000)=True:=eq_true (by omega);by_cases d2:t.depth≤64
     ·have d2':(((min t.depth (64+1):Nat):Int)≤64)=True:=eq_true (by omega);generalize fS t 2000=z at *;generalize min t.depth (64+1)=y at *;simp[MW,Ux,c1,c2,c3,hxr,d1,d2,d1',d2',ag,jJ,fH,cJ]
     ·have d2':(((min t.depth (64+1):Nat):Int)≤64)=False:=eq_false (by omega);generalize fS t 2000=z at *;generalize min t.depth (64+1)=y at *;simp[MW,Ux,c1,c2,c3,hxr,d1,d2,d1',d2',ag,jJ,fH,cJ]
    ·have e1:=hlw.2 (by omega);have d1':(fS t 2000≤2000)=False:=eq_false (by omega);simp[MW,Ux,c1,c2,c3,hxr,d1,d1',ag,jJ,fH,cJ]
   ·cases hv
  ·cases hv
 ·cases hv
theorem Bk (C:Nat→List AV→aa→Option (AV×aa)) (n:Nat):∀(k:Nat) (t:Tm) (acc:List Tm) (m:Nat),t.size≤k→acc≠[]→acc.length+t.size≤1000000000→k < m→
 ∃md,er 2 0 (aT (ak C n eZ) ed 2 m (I0 (.ptr 0 0) (.ptr 1 0) (.vec 2 0 acc.length 4 acc.length)) ⟨3,[.row (aq acc),.row zT,.row t.cells],2,0⟩)=
   some (.exit 0,FM 32 [(1,.ptr 0 0),(3,.ptr 1 0),(4,.vec 2 0 (acc++(aE t).1).length 4 (acc++(aE t).1).length)],⟨3,[.row (aq (acc++(aE t).1)),.row zT,.row (aE t).2.cells],0,md⟩)
 | 0,t,acc,m,h,_,_,_=>by have:=aM t;omega
 | k+1,t,acc,m+1,h,hne,hs,hm=>by
   have hf:=aK acc;rw[ae]
   cases hd:dx t with
   | false=>
     rw[fT hd]
     cases t with
     | nl kk nn ss=>
       have hc:(Tm.nl kk nn ss).cells=[.int .i64 kk,.int .i64 nn,.str ss,.ax]:=rfl;by_cases h1:kk=2
       ·subst h1
        cases h2:(ss==[46]) with
        | false=>exact⟨0,by simp[eZ,ed,hc,h2,hf]⟩
        | true=>exact⟨0,by simp[eZ,ed,hc,h2,hf]⟩
       ·exact⟨0,by simp[eZ,ed,hc,h1,hf]⟩
     | mk kk nn ss us=>
       have hc:(Tm.mk kk nn ss us).cells=[.int .i64 kk,.int .i64 nn,.str ss,.sl (us.map Tm.enc)]:=rfl;have hr:=aB us;by_cases h1:kk=2
       ·subst h1
        cases h2:(ss==[46]) with
        | false=>exact⟨0,by simp[eZ,ed,hc,h2,hf,hr]⟩
        | true=>
          have h3:((us.length:Int)=2)=False:=eq_false fun e=>by
           have h2':=eq_of_beq h2;simp[dx,Tm.kind,Tm.name,Tm.args,h2'] at hd;exact of_decide_eq_false hd (by omega)
          exact⟨0,by simp[eZ,ed,hc,h2,h3,hf,hr]⟩
       ·exact⟨0,by simp[eZ,ed,hc,h1,hf,hr]⟩
   | true=>
     obtain⟨x,r,ha,e⟩:=eb hd;have hsz:=aM t;rw[ha] at hsz;simp only[Tm.aI] at hsz
     cases t with
     | nl kk nn ss=>cases ha
     | mk kk nn ss us=>
       simp only[Tm.args] at ha;subst ha;simp only[dx,Bool.and_eq_true] at hd;obtain⟨⟨hd1,hd2⟩,_⟩:=hd;obtain rfl:kk=2:=of_decide_eq_true hd1;obtain rfl:ss=[46]:=of_decide_eq_true hd2;obtain⟨md,ih⟩:=Bk C n k r (acc++[x]) m (by omega) (by simp) (by simp;omega) (by omega);refine⟨md,?_⟩;rw[e];have hc:(Tm.mk 2 nn [46] [x,r]).cells=[.int .i64 2,.int .i64 nn,.str [46],.sl [x.enc,r.enc]]:=rfl;have hxe:=Tm.ay x;have hxc:=Tm.an x;have hxr:=ah x;have hre:=Tm.ay r;have hrc:=Tm.an r;have hrr:=ah r;have hf2:AV.af (aq acc++x.cells)=0:=by rw[←jv];exact aK _
       rw[hxc] at hf2;have h8:(acc.length+1)*56≤140737488355328:=by omega
       have h9:acc.length+1 < 9223372036854775808:=by omega
       have h10:(aq acc).take (acc.length*4)=aq acc:=by rw[List.take_of_length_le];rw[cg];exact Nat.le_refl _
       have h11:=cg acc;simp only[jv,List.length_append,List.length_cons,List.length_nil,Nat.zero_add,hrc,hxc] at ih;simp[eZ,ed,hc,hxe,hxc,hxr,hre,hrc,hrr,hf,hf2,h8,h9,h10,h11,au];refine Eq.trans ih ?_;simp[aq,hxc,Nat.add_comm,Nat.add_left_comm,Nat.add_assoc]
theorem Gc (C:Nat→List AV→aa→Option (AV×aa)) (n:Nat) (t:Tm) (m:Nat) (hs:t.size≤999999999) (hm:t.size < m):
 ∃md,er 2 0 (aT (ak C n eZ) ed 2 m (I0 (.ptr 0 0) (.ptr 1 0) .ax) ⟨2,[.row zT,.row t.cells],2,0⟩)=
   some (.exit 0,FM 32 [(1,.ptr 0 0),(3,.ptr 1 0),(4,vT 2 (aE t).1)],⟨(hT (aE t).1 [.row zT,.row (aE t).2.cells]).length,hT (aE t).1 [.row zT,.row (aE t).2.cells],0,md⟩):=by
 cases m with
 | zero=>omega
 | succ m=>
   rw[ae]
   cases hd:dx t with
   | false=>
     rw[fT hd]
     cases t with
     | nl kk nn ss=>
       have hc:(Tm.nl kk nn ss).cells=[.int .i64 kk,.int .i64 nn,.str ss,.ax]:=rfl;by_cases h1:kk=2
       ·subst h1
        cases h2:(ss==[46]) with
        | false=>exact⟨0,by simp[eZ,ed,hc,h2,vT,hT]⟩
        | true=>exact⟨0,by simp[eZ,ed,hc,h2,vT,hT]⟩
       ·exact⟨0,by simp[eZ,ed,hc,h1,vT,hT]⟩
     | mk kk nn ss us=>
       have hc:(Tm.mk kk nn ss us).cells=[.int .i64 kk,.int .i64 nn,.str ss,.sl (us.map Tm.enc)]:=rfl;have hr:=aB us;by_cases h1:kk=2
       ·subst h1
        cases h2:(ss==[46]) with
        | false=>exact⟨0,by simp[eZ,ed,hc,h2,hr,vT,hT]⟩
        | true=>
          have h3:((us.length:Int)=2)=False:=eq_false fun e=>by
           have h2':=eq_of_beq h2;simp[dx,Tm.kind,Tm.name,Tm.args,h2'] at hd;exact of_decide_eq_false hd (by omega)
          exact⟨0,by simp[eZ,ed,hc,h2,h3,hr,vT,hT]⟩
       ·exact⟨0,by simp[eZ,ed,hc,h1,hr,vT,hT]⟩
   | true=>
     obtain⟨x,r,ha,e⟩:=eb hd;have hsz:=aM t;rw[ha] at hsz;simp only[Tm.aI] at hsz
     cases t with
     | nl kk nn ss=>cases ha
     | mk kk nn ss us=>
       simp only[Tm.args] at ha;subst ha;simp only[dx,Bool.and_eq_true] at hd;obtain⟨⟨hd1,hd2⟩,_⟩:=hd;obtain rfl:kk=2:=of_decide_eq_true hd1;obtain rfl:ss=[46]:=of_decide_eq_true hd2;obtain⟨md,ih⟩:=Bk C n r.size r [x] m (Nat.le_refl _) (by simp) (by simp;omega) (by omega);refine⟨md,?_⟩;rw[e];have hc:(Tm.mk 2 nn [46] [x,r]).cells=[.int .i64 2,.int .i64 nn,.str [46],.sl [x.enc,r.enc]]:=rfl;have hxe:=Tm.ay x;have hxc:=Tm.an x;have hxr:=ah x;have hre:=Tm.ay r;have hrc:=Tm.an r;have hrr:=ah r;simp only[aq,List.flatMap_cons,List.flatMap_nil,List.append_nil,List.length_append,List.length_cons,List.length_nil,Nat.zero_add,hrc,hxc] at ih;simp[eZ,ed,hc,hxe,hxc,hxr,hre,hrc,hrr,au];refine Eq.trans ih ?_;simp[vT,hT,aq,hxc,Nat.add_comm,Nat.add_left_comm,Nat.add_assoc]
def qq:ai:=⟨130,fun | [v]=>(match dB v with | some t=>if t.eU < 1000000000 then some (.tuple [LH (aE t).1,(aE t).2.enc]) else none | none=>none) | _=>none⟩
theorem pX:qq.f=130:=(rfl)
theorem Ia (t:Tm) (h:t.eU < 1000000000):qq.S [t.enc]=some (.tuple [LH (aE t).1,(aE t).2.enc]):=by
 simp only[qq,aX,if_pos h]
theorem Ib:az Tryz.prog qq:=fun args v hv=>by
 unfold qq at hv ⊢;dsimp only at hv ⊢;split at hv
 ·rename_i x;split at hv
  ·rename_i t ht;split at hv
   ·rename_i hl;cases hv;rw[bc ht];refine aH (n:=t.size+5) (h':=h0) (aG (ss:=[]) (by simp)) ?_ (by simp[AV.refs,AV.af,Ei,Tm.ba]) (by simp[AV.af,Tm.ba]);have hsb:=iD t;have hxe:=Tm.ay t;have hcl:=Tm.an t;have hxr:=ah t;obtain⟨md,eq⟩:=Gc (aw (a8 []) (t.size+4)) (t.size+4) t (t.size+4) (by omega) (by omega);generalize aE t=p at eq;obtain⟨us,tl⟩:=p;dsimp only at eq ⊢;rw[hxe,hcl];rw[hcl] at eq;simp only[ed,zT] at eq;have htl:=Tm.ay tl;have htc:=Tm.an tl;have htr:=ah tl;rw[htl,htc];rw[htc] at eq
    cases us with
    | nil=>
      simp only[vT,hT,zT,List.length_cons,List.length_nil] at eq;simp[Ns,c130,ed,hxr,htr,ag,LH,eq]
    | cons y r=>
      simp only[vT,hT,zT,List.length_cons,List.length_nil] at eq;have hf2:=aK (y::r);have hf:∀(A B:aC) (wl md d:Nat),gr ⟨3,[.row (aq (y::r)),A,B],wl,md⟩ 0 (d+2) (.vec 2 0 (r.length+1) 4 (r.length+1))=some (.sl ((y::r).map Tm.enc),[2]):=fun A B wl md d=>Na y r (by omega) rfl
      simp only[List.map_cons] at hf;simp[Ns,c130,ed,hxr,htr,hf2,ag,LH,eq,hf]
   ·cases hv
  ·cases hv
 ·cases hv
def QL (k n:Int) (s:List UInt8):List Tm→Tm
 | []=>.nl k n s
 | x::r=>.mk k n s (x::r)
mutual
def bH:Tm→Tm
 | .nl k n s=>.nl k n s
 | .mk k n s us=>QL k n s (Qg us)
def Qg:List Tm→List Tm
 | []=>[]
 | t::r=>bH t::Qg r
end
theorem Fs:∀us:List Tm,Qg us=us.map bH
 | []=>rfl
 | x::r=>by simp[Qg,Fs r]
theorem tS (t:Tm):bH t=QL t.kind t.num t.name (t.args.map bH):=by
 cases t with
 | nl k n s=>rfl
 | mk k n s us=>rw[bH,Fs];rfl
def gU (N:Nat):ai:=⟨23,fun | [v]=>(match dB v with | some t=>if t.size < N then some (bH t).enc else none | none=>none) | _=>none⟩
theorem j3 (N:Nat):(gU N).f=23:=(rfl)
theorem pY (N:Nat) (x:Tm) (h:x.size < N):(gU N).S [x.enc]=some (bH x).enc:=by
 simp only[gU,aX,if_pos h]
theorem Ly (N:Nat) (x:Tm) (h:N≤x.size):(gU N).S [x.enc]=none:=by
 simp only[gU,aX];rw[if_neg (by omega)]
theorem Dx (n N:Nat) (us:List Tm) (hN:N≤1000000000) (h1:Tm.aI us < N) (K M:Int) (s:List UInt8):∀(post pre acc:List Tm) (k:Nat),us=pre++post→acc.length=pre.length→acc≠[]→post.length < k→
 ∃md,er 3 0 (aT (ak (aw (a8 [gU N]) (n+1)) (n+1) oR) mD 3 k (Gi (.ptr 0 0) (.ptr 1 0) (.ptr 2 0) (.int .i64 pre.length)) ⟨4,[.row (aq acc),.row [.int .i64 K,.int .i64 M,.str s,.vec 3 0 acc.length 4 acc.length],.row zT,.row [.int .i64 K,.int .i64 M,.str s,.sl (us.map Tm.enc)]],2,0⟩)=
   some (.exit 0,FM 31 [(2,.ptr 1 0),(3,.ptr 2 0)],⟨4,[.row (aq (acc++post.map bH)),.row [.int .i64 K,.int .i64 M,.str s,.vec 3 0 (acc++post.map bH).length 4 (acc++post.map bH).length],.row zT,.row [.int .i64 K,.int .i64 M,.str s,.sl (us.map Tm.enc)]],0,md⟩)
 | [],pre,acc,k+1,e,ea,_,_=>by
   simp at e;subst e;have h5:AV.af (us.map Tm.enc)=0:=aB _;have hf:=aK acc;exact⟨0,by simp[ae,oR,h5,hf,zT]⟩
 | x::post,pre,acc,k+1,e,ea,hne,hk=>by
   have hlu:=ct us;have g1:us[pre.length]? =some x:=by rw[e];simp
   have h5:AV.af (us.map Tm.enc)=0:=aB _;have hf:=aK acc;have hpl:pre.length < us.length:=by rw[e];simp
   have h6:((pre.length:Int) < (us.length:Int))=True:=eq_true (by omega);have h3:IntKind.i64.wrap ((pre.length:Int)+1)=(pre.length:Int)+1:=wrap_i64 (by omega) (by omega);have hxe:=Tm.ay x;have hxc:=Tm.an x;have hxr:=ah x;have hx:x ∈ us:=by rw[e];simp
   have hs:=pY N x (by have:=jE hx;omega);obtain⟨md,ih⟩:=Dx n N us hN h1 K M s post (pre++[x]) (acc++[bH x]) k (by simp[e]) (by simp[ea]) (by simp) (by rw[List.length_cons] at hk;omega);refine⟨md,?_⟩;have hye:(bH x).enc=.agg (bH x).cells:=Tm.ay _;have hyr:=ah (bH x);have hf2:AV.af (aq acc++(bH x).cells)=0:=by rw[←jv];exact aK _
   rw[hxe,hxc] at hs;have em:(x::post).map bH=bH x::post.map bH:=rfl;rw[em];generalize bH x=y at *;have hyc:=Tm.an y;rw[hyc] at hf2;have h8:(acc.length+1)*56≤140737488355328:=by omega
   have h9:acc.length+1 < 9223372036854775808:=by omega
   have h10:(aq acc).take (acc.length*4)=aq acc:=by rw[List.take_of_length_le];rw[cg];exact Nat.le_refl _
   have h11:=cg acc;simp only[List.length_append,List.length_cons,List.length_nil,Nat.zero_add,jv,hyc,List.append_assoc] at ih;rw[show ((pre.length+1:Nat):Int)=(pre.length:Int)+1 by omega] at ih;rw[ae];simp[oR,mD,g1,h3,h5,h6,hf,hf2,h8,h9,h10,h11,hxe,hxc,hxr,hye,hyc,hyr,hs,ag,j3,au,zT];simp only[zT] at ih;refine Eq.trans ih ?_;simp[aq,hyc,Nat.add_comm,Nat.add_left_comm,Nat.add_assoc]
theorem Hw (C:Nat→List AV→aa→Option (AV×aa)) (n k:Nat) (K M:Int) (s:List UInt8) (A:AV) (hA:A=.ax∨A=.sl []):
 er 3 0 (aT (ak C n oR) mD 3 (k+1) (Gi (.ptr 0 0) (.ptr 1 0) (.ptr 2 0) (.int .i64 0)) ⟨3,[.row [.int .i64 K,.int .i64 M,.str s,.ax],.row zT,.row [.int .i64 K,.int .i64 M,.str s,A]],3,0⟩)=
  some (.exit 0,FM 31 [(2,.ptr 1 0),(3,.ptr 2 0)],⟨3,[.row [.int .i64 K,.int .i64 M,.str s,.ax],.row zT,.row [.int .i64 K,.int .i64 M,.str s,A]],0,0⟩):=by
 rcases hA with rfl | rfl<;>simp[ae,oR,zT]
theorem Ke (n N:Nat) (x:Tm) (r:List Tm) (hN:N≤1000000000) (h1:Tm.aI (x::r) < N) (K M:Int) (s:List UInt8) (k:Nat) (hk:r.length+1 < k):
 ∃md,er 3 0 (aT (ak (aw (a8 [gU N]) (n+1)) (n+1) oR) mD 3 k (Gi (.ptr 0 0) (.ptr 1 0) (.ptr 2 0) (.int .i64 0)) ⟨3,[.row [.int .i64 K,.int .i64 M,.str s,.ax],.row zT,.row [.int .i64 K,.int .i64 M,.str s,.sl ((x::r).map Tm.enc)]],3,0⟩)=
   some (.exit 0,FM 31 [(2,.ptr 1 0),(3,.ptr 2 0)],⟨4,[.row (aq ((x::r).map bH)),.row [.int .i64 K,.int .i64 M,.str s,.vec 3 0 (r.length+1) 4 (r.length+1)],.row zT,.row [.int .i64 K,.int .i64 M,.str s,.sl ((x::r).map Tm.enc)]],0,md⟩):=by
 obtain⟨k,rfl⟩:∃k',k=k'+1:=⟨k - 1,by omega⟩
 have h5:AV.af (r.map Tm.enc)=0:=aB _;have h6:((0:Int) < (r.length:Int)+1)=True:=eq_true (by omega);have h3:IntKind.i64.wrap (0+1)=1:=rfl;have h3':IntKind.i64.wrap 1=1:=rfl;have hxe:=Tm.ay x;have hxc:=Tm.an x;have hxr:=ah x;have hs:=pY N x (by simp only[Tm.aI] at h1;omega);obtain⟨md,ih⟩:=Dx n N (x::r) hN h1 K M s r [x] [bH x] k rfl rfl (by simp) (by omega);refine⟨md,?_⟩;have hye:(bH x).enc=.agg (bH x).cells:=Tm.ay _;have hyr:=ah (bH x);rw[hxe,hxc] at hs;have em:(x::r).map bH=bH x::r.map bH:=rfl;rw[em];generalize bH x=y at *;have hyc:=Tm.an y;simp only[List.length_append,List.length_cons,List.length_nil,Nat.zero_add,hyc,zT,aq,List.flatMap_cons,List.flatMap_nil,List.append_nil,List.map_cons,hxe,hxc] at ih;rw[ae];simp[oR,mD,h3,h3',h5,h6,hxe,hxc,hxr,hye,hyc,hyr,hs,ag,j3,au,zT];refine Eq.trans ih ?_;simp[aq,hyc,Nat.add_comm,Nat.add_left_comm,Nat.add_assoc]
theorem Eu (N:Nat) (hN:N≤1000000000) (hp:az Tryz.prog (gU N)):az Tryz.prog (gU (N+1)):=fun args v hv=>by
 unfold gU at hv;dsimp only at hv;split at hv
 ·rename_i a;split at hv
  ·rename_i x ha;split at hv
   ·rename_i hc;rcases Nat.lt_or_ge x.size N with hlt | hge
    ·refine hp _ _ ?_;rw[bc ha,pY N x hlt];exact hv
    cases hv;rw[j3,bc ha];have hno:=Ly N x hge;have s1:=aM x;have hla:=ct x.args;refine aH (n:=x.size+5) (h':=h0) (aG (ss:=[gU N]) (by simp[hp])) ?_ (Tm.ba _) (by simp[AV.af,AV.refs,Tm.ba]);have hxe:=Tm.ay x;have hxc:=Tm.an x;rw[tS];rw[hxe,hxc] at hno ⊢;by_cases hne:x.args=[]
    ·have a1:x.aJ=.ax∨x.aJ=.sl []:=by
      cases x with
      | nl k n s=>exact .inl rfl
      | mk k n s us=>simp only[Tm.args] at hne;subst hne;exact .inr rfl
     have lp:=Hw (aw (a8 [gU N]) (x.size+4)) (x.size+4) (x.size+3) x.kind x.num x.name x.aJ a1;simp only[mD,zT] at lp;rw[hne];have em:(QL x.kind x.num x.name (List.map bH [])).enc=.agg [.int .i64 x.kind,.int .i64 x.num,.str x.name,.ax]:=rfl;rw[em];rcases a1 with a1 | a1<;>rw[a1] at hno lp ⊢<;>simp[Ry,VA,mD,hno,j3,lp]
    ·obtain⟨y,r,ha⟩:∃y r,x.args=y::r:=by
      cases h:x.args with
      | nil=>exact absurd h hne
      | cons y r=>exact⟨y,r,rfl⟩
     have a1:x.aJ=.sl (x.args.map Tm.enc):=by
      cases x with
      | nl k n s=>exact absurd rfl hne
      | mk k n s us=>rfl
     have h5:=aB x.args;rw[ha] at s1 hla h5;obtain⟨md,lp⟩:=Ke (x.size+3) N y r hN (by omega) x.kind x.num x.name (x.size+4) (by simp at hla;omega);simp only[mD,zT] at lp;have hf2:=aK ((y::r).map bH);have em:(QL x.kind x.num x.name ((y::r).map bH)).enc=.agg [.int .i64 x.kind,.int .i64 x.num,.str x.name,.sl (((y::r).map bH).map Tm.enc)]:=by simp[QL,Tm.enc,j6,Tm.qC]
     have hf:∀(A B C:aC) (wl md d:Nat),gr ⟨4,[.row (aq ((y::r).map bH)),A,B,C],wl,md⟩ 0 (d+2) (.vec 3 0 (r.length+1) 4 (r.length+1))=some (.sl (((y::r).map bH).map Tm.enc),[3]):=fun A B C wl md d=>by
      have:=Na (h:=⟨4,[.row (aq ((y::r).map bH)),A,B,C],wl,md⟩) (n0:=0) (d:=d) (id:=3) (bH y) (r.map bH) (by omega) rfl;simpa using this
     rw[a1] at hno ⊢;rw[ha,em];rw[ha] at hno;generalize (y::r).map bH=Z at *;generalize (y::r).map Tm.enc=E at *;simp[Ry,VA,mD,hno,h5,hf2,hf,lp,j3,wQ]
   ·cases hv
  ·cases hv
 ·cases hv
theorem DU:az Tryz.prog (gU 0):=fun args v hv=>by
 unfold gU at hv;dsimp only at hv;split at hv
 ·split at hv
  ·split at hv
   ·rename_i hc;omega
   ·cases hv
  ·cases hv
 ·cases hv
theorem yz:∀N,N≤1000000001→az Tryz.prog (gU N)
 | 0,_=>DU
 | N+1,h=>Eu N (by omega) (yz N (by omega))
theorem uj (k n:Int) (s:List UInt8) (us:List Tm):(QL k n s us).kind=k∧(QL k n s us).num=n∧(QL k n s us).name=s∧(QL k n s us).args=us:=by
 cases us<;>exact⟨rfl,rfl,rfl,rfl⟩
theorem mY (t:Tm):(bH t).kind=t.kind:=by rw[tS];exact (uj _ _ _ _).1
theorem xo (t:Tm):(bH t).num=t.num:=by rw[tS];exact (uj _ _ _ _).2.1
theorem ll (t:Tm):(bH t).name=t.name:=by rw[tS];exact (uj _ _ _ _).2.2.1
theorem gD (t:Tm):(bH t).args=t.args.map bH:=by rw[tS];exact (uj _ _ _ _).2.2.2
theorem pB (t:Tm):(bH t).args.length=t.args.length:=by rw[gD,List.length_map]
mutual
theorem zm:∀t:Tm,(bH t).size=t.size
 | .nl ..=>rfl
 | .mk k n s us=>by
   rw[aM (bH _),gD,Tm.args,A4 us,Tm.size]
theorem A4:∀l:List Tm,Tm.aI (l.map bH)=Tm.aI l
 | []=>rfl
 | t::r=>by simp only[List.map_cons,Tm.aI,zm t,A4 r]
end
mutual
theorem D9:∀t:Tm,(bH t).eU=t.eU
 | .nl ..=>rfl
 | .mk k n s us=>by
   rw[ng (bH _),gD,ll,Tm.args,Tm.name,Ax us,Tm.eU]
theorem Ax:∀l:List Tm,Tm.kA (l.map bH)=Tm.kA l
 | []=>rfl
 | t::r=>by simp only[List.map_cons,Tm.kA,D9 t,Ax r]
end
mutual
theorem AB:∀t:Tm,(bH t).depth=t.depth
 | .nl ..=>rfl
 | .mk k n s us=>by
   rw[lq (bH _),gD,Tm.args,y8 us,Tm.depth]
theorem y8:∀l:List Tm,Tm.iu (l.map bH)=Tm.iu l
 | []=>rfl
 | t::r=>by simp only[List.map_cons,Tm.iu,AB t,y8 r]
end
theorem P1 (t:Tm):fc (bH t)=fc t:=by
 unfold fc;rw[mY,xo,ll,pB]
mutual
theorem IF:∀t:Tm,(bH t).eM fc=t.eM fc
 | .nl ..=>rfl
 | .mk k n s us=>by
   rw[dd (p:=fc) (bH _),P1,gD,Tm.args,EB us,Tm.eM]
theorem EB:∀l:List Tm,Tm.eN fc (l.map bH)=Tm.eN fc l
 | []=>rfl
 | t::r=>by simp only[List.map_cons,Tm.eN,IF t,EB r]
end
theorem DW (t:Tm):dp (bH t)=dp t:=by
 unfold dp;rw[zm,AB,IF]
theorem Je (t:Tm):dx (bH t)=dx t:=by
 unfold dx;rw[mY,ll,pB]
theorem Ao:∀(k:Nat) (t:Tm),t.size≤k→aE (bH t)=((aE t).1.map bH,bH (aE t).2)
 | 0,t,h=>by have:=aM t;omega
 | k+1,t,h=>by
   cases hd:dx t with
   | false=>
     rw[fT hd,fT (by rw[Je];exact hd)];rfl
   | true=>
     obtain⟨x,r,ha,e⟩:=eb hd;obtain⟨x',r',ha',e'⟩:=eb (t:=bH t) (by rw[Je];exact hd);have hs:=aM t;rw[ha] at hs;simp only[Tm.aI] at hs;rw[gD,ha] at ha';simp only[List.map_cons,List.map_nil,List.cons.injEq,and_true] at ha';obtain⟨rfl,rfl⟩:=ha';rw[e,e',Ao k r (by omega)];rfl
def iK (c:UInt8):Bool:=decide (97≤c.toNat)&&decide (c.toNat≤122)
def ix (c:UInt8):Bool:=(decide (65≤c.toNat)&&decide (c.toNat≤90))||decide (c.toNat=95)
def fP (c:UInt8):Bool:=iK c||ix c||cN c
def z7:List UInt8:=[43,45,42,47,92,94,60,62,61,126,58,46,63,64,35,38,36]
def rK (c:UInt8):Bool:=z7.any fun d=>decide (d.toNat=c.toNat)
def iz (c:UInt8):Bool:=decide (c.toNat=32)||decide (c.toNat=9)||decide (c.toNat=10)||decide (c.toNat=13)
def po:List UInt8:=[40,41,91,93,123,125,44,124]
def fI (c:UInt8):Bool:=po.any fun d=>decide (d.toNat=c.toNat)
def runN (p:UInt8→Bool):List UInt8→Nat
 | []=>0
 | c::r=>if p c then runN p r+1 else 0
theorem gN (p:UInt8→Bool):∀l,runN p l≤l.length
 | []=>Nat.le_refl _
 | c::r=>by
   unfold runN;split
   ·have:=gN p r;simp;omega
   ·simp
def eE (c:UInt8):Bool:=!decide (c.toNat=10)
def bO:Nat→List UInt8→Nat
 | 0,_=>0
 | _+1,[]=>0
 | n+1,c::r=>if iz c then bO n r+1 else if c.toNat=37 then runN eE (c::r)+bO n ((c::r).drop (runN eE (c::r))) else 0
def kv:List UInt8→Bool
 | []=>false
 | c::r=>decide (c.toNat=46)&&(match r with | []=>true | d::_=>iz d||decide (d.toNat=37))
def iX:List UInt8→Nat
 | []=>0
 | c::r=>if rK c&&!kv (c::r) then iX r+1 else 0
def rW (d:UInt8):Option UInt8:=if d.toNat=110 then some 10 else if d.toNat=116 then some 9 else if d.toNat=92 then some 92 else if d.toNat=39 then some 39 else none
def fg:Nat→List UInt8→List UInt8→Nat→Option (List UInt8)×Nat
 | 0,_,_,k=>(none,k)
 | _+1,[],_,k=>(none,k)
 | n+1,c::r,acc,k=>
   if c.toNat=39 then (match r with
    | d::r'=>if d.toNat=39 then fg n r' (acc++[39]) (k+2) else (some acc,k+1)
    | []=>(some acc,k+1))
   else if c.toNat < 32∨126 < c.toNat then (none,k)
   else if c.toNat=92 then (match r with
    | d::r'=>(match rW d with | some b=>fg n r' (acc++[b]) (k+2) | none=>(none,k))
    | []=>(none,k))
   else fg n r (acc++[c]) (k+1)
section
variable {n j:Nat} {c d:UInt8} {r acc:List UInt8}
theorem xn:fg (n+1) [] acc j=(none,j):=by unfold fg;rfl
theorem Dh (hc:c.toNat=39):fg (n+1) [c] acc j=(some acc,j+1):=by unfold fg;rw[if_pos hc]
theorem B4 (hc:c.toNat=39) (hd:d.toNat=39):fg (n+1) (c::d::r) acc j=fg n r (acc++[39]) (j+2):=by
 conv=>lhs;unfold fg
 rw[if_pos hc];dsimp only;rw[if_pos hd]
theorem CY (hc:c.toNat=39) (hd:¬ d.toNat=39):fg (n+1) (c::d::r) acc j=(some acc,j+1):=by unfold fg;rw[if_pos hc];dsimp only;rw[if_neg hd]
theorem xp (hc:¬ c.toNat=39) (h:c.toNat < 32∨126 < c.toNat):fg (n+1) (c::r) acc j=(none,j):=by unfold fg;rw[if_neg hc,if_pos h]
theorem Cb (hc:c.toNat=92):fg (n+1) [c] acc j=(none,j):=by unfold fg;rw[if_neg (by omega),if_neg (by omega),if_pos hc]
theorem Ci {b:UInt8} (hc:c.toNat=92) (hd:rW d=some b):fg (n+1) (c::d::r) acc j=fg n r (acc++[b]) (j+2):=by
 conv=>lhs;unfold fg
 rw[if_neg (by omega),if_neg (by omega),if_pos hc];dsimp only;rw[hd]
theorem CQ (hc:c.toNat=92) (hd:rW d=none):fg (n+1) (c::d::r) acc j=(none,j):=by
 unfold fg;rw[if_neg (by omega),if_neg (by omega),if_pos hc];dsimp only;rw[hd]
theorem Iq (h1:¬ c.toNat=39) (h2:¬ (c.toNat < 32∨126 < c.toNat)) (h3:¬ c.toNat=92):fg (n+1) (c::r) acc j=fg n r (acc++[c]) (j+1):=by
 conv=>lhs;unfold fg
 rw[if_neg h1,if_neg h2,if_neg h3]
theorem B0:∀(n:Nat) (l acc:List UInt8) (j:Nat),l.length < n→(fg n l acc j).2≤j+l.length∧j≤(fg n l acc j).2
 | 0,l,acc,j,h=>by omega
 | n+1,[],acc,j,_=>by rw[xn];simp
 | n+1,c::r,acc,j,h=>by
   simp only[List.length_cons] at h ⊢;by_cases h1:c.toNat=39
   ·cases r with
    | nil=>rw[Dh h1];simp
    | cons d r'=>
      simp only[List.length_cons] at h ⊢;by_cases h2:d.toNat=39
      ·rw[B4 h1 h2];have:=B0 n r' (acc++[39]) (j+2) (by omega);omega
      ·rw[CY h1 h2];dsimp only;omega
   ·by_cases h2:c.toNat < 32∨126 < c.toNat
    ·rw[xp h1 h2];dsimp only;omega
    ·by_cases h3:c.toNat=92
     ·cases r with
      | nil=>rw[Cb h3];simp
      | cons d r'=>
        simp only[List.length_cons] at h ⊢
        cases hd:rW d with
        | none=>rw[CQ h3 hd];dsimp only;omega
        | some b=>
          rw[Ci h3 hd];have:=B0 n r' (acc++[b]) (j+2) (by omega);omega
     ·rw[Iq h1 h2 h3];have:=B0 n r (acc++[c]) (j+1) (by omega);omega
end
structure Tok where
 kind:Int
 text:List UInt8
 num:Int
 X6:Bool
 at_:Int
 deriving DecidableEq
def Tok.cells (t:Tok):List AV:=[.int .i64 t.kind,.str t.text,.int .i64 t.num,.bool t.X6,.int .i64 t.at_]
def Tok.enc (t:Tok):AV:=.agg t.cells
def jm:Tok:=⟨0,[],0,false,0⟩
def gJ:List UInt8→Tok×Nat×Int
 | []=>(jm,0,2)
 | c::r=>
   if iK c then (⟨1,(c::r).take (runN fP (c::r)),0,false,0⟩,runN fP (c::r),0)
   else if ix c then (⟨3,(c::r).take (runN fP (c::r)),0,false,0⟩,runN fP (c::r),0)
   else if cN c then (⟨4,[],(fX ((c::r).take (runN cN (c::r)))).1,false,0⟩,runN cN (c::r),(fX ((c::r).take (runN cN (c::r)))).2)
   else if c.toNat=39 then (match fg (r.length+1) r [] 1 with
    | (some t,k)=>(⟨2,t,0,false,0⟩,k,0)
    | (none,k)=>(jm,k,2))
   else if kv (c::r) then (⟨6,[],0,false,0⟩,1,0)
   else if rK c then (⟨1,(c::r).take (iX (c::r)),0,false,0⟩,iX (c::r),0)
   else if c.toNat=59∨c.toNat=33 then (⟨1,[c],0,false,0⟩,1,0)
   else (match r with
    | d::_=>if (c.toNat=91∧d.toNat=93)∨(c.toNat=123∧d.toNat=125) then (⟨1,[c,d],0,false,0⟩,2,0) else if fI c then (⟨5,[c],0,false,0⟩,1,0) else (jm,0,2)
    | []=>if fI c then (⟨5,[c],0,false,0⟩,1,0) else (jm,0,2))
def ml:Nat→List UInt8→Nat→List Tok→List Tok×Int×Int
 | 0,_,j,_=>([],j,3)
 | n+1,s,j,acc=>
   if s.length≤j then (acc,s.length,0)
   else if (gJ (s.drop j)).2.2≠0 then ([],j,(gJ (s.drop j)).2.2)
   else if (((gJ (s.drop j)).1.kind=1∨(gJ (s.drop j)).1.kind=2)∧64 < (gJ (s.drop j)).1.text.length)∨acc.length=1024 then ([],j,3)
   else ml n s (j+(gJ (s.drop j)).2.1+bO (s.length+1) (s.drop (j+(gJ (s.drop j)).2.1)))
    (acc++[⟨(gJ (s.drop j)).1.kind,(gJ (s.drop j)).1.text,(gJ (s.drop j)).1.num,decide ((s[j+(gJ (s.drop j)).2.1]?.map UInt8.toNat)=some 40),j⟩])
def od (s:List UInt8):List Tok×Int×Int:=if 4096 < s.length then ([],4096,3) else ml (s.length+1) s (bO (s.length+1) s) []
theorem mL {p:UInt8→Bool} {c:UInt8} {r:List UInt8} (h:p c=true):1≤runN p (c::r):=by unfold runN;rw[if_pos h];omega
theorem ye:∀l,iX l≤l.length
 | []=>Nat.le_refl _
 | c::r=>by
   unfold iX;split
   ·have:=ye r;simp;omega
   ·simp
theorem nk:∀l:List UInt8,(gJ l).2.1≤l.length∧((gJ l).2.2=0→1≤(gJ l).2.1)
 | []=>⟨Nat.le_refl _,fun h=>by simp[gJ] at h⟩
 | c::r=>by
   unfold gJ;dsimp only;by_cases h1:iK c=true
   ·rw[if_pos h1];exact⟨gN _ _,fun _=>mL (by unfold fP;rw[h1];rfl)⟩
   rw[if_neg h1];by_cases h2:ix c=true
   ·rw[if_pos h2];exact⟨gN _ _,fun _=>mL (by unfold fP;rw[h2];simp)⟩
   rw[if_neg h2];by_cases h3:cN c=true
   ·rw[if_pos h3];exact⟨gN _ _,fun _=>mL h3⟩
   rw[if_neg h3];by_cases h4:c.toNat=39
   ·rw[if_pos h4];obtain⟨b1,b2⟩:=B0 (r.length+1) r [] 1 (by omega);generalize fg (r.length+1) r [] 1=q at *;obtain⟨a,k⟩:=q;have b3:k≤1+r.length:=b1;have b4:1≤k:=b2
    cases a with
    | none=>exact⟨(show k≤r.length+1 by omega),fun h=>by simp at h⟩
    | some t=>exact⟨(show k≤r.length+1 by omega),fun _=>b4⟩
   rw[if_neg h4];by_cases h5:kv (c::r)=true
   ·rw[if_pos h5];exact⟨by simp,fun _=>Nat.le_refl _⟩
   rw[if_neg h5];by_cases h6:rK c=true
   ·rw[if_pos h6];refine⟨ye _,fun _=>?_⟩;unfold iX;rw[if_pos (by rw[h6];simp[h5])];omega
   rw[if_neg h6];by_cases h7:c.toNat=59∨c.toNat=33
   ·rw[if_pos h7];exact⟨by simp,fun _=>Nat.le_refl _⟩
   rw[if_neg h7]
   cases r with
   | nil=>
     dsimp only;split
     ·exact⟨by simp,fun _=>Nat.le_refl _⟩
     ·exact⟨by simp,fun h=>by simp at h⟩
   | cons d r'=>
     dsimp only;split
     ·exact⟨by simp,fun _=>(show 1≤2 by omega)⟩
     ·split
      ·exact⟨by simp,fun _=>Nat.le_refl _⟩
      ·exact⟨by simp,fun h=>by simp at h⟩
theorem tw (n:Nat):∀l:List UInt8,decide (0≤ie n l)=l.any fun d=>decide (d.toNat=n)
 | []=>rfl
 | d::r=>by
   unfold ie;rw[List.any_cons];by_cases h:d.toNat=n
   ·have:Nat.beq d.toNat n=true:=by rw[h];exact Nat.beq_refl n
    rw[this,if_pos rfl,decide_eq_true h];rfl
   ·have:Nat.beq d.toNat n=false:=by
     cases hb:Nat.beq d.toNat n with
     | false=>rfl
     | true=>exact absurd (Nat.eq_of_beq_eq_true hb) h
    rw[this,if_neg (by simp),decide_eq_false h,Bool.false_or,←tw n r]
    cases ie n r with
    | ofNat k=>simp;omega
    | negSucc k=>simp
def Gd (f:Nat) (p:UInt8→Bool):ai:=⟨f,fun | [.int .u8 n]=>if 0≤n∧n < 256 then some (.bool (p (UInt8.ofNat n.toNat))) else none | _=>none⟩
theorem im (f:Nat) (p:UInt8→Bool) (c:UInt8):(Gd f p).S [.int .u8 c.toNat]=some (.bool (p c)):=by
 have h:=c.toNat_lt;have e:UInt8.ofNat (c.toNat:Int).toNat=c:=by simp
 simp only[Gd,e];rw[if_pos (by omega)]
theorem lB {f:Nat} {p:UInt8→Bool} (h:∀c:UInt8,Mw Tryz.prog f [.int .u8 c.toNat] (.bool (p c))):az Tryz.prog (Gd f p):=fun args v hv=>by
 unfold Gd at hv;dsimp only at hv;split at hv
 ·rename_i n;split at hv
  ·rename_i hc;cases hv;have e:n=((UInt8.ofNat n.toNat).toNat:Int):=by rw[UInt8.toNat_ofNat'];omega
   have:=h (UInt8.ofNat n.toNat);rw[←e] at this;exact this
  ·cases hv
 ·cases hv
def o7:ai:=Gd 75 iK
theorem AG:az Tryz.prog o7:=lB fun c=>by
 refine aH (n:=4) (h':=h0) (aG (ss:=[]) (by simp)) ?_ rfl rfl;unfold iK;have e97:((97:Int)≤(c.toNat:Int))=(97≤c.toNat):=propext ⟨fun h=>by omega,fun h=>by omega⟩;have e122:((c.toNat:Int)≤122)=(c.toNat≤122):=propext ⟨fun h=>by omega,fun h=>by omega⟩;by_cases h1:97≤c.toNat
 ·by_cases h2:c.toNat≤122
  ·simp[Po,c75,e97,e122,h1,h2]
  ·simp[Po,c75,e97,e122,h1,h2]
 ·simp[Po,c75,e97,e122,h1]
def oM:ai:=Gd 78 cN
theorem yN:az Tryz.prog oM:=lB fun c=>by
 refine aH (n:=4) (h':=h0) (aG (ss:=[]) (by simp)) ?_ rfl rfl;unfold cN;have e48:((48:Int)≤(c.toNat:Int))=(48≤c.toNat):=propext ⟨fun h=>by omega,fun h=>by omega⟩;have e57:((c.toNat:Int)≤57)=(c.toNat≤57):=propext ⟨fun h=>by omega,fun h=>by omega⟩;by_cases h1:48≤c.toNat
 ·by_cases h2:c.toNat≤57
  ·simp[NZ,UA,e48,e57,h1,h2]
  ·simp[NZ,UA,e48,e57,h1,h2]
 ·simp[NZ,UA,e48,e57,h1]
def oD:ai:=Gd 77 ix
theorem By:az Tryz.prog oD:=lB fun c=>by
 refine aH (n:=4) (h':=h0) (aG (ss:=[]) (by simp)) ?_ rfl rfl;unfold ix;have e65:((65:Int)≤(c.toNat:Int))=(65≤c.toNat):=propext ⟨fun h=>by omega,fun h=>by omega⟩;have e90:((c.toNat:Int)≤90)=(c.toNat≤90):=propext ⟨fun h=>by omega,fun h=>by omega⟩;have e:((c.toNat:Int)=95)=(c.toNat=95):=propext ⟨fun h=>by omega,fun h=>by omega⟩;by_cases h1:65≤c.toNat
 ·by_cases h2:c.toNat≤90
  ·simp[EU,RW,e65,e90,h1,h2]
  ·by_cases h3:c.toNat=95
   ·simp[EU,RW,e65,e90,h1,h2,h3,e]
   ·simp[EU,RW,e65,e90,h1,h2,h3,e]
 ·by_cases h3:c.toNat=95
  ·simp[EU,RW,e65,e90,h1,h3,e]
  ·simp[EU,RW,e65,e90,h1,h3,e]
def DN:ai:=Gd 76 fP
theorem O0:az Tryz.prog DN:=lB fun c=>by
 refine aH (n:=4) (h':=h0) (aG (ss:=[o7,oD,oM]) (by simp[AG,By,yN])) ?_ rfl rfl;have c1:o7.S [.int .u8 c.toNat]=_:=im _ _ c;have c2:oD.S [.int .u8 c.toNat]=_:=im _ _ c;have c3:oM.S [.int .u8 c.toNat]=_:=im _ _ c;have f1:o7.f=75:=(rfl)
 have f2:oD.f=77:=(rfl)
 have f3:oM.f=78:=(rfl)
 unfold fP;cases h1:iK c<;>cases h2:ix c<;>cases h3:cN c<;>rw[h1] at c1<;>rw[h2] at c2<;>rw[h3] at c3<;>simp[Vm,c76,c1,c2,c3,f1,f2,f3]
def UX:ai:=Gd 74 eE
theorem SU:az Tryz.prog UX:=lB fun c=>by
 refine aH (n:=4) (h':=h0) (aG (ss:=[]) (by simp)) ?_ rfl rfl;unfold eE;have e:((c.toNat:Int)=10)=(c.toNat=10):=propext ⟨fun h=>by omega,fun h=>by omega⟩;by_cases h3:c.toNat=10
 ·simp[R3,Vg,h3,e]
 ·simp[R3,Vg,h3,e]
def KO:ai:=Gd 82 rK
theorem Jx:az Tryz.prog KO:=lB fun c=>by
 refine aH (n:=4) (h':=h0) (aG (ss:=[ff]) (by simp[jO])) ?_ rfl rfl;have c1:=dC z7 c;have e:rK c=decide (0≤ie c.toNat z7):=(tw _ _).symm;rw[e];generalize ie c.toNat z7=x at *;simp only[z7] at c1;simp[Vp,WD,c1,ar]
theorem FW (C:Nat→List AV→aa→Option (AV×aa)) (n g:Nat) (p:UInt8→Bool) (hC:∀(c:UInt8) (h:aa),C g [.int .u8 c.toNat] h=some (.bool (p c),h)) (s:List UInt8) (hl:s.length < 1000000000) (i0:Int):
 ∀(post pre:List UInt8) (m:Nat) (md:Nat),s=pre++post→post.length < m→
 ∃md',er 1 1 (aT (ak C n zh) rL 1 m (Ss (.ptr 0 0) (.fn g []) (.int .i64 i0)) ⟨1,[.row [.str s,.int .i64 pre.length]],1,md⟩)=
   some (.exit 0,FM 50 [(0,.ptr 0 0),(5,.int .i64 i0)],⟨1,[.row [.str s,.int .i64 (pre.length+runN p post:Nat)]],1,md'⟩)
 | [],pre,m+1,md,e,_=>by
   simp at e;subst e;rw[ae];exact⟨md,by simp[zh,rL,runN]⟩
 | c::post,pre,m+1,md,e,hm=>by
   have h1:s[pre.length]? =some c:=by rw[e];simp
   have hpl:pre.length < s.length:=by rw[e];simp
   have h3:IntKind.i64.wrap ((pre.length:Int)+1)=(pre.length:Int)+1:=wrap_i64 (by omega) (by omega);have h6:((pre.length:Int) < (s.length:Int))=True:=eq_true (by omega);rw[ae];unfold runN
   cases hp:p c with
   | false=>exact⟨md,by simp[zh,rL,h1,h6,hC,hp]⟩
   | true=>
     obtain⟨md',ih⟩:=FW C n g p hC s hl i0 post (pre++[c]) m 0 (by simp[e]) (by rw[List.length_cons] at hm;omega);refine⟨md',?_⟩;simp only[List.length_append,List.length_cons,List.length_nil,Nat.zero_add,Int.natCast_add,Int.natCast_one] at ih;simp only[if_true];rw[show pre.length+(runN p post+1)=pre.length+1+runN p post by omega];simp[zh,rL,h1,h3,h6,hC,hp];exact ih
theorem pK {s:List UInt8} {k q:Nat} (h:k+q≤s.length):sliceB s.length (some (.int .i64 k)) (some (.int .i64 (k+q:Nat)))=some (k,k+q)∧(s.take (k+q)).drop k=(s.drop k).take q:=by
 refine⟨?_,by rw[List.drop_take,Nat.add_sub_cancel_left]⟩;have a1:(0:Int)≤((k+q:Nat):Int)∧((k+q:Nat):Int)≤(s.length:Int):=by omega
 have a2:(k:Int)≤((k+q:Nat):Int):=by omega
 have a3:((k+q:Nat):Int).toNat=k+q:=by omega
 have a4:(k:Int)≤(k:Int)+(q:Int):=by omega
 generalize ((k+q:Nat):Int)=Q at *;simp[sliceB,a1,a2,a3,a4]
def rh (g:Nat):Option (UInt8→Bool):=if g=76 then some fP else if g=78 then some cN else if g=74 then some eE else none
def runM:aU:=⟨73,fun
 | [.ptr 0 0,.fn g []],[.row [.str s,.int .i64 i]]=>(match rh g with
   | some p=>if s.length < 1000000000∧0≤i∧i≤s.length then some (.str ((s.drop i.toNat).take (runN p (s.drop i.toNat))),some [.row [.str s,.int .i64 (i.toNat+runN p (s.drop i.toNat):Nat)]]) else none
   | none=>none)
 | _,_=>none⟩
theorem fD:runM.f=73:=(rfl)
theorem Dc (g:Nat) (p:UInt8→Bool) (hp:rh g=some p) (s:List UInt8) (k:Nat) (hl:s.length < 1000000000) (hk:k≤s.length):
 runM.S [.ptr 0 0,.fn g []] [.row [.str s,.int .i64 k]]=some (.str ((s.drop k).take (runN p (s.drop k))),some [.row [.str s,.int .i64 (k+runN p (s.drop k):Nat)]]):=by
 simp only[runM,hp];rw[if_pos ⟨hl,by omega,by omega⟩,Int.toNat_natCast]
theorem Rw:DN.f=76:=(rfl)
theorem gq:oM.f=78:=(rfl)
theorem UC:UX.f=74:=(rfl)
def PA:List ai:=[DN,oM,UX]
theorem S6:∀s ∈ PA,az Tryz.prog s:=by simp[PA,O0,yN,SU]
theorem UN (n g:Nat) (p:UInt8→Bool) (hp:rh g=some p) (c:UInt8) (h:aa):aw (cW PA []) (n+1) g [.int .u8 c.toNat] h=some (.bool (p c),h):=by
 have f1:DN.f=76:=(rfl)
 have f2:oM.f=78:=(rfl)
 have f3:UX.f=74:=(rfl)
 unfold rh at hp;split at hp
 ·rename_i e;subst e;cases hp;have c1:DN.S [.int .u8 c.toNat]=_:=im _ _ c;simp[PA,f1,f2,f3,c1]
 ·split at hp
  ·rename_i e;subst e;cases hp;have c1:oM.S [.int .u8 c.toNat]=_:=im _ _ c;simp[PA,f1,f2,f3,c1]
  ·split at hp
   ·rename_i e;subst e;cases hp;have c1:UX.S [.int .u8 c.toNat]=_:=im _ _ c;simp[PA,f1,f2,f3,c1]
   ·cases hp
theorem IX:iY Tryz.prog runM:=fun args os v r hv=>by
 unfold runM at hv;dsimp only at hv;split at hv
 ·rename_i g s i;split at hv
  ·rename_i p hp;split at hv
   ·rename_i hc;cases hv;obtain⟨k,rfl⟩:∃k:Nat,i=(k:Int):=⟨i.toNat,by omega⟩
    rw[Int.toNat_natCast,fD];have hk:k≤s.length:=by omega
    have hse:s=s.take k++s.drop k:=(List.take_append_drop k s).symm;have hlt:(s.take k).length=k:=by rw[List.length_take];omega
    obtain⟨md',lp⟩:=FW (aw (cW PA []) (s.length+4)) (s.length+4) g p (fun c h=>UN (s.length+3) g p hp c h) s hc.1 k (s.drop k) (s.take k) (s.length+4) 1 hse (by rw[List.length_drop];omega);rw[hlt] at lp;have hrl:=gN p (s.drop k);rw[List.length_drop] at hrl;obtain⟨hsl,htd⟩:=pK (s:=s) (k:=k) (q:=runN p (s.drop k)) (by omega);refine ur (n:=s.length+5) (h1:=⟨1,[.row [.str s,.int .i64 (k+runN p (s.drop k):Nat)]],1,min 1 md'⟩) (pH (ss:=PA) (ms:=[]) S6 (by simp)) ?_ rfl rfl rfl rfl;rw[qy];simp only[rL,PA] at lp;generalize (s.drop k).take (runN p (s.drop k))=res at *;generalize k+runN p (s.drop k)=q at *;simp[PA,TE,Wq,rL,lp,hsl,htd,Rw,gq,UC];omega
   ·cases hv
  ·cases hv
 ·cases hv
theorem BS (c:UInt8):([32,9,10,13]:List UInt8).any (fun d=>decide (d.toNat=c.toNat))=iz c:=by
 simp only[List.any_cons,List.any_nil,Bool.or_false,iz]
 have e:∀n:Nat,decide (n=c.toNat)=decide (c.toNat=n):=fun n=>by
  by_cases h:c.toNat=n
  ·rw[decide_eq_true h,decide_eq_true h.symm]
  ·rw[decide_eq_false h,decide_eq_false (Ne.symm h)]
 rw[show (32:UInt8).toNat=32 from rfl,show (9:UInt8).toNat=9 from rfl,show (10:UInt8).toNat=10 from rfl,show (13:UInt8).toNat=13 from rfl,e,e,e,e];simp[Bool.or_assoc]
def jk:List ai:=[ff]
theorem Gg:∀s ∈ jk,az Tryz.prog s:=by simp[jk,jO]
def LR:List aU:=[runM]
theorem SV:∀m ∈ LR,iY Tryz.prog m:=by simp[LR,IX]
theorem yX (n:Nat) (s:List UInt8) (hl:s.length < 1000000000):∀(f k m md:Nat),k≤s.length→s.length - k < f→f≤m→
 ∃ex md',(ex=.exit 0∨ex=.ret)∧er 1 1 (aT (ak (aw (cW jk LR) (n+1)) (n+1) vG) nP 1 m (TN (.ptr 0 0)) ⟨1,[.row [.str s,.int .i64 k]],1,md⟩)=
   some (ex,FM 44 [],⟨1,[.row [.str s,.int .i64 (k+bO f (s.drop k):Nat)]],1,md'⟩)
 | 0,k,m,md,_,h,_=>by omega
 | f+1,k,0,md,_,_,h=>by omega
 | f+1,k,m+1,md,hk,hf,hm=>by
   rw[ae];by_cases he:k=s.length
   ·subst he;refine⟨.exit 0,md,.inl rfl,?_⟩;have:s.drop s.length=[]:=List.drop_length;rw[this];simp[vG,nP,bO]
   ·have hks:k < s.length:=by omega
    obtain⟨c,hc⟩:∃c,s[k]? =some c:=⟨s[k],List.getElem?_eq_getElem hks⟩
    have hd:s.drop k=c::s.drop (k+1):=by
     rw[List.drop_eq_getElem_cons hks];congr 1;rw[List.getElem?_eq_getElem hks] at hc;exact Option.some.inj hc
    have h6:((k:Int) < (s.length:Int))=True:=eq_true (by omega);have h3:IntKind.i64.wrap ((k:Int)+1)=(k:Int)+1:=wrap_i64 (by omega) (by omega);have c1:=dC [32,9,10,13] c;have e1:=tw c.toNat [32,9,10,13];rw[BS] at e1;generalize ie c.toNat [32,9,10,13]=x at c1 e1;rw[hd];unfold bO
    cases hb:iz c with
    | true=>
      rw[hb] at e1;have e2:(0≤x)=True:=eq_true (of_decide_eq_true e1);obtain⟨ex,md',hex,ih⟩:=yX n s hl f (k+1) m 0 (by omega) (by omega) (by omega);refine⟨ex,md',hex,?_⟩;simp only[if_true];rw[show k+(bO f (s.drop (k+1))+1)=k+1+bO f (s.drop (k+1)) by omega];simp only[jk,LR,Int.natCast_add,Int.natCast_one] at ih;simp[jk,LR,vG,nP,hc,h6,h3,c1,e2,ar,fD];exact ih
    | false=>
      rw[hb] at e1;have e2:(0≤x)=False:=eq_false (of_decide_eq_false e1);simp only[Bool.false_eq_true,if_false];by_cases h37:c.toNat=37
      ·have e3:((c.toNat:Int)=37)=True:=eq_true (by omega);rw[if_pos h37];have hr:=Dc 74 eE (by simp[rh]) s k hl hk;rw[hd] at hr
       have hrn:runN eE (c::s.drop (k+1))≤s.length - k:=by
        have:=gN eE (c::s.drop (k+1));rw[←hd,List.length_drop] at this;rw[hd] at this;exact this
       have hr1:1≤runN eE (c::s.drop (k+1)):=by
        unfold runN;have:eE c=true:=by unfold eE;rw[decide_eq_false (by omega)];rfl
        rw[this];simp
       obtain⟨ex,md',hex,ih⟩:=yX n s hl f (k+runN eE (c::s.drop (k+1))) m 0 (by omega) (by omega) (by omega);refine⟨ex,md',hex,?_⟩;have hdd:(c::s.drop (k+1)).drop (runN eE (c::s.drop (k+1)))=s.drop (k+runN eE (c::s.drop (k+1))):=by rw[←hd,List.drop_drop]
       rw[hdd];generalize hq:runN eE (c::s.drop (k+1))=q at *;rw[←Nat.add_assoc];simp only[jk,LR,Int.natCast_add,Int.natCast_one] at ih;simp[jk,LR,vG,nP,hc,h6,h3,c1,e2,e3,hr,ar,fD];exact ih
      ·have e3:((c.toNat:Int)=37)=False:=eq_false (by omega);rw[if_neg h37];refine⟨.ret,md,.inr rfl,?_⟩;simp[jk,LR,vG,nP,hc,h6,h3,c1,e2,e3,ar,fD]
theorem pq:∀(f:Nat) (l:List UInt8),bO f l≤l.length
 | 0,l=>by simp[bO]
 | f+1,[]=>by simp[bO]
 | f+1,c::r=>by
   unfold bO;split
   ·have:=pq f r;simp;omega
   ·split
    ·have h1:=pq f ((c::r).drop (runN eE (c::r)));have h2:=gN eE (c::r);rw[List.length_drop] at h1;omega
    ·simp
def xL:aU:=⟨44,fun
 | [.ptr 0 0],[.row [.str s,.int .i64 i]]=>if s.length < 1000000000∧0≤i∧i≤s.length then some (.tuple [],some [.row [.str s,.int .i64 (i.toNat+bO (s.length+1) (s.drop i.toNat):Nat)]]) else none
 | _,_=>none⟩
theorem cr:xL.f=44:=(rfl)
theorem yF (s:List UInt8) (k:Nat) (hl:s.length < 1000000000) (hk:k≤s.length):
 xL.S [.ptr 0 0] [.row [.str s,.int .i64 k]]=some (.tuple [],some [.row [.str s,.int .i64 (k+bO (s.length+1) (s.drop k):Nat)]]):=by
 simp only[xL];rw[if_pos ⟨hl,by omega,by omega⟩,Int.toNat_natCast]
theorem OQ:iY Tryz.prog xL:=fun args os v r hv=>by
 unfold xL at hv;dsimp only at hv;split at hv
 ·rename_i s i;split at hv
  ·rename_i hc;cases hv;obtain⟨k,rfl⟩:∃k:Nat,i=(k:Int):=⟨i.toNat,by omega⟩
   rw[Int.toNat_natCast,cr];obtain⟨ex,md',hex,lp⟩:=yX (s.length+4) s hc.1 (s.length+1) k (s.length+5) 1 (by omega) (by omega) (by omega);refine ur (n:=s.length+6) (h1:=⟨1,[.row [.str s,.int .i64 (k+bO (s.length+1) (s.drop k):Nat)]],1,min 1 md'⟩) (pH (ss:=jk) (ms:=LR) Gg SV) ?_ rfl rfl rfl rfl;rw[qy];simp only[nP,jk,LR] at lp;generalize k+bO (s.length+1) (s.drop k)=q at *;rcases hex with rfl | rfl
   ·simp[jk,LR,Pc,V1,nP,lp,ar,fD];omega
   ·simp[jk,LR,Pc,V1,nP,lp,ar,fD];omega
  ·cases hv
 ·cases hv
theorem dR {s:List UInt8} {k:Nat} (h:k < s.length):∃c,s[k]? =some c∧s.drop k=c::s.drop (k+1):=
 ⟨s[k],List.getElem?_eq_getElem h,by rw[List.drop_eq_getElem_cons h]⟩
theorem uX (c:UInt8):kv [c]=decide (c.toNat=46):=by simp[kv]
theorem vB (c d:UInt8) (r:List UInt8):kv (c::d::r)=(decide (c.toNat=46)&&(iz d||decide (d.toNat=37))):=rfl
theorem Az {c:UInt8} {r:List UInt8} (h:¬ c.toNat=46):kv (c::r)=false:=by
 cases r with
 | nil=>rw[uX];exact decide_eq_false h
 | cons d r=>rw[vB,decide_eq_false h];rfl
def xN:aU:=⟨81,fun
 | [.ptr 0 0],[.row [.str s,.int .i64 i]]=>if s.length < 1000000000∧0≤i∧i < s.length then some (.bool (kv (s.drop i.toNat)),none) else none
 | _,_=>none⟩
theorem eG:xN.f=81:=(rfl)
theorem E9 (s:List UInt8) (k:Nat) (hl:s.length < 1000000000) (hk:k < s.length):
 xN.S [.ptr 0 0] [.row [.str s,.int .i64 k]]=some (.bool (kv (s.drop k)),none):=by
 simp only[xN];rw[if_pos ⟨hl,by omega,by omega⟩,Int.toNat_natCast]
theorem HT (c:UInt8):([32,9,10,13,37]:List UInt8).any (fun d=>decide (d.toNat=c.toNat))=(iz c||decide (c.toNat=37)):=by
 have:=BS c;simp only[List.any_cons,List.any_nil,Bool.or_false] at this ⊢;rw[←this]
 have e:decide ((37:UInt8).toNat=c.toNat)=decide (c.toNat=37):=by
  by_cases h:c.toNat=37
  ·rw[decide_eq_true h,decide_eq_true (show (37:UInt8).toNat=c.toNat from h.symm)]
  ·rw[decide_eq_false h,decide_eq_false (show ¬ (37:UInt8).toNat=c.toNat from fun e=>h e.symm)]
 rw[e];simp[Bool.or_assoc]
theorem FQ:iY Tryz.prog xN:=fun args os v r hv=>by
 unfold xN at hv;dsimp only at hv;split at hv
 ·rename_i s i;split at hv
  ·rename_i hc;cases hv;obtain⟨k,rfl⟩:∃k:Nat,i=(k:Int):=⟨i.toNat,by omega⟩
   rw[Int.toNat_natCast,eG];obtain⟨c,h1,hd⟩:=dR (s:=s) (k:=k) (by omega);have h3:IntKind.i64.wrap ((k:Int)+1)=(k:Int)+1:=wrap_i64 (by omega) (by omega);refine BA (n:=6) (h1:=⟨1,[.row [.str s,.int .i64 k]],1,1⟩) (pH (ss:=jk) (ms:=[]) Gg (by simp)) ?_ rfl rfl rfl rfl;rw[qy,hd];by_cases h46:c.toNat=46
   ·have e1:((c.toNat:Int)=46)=True:=eq_true (by omega);by_cases hlast:k+1=s.length
    ·have hn:s.drop (k+1)=[]:=by rw[hlast];exact List.drop_length
     have e2:((k:Int)+1=(s.length:Int))=True:=eq_true (by omega);rw[hn,uX,decide_eq_true h46];simp[jk,Hk,Uw,h1,h3,e1,e2,ar]
    ·obtain⟨d,h2,hd2⟩:=dR (s:=s) (k:=k+1) (by omega);have e2:((k:Int)+1=(s.length:Int))=False:=eq_false (by omega);have c1:=dC [32,9,10,13,37] d;have e3:=tw d.toNat [32,9,10,13,37];rw[HT] at e3;generalize ie d.toNat [32,9,10,13,37]=x at c1 e3;have h2':((k:Int)+1).toNat=k+1:=by omega
     have h2'':((0:Int)≤(k:Int)+1)=True:=eq_true (by omega);rw[hd2,vB,decide_eq_true h46,←e3];simp[jk,Hk,Uw,h1,h2,h2',h2'',h3,e1,e2,c1,ar]
   ·have e1:((c.toNat:Int)=46)=False:=eq_false (by omega);rw[Az h46];simp[jk,Hk,Uw,h1,h3,e1,ar]
  ·cases hv
 ·cases hv
def PG:List ai:=[KO]
theorem Sb:∀s ∈ PG,az Tryz.prog s:=by simp[PG,Jx]
def PF:List aU:=[xN]
theorem TQ:∀m ∈ PF,iY Tryz.prog m:=by simp[PF,FQ]
theorem gE:KO.f=82:=(rfl)
theorem Ii (c:UInt8):KO.S [.int .u8 c.toNat]=some (.bool (rK c)):=im _ _ c
theorem Jw:∀l,iX l≤l.length
 | []=>Nat.le_refl _
 | c::r=>by
   unfold iX;split
   ·have:=Jw r;simp;omega
   ·simp
theorem FP (n:Nat) (s:List UInt8) (hl:s.length < 1000000000) (i0:Int):∀(post pre:List UInt8) (m:Nat) (md:Nat),s=pre++post→post.length < m→
 ∃md',er 1 1 (aT (ak (aw (cW PG PF) (n+1)) (n+1) vM) oO 1 m (St (.ptr 0 0) (.int .i64 i0)) ⟨1,[.row [.str s,.int .i64 pre.length]],1,md⟩)=
   some (.exit 0,FM 52 [(0,.ptr 0 0),(3,.int .i64 i0)],⟨1,[.row [.str s,.int .i64 (pre.length+iX post:Nat)]],1,md'⟩)
 | [],pre,m+1,md,e,_=>by
   simp at e;subst e;rw[ae];exact⟨md,by simp[vM,oO,iX]⟩
 | c::post,pre,m+1,md,e,hm=>by
   have h1:s[pre.length]? =some c:=by rw[e];simp
   have hpl:pre.length < s.length:=by rw[e];simp
   have hdp:s.drop pre.length=c::post:=by rw[e];simp
   have h3:IntKind.i64.wrap ((pre.length:Int)+1)=(pre.length:Int)+1:=wrap_i64 (by omega) (by omega);have h6:((pre.length:Int) < (s.length:Int))=True:=eq_true (by omega);have c1:=Ii c;have c2:=E9 s pre.length hl hpl;rw[hdp] at c2;rw[ae];unfold iX
   cases hp:rK c with
   | false=>
     rw[hp] at c1;exact⟨md,by simp[PG,PF,vM,oO,h1,h6,c1,gE,eG]⟩
   | true=>
     rw[hp] at c1
     cases hq:kv (c::post) with
     | true=>
       rw[hq] at c2;exact⟨md,by simp[PG,PF,vM,oO,h1,h6,c1,c2,gE,eG]⟩
     | false=>
       rw[hq] at c2;obtain⟨md',ih⟩:=FP n s hl i0 post (pre++[c]) m 0 (by simp[e]) (by rw[List.length_cons] at hm;omega);refine⟨md',?_⟩;simp only[List.length_append,List.length_cons,List.length_nil,Nat.zero_add,PG,PF,Int.natCast_add,Int.natCast_one] at ih;simp only[Bool.not_false,Bool.and_self,if_true];rw[show pre.length+(iX post+1)=pre.length+1+iX post by omega];simp[PG,PF,vM,oO,h1,h3,h6,c1,c2,gE,eG];exact ih
def AQ:aU:=⟨83,fun
 | [.ptr 0 0],[.row [.str s,.int .i64 i]]=>if s.length < 1000000000∧0≤i∧i≤s.length then some (.str ((s.drop i.toNat).take (iX (s.drop i.toNat))),some [.row [.str s,.int .i64 (i.toNat+iX (s.drop i.toNat):Nat)]]) else none
 | _,_=>none⟩
theorem gl:AQ.f=83:=(rfl)
theorem OS (s:List UInt8) (k:Nat) (hl:s.length < 1000000000) (hk:k≤s.length):
 AQ.S [.ptr 0 0] [.row [.str s,.int .i64 k]]=some (.str ((s.drop k).take (iX (s.drop k))),some [.row [.str s,.int .i64 (k+iX (s.drop k):Nat)]]):=by
 simp only[AQ];rw[if_pos ⟨hl,by omega,by omega⟩,Int.toNat_natCast]
theorem OZ:iY Tryz.prog AQ:=fun args os v r hv=>by
 unfold AQ at hv;dsimp only at hv;split at hv
 ·rename_i s i;split at hv
  ·rename_i hc;cases hv;obtain⟨k,rfl⟩:∃k:Nat,i=(k:Int):=⟨i.toNat,by omega⟩
   rw[Int.toNat_natCast,gl];have hk:k≤s.length:=by omega
   have hse:s=s.take k++s.drop k:=(List.take_append_drop k s).symm;have hlt:(s.take k).length=k:=by rw[List.length_take];omega
   obtain⟨md',lp⟩:=FP (s.length+4) s hc.1 k (s.drop k) (s.take k) (s.length+5) 1 hse (by rw[List.length_drop];omega);rw[hlt] at lp;have hrl:=Jw (s.drop k);rw[List.length_drop] at hrl;obtain⟨hsl,htd⟩:=pK (s:=s) (k:=k) (q:=iX (s.drop k)) (by omega);refine ur (n:=s.length+6) (h1:=⟨1,[.row [.str s,.int .i64 (k+iX (s.drop k):Nat)]],1,min 1 md'⟩) (pH (ss:=PG) (ms:=PF) Sb TQ) ?_ rfl rfl rfl rfl;rw[qy];simp only[oO,PG,PF] at lp;generalize (s.drop k).take (iX (s.drop k))=res at *;generalize k+iX (s.drop k)=q at *;simp[PG,PF,TU,WK,oO,lp,hsl,htd,gE,eG];omega
  ·cases hv
 ·cases hv
def bQ (l:List UInt8):List AV:=l.map fun c=>.int .u8 c.toNat
theorem iy (l:List UInt8):(bQ l).length=l.length:=by simp[bQ]
theorem iA (l:List UInt8) (c:UInt8):bQ (l++[c])=bQ l++[.int .u8 c.toNat]:=by simp[bQ]
theorem eu:∀l:List UInt8,AV.af (bQ l)=0
 | []=>rfl
 | c::r=>by
   have:=eu r;unfold bQ at this ⊢;simp[AV.af,AV.refs,this]
theorem mM:∀l:List UInt8,bytesOf (bQ l)=some l
 | []=>rfl
 | c::r=>by
   have:=mM r;unfold bQ at this ⊢;simp[bytesOf,this]
theorem Jb (d:UInt8):(∀b,rW d=some b→∃i:Nat,ie d.toNat [110,116,92,39]=(i:Int)∧([10,9,92,39]:List UInt8)[i]? =some b)∧(rW d=none→ie d.toNat [110,116,92,39]=-1):=by
 have nb:∀a:Nat,a≠d.toNat→Nat.beq a d.toNat=false:=fun a h=>by
  cases hb:Nat.beq a d.toNat with
  | false=>rfl
  | true=>exact absurd (Nat.eq_of_beq_eq_true hb) h
 have yb:∀a:Nat,a=d.toNat→Nat.beq a d.toNat=true:=fun a h=>by rw[h];exact Nat.beq_refl _
 have t1:(110:UInt8).toNat=110:=rfl;have t2:(116:UInt8).toNat=116:=rfl;have t3:(92:UInt8).toNat=92:=rfl;have t4:(39:UInt8).toNat=39:=rfl;unfold rW;by_cases h1:d.toNat=110
 ·rw[if_pos h1];refine⟨fun b e=>⟨0,?_,by cases e;rfl⟩,fun e=>by cases e⟩;simp[ie,t1,yb 110 h1.symm]
 rw[if_neg h1];by_cases h2:d.toNat=116
 ·rw[if_pos h2];refine⟨fun b e=>⟨1,?_,by cases e;rfl⟩,fun e=>by cases e⟩;simp[ie,t1,t2,nb 110 (Ne.symm h1),yb 116 h2.symm]
 rw[if_neg h2];by_cases h3:d.toNat=92
 ·rw[if_pos h3];refine⟨fun b e=>⟨2,?_,by cases e;rfl⟩,fun e=>by cases e⟩;simp[ie,t1,t2,t3,nb 110 (Ne.symm h1),nb 116 (Ne.symm h2),yb 92 h3.symm]
 rw[if_neg h3];by_cases h4:d.toNat=39
 ·rw[if_pos h4];refine⟨fun b e=>⟨3,?_,by cases e;rfl⟩,fun e=>by cases e⟩;simp[ie,t1,t2,t3,t4,nb 110 (Ne.symm h1),nb 116 (Ne.symm h2),nb 92 (Ne.symm h3),yb 39 h4.symm]
 rw[if_neg h4];refine⟨fun b e=>(by cases e),fun _=>?_⟩;simp[ie,t1,t2,t3,t4,nb 110 (Ne.symm h1),nb 116 (Ne.symm h2),nb 92 (Ne.symm h3),nb 39 (Ne.symm h4)];rfl
theorem Er:ie 0 [110,116,92,39]=-1:=by decide
def bl (k:Int) (t:List UInt8) (n:Int):List AV:=[.int .i64 k,.str t,.int .i64 n,.bool false,.int .i64 0]
def VY (q:Option (List UInt8)×Nat) (q0:Nat) (s:List UInt8) (R:Option (Ex×List AV×aa)):Prop:=
 ∃md',(∃t,q.1=some t∧R=some (.ret,FM 119 [(2,.ptr 1 0),(3,.int .i64 0)],⟨2,[.row (bl 2 t 0),.row [.str s,.int .i64 (q0+q.2:Nat)]],1,md'⟩))∨
   (q.1=none∧R=some (.ret,FM 119 [(2,.ptr 1 0),(3,.int .i64 2)],⟨2,[.row (bl 0 [] 0),.row [.str s,.int .i64 (q0+q.2:Nat)]],1,md'⟩))∨
   (q.1=none∧R=some (.exit 0,FM 119 [(2,.ptr 1 0)],⟨2,[.row (bl 0 [] 0),.row [.str s,.int .i64 (q0+q.2:Nat)]],1,md'⟩))
theorem j8 (n:Nat) (s:List UInt8) (hl:s.length < 1000000000) (q0:Nat):∀(f:Nat) (acc:List UInt8) (j m md:Nat),acc≠[]→acc.length≤j→q0+j≤s.length→s.length - (q0+j) < f→f≤m→
 VY (fg f (s.drop (q0+j)) acc j) q0 s (er 2 1 (aT (ak (aw (cW jk []) (n+1)) (n+1) dF) dk 2 m (L0 (.ptr 0 0) (.ptr 1 0) (.vec 2 0 acc.length 1 acc.length)) ⟨3,[.row (bQ acc),.row (bl 0 [] 0),.row [.str s,.int .i64 (q0+j:Nat)]],2,md⟩))
 | 0,acc,j,m,md,hne,haj,hk,h,_=>by omega
 | f+1,acc,j,0,md,hne,haj,_,_,h=>by omega
 | f+1,acc,j,m+1,md,hne,haj,hk,hf0,hm=>by
   rw[ae];have hf:=eu acc;have hb:=mM acc;have hlen:=iy acc;have h8:acc.length+1≤140737488355328:=by omega
   have h9:acc.length+1 < 9223372036854775808:=by omega
   have h10:(bQ acc).take acc.length=bQ acc:=by rw[List.take_of_length_le];omega
   have hf2:∀b:UInt8,AV.af (bQ acc++[.int .u8 b.toNat])=0:=fun b=>by rw[←iA];exact eu _
   have hf39:AV.af (bQ acc++[.int .u8 39])=0:=hf2 39;by_cases he:q0+j=s.length
   ·have hd:s.drop (q0+j)=[]:=by rw[he];exact List.drop_length
    have h6:((q0:Int)+(j:Int) < (s.length:Int))=False:=eq_false (by omega);rw[hd,xn];refine⟨md,.inr (.inr ⟨rfl,?_⟩)⟩;simp[jk,dF,dk,h6,hf]
   ·obtain⟨c,h1,hd⟩:=dR (s:=s) (k:=q0+j) (by omega);have h6:((q0:Int)+(j:Int) < (s.length:Int))=True:=eq_true (by omega);have h3:IntKind.i64.wrap ((q0:Int)+(j:Int)+1)=(q0:Int)+(j:Int)+1:=wrap_i64 (by omega) (by omega);have h3b:IntKind.i64.wrap ((q0:Int)+(j:Int)+1+1)=(q0:Int)+(j:Int)+1+1:=wrap_i64 (by omega) (by omega);have n0:(0≤(q0:Int)+(j:Int))=True:=eq_true (by omega);have n1:(0≤(q0:Int)+(j:Int)+1)=True:=eq_true (by omega);have n2:((q0:Int)+(j:Int)).toNat=q0+j:=by omega
    have n3:((q0:Int)+(j:Int)+1).toNat=q0+j+1:=by omega
    rw[hd]
    have hnext:(s.drop (q0+j+1)=[]∧((q0:Int)+(j:Int)+1 < (s.length:Int))=False)∨∃d,s[q0+j+1]? =some d∧s.drop (q0+j+1)=d::s.drop (q0+j+2)∧((q0:Int)+(j:Int)+1 < (s.length:Int))=True:=by
     by_cases hx:q0+j+1 < s.length
     ·obtain⟨d,a1,a2⟩:=dR (s:=s) (k:=q0+j+1) hx;exact .inr ⟨d,a1,a2,eq_true (by omega)⟩
     ·exact .inl ⟨List.drop_eq_nil_of_le (by omega),eq_false (by omega)⟩
    by_cases k1:c.toNat=39
    ·have k1':((c.toNat:Int)=39)=True:=eq_true (by omega);rcases hnext with⟨x1,x2⟩ | ⟨d,x0,x1,x2⟩
     ·rw[x1,Dh k1];refine⟨0,.inl ⟨acc,rfl,?_⟩⟩;simp[jk,dF,dk,bl,h1,h6,h3,h3b,n0,n1,n2,n3,ar,hf,hf2,hf39,hb,hlen,h8,h9,h10,au,k1',x2];omega
     ·rw[x1];by_cases k2:d.toNat=39
      ·have k2':((d.toNat:Int)=39)=True:=eq_true (by omega);have x3:=(List.getElem?_eq_some_iff.1 x0).1;rw[B4 k1 k2];obtain rfl:c=39:=UInt8.toNat_inj.1 k1;have ih:=j8 n s hl q0 f (acc++[39]) (j+2) m 0 (by simp) (by simp;omega) (by omega) (by omega) (by omega);rw[show q0+(j+2)=q0+j+2 by omega] at ih;simp only[List.length_append,List.length_cons,List.length_nil,Nat.zero_add,Int.natCast_add,Int.natCast_one,jk,bl,iA] at ih;simp[jk,dF,dk,bl,h1,h6,h3,h3b,n0,n1,n2,n3,ar,hf,hf2,hf39,hb,hlen,h8,h9,h10,au,k2',x0,x2];exact ih
      ·have k2':((d.toNat:Int)=39)=False:=eq_false (by omega);rw[CY k1 k2];refine⟨0,.inl ⟨acc,rfl,?_⟩⟩;simp[jk,dF,dk,bl,h1,h6,h3,h3b,n0,n1,n2,n3,ar,hf,hf2,hf39,hb,hlen,h8,h9,h10,au,k1',k2',x0,x2];omega
    have k1':((c.toNat:Int)=39)=False:=eq_false (by omega);by_cases k2:c.toNat < 32∨126 < c.toNat
    ·rw[xp k1 k2];have hx:∃e:Int,(if (q0:Int)+(j:Int)+1 < (s.length:Int) then True else True):=⟨0,by split<;>trivial⟩
     by_cases k3:c.toNat < 32
     ·have k3':((c.toNat:Int) < 32)=True:=eq_true (by omega);rcases hnext with⟨x1,x2⟩ | ⟨d,x0,x1,x2⟩
      ·refine⟨min md 1,.inr (.inl ⟨rfl,?_⟩)⟩;simp[jk,dF,dk,bl,h1,h6,h3,h3b,n0,n1,n2,n3,ar,hf,hf2,hf39,hb,hlen,h8,h9,h10,au,k1',k3',x2]
      ·refine⟨min md 1,.inr (.inl ⟨rfl,?_⟩)⟩;simp[jk,dF,dk,bl,h1,h6,h3,h3b,n0,n1,n2,n3,ar,hf,hf2,hf39,hb,hlen,h8,h9,h10,au,k1',k3',x0,x2]
     ·have k3':((c.toNat:Int) < 32)=False:=eq_false (by omega);have k4':(126 < (c.toNat:Int))=True:=eq_true (by omega);rcases hnext with⟨x1,x2⟩ | ⟨d,x0,x1,x2⟩
      ·refine⟨min md 1,.inr (.inl ⟨rfl,?_⟩)⟩;simp[jk,dF,dk,bl,h1,h6,h3,h3b,n0,n1,n2,n3,ar,hf,hf2,hf39,hb,hlen,h8,h9,h10,au,k1',k3',k4',x2]
      ·refine⟨min md 1,.inr (.inl ⟨rfl,?_⟩)⟩;simp[jk,dF,dk,bl,h1,h6,h3,h3b,n0,n1,n2,n3,ar,hf,hf2,hf39,hb,hlen,h8,h9,h10,au,k1',k3',k4',x0,x2]
    have k3':((c.toNat:Int) < 32)=False:=eq_false (by omega);have k4':(126 < (c.toNat:Int))=False:=eq_false (by omega);by_cases k5:c.toNat=92
    ·have k5':((c.toNat:Int)=92)=True:=eq_true (by omega);rcases hnext with⟨x1,x2⟩ | ⟨d,x0,x1,x2⟩
     ·rw[x1,Cb k5];have z:=dC [110,116,92,39] 0;rw[show (0:UInt8).toNat=0 from rfl,Er] at z;simp only[show ((0:Nat):Int)=0 from rfl] at z;refine⟨min md 1,.inr (.inl ⟨rfl,?_⟩)⟩;simp[jk,dF,dk,bl,h1,h6,h3,h3b,n0,n1,n2,n3,ar,hf,hf2,hf39,hb,hlen,h8,h9,h10,au,k1',k3',k4',k5',x2,z]
     ·rw[x1];have z:=dC [110,116,92,39] d;obtain⟨z1,z2⟩:=Jb d
      cases hesc:rW d with
      | none=>
        rw[CQ k5 hesc];rw[z2 hesc] at z;refine⟨min md 1,.inr (.inl ⟨rfl,?_⟩)⟩;simp[jk,dF,dk,bl,h1,h6,h3,h3b,n0,n1,n2,n3,ar,hf,hf2,hf39,hb,hlen,h8,h9,h10,au,k1',k3',k4',k5',x0,x2,z]
      | some b=>
        rw[Ci k5 hesc];obtain⟨i,y1,y2⟩:=z1 b hesc;have x3:=(List.getElem?_eq_some_iff.1 x0).1;rw[y1] at z;have y3:((i:Int) < 0)=False:=eq_false (by omega);have y4:(0≤(i:Int))=True:=eq_true (by omega);have ih:=j8 n s hl q0 f (acc++[b]) (j+2) m 0 (by simp) (by simp;omega) (by omega) (by omega) (by omega);rw[show q0+(j+2)=q0+j+2 by omega] at ih;simp only[List.length_append,List.length_cons,List.length_nil,Nat.zero_add,Int.natCast_add,Int.natCast_one,jk,bl,iA] at ih;simp[jk,dF,dk,bl,h1,h6,h3,h3b,n0,n1,n2,n3,ar,hf,hf2,hf39,hb,hlen,h8,h9,h10,au,k1',k3',k4',k5',x0,x2,z,y2,y3,y4];exact ih
    ·have k5':((c.toNat:Int)=92)=False:=eq_false (by omega);rw[Iq k1 k2 k5];rcases hnext with⟨x1,x2⟩ | ⟨d,x0,x1,x2⟩
     ·have ih:=j8 n s hl q0 f (acc++[c]) (j+1) m 0 (by simp) (by simp;omega) (by omega) (by omega) (by omega);rw[show q0+(j+1)=q0+j+1 by omega] at ih;simp only[List.length_append,List.length_cons,List.length_nil,Nat.zero_add,Int.natCast_add,Int.natCast_one,jk,bl,iA] at ih;simp[jk,dF,dk,bl,h1,h6,h3,h3b,n0,n1,n2,n3,ar,hf,hf2,hf39,hb,hlen,h8,h9,h10,au,k1',k3',k4',k5',x2];exact ih
     ·have ih:=j8 n s hl q0 f (acc++[c]) (j+1) m 0 (by simp) (by simp;omega) (by omega) (by omega) (by omega);rw[show q0+(j+1)=q0+j+1 by omega] at ih;simp only[List.length_append,List.length_cons,List.length_nil,Nat.zero_add,Int.natCast_add,Int.natCast_one,jk,bl,iA] at ih;simp[jk,dF,dk,bl,h1,h6,h3,h3b,n0,n1,n2,n3,ar,hf,hf2,hf39,hb,hlen,h8,h9,h10,au,k1',k3',k4',k5',x0,x2];exact ih
theorem Kt (n:Nat) (s:List UInt8) (hl:s.length < 1000000000) (q0:Nat):∀(f j m md:Nat),q0+j≤s.length→s.length - (q0+j) < f→f≤m→
 VY (fg f (s.drop (q0+j)) [] j) q0 s (er 2 1 (aT (ak (aw (cW jk []) (n+1)) (n+1) dF) dk 2 m (L0 (.ptr 0 0) (.ptr 1 0) .ax) ⟨2,[.row (bl 0 [] 0),.row [.str s,.int .i64 (q0+j:Nat)]],2,md⟩))
 | 0,j,m,md,hk,h,_=>by omega
 | f+1,j,0,md,_,_,h=>by omega
 | f+1,j,m+1,md,hk,hf0,hm=>by
   rw[ae];have hb0:bytesOf []=some []:=rfl;by_cases he:q0+j=s.length
   ·have hd:s.drop (q0+j)=[]:=by rw[he];exact List.drop_length
    have h6:((q0:Int)+(j:Int) < (s.length:Int))=False:=eq_false (by omega);rw[hd,xn];refine⟨md,.inr (.inr ⟨rfl,?_⟩)⟩;simp[jk,dF,dk,h6]
   ·obtain⟨c,h1,hd⟩:=dR (s:=s) (k:=q0+j) (by omega);have h6:((q0:Int)+(j:Int) < (s.length:Int))=True:=eq_true (by omega);have h3:IntKind.i64.wrap ((q0:Int)+(j:Int)+1)=(q0:Int)+(j:Int)+1:=wrap_i64 (by omega) (by omega);have h3b:IntKind.i64.wrap ((q0:Int)+(j:Int)+1+1)=(q0:Int)+(j:Int)+1+1:=wrap_i64 (by omega) (by omega);have n0:(0≤(q0:Int)+(j:Int))=True:=eq_true (by omega);have n1:(0≤(q0:Int)+(j:Int)+1)=True:=eq_true (by omega);have n2:((q0:Int)+(j:Int)).toNat=q0+j:=by omega
    have n3:((q0:Int)+(j:Int)+1).toNat=q0+j+1:=by omega
    rw[hd]
    have hnext:(s.drop (q0+j+1)=[]∧((q0:Int)+(j:Int)+1 < (s.length:Int))=False)∨∃d,s[q0+j+1]? =some d∧s.drop (q0+j+1)=d::s.drop (q0+j+2)∧((q0:Int)+(j:Int)+1 < (s.length:Int))=True:=by
     by_cases hx:q0+j+1 < s.length
     ·obtain⟨d,a1,a2⟩:=dR (s:=s) (k:=q0+j+1) hx;exact .inr ⟨d,a1,a2,eq_true (by omega)⟩
     ·exact .inl ⟨List.drop_eq_nil_of_le (by omega),eq_false (by omega)⟩
    by_cases k1:c.toNat=39
    ·have k1':((c.toNat:Int)=39)=True:=eq_true (by omega);rcases hnext with⟨x1,x2⟩ | ⟨d,x0,x1,x2⟩
     ·rw[x1,Dh k1];refine⟨0,.inl ⟨[],rfl,?_⟩⟩;simp[jk,dF,dk,bl,h1,h6,h3,h3b,n0,n1,n2,n3,ar,hb0,au,k1',x2];omega
     ·rw[x1];by_cases k2:d.toNat=39
      ·have k2':((d.toNat:Int)=39)=True:=eq_true (by omega);have x3:=(List.getElem?_eq_some_iff.1 x0).1;rw[B4 k1 k2];obtain rfl:c=39:=UInt8.toNat_inj.1 k1;have ih:=j8 n s hl q0 f [39] (j+2) m 0 (by simp) (by simp) (by omega) (by omega) (by omega);rw[show q0+(j+2)=q0+j+2 by omega] at ih;simp only[List.length_cons,List.length_nil,Nat.zero_add,Int.natCast_add,Int.natCast_one,jk,bl,bQ,List.map_cons,List.map_nil] at ih;simp[jk,dF,dk,bl,h1,h6,h3,h3b,n0,n1,n2,n3,ar,hb0,au,k2',x0,x2];exact ih
      ·have k2':((d.toNat:Int)=39)=False:=eq_false (by omega);rw[CY k1 k2];refine⟨0,.inl ⟨[],rfl,?_⟩⟩;simp[jk,dF,dk,bl,h1,h6,h3,h3b,n0,n1,n2,n3,ar,hb0,au,k1',k2',x0,x2];omega
    have k1':((c.toNat:Int)=39)=False:=eq_false (by omega);by_cases k2:c.toNat < 32∨126 < c.toNat
    ·rw[xp k1 k2];have hx:∃e:Int,(if (q0:Int)+(j:Int)+1 < (s.length:Int) then True else True):=⟨0,by split<;>trivial⟩
     by_cases k3:c.toNat < 32
     ·have k3':((c.toNat:Int) < 32)=True:=eq_true (by omega);rcases hnext with⟨x1,x2⟩ | ⟨d,x0,x1,x2⟩
      ·refine⟨min md 1,.inr (.inl ⟨rfl,?_⟩)⟩;simp[jk,dF,dk,bl,h1,h6,h3,h3b,n0,n1,n2,n3,ar,hb0,au,k1',k3',x2]
      ·refine⟨min md 1,.inr (.inl ⟨rfl,?_⟩)⟩;simp[jk,dF,dk,bl,h1,h6,h3,h3b,n0,n1,n2,n3,ar,hb0,au,k1',k3',x0,x2]
     ·have k3':((c.toNat:Int) < 32)=False:=eq_false (by omega);have k4':(126 < (c.toNat:Int))=True:=eq_true (by omega);rcases hnext with⟨x1,x2⟩ | ⟨d,x0,x1,x2⟩
      ·refine⟨min md 1,.inr (.inl ⟨rfl,?_⟩)⟩;simp[jk,dF,dk,bl,h1,h6,h3,h3b,n0,n1,n2,n3,ar,hb0,au,k1',k3',k4',x2]
      ·refine⟨min md 1,.inr (.inl ⟨rfl,?_⟩)⟩;simp[jk,dF,dk,bl,h1,h6,h3,h3b,n0,n1,n2,n3,ar,hb0,au,k1',k3',k4',x0,x2]
    have k3':((c.toNat:Int) < 32)=False:=eq_false (by omega);have k4':(126 < (c.toNat:Int))=False:=eq_false (by omega);by_cases k5:c.toNat=92
    ·have k5':((c.toNat:Int)=92)=True:=eq_true (by omega);rcases hnext with⟨x1,x2⟩ | ⟨d,x0,x1,x2⟩
     ·rw[x1,Cb k5];have z:=dC [110,116,92,39] 0;rw[show (0:UInt8).toNat=0 from rfl,Er] at z;simp only[show ((0:Nat):Int)=0 from rfl] at z;refine⟨min md 1,.inr (.inl ⟨rfl,?_⟩)⟩;simp[jk,dF,dk,bl,h1,h6,h3,h3b,n0,n1,n2,n3,ar,hb0,au,k1',k3',k4',k5',x2,z]
     ·rw[x1];have z:=dC [110,116,92,39] d;obtain⟨z1,z2⟩:=Jb d
      cases hesc:rW d with
      | none=>
        rw[CQ k5 hesc];rw[z2 hesc] at z;refine⟨min md 1,.inr (.inl ⟨rfl,?_⟩)⟩;simp[jk,dF,dk,bl,h1,h6,h3,h3b,n0,n1,n2,n3,ar,hb0,au,k1',k3',k4',k5',x0,x2,z]
      | some b=>
        rw[Ci k5 hesc];obtain⟨i,y1,y2⟩:=z1 b hesc;have x3:=(List.getElem?_eq_some_iff.1 x0).1;rw[y1] at z;have y3:((i:Int) < 0)=False:=eq_false (by omega);have y4:(0≤(i:Int))=True:=eq_true (by omega);have ih:=j8 n s hl q0 f [b] (j+2) m 0 (by simp) (by simp) (by omega) (by omega) (by omega);rw[show q0+(j+2)=q0+j+2 by omega] at ih;simp only[List.length_cons,List.length_nil,Nat.zero_add,Int.natCast_add,Int.natCast_one,jk,bl,bQ,List.map_cons,List.map_nil] at ih;simp[jk,dF,dk,bl,h1,h6,h3,h3b,n0,n1,n2,n3,ar,hb0,au,k1',k3',k4',k5',x0,x2,z,y2,y3,y4];exact ih
    ·have k5':((c.toNat:Int)=92)=False:=eq_false (by omega);rw[Iq k1 k2 k5];rcases hnext with⟨x1,x2⟩ | ⟨d,x0,x1,x2⟩
     ·have ih:=j8 n s hl q0 f [c] (j+1) m 0 (by simp) (by simp) (by omega) (by omega) (by omega);rw[show q0+(j+1)=q0+j+1 by omega] at ih;simp only[List.length_cons,List.length_nil,Nat.zero_add,Int.natCast_add,Int.natCast_one,jk,bl,bQ,List.map_cons,List.map_nil] at ih;simp[jk,dF,dk,bl,h1,h6,h3,h3b,n0,n1,n2,n3,ar,hb0,au,k1',k3',k4',k5',x2];exact ih
     ·have ih:=j8 n s hl q0 f [c] (j+1) m 0 (by simp) (by simp) (by omega) (by omega) (by omega);rw[show q0+(j+1)=q0+j+1 by omega] at ih;simp only[List.length_cons,List.length_nil,Nat.zero_add,Int.natCast_add,Int.natCast_one,jk,bl,bQ,List.map_cons,List.map_nil] at ih;simp[jk,dF,dk,bl,h1,h6,h3,h3b,n0,n1,n2,n3,ar,hb0,au,k1',k3',k4',k5',x0,x2];exact ih
theorem Bs {X:World→Prop} {P:Program} {E:Env} (hE:dA P X E) {n f:Nat} {rest cs cs':List AV} {v:AV} (he:(aw E n f (.ptr 0 0::rest) (zQ [.row cs])).map (fun p=>(p.1,p.2.get 0))=some (v,some (.row cs')))
 (hv:v.refs=0) (hr:AV.af rest=0) (hc:AV.af cs'=0):jL P X f (.ptr 0 0::rest) [.row cs] v (some [.row cs']):=by
 obtain⟨⟨v1,h1⟩,e1,e2⟩:=Option.map_eq_some_iff.1 he;simp only[Prod.mk.injEq] at e2;obtain⟨rfl,e3⟩:=e2;exact ur hE e1 e3 hv hr hc
def EX (q:Option (List UInt8)×Nat):AV:=match q.1 with | some t=>.tuple [.agg (bl 2 t 0),.int .i64 0] | none=>.tuple [.agg (bl 0 [] 0),.int .i64 2]
def Kb:aU:=⟨80,fun
 | [.ptr 0 0],[.row [.str s,.int .i64 i]]=>if s.length < 1000000000∧0≤i∧i < s.length then
  some (EX (fg ((s.drop (i.toNat+1)).length+1) (s.drop (i.toNat+1)) [] 1),some [.row [.str s,.int .i64 (i.toNat+(fg ((s.drop (i.toNat+1)).length+1) (s.drop (i.toNat+1)) [] 1).2:Nat)]]) else none
 | _,_=>none⟩
theorem jh:Kb.f=80:=(rfl)
theorem PN (s:List UInt8) (k:Nat) (hl:s.length < 1000000000) (hk:k < s.length):
 Kb.S [.ptr 0 0] [.row [.str s,.int .i64 k]]=some (EX (fg ((s.drop (k+1)).length+1) (s.drop (k+1)) [] 1),some [.row [.str s,.int .i64 (k+(fg ((s.drop (k+1)).length+1) (s.drop (k+1)) [] 1).2:Nat)]]):=by
 simp only[Kb];rw[if_pos ⟨hl,by omega,by omega⟩,Int.toNat_natCast]
theorem PV:iY Tryz.prog Kb:=fun args os v r hv=>by
 unfold Kb at hv;dsimp only at hv;split at hv
 ·rename_i s i;split at hv
  ·rename_i hc;cases hv;obtain⟨k,rfl⟩:∃k:Nat,i=(k:Int):=⟨i.toNat,by omega⟩
   rw[Int.toNat_natCast,jh];have h3:IntKind.i64.wrap ((k:Int)+1)=(k:Int)+1:=wrap_i64 (by omega) (by omega);have lp:=Kt (s.length+4) s hc.1 k ((s.drop (k+1)).length+1) 1 (s.length+5) 0 (by omega) (by rw[List.length_drop];omega) (by rw[List.length_drop];omega);generalize fg ((s.drop (k+1)).length+1) (s.drop (k+1)) [] 1=q at *;refine Bs (n:=s.length+6) (pH (ss:=jk) (ms:=[]) Gg (by simp)) ?_ (by unfold EX;split<;>rfl) rfl rfl;rw[qy];obtain⟨md',lp⟩:=lp;simp only[dk,jk,bl,Int.natCast_add,Int.natCast_one] at lp;rcases lp with⟨t,e1,lp⟩ | ⟨e1,lp⟩ | ⟨e1,lp⟩
   ·unfold EX;rw[e1];simp[jk,F5,c80,dk,bl,h3,lp,ar]
   ·unfold EX;rw[e1];simp[jk,F5,c80,dk,bl,h3,lp,ar]
   ·unfold EX;rw[e1];simp[jk,F5,c80,dk,bl,h3,lp,ar]
  ·cases hv
 ·cases hv
theorem fw:o7.f=75:=(rfl)
theorem JV (c:UInt8):o7.S [.int .u8 c.toNat]=some (.bool (iK c)):=im _ _ c
theorem fx:oD.f=77:=(rfl)
theorem J3 (c:UInt8):oD.S [.int .u8 c.toNat]=some (.bool (ix c)):=im _ _ c
theorem NJ (c:UInt8):oM.S [.int .u8 c.toNat]=some (.bool (cN c)):=im _ _ c
def Dp:List ai:=[o7,oD,oM,KO,p9,gv,ff]
theorem TR:∀s ∈ Dp,ck Tryz.prog dm s:=by simp[Dp,AG.lift,By.lift,yN.lift,Jx.lift,F9,Ak.lift,jO.lift]
def Fh:List aU:=[runM,Kb,xN,AQ]
theorem Ta:∀m ∈ Fh,ch Tryz.prog dm m:=by simp[Fh,IX.lift,PV.lift,FQ.lift,OZ.lift]
theorem Hi {s:List UInt8} {k:Nat} (h:k≤s.length):sliceB s.length (some (.int .i64 k)) none=some (k,s.length):=by
 have a1:(0:Int)≤(k:Int)∧(k:Int)≤(s.length:Int):=by omega
 simp[sliceB,a1]
theorem JB (c:UInt8):decide (0≤ie c.toNat po)=fI c:=tw _ _
theorem Cj (c d a b:UInt8) (r:List UInt8):Lib.hasPrefix (c::d::r) [a,b]=(decide (c.toNat=a.toNat)&&decide (d.toNat=b.toNat)):=by
 have e:∀x y:UInt8,(x==y)=decide (y.toNat=x.toNat):=fun x y=>by
  by_cases h:x=y
  ·subst h;simp
  ·have:¬ y.toNat=x.toNat:=fun e=>h (UInt8.toNat_inj.1 e.symm)
   rw[decide_eq_false this];simpa using h
 simp[Lib.hasPrefix,List.isPrefixOf,e]
theorem IZ (c a b:UInt8):Lib.hasPrefix [c] [a,b]=false:=by simp[Lib.hasPrefix,List.isPrefixOf]
def bp (t:Tok):AV:=.agg [.int .i64 t.kind,.str t.text,.int .i64 t.num,.bool t.X6,.int .i64 t.at_]
def LO:aU:=⟨45,fun
 | [.ptr 0 0],[.row [.str s,.int .i64 i]]=>if s.length < 1000000000∧0≤i∧i < s.length then
  some (.tuple [bp (gJ (s.drop i.toNat)).1,.int .i64 (gJ (s.drop i.toNat)).2.2],some [.row [.str s,.int .i64 (i.toNat+(gJ (s.drop i.toNat)).2.1:Nat)]]) else none
 | _,_=>none⟩
theorem dc:LO.f=45:=(rfl)
theorem IU (s:List UInt8) (k:Nat) (hl:s.length < 1000000000) (hk:k < s.length):
 LO.S [.ptr 0 0] [.row [.str s,.int .i64 k]]=some (.tuple [bp (gJ (s.drop k)).1,.int .i64 (gJ (s.drop k)).2.2],some [.row [.str s,.int .i64 (k+(gJ (s.drop k)).2.1:Nat)]]):=by
 simp only[LO];rw[if_pos ⟨hl,by omega,by omega⟩,Int.toNat_natCast]
theorem Mo (s:List UInt8) (k:Nat) (hl:s.length < 1000000000) (hk:k < s.length) (n:Nat):
 (aw (cW Dp Fh) (n+2) 45 [.ptr 0 0] (zQ [.row [.str s,.int .i64 k]])).map (fun p=>(p.1,p.2.get 0))=
  some (.tuple [bp (gJ (s.drop k)).1,.int .i64 (gJ (s.drop k)).2.2],some (.row [.str s,.int .i64 (k+(gJ (s.drop k)).2.1:Nat)])):=by
 obtain⟨c,h1,hd⟩:=dR (s:=s) (k:=k) hk;rw[qy];have q1:=JV c;have q2:=J3 c;have q3:=NJ c;have q4:=Ii c;have r1:=Dc 76 fP (by simp[rh]) s k hl (by omega);have r2:=Dc 78 cN (by simp[rh]) s k hl (by omega);have r3:=PN s k hl hk;have r4:=E9 s k hl hk;have r5:=OS s k hl (by omega);have h3:IntKind.i64.wrap ((k:Int)+1)=(k:Int)+1:=wrap_i64 (by omega) (by omega);have h3b:IntKind.i64.wrap ((k:Int)+2)=(k:Int)+2:=wrap_i64 (by omega) (by omega);have h3c:IntKind.i64.wrap (k:Int)=(k:Int):=wrap_i64 (by omega) (by omega);have sf:=Hi (s:=s) (k:=k) (by omega);have tk:(s.take s.length).drop k=s.drop k:=by rw[List.take_length]
 have hb:=c.toNat_lt;have rn1:=gN cN (s.drop k);have F:o7.f=75∧oD.f=77∧oM.f=78∧KO.f=82∧p9.f=79∧gv.f=84∧ff.f=65:=⟨rfl,rfl,rfl,rfl,rfl,rfl,rfl⟩
 rw[hd] at r1 r2 r4 r5 rn1 ⊢;unfold gJ;dsimp only
 cases k1:iK c with
 | true=>
   rw[k1] at q1;simp only[if_true];generalize runN fP (c::s.drop (k+1))=q at *;simp only[Int.natCast_add] at r1;simp[Dp,Fh,jH,FY,h1,q1,r1,bp,fw,fx,gq,gE,ey,db,ar,fD,jh,eG,gl]
 | false=>
 rw[k1] at q1;simp only[Bool.false_eq_true,if_false]
 cases k2:ix c with
 | true=>
   rw[k2] at q2;simp only[if_true];generalize runN fP (c::s.drop (k+1))=q at *;simp only[Int.natCast_add] at r1;simp[Dp,Fh,jH,FY,h1,q1,q2,r1,bp,fw,fx,gq,gE,ey,db,ar,fD,jh,eG,gl]
 | false=>
 rw[k2] at q2;simp only[Bool.false_eq_true,if_false]
 cases k3:cN c with
 | true=>
   rw[k3] at q3;simp only[if_true];have q5:=Hh ((c::s.drop (k+1)).take (runN cN (c::s.drop (k+1)))) (by rw[List.length_take];simp;omega);generalize (c::s.drop (k+1)).take (runN cN (c::s.drop (k+1)))=D at *;generalize runN cN (c::s.drop (k+1))=q at *;generalize fX D=P at *;obtain⟨v,e⟩:=P;dsimp only at q5 ⊢;simp only[Int.natCast_add] at r2;simp[Dp,Fh,jH,FY,h1,q1,q2,q3,q5,r2,bp,fw,fx,gq,gE,ey,db,ar,fD,jh,eG,gl]
 | false=>
 rw[k3] at q3;simp only[Bool.false_eq_true,if_false];by_cases k4:c.toNat=39
 ·have k4':((c.toNat:Int)=39)=True:=eq_true (by omega);rw[if_pos k4];generalize fg ((s.drop (k+1)).length+1) (s.drop (k+1)) [] 1=Q at *;obtain⟨a,q⟩:=Q;simp only[Int.natCast_add] at r3
  cases a with
  | none=>
    simp only[EX,bl] at r3;simp[Dp,Fh,jH,FY,h1,q1,q2,q3,k4',r3,bp,jm,fw,fx,gq,gE,ey,db,ar,fD,jh,eG,gl]
  | some t=>
    simp only[EX,bl] at r3;simp[Dp,Fh,jH,FY,h1,q1,q2,q3,k4',r3,bp,jm,fw,fx,gq,gE,ey,db,ar,fD,jh,eG,gl]
 have k4':((c.toNat:Int)=39)=False:=eq_false (by omega);rw[if_neg k4]
 cases k5:kv (c::s.drop (k+1)) with
 | true=>
   rw[k5] at r4;simp only[if_true];simp[Dp,Fh,jH,FY,h1,h3,q1,q2,q3,k4',r4,bp,fw,fx,gq,gE,ey,db,ar,fD,jh,eG,gl]
 | false=>
 rw[k5] at r4;simp only[Bool.false_eq_true,if_false]
 cases k6:rK c with
 | true=>
   rw[k6] at q4;simp only[if_true];generalize iX (c::s.drop (k+1))=q at *;simp only[Int.natCast_add] at r5;simp[Dp,Fh,jH,FY,h1,q1,q2,q3,q4,k4',r4,r5,bp,fw,fx,gq,gE,ey,db,ar,fD,jh,eG,gl]
 | false=>
 rw[k6] at q4;simp only[Bool.false_eq_true,if_false];have nn:((c.toNat:Int)).toNat=c.toNat:=by omega
 have cc:UInt8.ofNat c.toNat=c:=by simp
 by_cases k7:c.toNat=59∨c.toNat=33
 ·rw[if_pos k7];have C6:((c.toNat:Int) < 128)=True:=eq_true (by omega);by_cases k8:c.toNat=59
  ·have k8':((c.toNat:Int)=59)=True:=eq_true (by omega);simp[Dp,Fh,jH,FY,h1,h3,q1,q2,q3,q4,k4',k8',r4,C6,nn,cc,bp,fw,fx,gq,gE,ey,db,ar,fD,jh,eG,gl]
  ·have k8':((c.toNat:Int)=59)=False:=eq_false (by omega);have k9':((c.toNat:Int)=33)=True:=eq_true (by omega);simp[Dp,Fh,jH,FY,h1,h3,q1,q2,q3,q4,k4',k8',k9',r4,C6,nn,cc,bp,fw,fx,gq,gE,ey,db,ar,fD,jh,eG,gl]
 rw[if_neg k7];have k8':((c.toNat:Int)=59)=False:=eq_false (by omega);have k9':((c.toNat:Int)=33)=False:=eq_false (by omega);have p1:gv.S [.str (s.drop k),.str [91,93]]=some (.bool (Lib.hasPrefix (c::s.drop (k+1)) [91,93])):=by rw[←hd];exact qP _ _
 have p2:gv.S [.str (s.drop k),.str [123,125]]=some (.bool (Lib.hasPrefix (c::s.drop (k+1)) [123,125])):=by rw[←hd];exact qP _ _
 have p3:=dC po c;have p4:=JB c;generalize ie c.toNat po=x at *;simp only[po] at p3
 have punctC:fI c=true→c.toNat < 128:=fun h=>by
  unfold fI at h;rw[List.any_eq_true] at h;obtain⟨d,hd1,hd2⟩:=h;have e:=of_decide_eq_true hd2;simp only[po,List.mem_cons,List.not_mem_nil,or_false] at hd1;rcases hd1 with rfl | rfl | rfl | rfl | rfl | rfl | rfl | rfl<;>rw[←e]<;>decide
 have fin:∀(R:Bool),R=fI c→Lib.hasPrefix (c::s.drop (k+1)) [91,93]=false→Lib.hasPrefix (c::s.drop (k+1)) [123,125]=false→
  (aw (cW Dp Fh) (n+2) 45 [.ptr 0 0] ⟨1,[.row [.str s,.int .i64 k]],1,1⟩).map (fun p=>(p.1,p.2.get 0))=
   some (if R then .tuple [bp ⟨5,[c],0,false,0⟩,.int .i64 0] else .tuple [bp jm,.int .i64 2],some (.row [.str s,.int .i64 (k+(if R then 1 else 0):Nat)])):=fun R hR w1 w2=>by
  rw[w1] at p1;rw[w2] at p2;rw[←hR] at p4
  cases R with
  | true=>
    have C6:((c.toNat:Int) < 128)=True:=eq_true (by have:=punctC hR.symm;omega);have p5:(0≤x)=True:=eq_true (of_decide_eq_true p4);simp[Dp,Fh,jH,FY,h1,h3,q1,q2,q3,q4,k4',k8',k9',r4,C6,nn,cc,sf,tk,p1,p2,p3,p5,bp,fw,fx,gq,gE,ey,db,ar,fD,jh,eG,gl]
  | false=>
    have p5:(0≤x)=False:=eq_false (of_decide_eq_false p4);simp[Dp,Fh,jH,FY,h1,h3,q1,q2,q3,q4,k4',k8',k9',r4,nn,cc,sf,tk,p1,p2,p3,p5,bp,jm,fw,fx,gq,gE,ey,db,ar,fD,jh,eG,gl]
 cases hr:s.drop (k+1) with
 | nil=>
   rw[hr] at fin;have:=fin (fI c) rfl (IZ _ _ _) (IZ _ _ _);rw[this];cases fI c<;>rfl
 | cons d r=>
   rw[hr] at fin;dsimp only;by_cases kk:(c.toNat=91∧d.toNat=93)∨(c.toNat=123∧d.toNat=125)
   ·rw[if_pos kk]
    have hkl:k+2≤s.length:=by
     have:=congrArg List.length hr;rw[List.length_drop] at this;simp at this;omega
    obtain⟨s1,s2⟩:=pK (s:=s) (k:=k) (q:=2) hkl;have s3:(s.drop k).take 2=[c,d]:=by rw[hd,hr];rfl
    rw[s3] at s2;simp only[Int.natCast_add,show ((2:Nat):Int)=2 from rfl] at s1;rw[hr,Cj] at p1 p2;rw[show (91:UInt8).toNat=91 from rfl,show (93:UInt8).toNat=93 from rfl] at p1;rw[show (123:UInt8).toNat=123 from rfl,show (125:UInt8).toNat=125 from rfl] at p2;rcases kk with⟨a1,a2⟩ | ⟨a1,a2⟩
    ·rw[decide_eq_true a1,decide_eq_true a2] at p1;simp[Dp,Fh,jH,FY,h1,h3b,h3c,q1,q2,q3,q4,k4',k8',k9',r4,nn,cc,sf,tk,p1,p2,s1,s2,bp,fw,fx,gq,gE,ey,db,ar,fD,jh,eG,gl]
    ·rw[decide_eq_false (show ¬ c.toNat=91 by omega)] at p1;rw[decide_eq_true a1,decide_eq_true a2] at p2;simp[Dp,Fh,jH,FY,h1,h3b,h3c,q1,q2,q3,q4,k4',k8',k9',r4,nn,cc,sf,tk,p1,p2,s1,s2,bp,fw,fx,gq,gE,ey,db,ar,fD,jh,eG,gl]
   ·rw[if_neg kk]
    have:=fin (fI c) rfl (by
     rw[Cj,show (91:UInt8).toNat=91 from rfl,show (93:UInt8).toNat=93 from rfl];by_cases a:c.toNat=91
     ·rw[decide_eq_true a,decide_eq_false (fun b=>kk (.inl ⟨a,b⟩))];rfl
     ·rw[decide_eq_false a];rfl) (by
     rw[Cj,show (123:UInt8).toNat=123 from rfl,show (125:UInt8).toNat=125 from rfl];by_cases a:c.toNat=123
     ·rw[decide_eq_true a,decide_eq_false (fun b=>kk (.inr ⟨a,b⟩))];rfl
     ·rw[decide_eq_false a];rfl)
    rw[this];cases fI c<;>rfl
theorem P4:ch Tryz.prog dm LO:=fun args os v r hv=>by
 unfold LO at hv;dsimp only at hv;split at hv
 ·rename_i s i;split at hv
  ·rename_i hc;cases hv;obtain⟨k,rfl⟩:∃k:Nat,i=(k:Int):=⟨i.toNat,by omega⟩
   rw[Int.toNat_natCast,dc];exact Bs (n:=5) (dv TR Ta) (Mo s k hc.1 (by omega) 3) (by simp[AV.refs,AV.af,bp]) rfl rfl
  ·cases hv
 ·cases hv
def cw (l:List Tok):List AV:=l.flatMap Tok.cells
theorem vA (l:List Tok):∀x ∈ l.map Tok.enc,x8 5 x:=by
 intro x hx;obtain⟨o,_,rfl⟩:=List.mem_map.1 hx;exact⟨rfl,rfl,(fun h=>by cases h),fun _=>rfl,rfl⟩
theorem xB (l:List Tok):(l.map Tok.enc).flatMap AV.cells=cw l:=by
 induction l with
 | nil=>rfl
 | cons t r ih=>
   unfold cw at ih ⊢;rw[List.map_cons,List.flatMap_cons,List.flatMap_cons,ih];rfl
theorem kM (l:List Tok):(cw l).length=l.length*5:=by
 rw[←xB,sh (vA l),List.length_map]
theorem jD (l:List Tok):AV.af (cw l)=0:=by
 rw[←xB];exact ke (tD (vA l))
theorem nB (l:List Tok) (t:Tok):cw (l++[t])=cw l++t.cells:=by simp[cw]
theorem AM (l:List Tok):AV.af (l.map Tok.enc)=0:=by
 induction l with
 | nil=>rfl
 | cons t r ih=>simp[AV.af,ih,Tok.enc,Tok.cells,AV.refs]
theorem R4 {h:aa} {n0 d id:Nat} (x:Tok) (r:List Tok) (hid:n0≤id) (hg:h.get id=some (.row (cw (x::r)))):
 gr h n0 (d+2) (.vec id 0 (r.length+1) 5 (r.length+1))=some (.sl ((x::r).map Tok.enc),[id]):=
 p8 hid hg (by omega) (vA (x::r)) (by simp) (by rw[kM];simp) (by rw[xB,List.take_of_length_le];rw[kM];simp)
def vK (id:Nat):List Tok→AV
 | []=>.ax
 | x::r=>.vec id 0 (r.length+1) 5 (r.length+1)
def hK (us:List Tok) (B:List aC):List aC:=match us with
 | []=>B
 | x::r=>.row (cw (x::r))::B
theorem RD {id:Nat} {l:List Tok} (h:l≠[]):vK id l=.vec id 0 l.length 5 l.length:=by
 cases l with
 | nil=>exact absurd rfl h
 | cons x r=>rfl
theorem R1 {l:List Tok} {B:List aC} (h:l≠[]):hK l B=.row (cw l)::B:=by
 cases l with
 | nil=>exact absurd rfl h
 | cons x r=>rfl
def iZ:List ai:=[]
def iL:List aU:=[LO,xL]
theorem T1:∀m ∈ iL,ch Tryz.prog dm m:=by simp[iL,P4,OQ.lift]
def PH (r:List Tok×Int×Int) (s:List UInt8) (R:Option (Ex×List AV×aa)):Prop:=
 ∃md',(r.2.2=0∧r.2.1=s.length∧R=some (.exit 0,FM 89 [(0,.str s),(6,vK 1 r.1)],⟨(hK r.1 [.row [.str s,.int .i64 s.length]]).length,hK r.1 [.row [.str s,.int .i64 s.length]],0,md'⟩))∨
   (r.2.2≠0∧r.1=[]∧∃x,R=some (.ret,FM 89 [(2,.ax),(3,.int .i64 r.2.1),(4,.int .i64 r.2.2)],⟨1,[.row [.str s,.int .i64 x]],0,md'⟩))
theorem FK (n:Nat) (s:List UInt8) (hl:s.length≤4096):∀(f:Nat) (acc:List Tok) (j m md:Nat),acc≠[]→acc.length≤1024→j≤s.length→s.length - j < f→f≤m→
 PH (ml f s j acc) s (er 1 0 (aT (ak (aw (cW iZ iL) (n+1)) (n+1) da) cP 1 m (yK (.str s) (.ptr 0 0) (.vec 1 0 acc.length 5 acc.length)) ⟨2,[.row (cw acc),.row [.str s,.int .i64 j]],1,md⟩))
 | 0,acc,j,m,md,hne,hac,hk,h,_=>by omega
 | f+1,acc,j,0,md,hne,hac,_,_,h=>by omega
 | f+1,acc,j,m+1,md,hne,hac,hk,hf0,hm=>by
   rw[ae];have hf:=jD acc;have h8:(acc.length+1)*48≤140737488355328:=by omega
   have h9:acc.length+1 < 9223372036854775808:=by omega
   have h10:(cw acc).take (acc.length*5)=cw acc:=by rw[List.take_of_length_le];rw[kM];exact Nat.le_refl _
   have h11:=kM acc;unfold ml;by_cases he:j=s.length
   ·have h6:((j:Int) < (s.length:Int))=False:=eq_false (by omega);rw[if_pos (by omega)];refine⟨md,.inl ⟨rfl,rfl,?_⟩⟩;rw[RD hne,R1 hne];simp[iZ,iL,da,cP,dc,cr,bp,hf,h8,h9,h10,h11,au,h6,he]
   ·have hjl:j < s.length:=by omega
    have h6:((j:Int) < (s.length:Int))=True:=eq_true (by omega);rw[if_neg (by omega)];have q1:=IU s j (by omega) hjl;obtain⟨b1,b2⟩:=nk (s.drop j);rw[List.length_drop] at b1;generalize gJ (s.drop j)=O at *;obtain⟨⟨kd,tx,nm,op,a0⟩,k,e⟩:=O;dsimp only at q1 b1 b2 ⊢;simp only[Int.natCast_add,bp] at q1;by_cases e0:e=0
    ·subst e0;rw[if_neg (by simp)];have hk1:=b2 rfl;by_cases hbad:((kd=1∨kd=2)∧64 < tx.length)∨(acc:List Tok).length=1024
     ·rw[if_pos hbad];refine⟨0,.inr ⟨by simp,rfl,(j+k:Nat),?_⟩⟩;by_cases k1:kd=1
      ·by_cases k3:64 < tx.length
       ·have k3':((64:Int) < (tx.length:Int))=True:=eq_true (by omega);simp[iZ,iL,da,cP,dc,cr,bp,hf,h8,h9,h10,h11,au,h6,q1,k1,k3']
       ·have k3':((64:Int) < (tx.length:Int))=False:=eq_false (by omega);have k4:(acc:List Tok).length=1024:=by omega
        have k4':((acc.length:Int)=1024)=True:=eq_true (by omega);simp[iZ,iL,da,cP,dc,cr,bp,hf,h8,h9,h10,h11,au,h6,q1,k1,k3',k4']
      ·by_cases k2:kd=2
       ·by_cases k3:64 < tx.length
        ·have k3':((64:Int) < (tx.length:Int))=True:=eq_true (by omega);simp[iZ,iL,da,cP,dc,cr,bp,hf,h8,h9,h10,h11,au,h6,q1,k2,k3']
        ·have k3':((64:Int) < (tx.length:Int))=False:=eq_false (by omega);have k4:(acc:List Tok).length=1024:=by omega
         have k4':((acc.length:Int)=1024)=True:=eq_true (by omega);simp[iZ,iL,da,cP,dc,cr,bp,hf,h8,h9,h10,h11,au,h6,q1,k2,k3',k4']
       ·have k4:(acc:List Tok).length=1024:=by omega
        have k4':((acc.length:Int)=1024)=True:=eq_true (by omega);simp[iZ,iL,da,cP,dc,cr,bp,hf,h8,h9,h10,h11,au,h6,q1,k1,k2,k4']
     ·rw[if_neg hbad];have hsk:=pq (s.length+1) (s.drop (j+k));rw[List.length_drop] at hsk;have q2:=yF s (j+k) (by omega) (by omega);simp only[Int.natCast_add] at q2;have n0:(0≤(j:Int)+(k:Int))=True:=eq_true (by omega);have n2:((j:Int)+(k:Int)).toNat=j+k:=by omega
      have hopn:(s[j+k]? =none∧((j:Int)+(k:Int) < (s.length:Int))=False)∨∃d,s[j+k]? =some d∧((j:Int)+(k:Int) < (s.length:Int))=True:=by
       by_cases hx:j+k < s.length
       ·exact .inr ⟨s[j+k],List.getElem?_eq_getElem hx,eq_true (by omega)⟩
       ·exact .inl ⟨List.getElem?_eq_none (by omega),eq_false (by omega)⟩
      have k4':((acc.length:Int)=1024)=False:=eq_false (by omega)
      have key:∀(b:Bool),decide ((s[j+k]?.map UInt8.toNat)=some 40)=b→(∀(R:Option (Ex×List AV×aa)),R=er 1 0 (aT (ak (aw (cW iZ iL) (n+1)) (n+1) da) cP 1 m (yK (.str s) (.ptr 0 0) (.vec 1 0 (acc++[(⟨kd,tx,nm,b,j⟩:Tok)]).length 5 (acc++[(⟨kd,tx,nm,b,j⟩:Tok)]).length)) ⟨2,[.row (cw (acc++[(⟨kd,tx,nm,b,j⟩:Tok)])),.row [.str s,.int .i64 (j+k+bO (s.length+1) (s.drop (j+k)):Nat)]],1,0⟩)→
       PH (ml f s (j+k+bO (s.length+1) (s.drop (j+k))) (acc++[(⟨kd,tx,nm,decide ((s[j+k]?.map UInt8.toNat)=some 40),j⟩:Tok)])) s R):=fun b hb R hR=>by
       rw[hR,hb];exact FK n s hl f (acc++[⟨kd,tx,nm,b,j⟩]) (j+k+bO (s.length+1) (s.drop (j+k))) m 0 (by simp) (by simp<;>omega) (by omega) (by omega) (by omega)
      generalize bO (s.length+1) (s.drop (j+k))=sk at *;have tkc:∀b:Bool,cw (acc++[(⟨kd,tx,nm,b,j⟩:Tok)])=cw acc++[.int .i64 kd,.str tx,.int .i64 nm,.bool b,.int .i64 j]:=fun b=>nB _ _
      have hf2:∀b:Bool,AV.af (cw acc++[.int .i64 kd,.str tx,.int .i64 nm,.bool b,.int .i64 j])=0:=fun b=>by rw[←tkc];exact jD _
      rcases hopn with⟨x1,x2⟩ | ⟨d,x1,x2⟩
      ·by_cases k1:kd=1
       ·obtain rfl:=k1;have k3':((64:Int) < (tx.length:Int))=False:=eq_false (by omega);refine key false (by simp[x1]) _ ?_;simp only[tkc,List.length_append,List.length_cons,List.length_nil,Nat.zero_add,Int.natCast_add,iZ,iL];simp[iZ,iL,da,cP,dc,cr,bp,hf,h8,h9,h10,h11,au,h6,q1,q2,n0,n2,k4',hf2,x2,k3']
       ·by_cases k2:kd=2
        ·obtain rfl:=k2;have k3':((64:Int) < (tx.length:Int))=False:=eq_false (by omega);refine key false (by simp[x1]) _ ?_;simp only[tkc,List.length_append,List.length_cons,List.length_nil,Nat.zero_add,Int.natCast_add,iZ,iL];simp[iZ,iL,da,cP,dc,cr,bp,hf,h8,h9,h10,h11,au,h6,q1,q2,n0,n2,k4',hf2,x2,k3']
        ·refine key false (by simp[x1]) _ ?_;simp only[tkc,List.length_append,List.length_cons,List.length_nil,Nat.zero_add,Int.natCast_add,iZ,iL];simp[iZ,iL,da,cP,dc,cr,bp,hf,h8,h9,h10,h11,au,h6,q1,q2,n0,n2,k4',hf2,x2,k1,k2]
      ·by_cases k40:d.toNat=40
       ·have k40':((d.toNat:Int)=40)=True:=eq_true (by omega);by_cases k1:kd=1
        ·obtain rfl:=k1;have k3':((64:Int) < (tx.length:Int))=False:=eq_false (by omega);refine key true (by simp[x1,k40]) _ ?_;simp only[tkc,List.length_append,List.length_cons,List.length_nil,Nat.zero_add,Int.natCast_add,iZ,iL];simp[iZ,iL,da,cP,dc,cr,bp,hf,h8,h9,h10,h11,au,h6,q1,q2,n0,n2,k4',hf2,x1,x2,k40',k3']
        ·by_cases k2:kd=2
         ·obtain rfl:=k2;have k3':((64:Int) < (tx.length:Int))=False:=eq_false (by omega);refine key true (by simp[x1,k40]) _ ?_;simp only[tkc,List.length_append,List.length_cons,List.length_nil,Nat.zero_add,Int.natCast_add,iZ,iL];simp[iZ,iL,da,cP,dc,cr,bp,hf,h8,h9,h10,h11,au,h6,q1,q2,n0,n2,k4',hf2,x1,x2,k40',k3']
         ·refine key true (by simp[x1,k40]) _ ?_;simp only[tkc,List.length_append,List.length_cons,List.length_nil,Nat.zero_add,Int.natCast_add,iZ,iL];simp[iZ,iL,da,cP,dc,cr,bp,hf,h8,h9,h10,h11,au,h6,q1,q2,n0,n2,k4',hf2,x1,x2,k40',k1,k2]
       ·have k40':((d.toNat:Int)=40)=False:=eq_false (by omega);by_cases k1:kd=1
        ·obtain rfl:=k1;have k3':((64:Int) < (tx.length:Int))=False:=eq_false (by omega);refine key false (by simp[x1,k40]) _ ?_;simp only[tkc,List.length_append,List.length_cons,List.length_nil,Nat.zero_add,Int.natCast_add,iZ,iL];simp[iZ,iL,da,cP,dc,cr,bp,hf,h8,h9,h10,h11,au,h6,q1,q2,n0,n2,k4',hf2,x1,x2,k40',k3']
        ·by_cases k2:kd=2
         ·obtain rfl:=k2;have k3':((64:Int) < (tx.length:Int))=False:=eq_false (by omega);refine key false (by simp[x1,k40]) _ ?_;simp only[tkc,List.length_append,List.length_cons,List.length_nil,Nat.zero_add,Int.natCast_add,iZ,iL];simp[iZ,iL,da,cP,dc,cr,bp,hf,h8,h9,h10,h11,au,h6,q1,q2,n0,n2,k4',hf2,x1,x2,k40',k3']
         ·refine key false (by simp[x1,k40]) _ ?_;simp only[tkc,List.length_append,List.length_cons,List.length_nil,Nat.zero_add,Int.natCast_add,iZ,iL];simp[iZ,iL,da,cP,dc,cr,bp,hf,h8,h9,h10,h11,au,h6,q1,q2,n0,n2,k4',hf2,x1,x2,k40',k1,k2]
    ·rw[if_pos e0];refine⟨0,.inr ⟨e0,rfl,(j+k:Nat),?_⟩⟩;simp[iZ,iL,da,cP,dc,cr,bp,hf,h8,h9,h10,h11,au,h6,q1,e0]
theorem Kg (n:Nat) (s:List UInt8) (hl:s.length≤4096):∀(f j m md:Nat),j≤s.length→s.length - j < f→f≤m→
 PH (ml f s j []) s (er 1 0 (aT (ak (aw (cW iZ iL) (n+1)) (n+1) da) cP 1 m (yK (.str s) (.ptr 0 0) .ax) ⟨1,[.row [.str s,.int .i64 j]],1,md⟩))
 | 0,j,m,md,hk,h,_=>by omega
 | f+1,j,0,md,_,_,h=>by omega
 | f+1,j,m+1,md,hk,hf0,hm=>by
   rw[ae];unfold ml;by_cases he:j=s.length
   ·have h6:((j:Int) < (s.length:Int))=False:=eq_false (by omega);rw[if_pos (by omega)];refine⟨md,.inl ⟨rfl,rfl,?_⟩⟩;unfold vK hK;simp[iZ,iL,da,cP,dc,cr,bp,au,h6,he]
   ·have hjl:j < s.length:=by omega
    have h6:((j:Int) < (s.length:Int))=True:=eq_true (by omega);rw[if_neg (by omega)];have q1:=IU s j (by omega) hjl;obtain⟨b1,b2⟩:=nk (s.drop j);rw[List.length_drop] at b1;generalize gJ (s.drop j)=O at *;obtain⟨⟨kd,tx,nm,op,a0⟩,k,e⟩:=O;dsimp only at q1 b1 b2 ⊢;simp only[Int.natCast_add,bp] at q1;by_cases e0:e=0
    ·subst e0;rw[if_neg (by simp)];have hk1:=b2 rfl;by_cases hbad:((kd=1∨kd=2)∧64 < tx.length)∨([]:List Tok).length=1024
     ·rw[if_pos hbad];refine⟨0,.inr ⟨by simp,rfl,(j+k:Nat),?_⟩⟩;by_cases k1:kd=1
      ·by_cases k3:64 < tx.length
       ·have k3':((64:Int) < (tx.length:Int))=True:=eq_true (by omega);simp[iZ,iL,da,cP,dc,cr,bp,au,h6,q1,k1,k3']
       ·have k3':((64:Int) < (tx.length:Int))=False:=eq_false (by omega);have k4:([]:List Tok).length=1024:=by omega
        exact absurd k4 (by simp)

      ·by_cases k2:kd=2
       ·by_cases k3:64 < tx.length
        ·have k3':((64:Int) < (tx.length:Int))=True:=eq_true (by omega);simp[iZ,iL,da,cP,dc,cr,bp,au,h6,q1,k2,k3']
        ·have k3':((64:Int) < (tx.length:Int))=False:=eq_false (by omega);have k4:([]:List Tok).length=1024:=by omega
         exact absurd k4 (by simp)

       ·have k4:([]:List Tok).length=1024:=by omega
        exact absurd k4 (by simp)

     ·rw[if_neg hbad];have hsk:=pq (s.length+1) (s.drop (j+k));rw[List.length_drop] at hsk;have q2:=yF s (j+k) (by omega) (by omega);simp only[Int.natCast_add] at q2;have n0:(0≤(j:Int)+(k:Int))=True:=eq_true (by omega);have n2:((j:Int)+(k:Int)).toNat=j+k:=by omega
      have hopn:(s[j+k]? =none∧((j:Int)+(k:Int) < (s.length:Int))=False)∨∃d,s[j+k]? =some d∧((j:Int)+(k:Int) < (s.length:Int))=True:=by
       by_cases hx:j+k < s.length
       ·exact .inr ⟨s[j+k],List.getElem?_eq_getElem hx,eq_true (by omega)⟩
       ·exact .inl ⟨List.getElem?_eq_none (by omega),eq_false (by omega)⟩
      have k4':((0:Int)=1024)=False:=by simp
      have key:∀(b:Bool),decide ((s[j+k]?.map UInt8.toNat)=some 40)=b→(∀(R:Option (Ex×List AV×aa)),R=er 1 0 (aT (ak (aw (cW iZ iL) (n+1)) (n+1) da) cP 1 m (yK (.str s) (.ptr 0 0) (.vec 1 0 ([]++[(⟨kd,tx,nm,b,j⟩:Tok)]).length 5 ([]++[(⟨kd,tx,nm,b,j⟩:Tok)]).length)) ⟨2,[.row (cw ([]++[(⟨kd,tx,nm,b,j⟩:Tok)])),.row [.str s,.int .i64 (j+k+bO (s.length+1) (s.drop (j+k)):Nat)]],1,0⟩)→
       PH (ml f s (j+k+bO (s.length+1) (s.drop (j+k))) ([]++[(⟨kd,tx,nm,decide ((s[j+k]?.map UInt8.toNat)=some 40),j⟩:Tok)])) s R):=fun b hb R hR=>by
       rw[hR,hb];exact FK n s hl f ([]++[⟨kd,tx,nm,b,j⟩]) (j+k+bO (s.length+1) (s.drop (j+k))) m 0 (by simp) (by simp<;>omega) (by omega) (by omega) (by omega)
      generalize bO (s.length+1) (s.drop (j+k))=sk at *;have tkc:∀b:Bool,cw ([]++[(⟨kd,tx,nm,b,j⟩:Tok)])=cw []++[.int .i64 kd,.str tx,.int .i64 nm,.bool b,.int .i64 j]:=fun b=>nB _ _
      have hf2:∀b:Bool,AV.af (cw []++[.int .i64 kd,.str tx,.int .i64 nm,.bool b,.int .i64 j])=0:=fun b=>by rw[←tkc];exact jD _
      rcases hopn with⟨x1,x2⟩ | ⟨d,x1,x2⟩
      ·by_cases k1:kd=1
       ·obtain rfl:=k1;have k3':((64:Int) < (tx.length:Int))=False:=eq_false (by omega);refine key false (by simp[x1]) _ ?_;simp only[tkc,List.length_append,List.length_cons,List.length_nil,Nat.zero_add,Int.natCast_add,cw,List.flatMap_nil,List.flatMap_cons,List.append_nil,Tok.cells,List.nil_append,iZ,iL];simp[iZ,iL,da,cP,dc,cr,bp,au,h6,q1,q2,n0,n2,k4',x2,k3']
       ·by_cases k2:kd=2
        ·obtain rfl:=k2;have k3':((64:Int) < (tx.length:Int))=False:=eq_false (by omega);refine key false (by simp[x1]) _ ?_;simp only[tkc,List.length_append,List.length_cons,List.length_nil,Nat.zero_add,Int.natCast_add,cw,List.flatMap_nil,List.flatMap_cons,List.append_nil,Tok.cells,List.nil_append,iZ,iL];simp[iZ,iL,da,cP,dc,cr,bp,au,h6,q1,q2,n0,n2,k4',x2,k3']
        ·refine key false (by simp[x1]) _ ?_;simp only[tkc,List.length_append,List.length_cons,List.length_nil,Nat.zero_add,Int.natCast_add,cw,List.flatMap_nil,List.flatMap_cons,List.append_nil,Tok.cells,List.nil_append,iZ,iL];simp[iZ,iL,da,cP,dc,cr,bp,au,h6,q1,q2,n0,n2,k4',x2,k1,k2]
      ·by_cases k40:d.toNat=40
       ·have k40':((d.toNat:Int)=40)=True:=eq_true (by omega);by_cases k1:kd=1
        ·obtain rfl:=k1;have k3':((64:Int) < (tx.length:Int))=False:=eq_false (by omega);refine key true (by simp[x1,k40]) _ ?_;simp only[tkc,List.length_append,List.length_cons,List.length_nil,Nat.zero_add,Int.natCast_add,cw,List.flatMap_nil,List.flatMap_cons,List.append_nil,Tok.cells,List.nil_append,iZ,iL];simp[iZ,iL,da,cP,dc,cr,bp,au,h6,q1,q2,n0,n2,k4',x1,x2,k40',k3']
        ·by_cases k2:kd=2
         ·obtain rfl:=k2;have k3':((64:Int) < (tx.length:Int))=False:=eq_false (by omega);refine key true (by simp[x1,k40]) _ ?_;simp only[tkc,List.length_append,List.length_cons,List.length_nil,Nat.zero_add,Int.natCast_add,cw,List.flatMap_nil,List.flatMap_cons,List.append_nil,Tok.cells,List.nil_append,iZ,iL];simp[iZ,iL,da,cP,dc,cr,bp,au,h6,q1,q2,n0,n2,k4',x1,x2,k40',k3']
         ·refine key true (by simp[x1,k40]) _ ?_;simp only[tkc,List.length_append,List.length_cons,List.length_nil,Nat.zero_add,Int.natCast_add,cw,List.flatMap_nil,List.flatMap_cons,List.append_nil,Tok.cells,List.nil_append,iZ,iL];simp[iZ,iL,da,cP,dc,cr,bp,au,h6,q1,q2,n0,n2,k4',x1,x2,k40',k1,k2]
       ·have k40':((d.toNat:Int)=40)=False:=eq_false (by omega);by_cases k1:kd=1
        ·obtain rfl:=k1;have k3':((64:Int) < (tx.length:Int))=False:=eq_false (by omega);refine key false (by simp[x1,k40]) _ ?_;simp only[tkc,List.length_append,List.length_cons,List.length_nil,Nat.zero_add,Int.natCast_add,cw,List.flatMap_nil,List.flatMap_cons,List.append_nil,Tok.cells,List.nil_append,iZ,iL];simp[iZ,iL,da,cP,dc,cr,bp,au,h6,q1,q2,n0,n2,k4',x1,x2,k40',k3']
        ·by_cases k2:kd=2
         ·obtain rfl:=k2;have k3':((64:Int) < (tx.length:Int))=False:=eq_false (by omega);refine key false (by simp[x1,k40]) _ ?_;simp only[tkc,List.length_append,List.length_cons,List.length_nil,Nat.zero_add,Int.natCast_add,cw,List.flatMap_nil,List.flatMap_cons,List.append_nil,Tok.cells,List.nil_append,iZ,iL];simp[iZ,iL,da,cP,dc,cr,bp,au,h6,q1,q2,n0,n2,k4',x1,x2,k40',k3']
         ·refine key false (by simp[x1,k40]) _ ?_;simp only[tkc,List.length_append,List.length_cons,List.length_nil,Nat.zero_add,Int.natCast_add,cw,List.flatMap_nil,List.flatMap_cons,List.append_nil,Tok.cells,List.nil_append,iZ,iL];simp[iZ,iL,da,cP,dc,cr,bp,au,h6,q1,q2,n0,n2,k4',x1,x2,k40',k1,k2]
    ·rw[if_pos e0];refine⟨0,.inr ⟨e0,rfl,(j+k:Nat),?_⟩⟩;simp[iZ,iL,da,cP,dc,cr,bp,au,h6,q1,e0]
def oj (l:List Tok):AV:=match l with
 | []=>.ax
 | _=>.sl (l.map Tok.enc)
def lL (r:List Tok×Int×Int):AV:=.tuple [oj r.1,.int .i64 r.2.1,.int .i64 r.2.2]
theorem zy (l:List Tok):(oj l).refs=0:=by
 cases l with
 | nil=>rfl
 | cons x r=>rfl
theorem F3:∀(f:Nat) (s:List UInt8) (j:Nat) (acc:List Tok),(ml f s j acc).2.2≠0→(ml f s j acc).1=[]
 | 0,s,j,acc,_=>rfl
 | f+1,s,j,acc,h=>by
   unfold ml at h ⊢;split
   ·rename_i h1;rw[if_pos h1] at h;exact absurd rfl h
   ·rename_i h1;rw[if_neg h1] at h;split
    ·rfl
    ·rename_i h2;rw[if_neg h2] at h;split
     ·rfl
     ·rename_i h3;rw[if_neg h3] at h;exact F3 f s _ _ h
theorem QS (s:List UInt8):∃h',aw (cW iZ iL) (s.length+4) 15 [.str s] h0=some (lL (od s),h')∧(lL (od s)).refs=0:=by
 have hrefs:∀r:List Tok×Int×Int,(lL r).refs=0:=fun r=>by simp[lL,AV.refs,AV.af,zy]
 refine Exists.elim ?_ fun h' hh=>⟨h',hh,hrefs _⟩
 unfold od;by_cases hl:4096 < s.length
 ·have h1:((4096:Int) < (s.length:Int))=True:=eq_true (by omega);rw[if_pos hl];exact⟨_,by simp[iZ,iL,Ch,TM,h1,lL,oj,dc,cr];rfl⟩
 have h1:((4096:Int) < (s.length:Int))=False:=eq_false (by omega);rw[if_neg hl];have q2:=yF s 0 (by omega) (by omega);have hsk:=pq (s.length+1) s;simp only[List.drop_zero,Nat.zero_add] at q2;have q2':xL.S [.ptr 0 0] [.row [.str s,.int .i64 0]]=some (.tuple [],some [.row [.str s,.int .i64 (bO (s.length+1) s:Nat)]]):=q2;have lp:=Kg (s.length+2) s (by omega) (s.length+1) (bO (s.length+1) s) (s.length+3) 0 hsk (by omega) (by omega);generalize ml (s.length+1) s (bO (s.length+1) s) []=R at *;obtain⟨l,at_,e⟩:=R;simp only[iZ,iL,cP,yK] at lp;obtain⟨md,⟨e1,e2,e3⟩ | ⟨e1,e2,x,e3⟩⟩:=lp
 ·dsimp only at e1 e2 e3;subst e1 e2
  cases l with
  | nil=>
    simp only[vK,hK] at e3;exact⟨_,by simp[iZ,iL,Ch,TM,cP,h1,lL,oj,q2',dc,cr,e3];with_reducible rfl⟩
  | cons t r=>
    simp only[vK,hK] at e3;have fk:∀d,gr ⟨2,[.row (cw (t::r)),.row [.str s,.int .i64 s.length]],0,md⟩ 0 (d+2) (.vec 1 0 (r.length+1) 5 (r.length+1))=some (.sl ((t::r).map Tok.enc),[1]):=fun d=>R4 t r (Nat.zero_le 1) rfl
    have rf:=AM (t::r);rw[List.map_cons,AV.af] at rf;exact⟨_,by simp[iZ,iL,Ch,TM,cP,h1,lL,oj,q2',dc,cr,e3,fk,rf,-jZ];with_reducible rfl⟩
 ·dsimp only at e1 e2 e3;subst e2;exact⟨_,by simp[iZ,iL,Ch,TM,cP,h1,lL,oj,q2',dc,cr,e3];with_reducible rfl⟩
noncomputable def MD:ai:=⟨15,fun
 | [.str s]=>some (lL (od s))
 | _=>none⟩
theorem vU:MD.f=15:=(rfl)
theorem QF (s:List UInt8):MD.S [.str s]=some (lL (od s)):=(rfl)
theorem QN:ck Tryz.prog dm MD:=fun args v hv=>by
 unfold MD at hv ⊢;dsimp only at hv ⊢;split at hv
 ·rename_i s;cases hv;obtain⟨h',e,hr⟩:=QS s;exact aH (dv (ss:=iZ) (by simp[iZ]) T1) e hr (by simp[AV.refs,AV.af])
 ·cases hv
def fY (s:List UInt8):Bool:=match od s with
 | ([t],_,e)=>decide (e=0)&&decide (t.kind=1)&&decide (t.text=s)
 | _=>false
def o8:ai:=⟨64,fun
 | [.str s]=>some (.bool (fY s))
 | _=>none⟩
theorem de:o8.f=64:=(rfl)
theorem AU (s:List UInt8):o8.S [.str s]=some (.bool (fY s)):=(rfl)
theorem AI:ck Tryz.prog dm o8:=fun args v hv=>by
 unfold o8 at hv ⊢;dsimp only at hv ⊢;split at hv
 ·rename_i s;cases hv;refine aH (n:=5) (h':=h0) (gQ (ss:=[MD]) (by simp[QN])) ?_ (by simp[AV.refs]) (by simp[AV.refs,AV.af]);have q:=QF s;have hn:=F3 (s.length+1) s (bO (s.length+1) s) []
  have hn':(od s).2.2≠0→(od s).1=[]:=by
   unfold od;split
   ·exact fun _=>rfl
   ·exact hn
  unfold fY;generalize od s=R at *;obtain⟨l,a,e⟩:=R;dsimp only at hn';unfold lL oj at q;by_cases he:e=0
  ·subst he
   cases l with
   | nil=>simp[BJ,Qm,vU,q]
   | cons t r=>
     cases r with
     | nil=>
       obtain⟨kd,tx,nm,op,at_⟩:=t;simp only[List.map_cons,List.map_nil,Tok.enc,Tok.cells] at q;by_cases k1:kd=1
       ·subst k1;by_cases k2:tx=s
        ·subst k2;simp[BJ,Qm,vU,q]
        ·have k3:(tx==s)=false:=by simpa using k2
         simp[BJ,Qm,vU,q,k2,k3]
       ·simp[BJ,Qm,vU,q,k1]
     | cons t2 r=>
       simp only[List.map_cons] at q;have k1:((r.length:Int)+1+1=1)=False:=eq_false (by omega);simp[BJ,Qm,vU,q,k1]
  ·obtain rfl:l=[]:=hn' he;simp[BJ,Qm,vU,q,he]
 ·cases hv
def nY (d:UInt8):Option UInt8:=if d.toNat=10 then some 110 else if d.toNat=9 then some 116 else if d.toNat=92 then some 92 else if d.toNat=39 then some 39 else none
theorem FT (d:UInt8):(∀b,nY d=some b→∃i:Nat,ie d.toNat [10,9,92,39]=(i:Int)∧([110,116,92,39]:List UInt8)[i]? =some b)∧(nY d=none→ie d.toNat [10,9,92,39]=-1):=by
 have nb:∀a:Nat,a≠d.toNat→Nat.beq a d.toNat=false:=fun a h=>by
  cases hb:Nat.beq a d.toNat with
  | false=>rfl
  | true=>exact absurd (Nat.eq_of_beq_eq_true hb) h
 have yb:∀a:Nat,a=d.toNat→Nat.beq a d.toNat=true:=fun a h=>by rw[h];exact Nat.beq_refl _
 have t1:(10:UInt8).toNat=10:=rfl;have t2:(9:UInt8).toNat=9:=rfl;have t3:(92:UInt8).toNat=92:=rfl;have t4:(39:UInt8).toNat=39:=rfl;unfold nY;by_cases h1:d.toNat=10
 ·rw[if_pos h1];refine⟨fun b e=>⟨0,?_,by cases e;rfl⟩,fun e=>by cases e⟩;simp[ie,t1,yb 10 h1.symm]
 rw[if_neg h1];by_cases h2:d.toNat=9
 ·rw[if_pos h2];refine⟨fun b e=>⟨1,?_,by cases e;rfl⟩,fun e=>by cases e⟩;simp[ie,t1,t2,nb 10 (Ne.symm h1),yb 9 h2.symm]
 rw[if_neg h2];by_cases h3:d.toNat=92
 ·rw[if_pos h3];refine⟨fun b e=>⟨2,?_,by cases e;rfl⟩,fun e=>by cases e⟩;simp[ie,t1,t2,t3,nb 10 (Ne.symm h1),nb 9 (Ne.symm h2),yb 92 h3.symm]
 rw[if_neg h3];by_cases h4:d.toNat=39
 ·rw[if_pos h4];refine⟨fun b e=>⟨3,?_,by cases e;rfl⟩,fun e=>by cases e⟩;simp[ie,t1,t2,t3,t4,nb 10 (Ne.symm h1),nb 9 (Ne.symm h2),nb 92 (Ne.symm h3),yb 39 h4.symm]
 rw[if_neg h4];refine⟨fun b e=>(by cases e),fun _=>?_⟩;simp[ie,t1,t2,t3,t4,nb 10 (Ne.symm h1),nb 9 (Ne.symm h2),nb 92 (Ne.symm h3),nb 39 (Ne.symm h4)];rfl
def oq:List UInt8→List UInt8→Option (List UInt8)
 | [],acc=>some acc
 | c::r,acc=>match nY c with
   | some d=>oq r (acc++[92,d])
   | none=>if c.toNat < 32∨126 < c.toNat then none else oq r (acc++[c])
def cb (s:List UInt8):List UInt8:=if fY s then s else if 64 < s.length then [] else match oq s [39] with
 | some t=>t++[39]
 | none=>[]
theorem uZ {c d:UInt8} {r acc:List UInt8} (h:nY c=some d):oq (c::r) acc=oq r (acc++[92,d]):=by
 conv=>lhs;unfold oq
 rw[h]
theorem Hy {c:UInt8} {r acc:List UInt8} (h:nY c=none) (h2:c.toNat < 32∨126 < c.toNat):oq (c::r) acc=none:=by
 unfold oq;rw[h];dsimp only;rw[if_pos h2]
theorem HZ {c:UInt8} {r acc:List UInt8} (h:nY c=none) (h2:¬ (c.toNat < 32∨126 < c.toNat)):oq (c::r) acc=oq r (acc++[c]):=by
 conv=>lhs;unfold oq
 rw[h];dsimp only;rw[if_neg h2]
def yS:List ai:=[o8,ff]
theorem Se:∀s ∈ yS,ck Tryz.prog dm s:=by simp[yS,AI,jO.lift]
def RU (q:Option (List UInt8)) (R:Option (Ex×List AV×aa)):Prop:=
 ∃md',(∃t,q=some t∧t≠[]∧t.length≤1000∧R=some (.exit 0,FM 47 [(3,.vec 1 0 t.length 1 t.length)],⟨2,[.row (bQ t),.dead],0,md'⟩))∨
   (q=none∧∃nx os wl md,os.length≤nx∧R=some (.ret,FM 47 [(2,.str [])],⟨nx,os,wl,md⟩))
theorem s6 (n:Nat) (s:List UInt8) (hl:s.length≤64):∀(post pre acc:List UInt8) (m md:Nat),s=pre++post→acc≠[]→acc.length≤2*pre.length+1→post.length < m→
 RU (oq post acc) (er 1 0 (aT (ak (aw (a8 yS) (n+1)) (n+1) jz) gT 1 m (HL (.vec 1 0 acc.length 1 acc.length) (.sl (bQ s)) (.int .i64 s.length) (.int .i64 pre.length)) ⟨2,[.row (bQ acc),.dead],1,md⟩))
 | _,_,_,0,_,_,_,_,h=>by omega
 | [],pre,acc,m+1,md,hs,hne,hac,hm=>by
   rw[ae];have hf:=eu acc;have hb:=mM acc;have hlen:=iy acc;rw[List.append_nil] at hs;subst hs;refine⟨md,.inl ⟨acc,rfl,hne,by omega,?_⟩⟩;simp[yS,jz,gT,hf]
 | c::r,pre,acc,m+1,md,hs,hne,hac,hm=>by
   rw[ae];have hps:pre.length+r.length+1=s.length:=by rw[hs];simp;omega
   have hf:=eu acc;have hb:=mM acc;have hlen:=iy acc;have h8:acc.length+1≤140737488355328:=by omega
   have h9:acc.length+1 < 9223372036854775808:=by omega
   have h8b:acc.length+2≤140737488355328:=by omega
   have h9b:acc.length+2 < 9223372036854775808:=by omega
   have h10:(bQ acc).take acc.length=bQ acc:=by rw[List.take_of_length_le];omega
   have h7:(acc.length+2≤acc.length)=False:=eq_false (by omega);have h6:((pre.length:Int) < (s.length:Int))=True:=eq_true (by omega);have hc:s[pre.length]? =some c:=by rw[hs];simp
   have hcV:(bQ s)[pre.length]? =some (.int .u8 c.toNat):=by unfold bQ;rw[List.getElem?_map,hc];rfl
   have h3:IntKind.i64.wrap ((pre.length:Int)+1)=(pre.length:Int)+1:=wrap_i64 (by omega) (by omega);have hsl:=iy s;have q:=dC [10,9,92,39] c;obtain⟨x1,x2⟩:=FT c
   cases he:nY c with
   | some d=>
     rw[uZ he];obtain⟨i,y1,y2⟩:=x1 d he;rw[y1] at q;have y3:(0≤(i:Int))=True:=eq_true (by omega);have ih:=s6 n s hl r (pre++[c]) (acc++[92,d]) m (min md 1) (by rw[hs];simp) (by simp) (by simp;omega) (by simp at hm;omega);have hv:bQ (acc++[92,d])=bQ acc++[.int .u8 92,.int .u8 d.toNat]:=by simp[bQ]
     have hf2:AV.af (bQ acc++[.int .u8 92,.int .u8 d.toNat])=0:=by rw[←hv];exact eu _
     simp only[List.length_append,List.length_cons,List.length_nil,Nat.zero_add,Int.natCast_add,Int.natCast_one,yS,hv,Nat.reduceAdd] at ih;simp[yS,jz,gT,de,ar,hf,hb,hlen,h8,h8b,h9,h9b,h10,au,h6,h7,hcV,hsl,h3,q,y2,y3,hf2];exact ih
   | none=>
     rw[x2 he] at q;by_cases k:c.toNat < 32∨126 < c.toNat
     ·rw[Hy he k];refine⟨0,.inr ⟨rfl,?_⟩⟩;by_cases k1:c.toNat < 32
      ·have k1':((c.toNat:Int) < 32)=True:=eq_true (by omega);refine⟨_,_,_,_,?_,by simp[yS,jz,gT,de,ar,hf,hb,hlen,h8,h8b,h9,h9b,h10,au,h6,h7,hcV,hsl,h3,q,k1'];exact⟨rfl,rfl,rfl,rfl⟩⟩;simp
      ·have k1':((c.toNat:Int) < 32)=False:=eq_false (by omega);have k2':(126 < (c.toNat:Int))=True:=eq_true (by omega);refine⟨_,_,_,_,?_,by simp[yS,jz,gT,de,ar,hf,hb,hlen,h8,h8b,h9,h9b,h10,au,h6,h7,hcV,hsl,h3,q,k1',k2'];exact⟨rfl,rfl,rfl,rfl⟩⟩;simp
     ·rw[HZ he k];have k1':((c.toNat:Int) < 32)=False:=eq_false (by omega);have k2':(126 < (c.toNat:Int))=False:=eq_false (by omega);have ih:=s6 n s hl r (pre++[c]) (acc++[c]) m (min md 1) (by rw[hs];simp) (by simp) (by simp;omega) (by simp at hm;omega);have hv:bQ (acc++[c])=bQ acc++[.int .u8 c.toNat]:=by simp[bQ]
      have hf2:AV.af (bQ acc++[.int .u8 c.toNat])=0:=by rw[←hv];exact eu _
      simp only[List.length_append,List.length_cons,List.length_nil,Nat.zero_add,Int.natCast_add,Int.natCast_one,yS,hv,Nat.reduceAdd] at ih;simp[yS,jz,gT,de,ar,hf,hb,hlen,h8,h8b,h9,h9b,h10,au,h6,h7,hcV,hsl,h3,q,k1',k2',hf2];exact ih
theorem JP (n:Nat) (s:List UInt8) (hl:s.length≤64):∀(c:UInt8) (r:List UInt8) (m md:Nat),s=c::r→r.length+1 < m→
 RU (oq (c::r) [39]) (er 1 0 (aT (ak (aw (a8 yS) (n+1)) (n+1) jz) gT 1 m (HL (.vec 0 0 1 1 1) (.sl (bQ s)) (.int .i64 s.length) (.int .i64 0)) ⟨1,[.row [.int .u8 39]],1,md⟩))
 | c,r,0,md,hs,hm=>by omega
 | c,r,m+1,md,hs,hm=>by
   rw[ae];have hps:r.length+1=s.length:=by rw[hs];simp
   have hf:AV.af [AV.int .u8 39]=0:=rfl;have hb:True:=trivial;have hlen:True:=trivial;have h8:True:=trivial;have h9:True:=trivial;have h8b:True:=trivial;have h9b:True:=trivial;have h10:True:=trivial;have h6:(0 < s.length)=True:=eq_true (by omega);have h7:True:=trivial;have hcV:True:=trivial;have eV:bQ s=.int .u8 c.toNat::bQ r:=by rw[hs];rfl
   rw[eV];have h3:IntKind.i64.wrap 1=1:=rfl;have hsl:(bQ r).length+1=s.length:=by rw[iy];omega
   have q:=dC [10,9,92,39] c;obtain⟨x1,x2⟩:=FT c
   cases he:nY c with
   | some d=>
     rw[uZ he];obtain⟨i,y1,y2⟩:=x1 d he;rw[y1] at q;have y3:(0≤(i:Int))=True:=eq_true (by omega);have ih:=s6 n s hl r ([]++[c]) ([39]++[92,d]) m 0 (by rw[hs];rfl) (by simp) (by simp) (by omega);have hv:bQ ([39]++[92,d])=[.int .u8 39,.int .u8 92,.int .u8 d.toNat]:=by simp[bQ]
     have hf2:AV.af ([.int .u8 39,.int .u8 92,.int .u8 d.toNat])=0:=by rw[←hv];exact eu _
     rw[eV] at ih;simp only[List.length_append,List.length_cons,List.length_nil,Nat.zero_add,Int.natCast_add,Int.natCast_one,yS,hv,Nat.reduceAdd] at ih;simp[yS,jz,gT,de,ar,hf,hb,hlen,h8,h8b,h9,h9b,h10,au,h6,h7,hcV,hsl,h3,q,y2,y3,hf2];exact ih
   | none=>
     rw[x2 he] at q;by_cases k:c.toNat < 32∨126 < c.toNat
     ·rw[Hy he k];refine⟨0,.inr ⟨rfl,?_⟩⟩;by_cases k1:c.toNat < 32
      ·have k1':((c.toNat:Int) < 32)=True:=eq_true (by omega);refine⟨_,_,_,_,?_,by simp[yS,jz,gT,de,ar,hf,hb,hlen,h8,h8b,h9,h9b,h10,au,h6,h7,hcV,hsl,h3,q,k1'];exact⟨rfl,rfl,rfl,rfl⟩⟩;simp
      ·have k1':((c.toNat:Int) < 32)=False:=eq_false (by omega);have k2':(126 < (c.toNat:Int))=True:=eq_true (by omega);refine⟨_,_,_,_,?_,by simp[yS,jz,gT,de,ar,hf,hb,hlen,h8,h8b,h9,h9b,h10,au,h6,h7,hcV,hsl,h3,q,k1',k2'];exact⟨rfl,rfl,rfl,rfl⟩⟩;simp
     ·rw[HZ he k];have k1':((c.toNat:Int) < 32)=False:=eq_false (by omega);have k2':(126 < (c.toNat:Int))=False:=eq_false (by omega);have ih:=s6 n s hl r ([]++[c]) ([39]++[c]) m 0 (by rw[hs];rfl) (by simp) (by simp) (by omega);have hv:bQ ([39]++[c])=[.int .u8 39,.int .u8 c.toNat]:=by simp[bQ]
      have hf2:AV.af ([.int .u8 39,.int .u8 c.toNat])=0:=by rw[←hv];exact eu _
      rw[eV] at ih;simp only[List.length_append,List.length_cons,List.length_nil,Nat.zero_add,Int.natCast_add,Int.natCast_one,yS,hv,Nat.reduceAdd] at ih;simp[yS,jz,gT,de,ar,hf,hb,hlen,h8,h8b,h9,h9b,h10,au,h6,h7,hcV,hsl,h3,q,k1',k2',hf2];exact ih
noncomputable def kl:ai:=⟨31,fun
 | [.str s]=>some (.str (cb s))
 | _=>none⟩
theorem cH:kl.f=31:=(rfl)
theorem pZ (s:List UInt8):kl.S [.str s]=some (.str (cb s)):=(rfl)
theorem vm:ck Tryz.prog dm kl:=fun args v hv=>by
 unfold kl at hv ⊢;dsimp only at hv ⊢;split at hv
 ·rename_i s;cases hv;refine aH (n:=102) (h':=h0) (gQ Se) ?_ (by simp[AV.refs]) (by simp[AV.refs,AV.af]);have q:=AU s;unfold cb
  cases hp:fY s with
  | true=>
    rw[hp] at q;simp[yS,FL,c31,de,ar,q]
  | false=>
    rw[hp] at q;simp only[Bool.false_eq_true,if_false];by_cases hl:64 < s.length
    ·have hl':((64:Int) < (s.length:Int))=True:=eq_true (by omega);rw[if_pos hl];simp[yS,FL,c31,de,ar,q,hl']
    ·have hl':((64:Int) < (s.length:Int))=False:=eq_false (by omega);rw[if_neg hl];have e1:(s.map fun b=>AV.int .u8 b.toNat)=bQ s:=rfl;have hsl:=iy s
     cases s with
     | nil=>simp[yS,FL,c31,gT,jz,de,ar,q,ae,oq,au,bytesOf]
     | cons c r=>
     have lp:=JP 100 (c::r) (by omega) c r 101 0 rfl (by simp at hl;omega);simp only[yS,HL,gT] at lp;obtain⟨md,⟨t,e3,hne,htl,e4⟩ | ⟨e3,nx,os,wl,md,hno,e4⟩⟩:=lp
     ·rw[e3];have hf:=eu t;have hb:=mM (t++[39]);rw[iA,show (((39:UInt8).toNat:Nat):Int)=39 from rfl] at hb;have hlen:=iy t;have h8:t.length+1≤140737488355328:=by omega
      have h9:t.length+1 < 9223372036854775808:=by omega
      have h10:(bQ t).take t.length=bQ t:=by rw[List.take_of_length_le];omega
      have h11:(bQ t++[AV.int .u8 39]).take (t.length+1)=bQ t++[.int .u8 39]:=by rw[List.take_of_length_le];simp[hlen]
      generalize c::r=s at *;simp[yS,FL,c31,gT,de,ar,q,hl',e1,hsl,e4,h11,hf,hb,hlen,h8,h9,h10,au]
     ·rw[e3];generalize c::r=s at *;simp[yS,FL,c31,gT,de,ar,q,hl',e1,hsl,e4,hno]
 ·cases hv
def yV (s:List UInt8) (b:Bool):List UInt8:=if b then [40]++s++[41] else s
def kZ (t:Tm):Bool:=decide (-9223372036854775808≤t.num)&&decide (t.num < 9223372036854775808)
def ib (t:Tm):Prop:=dp t=true∧t.eU < 1000000000∧t.eM kZ=true
def om (t:Tm):Tm:=t.args.getD 0 (.nl 0 0 [])
def Of (t:Tm):Tm:=t.args.getD 1 (.nl 0 0 [])
theorem iV {us:List Tm} {y:Tm} (h:y ∈ us):y.size≤Tm.aI us:=by
 induction us with
 | nil=>simp at h
 | cons t r ih=>
   simp only[Tm.aI];rcases List.mem_cons.1 h with rfl | h
   ·omega
   ·have:=ih h;omega
theorem Lu {us:List Tm} {y:Tm} (h:y ∈ us):y.depth≤Tm.iu us:=by
 induction us with
 | nil=>simp at h
 | cons t r ih=>
   simp only[Tm.iu];rcases List.mem_cons.1 h with rfl | h
   ·omega
   ·have:=ih h;omega
theorem pO {p:Tm→Bool}:∀{us:List Tm},Tm.eN p us=true→∀y ∈ us,y.eM p=true
 | [],_,y,h=>by simp at h
 | t::r,h,y,hy=>by
   simp only[Tm.eN,Bool.and_eq_true] at h;rcases List.mem_cons.1 hy with rfl | hy
   ·exact h.1
   ·exact pO h.2 y hy
theorem dI {t y:Tm} (h:ib t) (hy:y ∈ t.args):ib y:=by
 obtain⟨h1,h2,h3⟩:=h;simp only[dp,Bool.and_eq_true,decide_eq_true_eq] at h1;have e1:=aM t;have e2:=lq t;have e3:=ng t;have f1:=iV hy;have f2:=Lu hy;have f3:=ti _ _ hy;rw[dd,Bool.and_eq_true] at h3;have g:=h1.2;rw[dd,Bool.and_eq_true] at g;refine⟨?_,by omega,pO h3.2 y hy⟩;simp only[dp,Bool.and_eq_true,decide_eq_true_eq];exact⟨⟨by omega,by omega⟩,pO g.2 y hy⟩
theorem jb {t:Tm} (h:1≤t.args.length):om t ∈ t.args:=by
 unfold om;rw[List.getD_eq_getElem?_getD,List.getElem?_eq_getElem (by omega)];exact List.getElem_mem _
theorem C9 {t:Tm} (h:2≤t.args.length):Of t ∈ t.args:=by
 unfold Of;rw[List.getD_eq_getElem?_getD,List.getElem?_eq_getElem (by omega)];exact List.getElem_mem _
theorem jG:∀(k:Nat) (t:Tm),t.size≤k→ib t→(∀y ∈ (aE t).1,ib y∧y.size < t.size)∧ib (aE t).2∧(dx t=true→(aE t).2.size < t.size)
 | 0,t,hk,_=>by have:=aM t;omega
 | k+1,t,hk,h=>by
   cases hd:dx t with
   | false=>
     rw[fT hd];exact⟨fun y hy=>by simp at hy,h,fun e=>by cases e⟩
   | true=>
     obtain⟨x,r,e1,e2⟩:=eb hd;have hs:=aM t;rw[e1] at hs;simp only[Tm.aI] at hs;have hx:=dI h (y:=x) (by rw[e1];simp);have hr:=dI h (y:=r) (by rw[e1];simp);obtain⟨i1,i2,i3⟩:=jG k r (by omega) hr;rw[e2];refine⟨fun y hy=>?_,i2,fun _=>?_⟩
     ·rcases List.mem_cons.1 hy with rfl | hy
      ·exact⟨hx,by omega⟩
      ·exact⟨(i1 y hy).1,by have:=(i1 y hy).2;omega⟩
     ·dsimp only
      cases hrd:dx r with
      | true=>have:=i3 hrd;omega
      | false=>rw[fT hrd];dsimp only;omega
theorem jY:∀(k:Nat) (t:Tm),t.size≤k→Tm.aI (aE t).1+(aE t).2.size≤t.size∧(dx t=true→Tm.aI (aE t).1+(aE t).2.size+1≤t.size)
 | 0,t,hk=>by have:=aM t;omega
 | k+1,t,hk=>by
   cases hd:dx t with
   | false=>rw[fT hd];exact⟨by simp[Tm.aI],fun e=>by cases e⟩
   | true=>
     obtain⟨x,r,e1,e2⟩:=eb hd;have hs:=aM t;rw[e1] at hs;simp only[Tm.aI] at hs;have:=(jY k r (by omega)).1;rw[e2];simp only[Tm.aI];exact⟨by omega,fun _=>by omega⟩
def cZ (T:List aF) (b:Bool) (t:Tm):aF×Bool:=if !b||!decide (t.args.length=2)||decide (t.name=[46]) then (eX,false) else aQ T t.name false
def dn (T:List aF) (b:Bool) (t:Tm):aF×Bool:=
 if !b||!decide (t.args.length=1)||(decide (t.name=[45])&&decide ((om t).kind=1))||!fY t.name then (eX,false) else aQ T t.name true
def tQ (T:List aF) (b:Bool) (s:List UInt8) (n:Int) (bs:Bool):List UInt8:=
 yV (cb s) ((b&&((aQ T s false).2||(aQ T s true).2))&&(bs||decide (n < max (aQ T s false).1.l (aQ T s true).1.l)))
def Am (s:List UInt8):List UInt8:=if s=[44] then [44] else [32]++cb s++[32]
def isLeft (o:aF):Bool:=decide (o.k=[121,102,120])
def lW (T:List aF) (b:Bool) (o:aF) (t:Tm):Int:=if isLeft o&&!((cZ T b (om t)).2&&isLeft (cZ T b (om t)).1) then (bz o).1 - 1 else (bz o).1
def mC (t:Tm):Bool:=!decide (t.kind < 2)&&decide (t.name=[91,93])&&decide (t.args.length=0)
def wT (T:List aF) (b:Bool) (vr:Int→List UInt8):Nat→Tm→Int→Bool→List UInt8
 | 0,_,_,_=>[]
 | N+1,t,n,bs=>
   if t.kind=0 then vr t.num
   else if t.kind=1 then yV (fj t.num) (bs&&decide (t.num < 0))
   else if t.args.length=0 then tQ T b t.name n bs
   else if (b&&decide (t.name=[46]))&&decide (t.args.length=2) then
    [91]++Lib.join ((aE t).1.map fun x=>wT T b vr N x 999 false) [44]++(if mC (aE t).2 then [] else [124]++wT T b vr N (aE t).2 999 false)++[93]
   else if (b&&decide (t.name=[123,125]))&&decide (t.args.length=1) then [123]++wT T b vr N (om t) 1200 false++[125]
   else if (cZ T b t).2 then
    yV (wT T b vr N (om t) (lW T b (cZ T b t).1 t) true++Am t.name++wT T b vr N (Of t) (bz (cZ T b t).1).2 true) (decide (n < (cZ T b t).1.l))
   else if (dn T b t).2 then
    yV (cb t.name++[32]++wT T b vr N (om t) (bz (dn T b t).1).2 true) (decide (n < (dn T b t).1.l))
   else cb t.name++[40]++Lib.join (t.args.map fun x=>wT T b vr N x 999 false) [44]++[41]
theorem xw (s:List UInt8) (b:Bool):(yV s b).length≤s.length+2:=by
 unfold yV;split<;>simp
theorem xC:∀(r acc t:List UInt8),oq r acc=some t→t.length≤acc.length+2*r.length
 | [],acc,t,h=>by cases h;omega
 | c::r,acc,t,h=>by
   unfold oq at h;split at h
   ·have:=xC r _ t h;simp at this ⊢;omega
   ·split at h
    ·cases h
    ·have:=xC r _ t h;simp at this ⊢;omega
theorem fK {s:List UInt8} (h:s.length≤64):(cb s).length≤130:=by
 unfold cb;split
 ·omega
 ·split
  ·simp
  ·split
   ·rename_i t ht;have:=xC _ _ _ ht;simp at this ⊢;omega
   ·simp
theorem iU (p:List UInt8):∀l:List (List UInt8),(Lib.join l p).length≤(l.map fun s=>s.length+p.length).sum
 | []=>by simp[Lib.join]
 | [s]=>by simp[Lib.join]
 | s::r::q=>by
   have:=iU p (r::q);have e:Lib.join (s::r::q) p=s++p++Lib.join (r::q) p:=by simp[Lib.join,List.intercalate,List.intersperse]
   rw[e];simp only[List.length_append,List.map_cons,List.sum_cons] at this ⊢;omega
theorem jx (n:Int) (h:-9223372036854775808≤n∧n < 9223372036854775808):(fj n).length≤20:=by
 rw[mO n h.1 h.2];exact (Qk n h.1 h.2).2
theorem ln {t:Tm} (h:ib t):t.name.length≤64:=by
 have h1:=h.1;simp only[dp,Bool.and_eq_true,decide_eq_true_eq] at h1;have g:=h1.2;rw[dd,Bool.and_eq_true] at g;have o:=g.1;unfold fc at o;split at o
 ·simp only[Bool.and_eq_true,decide_eq_true_eq] at o;rw[o.1.2];simp
 ·split at o
  ·simp only[Bool.and_eq_true,decide_eq_true_eq] at o;rw[o.1];simp
  ·split at o
   ·simp only[Bool.and_eq_true,decide_eq_true_eq,jw] at o;exact o.1.2.2
   ·cases o
theorem o5 {t:Tm} (h:ib t):t.kind=0∨t.kind=1∨t.kind=2:=by
 have h1:=h.1;simp only[dp,Bool.and_eq_true,decide_eq_true_eq] at h1;have g:=h1.2;rw[dd,Bool.and_eq_true] at g;have o:=g.1;unfold fc at o;split at o
 ·rename_i e;exact .inl e
 ·split at o
  ·rename_i e;exact .inr (.inl e)
  ·split at o
   ·rename_i e;exact .inr (.inr e)
   ·cases o
theorem xa {t:Tm} (h:ib t):-9223372036854775808≤t.num∧t.num < 9223372036854775808:=by
 have:=h.2.2;rw[dd,Bool.and_eq_true] at this;simp only[kZ,Bool.and_eq_true,decide_eq_true_eq] at this;exact this.1
theorem Aq {s:List UInt8} (h:s.length≤64):(Am s).length≤132:=by
 have:=fK h;unfold Am;split<;>simp<;>omega
theorem n7 {f:Tm→Nat}:∀(us:List Tm),(∀y ∈ us,f y+10≤150*y.size)→(us.map fun y=>f y+1).sum≤150*Tm.aI us
 | [],_=>by simp
 | t::r,h=>by
   have h1:=h t (by simp);have h2:=n7 r (fun y hy=>h y (List.mem_cons_of_mem _ hy));simp only[List.map_cons,List.sum_cons,Tm.aI];omega
theorem oI (T:List aF) (b:Bool) (vr:Int→List UInt8) (hv:∀n,(vr n).length≤21):∀(N:Nat) (t:Tm) (n:Int) (bs:Bool),ib t→(wT T b vr N t n bs).length+10≤150*t.size
 | 0,t,n,bs,_=>by have:=aM t;simp[wT];omega
 | N+1,t,n,bs,h=>by
   have hs:=aM t;have hnm:=ln h;have hq:=fK hnm;unfold wT;split
   ·have:=hv t.num;omega
   ·rename_i nk0;split
    ·have h1:=jx t.num (xa h);have h2:=xw (fj t.num) (bs&&decide (t.num < 0));omega
    ·rename_i nk1;split
     ·have:=xw (cb t.name) ((b&&((aQ T t.name false).2||(aQ T t.name true).2))&&(bs||decide (n < max (aQ T t.name false).1.l (aQ T t.name true).1.l)));unfold tQ;omega
     ·split
      ·rename_i hc;simp only[Bool.and_eq_true,decide_eq_true_eq] at hc
       have hdot:dx t=true:=by
        have hk:t.kind=2:=by
         rcases o5 h with k | k | k
         ·exact absurd k nk0
         ·exact absurd k nk1
         ·exact k
        simp[dx,hk,hc.1.2,hc.2]
       obtain⟨i1,i2,i3⟩:=jG t.size t (Nat.le_refl _) h;have jj:=(jY t.size t (Nat.le_refl _)).2 hdot;have j:=jY t.size t (Nat.le_refl _);have k1:=iU [44] ((aE t).1.map fun x=>wT T b vr N x 999 false);have k2:=n7 (f:=fun x=>(wT T b vr N x 999 false).length) (aE t).1 (fun y hy=>oI T b vr hv N y 999 false (i1 y hy).1);have k3:=oI T b vr hv N (aE t).2 999 false i2;rw[List.map_map] at k1;simp only[List.length_cons,List.length_nil,Nat.zero_add] at k1;have k4:(Lib.join ((aE t).1.map fun x=>wT T b vr N x 999 false) [44]).length≤150*Tm.aI (aE t).1:=Nat.le_trans k1 k2
       have k5:(if mC (aE t).2 then ([]:List UInt8) else [124]++wT T b vr N (aE t).2 999 false).length≤(wT T b vr N (aE t).2 999 false).length+1:=by
        split<;>simp
       simp only[List.length_append,List.length_cons,List.length_nil];omega
      ·split
       ·rename_i hc;simp only[Bool.and_eq_true,decide_eq_true_eq] at hc;have k:=oI T b vr hv N (om t) 1200 false (dI h (jb (by omega)));have k2:=iV (jb (t:=t) (by omega));simp only[List.length_append,List.length_cons,List.length_nil];omega
       ·split
        ·rename_i hi
         have hl:t.args.length=2:=by
          unfold cZ at hi;split at hi
          ·cases hi
          ·rename_i hc;simp at hc;exact hc.1.2
         have k0:=oI T b vr hv N (om t) (lW T b (cZ T b t).1 t) true (dI h (jb (by omega)));have k1:=oI T b vr hv N (Of t) (bz (cZ T b t).1).2 true (dI h (C9 (by omega)))
         have k2:(om t).size+(Of t).size≤Tm.aI t.args:=by
          obtain⟨x,y,e⟩:∃x y,t.args=[x,y]:=by
           match ha:t.args with
           | [x,y]=>exact⟨x,y,rfl⟩
           | []=>rw[ha] at hl;simp at hl
           | [x]=>rw[ha] at hl;simp at hl
           | x::y::z::r=>rw[ha] at hl;simp at hl
          unfold om Of;rw[e];simp[Tm.aI]
         have k3:=Aq hnm;refine Nat.le_trans (Nat.add_le_add_right (xw _ _) 10) ?_;simp only[List.length_append];omega
        ·split
         ·rename_i hi
          have hl:t.args.length=1:=by
           unfold dn at hi;split at hi
           ·cases hi
           ·rename_i hc;simp at hc;exact hc.1.1.2
          have k:=oI T b vr hv N (om t) (bz (dn T b t).1).2 true (dI h (jb (by omega)));have k2:=iV (jb (t:=t) (by omega));refine Nat.le_trans (Nat.add_le_add_right (xw _ _) 10) ?_;simp only[List.length_append,List.length_cons,List.length_nil];omega
         ·have k1:=iU [44] (t.args.map fun x=>wT T b vr N x 999 false);have k2:=n7 (f:=fun x=>(wT T b vr N x 999 false).length) t.args (fun y hy=>oI T b vr hv N y 999 false (dI h hy));rw[List.map_map] at k1;simp only[List.length_cons,List.length_nil,Nat.zero_add] at k1;have k4:(Lib.join (t.args.map fun x=>wT T b vr N x 999 false) [44]).length≤150*Tm.aI t.args:=Nat.le_trans k1 k2;simp only[List.length_append,List.length_cons,List.length_nil];omega
end Go.Proofs.YtjmeonoabiliiaaGreatDoor

namespace Sz
theorem Qs (o:aC):eL (fun i=>i) o=o:=by
 cases o with
 | dead=>rfl
 | row cs=>
   simp only[eL];congr 1;conv=>rhs;rw[←List.map_id cs]
   exact List.map_congr_left fun v _=>x9
 | map es=>
   simp only[eL];congr 1;conv=>rhs;rw[←List.map_id es]
   exact List.map_congr_left fun e _=>by rw[x9,x9];rfl
theorem GB {P:Go.Program} {X:Go.World→Prop} {E:Env} (hE:dA P X E) {n f:Nat} {rest:List AV} {os:List aC} {v:AV} {h1:aa} (he:aw E n f (.ptr 0 0::rest) (zQ os)=some (v,h1)) (hg:∀i,i < os.length→h1.get i=os[i]?)
 (hv:v.refs=0) (hr:AV.af rest=0) (h0:0 < os.length) (hc:∀o ∈ os,Aa os.length o=true):jL P X f (.ptr 0 0::rest) os v none:=
 B6 (qs:=[]) hE he hv (fun a ha=>by
  rcases List.mem_cons.1 ha with rfl | ha
  ·exact decide_eq_true h0
  ·exact nw _ (by have:=AV.bP ha;omega)) (Nat.le_refl _) (CH (by simp) (by simp) (by simp) fun i o ho _=>by
   simp only[Option.getD] at ho;obtain⟨hi,rfl⟩:=List.getElem?_eq_some_iff.1 ho;have hl:=hc _ (List.getElem_mem hi);refine⟨?_,hl⟩
   have e:eL (tf os.length []) os[i]=os[i]:=by
    rw[Ep (g':=fun i=>i) (fun j hj=>by unfold tf;rw[if_pos hj]) hl,Qs]
   rw[e];have e2:tf os.length [] i=i:=by unfold tf;rw[if_pos hi]
   rw[e2,hg i hi];exact List.getElem?_eq_getElem hi)
end Sz
namespace Go.Proofs.YtjmeonoabiliiaaGreatDoor
open Go Sz
def eO (ps:List (Int×Int)):List (AV×AV):=ps.map fun p=>(.int .i64 p.1,.int .i64 p.2)
def GD:List (AV×AV)→Option (List (Int×Int))
 | []=>some []
 | (.int .i64 a,.int .i64 b)::r=>(GD r).map ((a,b)::·)
 | _=>none
theorem FN:∀ps,GD (eO ps)=some ps
 | []=>rfl
 | (a,b)::r=>by
   have:=FN r;unfold eO at this ⊢;simp[GD,this]
theorem Dm:∀{es:List (AV×AV)} {ps:List (Int×Int)},GD es=some ps→es=eO ps
 | [],ps,h=>by simp[GD] at h;subst h;rfl
 | (x,y)::r,ps,h=>by
   unfold GD at h;split at h
   ·rename_i he;cases he
   ·rename_i a b r' he;cases he;simp only[Option.map_eq_some_iff] at h;obtain⟨q,h1,rfl⟩:=h;rw[Dm h1];rfl
   ·cases h
def Ge (n:Int):List (Int×Int)→Option Int
 | []=>none
 | (a,b)::r=>if n=a then some b else Ge n r
theorem Ot (n:Int):∀ps,kz 1 (.int .i64 n) (eO ps)=some ((Ge n ps).map fun b=>.int .i64 b)
 | []=>rfl
 | (a,b)::r=>by
   have ih:=Ot n r;unfold eO at ih ⊢;simp only[List.map_cons,kz,Ge];by_cases h:n=a
   ·subst h;simp[fh]
   ·simp[fh,h,ih]
def QA (ps:List (Int×Int)) (n:Int):Int:=(Ge n ps).getD 0
def lG (ps:List (Int×Int)):Bool:=ps.all fun p=>decide (0≤p.2)&&decide (p.2 < 1000000000)
theorem IP {ps:List (Int×Int)} (h:lG ps=true) (n:Int):0≤QA ps n∧QA ps n < 1000000000:=by
 unfold QA
 induction ps with
 | nil=>simp[Ge]
 | cons p r ih=>
   obtain⟨a,b⟩:=p;simp only[lG,List.all_cons,Bool.and_eq_true,decide_eq_true_eq] at h;unfold Ge;split
   ·exact h.1
   ·exact ih h.2
def iv (ps:List (Int×Int)) (n:Int):List UInt8:=[95]++fj (QA ps n)
theorem jT {ps:List (Int×Int)} (h:lG ps=true) (n:Int):(iv ps n).length≤21:=by
 have:=IP h n;have:=jx (QA ps n) (by omega);simp[iv];omega
theorem bZ (τ:List Nat) (ps:List (Int×Int)):okO τ (.map (eO ps))=true:=by
 rw[bL,List.all_eq_true];intro e he;obtain⟨p,_,rfl⟩:=List.mem_map.1 he;rfl
theorem bB (g:Nat→Nat) (ps:List (Int×Int)):eL g (.map (eO ps))=.map (eO ps):=by
 rw[bw];congr 1;unfold eO;rw[List.map_map];rfl
theorem L1 (n:Nat) (ps:List (Int×Int)):Aa n (.map (eO ps))=true:=by
 show ((eO ps).all fun e=>cf n e.1&&cf n e.2)=true;rw[List.all_eq_true];intro e he;obtain⟨p,_,rfl⟩:=List.mem_map.1 he;rfl
structure Wr where
 T:List aF
 b:Bool
 ps:List (Int×Int)
def w6:List aC→Option Wr
 | [.row [x,.bool b,.map 1],.map es]=>(match a6 x,GD es with
   | some T,some ps=>if T.length < 1000000∧lG ps=true then some ⟨T,b,ps⟩ else none
   | _,_=>none)
 | _=>none
def gY (x:AV) (b:Bool) (ps:List (Int×Int)):List aC:=[.row [x,.bool b,.map 1],.map (eO ps)]
theorem iN {os:List aC} {W:Wr} (h:w6 os=some W):∃x,a6 x=some W.T∧os=gY x W.b W.ps∧W.T.length < 1000000∧lG W.ps=true:=by
 unfold w6 at h;split at h
 ·rename_i x b es;split at h
  ·rename_i T ps h1 h2;split at h
   ·rename_i hc;cases h;exact⟨x,h1,by rw[Dm h2];rfl,hc.1,hc.2⟩
   ·cases h
  ·cases h
 ·cases h
theorem kL {x:AV} {T:List aF} (hx:a6 x=some T) (b:Bool) (ps:List (Int×Int)) (hT:T.length < 1000000) (hp:lG ps=true):w6 (gY x b ps)=some ⟨T,b,ps⟩:=by
 simp only[w6,gY,hx,FN];rw[if_pos ⟨hT,hp⟩]
theorem O1 {x:AV} {T:List aF} (hx:a6 x=some T) (b:Bool) (ps:List (Int×Int)):∀o ∈ gY x b ps,Aa (gY x b ps).length o=true:=fun o ho=>by
 simp only[gY,List.mem_cons,List.not_mem_nil,or_false] at ho;rcases ho with rfl | rfl
 ·show List.all _ _=true;simp only[List.all_cons,List.all_nil,Bool.and_true];rw[nw _ (bC hx)];rfl
 ·exact L1 _ _
theorem mj {X:World→Prop} {E:Env} (hE:dA Tryz.prog X E) {n f:Nat} {rest:List AV} {x:AV} {T:List aF} (hx:a6 x=some T) {b:Bool} {ps:List (Int×Int)} {v:AV} {m:Nat}
 (he:aw E n f (.ptr 0 0::rest) ⟨2,[.map (eO ps),.row [x,.bool b,.map 1]],2,2⟩=some (v,⟨2,[.map (eO ps),.row [x,.bool b,.map 1]],2,m⟩)) (hv:v.refs=0) (hr:AV.af rest=0):jL Tryz.prog X f (.ptr 0 0::rest) (gY x b ps) v none:=
 GB hE he (fun i hi=>by
  match i,hi with
  | 0,_=>rfl
  | 1,_=>rfl
  | i+2,hi=>exact absurd (show i+2 < 2 from hi) (by omega)) hv hr (by simp[gY]) (O1 hx b ps)
def hP:ai:=⟨136,fun | [.str s,.bool b]=>if s.length < 1000000000 then some (.str (yV s b)) else none | _=>none⟩
theorem cR:hP.f=136:=(rfl)
theorem lX (s:List UInt8) (b:Bool) (h:s.length < 1000000000):hP.S [.str s,.bool b]=some (.str (yV s b)):=if_pos h
theorem wx:az Tryz.prog hP:=fun args v hv=>by
 unfold hP at hv ⊢;dsimp only at hv ⊢;split at hv
 ·rename_i s b;split at hv
  ·rename_i hl;cases hv;refine aH (n:=5) (h':=h0) (aG (ss:=[]) (by simp)) ?_ (by simp[AV.refs]) (by simp[AV.refs,AV.af]);have h1:s.length+1 < 9223372036854775808:=by omega
   have h2:1+s.length < 9223372036854775808:=by omega
   have h3:s.length+1+1 < 9223372036854775808:=by omega
   have h4:1+s.length+1 < 9223372036854775808:=by omega
   unfold yV;cases b<;>simp[To,P3,h1,h2,h3,h4]
  ·cases hv
 ·cases hv
def fM:aU:=⟨139,fun
 | [.ptr 0 0,v],os=>(match w6 os,dB v with
   | some W,some t=>some (.tuple [(cZ W.T W.b t).1.enc,.bool (cZ W.T W.b t).2],none)
   | _,_=>none)
 | _,_=>none⟩
theorem bF:fM.f=139:=(rfl)
theorem wG {x:AV} {T:List aF} (hx:a6 x=some T) (b:Bool) (ps:List (Int×Int)) (hT:T.length < 1000000) (hp:lG ps=true) (t:Tm):
 fM.S [.ptr 0 0,t.enc] (gY x b ps)=some (.tuple [(cZ T b t).1.enc,.bool (cZ T b t).2],none):=by
 simp only[fM,kL hx b ps hT hp,aX]
theorem iP (a b:List UInt8):(a==b)=decide (a=b):=by
 by_cases h:a=b
 ·subst h;simp
 ·rw[decide_eq_false h];simpa using h
theorem fB (t:Tm) (fr:List AV) (h:aa) (o:bW) (ho:o.ev fr=t.aJ):aW fr h (.ud o)=some (.int .i64 t.args.length,h):=by
 rw[jy,ho];cases t<;>simp[Tm.aJ,Tm.args]
theorem wB:iY Tryz.prog fM:=fun args os v r hv=>by
 unfold fM at hv;dsimp only at hv;split at hv
 ·rename_i v0 os;split at hv
  ·rename_i W t hW ht;cases hv;obtain⟨x,hx,rfl,hT,hp⟩:=iN hW;obtain⟨T,b,ps⟩:=W;dsimp only at hx hT hp ⊢;rw[bc ht,bF];have hlv:=fB t;have q:=Pn hx t.name (by omega);have hxr:=bC hx;have har:=ah t;have e1:=iP t.name [46];have hcl:=Tm.an t;simp only[aF.enc,aF.cells] at q;refine mj (n:=6) (m:=2) (pH (ss:=[RQ]) (ms:=[]) (by simp[OU]) (by simp)) hx ?_ (by simp[AV.refs,AV.af,aF.enc,aF.cells]) (by simp[AV.af,Tm.ba]);rw[Tm.ay,hcl];unfold cZ
   cases b with
   | false=>simp[tt,c139,xQ,hlv,har,ag,aF.enc,aF.cells,eX]
   | true=>
     by_cases h2:t.args.length=2
     ·have h2':((t.args.length:Int)=2)=True:=eq_true (by omega);by_cases h3:t.name=[46]
      ·have e2:(t.name==[46])=true:=by rw[e1];exact decide_eq_true h3
       simp[tt,c139,xQ,hlv,har,ag,h2,h2',h3,aF.enc,aF.cells,eX]
      ·have e2:(t.name==[46])=false:=by rw[e1];exact decide_eq_false h3
       rcases aD hx with⟨rfl,rfl⟩ | rfl
       ·simp[tt,c139,xQ,hlv,har,ag,h2,h2',h3,e2,q,aF.enc,aF.cells]
       ·simp[tt,c139,xQ,hlv,har,ag,h2,h2',h3,e2,q,aF.enc,aF.cells]
     ·have h2':((t.args.length:Int)=2)=False:=eq_false (by omega);simp[tt,c139,xQ,hlv,har,ag,h2,h2',aF.enc,aF.cells,eX]
  ·cases hv
 ·cases hv
end Go.Proofs.YtjmeonoabiliiaaGreatDoor

namespace Go.Proofs.YtjmeonoabiliiaaGreatDoor
open Go Sz
theorem mJ {t:Tm} (h:t.args.length=1):∃y,t.args=[y]∧t.aJ=.sl [y.enc]∧om t=y:=by
 cases t with
 | nl k n s=>simp[Tm.args] at h
 | mk k n s us=>
   match us,h with
   | [y],_=>exact⟨y,rfl,rfl,rfl⟩
   | [],h=>simp[Tm.args] at h
   | x::y::r,h=>simp[Tm.args] at h
theorem zj {t:Tm} (h:t.args.length=2):∃y z,t.args=[y,z]∧t.aJ=.sl [y.enc,z.enc]∧om t=y∧Of t=z:=by
 cases t with
 | nl k n s=>simp[Tm.args] at h
 | mk k n s us=>
   match us,h with
   | [y,z],_=>exact⟨y,z,rfl,rfl,rfl,rfl⟩
   | [],h=>simp[Tm.args] at h
   | [y],h=>simp[Tm.args] at h
   | x::y::z::r,h=>simp[Tm.args] at h
def mc:aU:=⟨141,fun
 | [.ptr 0 0,v],os=>(match w6 os,dB v with
   | some W,some t=>some (.tuple [(dn W.T W.b t).1.enc,.bool (dn W.T W.b t).2],none)
   | _,_=>none)
 | _,_=>none⟩
theorem dZ:mc.f=141:=(rfl)
theorem KV {x:AV} {T:List aF} (hx:a6 x=some T) (b:Bool) (ps:List (Int×Int)) (hT:T.length < 1000000) (hp:lG ps=true) (t:Tm):
 mc.S [.ptr 0 0,t.enc] (gY x b ps)=some (.tuple [(dn T b t).1.enc,.bool (dn T b t).2],none):=by
 simp only[mc,kL hx b ps hT hp,aX]
theorem KN:ch Tryz.prog dm mc:=fun args os v r hv=>by
 unfold mc at hv;dsimp only at hv;split at hv
 ·rename_i v0 os;split at hv
  ·rename_i W t hW ht;cases hv;obtain⟨x,hx,rfl,hT,hp⟩:=iN hW;obtain⟨T,b,ps⟩:=W;dsimp only at hx hT hp ⊢;rw[bc ht,dZ];have hlv:=fB t;have q:=IW hx t.name (by omega);have q2:=AU t.name;have hxr:=bC hx;have har:=ah t;have e1:=iP t.name [45];have hcl:=Tm.an t;simp only[aF.enc,aF.cells] at q;refine mj (n:=6) (m:=2) (dv (ss:=[z8,o8]) (ms:=[]) (by simp[Ju.lift,AI]) (by simp)) hx ?_ (by simp[AV.refs,AV.af,aF.enc,aF.cells]) (by simp[AV.af,Tm.ba]);rw[Tm.ay,hcl];unfold dn
   cases b with
   | false=>simp[kI,c141,kT,de,hlv,har,ag,aF.enc,aF.cells,eX]
   | true=>
     by_cases h2:t.args.length=1
     ·have h2':((t.args.length:Int)=1)=True:=eq_true (by omega);obtain⟨y,ha,hav,hy⟩:=mJ h2;have hye:=Tm.ay y;have hyc:=Tm.an y;have hyr:=ah y
      have hlv':∀(fr:List AV) (h:aa) (o:bW),o.ev fr=.sl [y.enc]→aW fr h (.ud o)=some (.int .i64 1,h):=fun fr h o ho=>by
       rw[jy,ho];rfl
      rw[hav,hy,hye,hyc]
      have fin:∀(c:Bool),((decide (t.name=[45])&&decide (y.kind=1))=c)→(aw (cW [z8,o8] []) 6 141 [.ptr 0 0,.agg [.int .i64 t.kind,.int .i64 t.num,.str t.name,.sl [.agg [.int .i64 y.kind,.int .i64 y.num,.str y.name,y.aJ]]]] ⟨2,[.map (eO ps),.row [x,.bool true,.map 1]],2,2⟩=
       some (if c||!fY t.name then .tuple [eX.enc,.bool false] else .tuple [(aQ T t.name true).1.enc,.bool (aQ T t.name true).2],⟨2,[.map (eO ps),.row [x,.bool true,.map 1]],2,2⟩)):=fun c hc=>by
       cases c with
       | true=>
         simp only[Bool.and_eq_true,decide_eq_true_eq] at hc;have e2:(t.name==[45])=true:=by rw[e1];exact decide_eq_true hc.1
         simp[kI,c141,kT,de,hyr,ag,hc.1,hc.2,aF.enc,aF.cells,eX]
       | false=>
         have rest:∀(d:Bool),(t.name==[45])=d→(d=true→(y.kind=1)=False)→(aw (cW [z8,o8] []) 6 141 [.ptr 0 0,.agg [.int .i64 t.kind,.int .i64 t.num,.str t.name,.sl [.agg [.int .i64 y.kind,.int .i64 y.num,.str y.name,y.aJ]]]] ⟨2,[.map (eO ps),.row [x,.bool true,.map 1]],2,2⟩=
          some (if !fY t.name then .tuple [eX.enc,.bool false] else .tuple [(aQ T t.name true).1.enc,.bool (aQ T t.name true).2],⟨2,[.map (eO ps),.row [x,.bool true,.map 1]],2,2⟩)):=fun d hd hk=>by
          cases d with
          | true=>
            have hk':=hk rfl;have hn:t.name=[45]:=by simpa using hd
            rw[hn] at q q2 ⊢
            cases hpl:fY [45] with
            | false=>
              rw[hpl] at q2;simp[kI,c141,kT,de,hyr,ag,hk',q2,aF.enc,aF.cells,eX]
            | true=>
              rw[hpl] at q2;rcases aD hx with⟨rfl,rfl⟩ | rfl
              ·simp[kI,c141,kT,de,hyr,ag,hk',q,q2,aF.enc,aF.cells]
              ·simp[kI,c141,kT,de,hyr,ag,hk',q,q2,aF.enc,aF.cells]
          | false=>
            have hn:¬ t.name=[45]:=by simpa using hd
            cases hpl:fY t.name with
            | false=>
              rw[hpl] at q2;simp[kI,c141,kT,de,hyr,ag,hd,hn,q2,aF.enc,aF.cells,eX]
            | true=>
              rw[hpl] at q2;rcases aD hx with⟨rfl,rfl⟩ | rfl
              ·simp[kI,c141,kT,de,hyr,ag,hd,hn,q,q2,aF.enc,aF.cells]
              ·simp[kI,c141,kT,de,hyr,ag,hd,hn,q,q2,aF.enc,aF.cells]
         rw[Bool.false_or];refine rest (t.name==[45]) rfl fun hd=>?_
         have hn:t.name=[45]:=by simpa using hd
         rw[hn] at hc;simpa using hc
      rw[fin _ rfl];rw[h2];simp only[Bool.not_true,Bool.false_or,decide_true];cases (decide (t.name=[45])&&decide (y.kind=1))||!fY t.name<;>rfl
     ·have h2':((t.args.length:Int)=1)=False:=eq_false (by omega);simp[kI,c141,kT,de,hlv,har,ag,h2,h2',aF.enc,aF.cells,eX]
  ·cases hv
 ·cases hv
def tN:aU:=⟨137,fun
 | [.ptr 0 0,.str s,.int .i64 n,.bool bs],os=>(match w6 os with
   | some W=>if s.length≤64 then some (.str (tQ W.T W.b s n bs),none) else none
   | none=>none)
 | _,_=>none⟩
theorem fe:tN.f=137:=(rfl)
theorem MK {x:AV} {T:List aF} (hx:a6 x=some T) (b:Bool) (ps:List (Int×Int)) (hT:T.length < 1000000) (hp:lG ps=true) (s:List UInt8) (hs:s.length≤64) (n:Int) (bs:Bool):
 tN.S [.ptr 0 0,.str s,.int .i64 n,.bool bs] (gY x b ps)=some (.str (tQ T b s n bs),none):=by
 simp only[tN,kL hx b ps hT hp];rw[if_pos hs]
theorem Mt:ch Tryz.prog dm tN:=fun args os v r hv=>by
 unfold tN at hv;dsimp only at hv;split at hv
 ·rename_i os s n bs;split at hv
  ·rename_i W hW;split at hv
   ·rename_i hs;cases hv;obtain⟨x,hx,rfl,hT,hp⟩:=iN hW;obtain⟨T,b,ps⟩:=W;dsimp only at hx hT hp ⊢;rw[fe];have q1:=Pn hx s (by omega);have q2:=IW hx s (by omega);have q3:=pZ s;have hq:=fK hs;have hxr:=bC hx;simp only[aF.enc,aF.cells] at q1 q2;unfold tQ;generalize aQ T s false=I at *;generalize aQ T s true=Pr at *;obtain⟨⟨i1,i2,i3⟩,i4⟩:=I;obtain⟨⟨p1,p2,p3⟩,p4⟩:=Pr;dsimp only at q1 q2 ⊢
    have hmx:max i3 p3=if i3 < p3 then p3 else i3:=by
     by_cases h:i3 < p3
     ·rw[if_pos h];omega
     ·rw[if_neg h];omega
    rw[hmx];have q4:=fun c=>lX (cb s) c (by omega)
    have key:∀c:Bool,((b&&(i4||p4))&&(bs||decide (n < if i3 < p3 then p3 else i3)))=c→aw (cW [RQ,z8,kl,hP] []) 6 137 [.ptr 0 0,.str s,.int .i64 n,.bool bs] ⟨2,[.map (eO ps),.row [x,.bool b,.map 1]],2,2⟩=
     some (.str (yV (cb s) c),⟨2,[.map (eO ps),.row [x,.bool b,.map 1]],2,2⟩):=fun c hc=>by
     rw[←hc];rcases aD hx with⟨rfl,rfl⟩ | rfl
     ·cases b<;>cases i4<;>cases p4<;>cases bs<;>simp[Jv,Oj,xQ,kT,cH,cR,q1,q2,q3,q4,BZ]
     ·cases b<;>cases i4<;>cases p4<;>cases bs<;>simp[Jv,Oj,xQ,kT,cH,cR,q1,q2,q3,q4,BZ]
    exact mj (n:=6) (m:=2) (dv (ss:=[RQ,z8,kl,hP]) (ms:=[]) (by simp[OU.lift,Ju.lift,vm,wx.lift]) (by simp)) hx (key _ rfl) (by simp[AV.refs]) (by simp[AV.af,AV.refs])
   ·cases hv
  ·cases hv
 ·cases hv
theorem xk (T:List aF) (b:Bool) (vr:Int→List UInt8):∀(N M:Nat) (t:Tm) (n:Int) (bs:Bool),ib t→t.size≤N→t.size≤M→wT T b vr N t n bs=wT T b vr M t n bs
 | 0,_,t,_,_,_,h,_=>by have:=aM t;omega
 | _+1,0,t,_,_,_,_,h=>by have:=aM t;omega
 | N+1,M+1,t,n,bs,h,h1,h2=>by
   have hs:=aM t
   have sub:∀y ∈ t.args,∀n bs,wT T b vr N y n bs=wT T b vr M y n bs:=fun y hy n bs=>by
    have:=iV hy;exact xk T b vr N M y n bs (dI h hy) (by omega) (by omega)
   unfold wT;by_cases k0:t.kind=0
   ·rw[if_pos k0,if_pos k0]
   rw[if_neg k0,if_neg k0];by_cases k1:t.kind=1
   ·rw[if_pos k1,if_pos k1]
   rw[if_neg k1,if_neg k1];by_cases k2:t.args.length=0
   ·rw[if_pos k2,if_pos k2]
   rw[if_neg k2,if_neg k2];by_cases k3:((b&&decide (t.name=[46]))&&decide (t.args.length=2))=true
   ·rw[if_pos k3,if_pos k3];simp only[Bool.and_eq_true,decide_eq_true_eq] at k3
    have hdot:dx t=true:=by
     have hk:t.kind=2:=by
      rcases o5 h with k | k | k
      ·exact absurd k k0
      ·exact absurd k k1
      ·exact k
     simp[dx,hk,k3.1.2,k3.2]
    obtain⟨i1,i2,i3⟩:=jG t.size t (Nat.le_refl _) h
    have e1:((aE t).1.map fun x=>wT T b vr N x 999 false)=(aE t).1.map fun x=>wT T b vr M x 999 false:=
     List.map_congr_left fun y hy=>xk T b vr N M y 999 false (i1 y hy).1 (by have:=(i1 y hy).2;omega) (by have:=(i1 y hy).2;omega)
    have e2:wT T b vr N (aE t).2 999 false=wT T b vr M (aE t).2 999 false:=xk T b vr N M _ 999 false i2 (by have:=i3 hdot;omega) (by have:=i3 hdot;omega);rw[e1,e2]
   rw[if_neg k3,if_neg k3];by_cases k4:((b&&decide (t.name=[123,125]))&&decide (t.args.length=1))=true
   ·rw[if_pos k4,if_pos k4,sub _ (jb (by omega))]
   rw[if_neg k4,if_neg k4];by_cases k5:(cZ T b t).2=true
   ·have hl:t.args.length=2:=by
     unfold cZ at k5;split at k5
     ·cases k5
     ·rename_i hc;simp at hc;exact hc.1.2
    rw[if_pos k5,if_pos k5,sub _ (jb (by omega)),sub _ (C9 (by omega))]
   rw[if_neg k5,if_neg k5];by_cases k6:(dn T b t).2=true
   ·rw[if_pos k6,if_pos k6,sub _ (jb (by omega))]
   rw[if_neg k6,if_neg k6]
   have e1:(t.args.map fun x=>wT T b vr N x 999 false)=t.args.map fun x=>wT T b vr M x 999 false:=
    List.map_congr_left fun y hy=>sub y hy _ _
   rw[e1]
def wF (T:List aF) (b:Bool) (vr:Int→List UInt8) (t:Tm) (n:Int) (bs:Bool):List UInt8:=wT T b vr t.size t n bs
theorem CS (T:List aF) (b:Bool) (vr:Int→List UInt8) {N:Nat} {t:Tm} (h:ib t) (hn:t.size≤N) (n:Int) (bs:Bool):wT T b vr N t n bs=wF T b vr t n bs:=xk T b vr N t.size t n bs h hn (Nat.le_refl _)
theorem eR (T:List aF) (b:Bool) (vr:Int→List UInt8) (hv:∀n,(vr n).length≤21) (t:Tm) (n:Int) (bs:Bool) (h:ib t):(wF T b vr t n bs).length+10≤150*t.size:=oI T b vr hv t.size t n bs h
def qO (T:List aF) (b:Bool) (vr:Int→List UInt8) (t:Tm):List UInt8:=
 [91]++Lib.join ((aE t).1.map fun x=>wF T b vr x 999 false) [44]++(if mC (aE t).2 then [] else [124]++wF T b vr (aE t).2 999 false)++[93]
def PC (T:List aF) (b:Bool) (vr:Int→List UInt8) (o:aF) (t:Tm):List UInt8:=
 wF T b vr (om t) (lW T b o t) true++Am t.name++wF T b vr (Of t) (bz o).2 true
theorem zx (T:List aF) (b:Bool) (vr:Int→List UInt8) (t:Tm) (n:Int) (bs:Bool) (h:ib t):wF T b vr t n bs=
 if t.kind=0 then vr t.num
 else if t.kind=1 then yV (fj t.num) (bs&&decide (t.num < 0))
 else if t.args.length=0 then tQ T b t.name n bs
 else if (b&&decide (t.name=[46]))&&decide (t.args.length=2) then qO T b vr t
 else if (b&&decide (t.name=[123,125]))&&decide (t.args.length=1) then [123]++wF T b vr (om t) 1200 false++[125]
 else if (cZ T b t).2 then yV (PC T b vr (cZ T b t).1 t) (decide (n < (cZ T b t).1.l))
 else if (dn T b t).2 then yV (cb t.name++[32]++wF T b vr (om t) (bz (dn T b t).1).2 true) (decide (n < (dn T b t).1.l))
 else cb t.name++[40]++Lib.join (t.args.map fun x=>wF T b vr x 999 false) [44]++[41]:=by
 have hs:=aM t;obtain⟨N,hN⟩:∃N,t.size=N+1:=⟨t.size - 1,by omega⟩
 have sub:∀y ∈ t.args,∀n bs,wT T b vr N y n bs=wF T b vr y n bs:=fun y hy n bs=>by
  have:=iV hy;exact CS T b vr (dI h hy) (by omega) n bs
 conv=>lhs;unfold wF
 rw[hN];conv=>lhs;unfold wT
 by_cases k0:t.kind=0
 ·rw[if_pos k0,if_pos k0]
 rw[if_neg k0,if_neg k0];by_cases k1:t.kind=1
 ·rw[if_pos k1,if_pos k1]
 rw[if_neg k1,if_neg k1];by_cases k2:t.args.length=0
 ·rw[if_pos k2,if_pos k2]
 rw[if_neg k2,if_neg k2];by_cases k3:((b&&decide (t.name=[46]))&&decide (t.args.length=2))=true
 ·rw[if_pos k3,if_pos k3];simp only[Bool.and_eq_true,decide_eq_true_eq] at k3
  have hdot:dx t=true:=by
   have hk:t.kind=2:=by
    rcases o5 h with k | k | k
    ·exact absurd k k0
    ·exact absurd k k1
    ·exact k
   simp[dx,hk,k3.1.2,k3.2]
  obtain⟨i1,i2,i3⟩:=jG t.size t (Nat.le_refl _) h
  have e1:((aE t).1.map fun x=>wT T b vr N x 999 false)=(aE t).1.map fun x=>wF T b vr x 999 false:=
   List.map_congr_left fun y hy=>CS T b vr (i1 y hy).1 (by have:=(i1 y hy).2;omega) 999 false
  have e2:wT T b vr N (aE t).2 999 false=wF T b vr (aE t).2 999 false:=CS T b vr i2 (by have:=i3 hdot;omega) 999 false;rw[e1,e2];rfl
 rw[if_neg k3,if_neg k3];by_cases k4:((b&&decide (t.name=[123,125]))&&decide (t.args.length=1))=true
 ·rw[if_pos k4,if_pos k4,sub _ (jb (by omega))]
 rw[if_neg k4,if_neg k4];by_cases k5:(cZ T b t).2=true
 ·have hl:t.args.length=2:=by
   unfold cZ at k5;split at k5
   ·cases k5
   ·rename_i hc;simp at hc;exact hc.1.2
  rw[if_pos k5,if_pos k5,sub _ (jb (by omega)),sub _ (C9 (by omega))];rfl
 rw[if_neg k5,if_neg k5];by_cases k6:(dn T b t).2=true
 ·rw[if_pos k6,if_pos k6,sub _ (jb (by omega))]
 rw[if_neg k6,if_neg k6]
 have e1:(t.args.map fun x=>wT T b vr N x 999 false)=t.args.map fun x=>wF T b vr x 999 false:=
  List.map_congr_left fun y hy=>sub y hy _ _
 rw[e1]
instance (t:Tm):Decidable (ib t):=by unfold ib;infer_instance
theorem rm {x:AV} {T:List aF} (h:a6 x=some T):x.top=none:=by
 rcases aD h with⟨rfl,_⟩ | rfl<;>rfl
theorem zi {x:AV} {T:List aF} (h:a6 x=some T) (g:Nat→Nat):sig g x=x:=by
 rcases aD h with⟨rfl,_⟩ | rfl<;>rfl
noncomputable def eF (N:Nat):aU:=⟨98,fun
 | [.ptr 0 0,v,.int .i64 n,.bool bs],os=>(match w6 os,dB v with
   | some W,some t=>if ib t∧t.size < N then some (.str (wF W.T W.b (iv W.ps) t n bs),none) else none
   | _,_=>none)
 | _,_=>none⟩
theorem bg (N:Nat):(eF N).f=98:=(rfl)
theorem gM (N:Nat) {x:AV} {T:List aF} (hx:a6 x=some T) (b:Bool) (ps:List (Int×Int)) (hT:T.length < 1000000) (hp:lG ps=true) (t:Tm) (h:ib t∧t.size < N) (n:Int) (bs:Bool):
 (eF N).S [.ptr 0 0,t.enc,.int .i64 n,.bool bs] (gY x b ps)=some (.str (wF T b (iv ps) t n bs),none):=by
 simp only[eF,kL hx b ps hT hp,aX];rw[if_pos h]
def oV:List ai:=[AS]
noncomputable def oE (N:Nat):List aU:=[eF N]
theorem BE (n N:Nat) (us:List Tm) (hl:us.length < 100000) (hus:∀y ∈ us,ib y∧y.size < N) (x:AV) (T:List aF) (hx:a6 x=some T) (b:Bool) (ps:List (Int×Int)) (hT:T.length < 1000000) (hp:lG ps=true):∀(post pre:List Tm) (acc:List (List UInt8)) (m md:Nat),us=pre++post→acc≠[]→acc.length=pre.length→post.length < m→
 ∃md',er 2 2 (aT (ak (aw (cW oV (oE N)) (n+1)) (n+1) jM) gI 2 m (CO (.ptr 0 0) (.vec 2 0 acc.length 1 acc.length) (.sl (us.map Tm.enc)) (.int .i64 us.length) (.int .i64 pre.length)) ⟨3,[.row (acc.map .str),.map (eO ps),.row [x,.bool b,.map 1]],2,md⟩)=
   some (.exit 0,FM 23 [(5,.vec 2 0 us.length 1 us.length)],⟨3,[.row ((acc++post.map fun y=>wF T b (iv ps) y 999 false).map .str),.map (eO ps),.row [x,.bool b,.map 1]],2,md'⟩)
 | _,_,_,0,_,_,_,_,h=>by omega
 | [],pre,acc,m+1,md,hs,hne,hac,hm=>by
   rw[ae];have hf:=qe acc;rw[List.append_nil] at hs;subst hs;have hxr:=bC hx;refine⟨md,?_⟩;simp[oV,oE,jM,gI,kK,bg,hf,hac]
 | y::r,pre,acc,m+1,md,hs,hne,hac,hm=>by
   rw[ae];have hps:pre.length+r.length+1=us.length:=by rw[hs];simp;omega
   have hf:=qe acc;have h8:(acc.length+1)*16≤140737488355328:=by omega
   have h9:acc.length+1 < 9223372036854775808:=by omega
   have h10:(acc.map AV.str).take acc.length=acc.map AV.str:=by rw[List.take_of_length_le];simp
   have h6:((pre.length:Int) < (us.length:Int))=True:=eq_true (by omega);have hc:us[pre.length]? =some y:=by rw[hs];simp
   have h3:IntKind.i64.wrap ((pre.length:Int)+1)=(pre.length:Int)+1:=wrap_i64 (by omega) (by omega);have hy:=hus y (by rw[hs];simp);obtain⟨md',ih⟩:=BE n N us hl hus x T hx b ps hT hp r (pre++[y]) (acc++[wF T b (iv ps) y 999 false]) m (min md 2) (by rw[hs];simp) (by simp) (by simp;omega) (by simp at hm;omega);refine⟨md',?_⟩;have hxr:=bC hx;have hxt:=rm hx;have hsg:=fun g=>zi hx g
   have hye:=Tm.ay y;have hyc:=Tm.an y;have hyr:=ah y;have q1:=gM N hx b ps hT hp y hy 999 false;have hur:=aB us;simp only[List.map_cons];generalize wF T b (iv ps) y 999 false=w at *;simp only[gY] at q1;rw[hye,hyc] at q1;rw[show acc++(w::r.map fun y=>wF T b (iv ps) y 999 false)=acc++[w]++r.map fun y=>wF T b (iv ps) y 999 false by simp];simp only[List.length_append,List.length_cons,List.length_nil,Nat.zero_add,Int.natCast_add,Int.natCast_one,oV,oE,List.map_append,List.map_cons,List.map_nil] at ih;have hf2:AV.af (acc.map AV.str++[.str w])=0:=by have:=qe (acc++[w]);rwa[List.map_append] at this
   have hue:us.map Tm.enc=us.map Tm.enc:=rfl;have hpr:=aZ T;rcases aD hx with⟨rfl,rfl⟩ | rfl
   ·simp[oV,oE,jM,gI,kK,bg,hxr,hpr,bZ,bB,-bL,-bw,au,hf,h8,h9,h10,h6,hc,h3,hye,hyc,hyr,q1,hur,hf2];simp only[List.append_assoc,List.cons_append,List.nil_append,List.map_append,List.map_cons,List.map_map] at ih;exact ih
   ·simp[oV,oE,jM,gI,kK,bg,hxr,hpr,bZ,bB,-bL,-bw,au,hf,h8,h9,h10,h6,hc,h3,hye,hyc,hyr,q1,hur,hf2];simp only[List.append_assoc,List.cons_append,List.nil_append,List.map_append,List.map_cons,List.map_map] at ih;exact ih
theorem Gp (n N:Nat) (us:List Tm) (hl:us.length < 100000) (hus:∀y ∈ us,ib y∧y.size < N) (x:AV) (T:List aF) (hx:a6 x=some T) (b:Bool) (ps:List (Int×Int)) (hT:T.length < 1000000) (hp:lG ps=true):∀(y:Tm) (post:List Tm) (m md:Nat),us=y::post→post.length+1 < m→
 ∃md',er 2 2 (aT (ak (aw (cW oV (oE N)) (n+1)) (n+1) jM) gI 2 m (CO (.ptr 0 0) .ax (.sl (us.map Tm.enc)) (.int .i64 us.length) (.int .i64 0)) ⟨2,[.map (eO ps),.row [x,.bool b,.map 1]],2,md⟩)=
   some (.exit 0,FM 23 [(5,.vec 2 0 us.length 1 us.length)],⟨3,[.row (([]++(y::post).map fun y=>wF T b (iv ps) y 999 false).map .str),.map (eO ps),.row [x,.bool b,.map 1]],2,md'⟩)
 | y,r,0,md,hs,hm=>by omega
 | y,r,m+1,md,hs,hm=>by
   subst hs;rw[ae];simp only[List.length_cons] at hl;have h6:True:=trivial;have hc:True:=trivial;have h3:IntKind.i64.wrap 1=1:=rfl;have hy:=hus y (by simp);obtain⟨md',ih⟩:=BE n N (y::r) (by simp;omega) hus x T hx b ps hT hp r [y] [wF T b (iv ps) y 999 false] m (min md 2) rfl (by simp) rfl (by omega);refine⟨md',?_⟩;have hxr:=bC hx;have hxt:=rm hx;have hsg:=fun g=>zi hx g
   have hye:=Tm.ay y;have hyc:=Tm.an y;have hyr:=ah y;have q1:=gM N hx b ps hT hp y hy 999 false;have hur:=aB r;simp only[List.map_cons];generalize wF T b (iv ps) y 999 false=w at *;simp only[gY] at q1;rw[hye,hyc] at q1;simp only[hye,hyc,List.length_cons,List.length_nil,Nat.zero_add,Int.natCast_add,Int.natCast_one,oV,oE,List.map_cons,List.map_nil,List.nil_append,List.cons_append] at ih ⊢;have hpr:=aZ T;rcases aD hx with⟨rfl,rfl⟩ | rfl
   ·simp[oV,oE,jM,gI,kK,bg,hxr,hpr,bZ,bB,-bL,-bw,au,h6,hc,h3,hye,hyc,hyr,q1,hur];simp only[List.append_assoc,List.cons_append,List.nil_append,List.map_append,List.map_cons,List.map_map] at ih;exact ih
   ·simp[oV,oE,jM,gI,kK,bg,hxr,hpr,bZ,bB,-bL,-bw,au,h6,hc,h3,hye,hyc,hyr,q1,hur];simp only[List.append_assoc,List.cons_append,List.nil_append,List.map_append,List.map_cons,List.map_map] at ih;exact ih
def nA (v:AV):Option (List Tm):=match v with
 | .ax=>some []
 | .sl xs=>jA xs
 | _=>none
theorem Fb {v:AV} {us:List Tm} (h:nA v=some us):(v=.ax∧us=[])∨v=.sl (us.map Tm.enc):=by
 cases v<;>simp[nA] at h
 ·exact .inl ⟨rfl,h⟩
 ·exact .inr (by rw[u6 h])
noncomputable def jN (N:Nat):aU:=⟨142,fun
 | [.ptr 0 0,v],os=>(match w6 os,nA v with
   | some W,some us=>if (∀y ∈ us,ib y∧y.size < N)∧Tm.aI us < 100000 then some (.str (Lib.join (us.map fun y=>wF W.T W.b (iv W.ps) y 999 false) [44]),none) else none
   | _,_=>none)
 | _,_=>none⟩
theorem cQ (N:Nat):(jN N).f=142:=(rfl)
theorem zd (N:Nat) {x:AV} {T:List aF} (hx:a6 x=some T) (b:Bool) (ps:List (Int×Int)) (hT:T.length < 1000000) (hp:lG ps=true) {v:AV} {us:List Tm} (hv:nA v=some us) (h:(∀y ∈ us,ib y∧y.size < N)∧Tm.aI us < 100000):
 (jN N).S [.ptr 0 0,v] (gY x b ps)=some (.str (Lib.join (us.map fun y=>wF T b (iv ps) y 999 false) [44]),none):=by
 simp only[jN,kL hx b ps hT hp,hv];rw[if_pos h]
theorem Jz (l:List (List UInt8)):∀x ∈ l.map AV.str,x8 1 x:=by
 intro x hx;obtain⟨o,_,rfl⟩:=List.mem_map.1 hx;exact⟨rfl,rfl,(fun _=>rfl),(fun h=>absurd rfl h),rfl⟩
theorem Kr (l:List (List UInt8)):(l.map AV.str).flatMap AV.cells=l.map AV.str:=by
 induction l with
 | nil=>rfl
 | cons v r ih=>rw[List.map_cons,List.flatMap_cons,ih];rfl
theorem Vk {h:aa} {n0 d id k:Nat} (l:List (List UInt8)) (hk:l.length=k+1) (hid:n0≤id) (hg:h.get id=some (.row (l.map .str))):
 gr h n0 (d+2) (.vec id 0 (k+1) 1 (k+1))=some (.sl (l.map .str),[id]):=by
 have hl:(l.map AV.str).length=k+1:=by simp[hk]
 exact p8 hid hg (by omega) (Jz l) (by rw[hl]) (by rw[hl];omega) (by rw[Kr,List.take_of_length_le];omega)
theorem ym (N:Nat) (hN:ch Tryz.prog dm (eF N)):ch Tryz.prog dm (jN N):=fun args os v r hv=>by
 unfold jN at hv;dsimp only at hv;split at hv
 ·rename_i v0 os;split at hv
  ·rename_i W us hW hu;split at hv
   ·rename_i hc;cases hv;obtain⟨x,hx,rfl,hT,hp⟩:=iN hW;obtain⟨T,b,ps⟩:=W;dsimp only at hx hT hp ⊢;rw[cQ];have hE:dA Tryz.prog dm (cW oV (oE N)):=dv (ss:=oV) (ms:=oE N) (by simp[oV,Pq.lift]) (by simp[oE,hN]);have hxr:=bC hx;have hul:=ct us;have hsz:=hc.2;rcases Fb hu with⟨rfl,rfl⟩ | rfl
    ·have q:=xT .ax [] [44] rfl (by simp[Lib.join,List.intercalate]);refine mj (n:=6) (m:=2) hE hx ?_ (by simp[AV.refs]) (by simp[AV.af,AV.refs]);simp[oV,oE,xq,HS,gI,jM,ae,kK,bg,q,hxr]
    ·cases us with
     | nil=>
       have q:=xT .ax [] [44] rfl (by simp[Lib.join,List.intercalate]);refine mj (n:=6) (m:=2) hE hx ?_ (by simp[AV.refs]) (by simp[AV.af,AV.refs]);simp[oV,oE,xq,HS,gI,jM,ae,kK,bg,q,hxr]
     | cons y us=>
       obtain⟨md,lp⟩:=Gp (us.length+4) N (y::us) (by omega) hc.1 x T hx b ps hT hp y us (us.length+5) 2 rfl (by omega);have hlen:∀z ∈ y::us,(wF T b (iv ps) z 999 false).length+10≤150*z.size:=fun z hz=>eR T b (iv ps) (jT hp) z 999 false (hc.1 z hz).1
       have k1:=iU [44] ((y::us).map fun x=>wF T b (iv ps) x 999 false);have k2:=n7 (f:=fun x=>(wF T b (iv ps) x 999 false).length) (y::us) hlen;rw[List.map_map] at k1;have k4:(Lib.join ((y::us).map fun x=>wF T b (iv ps) x 999 false) [44]).length≤150*Tm.aI (y::us):=Nat.le_trans k1 k2;have hll:((y::us).map fun x=>wF T b (iv ps) x 999 false).length=us.length+1:=by simp
       have hur:=aB (y::us);rw[List.nil_append] at lp;generalize (y::us).map (fun x=>wF T b (iv ps) x 999 false)=l at *;have q:=xT (.sl (l.map .str)) l [44] (Gj l) (by simp only[List.length_cons] at hul;omega);have hlr:=qe l;have fk:∀d wl md,gr ⟨3,[.row (l.map .str),.map (eO ps),.row [x,.bool b,.map 1]],wl,md⟩ 0 (d+2) (.vec 2 0 (us.length+1) 1 (us.length+1))=some (.sl (l.map .str),[2]):=fun d wl md=>Vk l hll (Nat.zero_le 2) rfl
       refine mj (n:=us.length+6) (m:=if md < 2 then min 2 md else 2) hE hx ?_ (by simp[AV.refs]) (by simp[AV.af,AV.refs,hur]);simp only[gI,CO,oV,oE,List.length_cons,Int.natCast_add,Int.natCast_one] at lp;have hU:((y::us).map Tm.enc).length=us.length+1:=by simp
       generalize (y::us).map Tm.enc=U at *;have hpr:=aZ T;rcases aD hx with⟨rfl,rfl⟩ | rfl
       ·simp[oV,oE,xq,HS,gI,kK,bg,q,hur,hU,lp,fk,hlr,-jZ]
       ·simp[oV,oE,xq,HS,gI,kK,bg,q,hur,hU,hpr,lp,fk,hlr,-jZ]
   ·cases hv
  ·cases hv
 ·cases hv
end Go.Proofs.YtjmeonoabiliiaaGreatDoor
