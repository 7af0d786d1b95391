import Derived.Test.YtjmeonoabiliiaaGreatDoorAt
import Derived.Test.YtjmeonoabiliiaaGreatDoorBd2
import Derived.Test.YtjmeonoabiliiaaGreatDoorBd1
set_option linter.unusedVariables false
set_option linter.unusedSimpArgs false
set_option linter.unusedSectionVars false
set_option maxHeartbeats 16000000
set_option maxRecDepth 100000

namespace Go.Proofs.YtjmeonoabiliiaaGreatDoor
open Go Sz
noncomputable def nL (N:Nat):aU:=⟨138,fun
 | [.ptr 0 0,v],os=>(match w6 os,dB v with
   | some W,some t=>if ib t∧dx t=true∧t.size≤N then some (.str (qO W.T W.b (iv W.ps) t),none) else none
   | _,_=>none)
 | _,_=>none⟩
theorem dY (N:Nat):(nL N).f=138:=(rfl)
theorem JM (N:Nat) {x:AV} {T:List aF} (hx:a6 x=some T) (b:Bool) (ps:List (Int×Int)) (hT:T.length < 1000000) (hp:lG ps=true) (t:Tm) (h:ib t∧dx t=true∧t.size≤N):
 (nL N).S [.ptr 0 0,t.enc] (gY x b ps)=some (.str (qO T b (iv ps) t),none):=by
 simp only[nL,kL hx b ps hT hp,aX];rw[if_pos h]
theorem Kn (N:Nat) (hN:ch Tryz.prog dm (eF N)):ch Tryz.prog dm (nL N):=fun args os v r hv=>by
 unfold nL at hv;dsimp only at hv;split at hv
 ·rename_i v0 os;split at hv
  ·rename_i W t hW ht;split at hv
   ·rename_i hc;cases hv;obtain⟨x,hx,rfl,hT,hp⟩:=iN hW;obtain⟨T,b,ps⟩:=W;dsimp only at hx hT hp ⊢;rw[bc ht,dY];obtain⟨hok,hdot,hsN⟩:=hc;have hE:dA Tryz.prog dm (cW [vi] [jN N,eF N]):=dv (by simp[Kx.lift]) (by simp[hN,ym N hN]);obtain⟨i1,i2,i3⟩:=jG t.size t (Nat.le_refl _) hok;have i3':=i3 hdot;have hsz:=jY t.size t (Nat.le_refl _);have hg:=hok.1;have hg2:=hg;simp only[dp,Bool.and_eq_true,decide_eq_true_eq] at hg2;have q1:=Kj t (by have:=hok.2.1;omega);have e1:ri t=aE t:=by unfold ri;rw[if_pos hg]
    rw[e1] at q1
    have hne:(aE t).1≠[]:=by
     obtain⟨a,r,_,e⟩:=eb hdot;rw[e];simp
    have q3:=gM N hx b ps hT hp (aE t).2 ⟨i2,by omega⟩ 999 false;have hWl:=eR T b (iv ps) (jT hp) (aE t).2 999 false i2;have k1:=iU [44] ((aE t).1.map fun y=>wF T b (iv ps) y 999 false);have k2:=n7 (f:=fun y=>(wF T b (iv ps) y 999 false).length) (aE t).1 (fun y hy=>eR T b (iv ps) (jT hp) y 999 false (i1 y hy).1);rw[List.map_map] at k1;have k4:(Lib.join ((aE t).1.map fun y=>wF T b (iv ps) y 999 false) [44]).length≤150*Tm.aI (aE t).1:=Nat.le_trans k1 k2;have q2:=zd N hx b ps hT hp (v:=.sl ((aE t).1.map Tm.enc)) (us:=(aE t).1) (by simp[nA,←j6,ny]) ⟨fun y hy=>⟨(i1 y hy).1,by have:=(i1 y hy).2;omega⟩,by omega⟩
    have e2:LH (aE t).1=.sl ((aE t).1.map Tm.enc):=by
     cases hi:(aE t).1 with
     | nil=>exact absurd hi hne
     | cons a r=>rfl
    rw[e2] at q1;have hur:=aB (aE t).1;refine mj (n:=6) (m:=2) hE hx ?_ (by simp[AV.refs]) (by simp[AV.af,Tm.ba]);unfold qO mC;have hjs:(Lib.join ((aE t).1.map fun y=>wF T b (iv ps) y 999 false) [44]).length < 1000000:=by omega
    have hws:(wF T b (iv ps) (aE t).2 999 false).length < 1000000:=by omega
    generalize Lib.join ((aE t).1.map fun y=>wF T b (iv ps) y 999 false) [44]=J at *;generalize wF T b (iv ps) (aE t).2 999 false=V at *;generalize (aE t).1.map Tm.enc=U at *;generalize (aE t).2=u at *;have hlv:=fB u;have har:=ah t;have hur2:=ah u;have hcl:=Tm.an t;have hcu:=Tm.an u;simp only[gY] at q2 q3;rw[Tm.ay,hcl] at q1 ⊢;rw[Tm.ay u,hcu] at q1 q3;have b1:J.length+1 < 9223372036854775808:=by omega
    have b2:V.length+1 < 9223372036854775808:=by omega
    have b3:J.length+1+(V.length+1) < 9223372036854775808:=by omega
    have b4:J.length+(V.length+1)+1 < 9223372036854775808:=by omega
    have b5:J.length+(V.length+1)+1+1 < 9223372036854775808:=by omega
    have b6:J.length+1+(V.length+1)+1 < 9223372036854775808:=by omega
    have b7:J.length+1+1 < 9223372036854775808:=by omega
    have b8:1+J.length < 9223372036854775808:=by omega
    have b9:1+V.length < 9223372036854775808:=by omega
    have hpr:=aZ T;have e3:=iP u.name [91,93];by_cases c1:u.kind < 2
    ·rcases aD hx with⟨rfl,rfl⟩ | rfl<;>
     simp[w7,c138,ug,cQ,bg,bZ,bB,-bL,-bw,q1,q2,q3,har,hur,hur2,ag,hlv,hpr,b1,b2,b3,b4,b5,b6,b7,b8,b9,c1]
    by_cases c2:u.name=[91,93]
    ·by_cases c3:u.args.length=0
     ·have c3':(0 < (u.args.length:Int))=False:=eq_false (by omega);rcases aD hx with⟨rfl,rfl⟩ | rfl<;>
      simp[w7,c138,ug,cQ,bg,bZ,bB,-bL,-bw,q1,q2,har,hur,hur2,ag,hlv,hpr,b1,b2,b3,b4,b5,b6,b7,b8,b9,c1,c2,c3]
     ·have c3':(0 < u.args.length)=True:=eq_true (by omega);rw[c2] at q1 q3;rcases aD hx with⟨rfl,rfl⟩ | rfl<;>
      simp[w7,c138,ug,cQ,bg,bZ,bB,-bL,-bw,q1,q2,q3,har,hur,hur2,ag,hlv,hpr,b1,b2,b3,b4,b5,b6,b7,b8,b9,c1,c2,c3,c3']
    ·have e4:(u.name==[91,93])=false:=by rw[e3];exact decide_eq_false c2
     rcases aD hx with⟨rfl,rfl⟩ | rfl<;>
     simp[w7,c138,ug,cQ,bg,bZ,bB,-bL,-bw,q1,q2,q3,har,hur,hur2,ag,hlv,hpr,b1,b2,b3,b4,b5,b6,b7,b8,b9,c1,c2,e4]
   ·cases hv
  ·cases hv
 ·cases hv
theorem Gf (o:aF) (h:0≤o.l∧o.l≤1200):-1≤(bz o).1∧(bz o).1≤1200∧-1≤(bz o).2∧(bz o).2≤1200:=by
 unfold bz
 repeat' split
 all_goals (dsimp only;omega)
noncomputable def nQ (N:Nat):aU:=⟨140,fun
 | [.ptr 0 0,w,v],os=>(match w6 os,iJ w,dB v with
   | some W,some o,some t=>if ib t∧t.args.length=2∧t.size≤N∧0≤o.l∧o.l≤1200 then some (.str (PC W.T W.b (iv W.ps) o t),none) else none
   | _,_,_=>none)
 | _,_=>none⟩
theorem dU (N:Nat):(nQ N).f=140:=(rfl)
theorem JF (N:Nat) {x:AV} {T:List aF} (hx:a6 x=some T) (b:Bool) (ps:List (Int×Int)) (hT:T.length < 1000000) (hp:lG ps=true) (o:aF) (t:Tm) (h:ib t∧t.args.length=2∧t.size≤N∧0≤o.l∧o.l≤1200):
 (nQ N).S [.ptr 0 0,o.enc,t.enc] (gY x b ps)=some (.str (PC T b (iv ps) o t),none):=by
 simp only[nQ,kL hx b ps hT hp,aX,x7];rw[if_pos h]
theorem J7 (N:Nat) (hN:ch Tryz.prog dm (eF N)):ch Tryz.prog dm (nQ N):=fun args os v r hv=>by
 unfold nQ at hv;dsimp only at hv;split at hv
 ·rename_i w v0 os;split at hv
  ·rename_i W o t hW ho ht;split at hv
   ·rename_i hc;cases hv;obtain⟨x,hx,rfl,hT,hp⟩:=iN hW;obtain⟨T,b,ps⟩:=W;dsimp only at hx hT hp ⊢;rw[bc ht,fV ho,dU];obtain⟨hok,h2,hsN,hl⟩:=hc;have hE:dA Tryz.prog dm (cW [mq,kl] [fM,eF N]):=dv (by simp[Aw.lift,vm]) (by simp[hN,wB.lift]);obtain⟨y,z,ha,hav,hy,hz⟩:=zj h2;have hs:=aM t;rw[ha] at hs;simp only[Tm.aI] at hs;have oky:=dI hok (y:=y) (by rw[ha];simp);have okz:=dI hok (y:=z) (by rw[ha];simp);have q1:=Bt o hl;have q2:=wG hx b ps hT hp y;have q3:=pZ t.name;have q4:=gM N hx b ps hT hp y ⟨oky,by omega⟩ (lW T b o t) true;have q5:=gM N hx b ps hT hp z ⟨okz,by omega⟩ (bz o).2 true;have l4:=eR T b (iv ps) (jT hp) y (lW T b o t) true oky;have l5:=eR T b (iv ps) (jT hp) z (bz o).2 true okz;have hg:=hok.1;simp only[dp,Bool.and_eq_true,decide_eq_true_eq] at hg;have hq:=fK (ln hok);have hsr:=Gf o hl;refine mj (n:=6) (m:=2) hE hx ?_ (by simp[AV.refs]) (by simp[AV.af,Tm.ba,AV.refs,aF.enc,aF.cells]);unfold PC Am;rw[hy,hz];have hls:(wF T b (iv ps) y (lW T b o t) true).length < 1000000:=by omega
    have hrs:(wF T b (iv ps) z (bz o).2 true).length < 1000000:=by omega
    generalize wF T b (iv ps) y (lW T b o t) true=A at *;generalize wF T b (iv ps) z (bz o).2 true=B at *;unfold lW isLeft at q4;rw[hy] at q4;have w1:IntKind.i64.wrap ((bz o).1 - 1)=(bz o).1 - 1:=wrap_i64 (by omega) (by omega);generalize bz o=sd at *;obtain⟨s1,s2⟩:=sd;generalize cb t.name=Q at *;generalize cZ T b y=I at *;obtain⟨⟨i1,i2,i3⟩,i4⟩:=I;dsimp only at q1 q2 q4 q5 w1;have hcl:=Tm.an t;have hcy:=Tm.an y;have hcz:=Tm.an z;have hyr:=ah y;have hzr:=ah z;simp only[gY,aF.enc,aF.cells] at q2 q4 q5;rw[Tm.ay t,hcl,hav];rw[Tm.ay y,hcy] at q2 q4 ⊢;rw[Tm.ay z,hcz] at q5 ⊢;obtain⟨on,ok,ol⟩:=o;dsimp only at q1 q4;have b1:Q.length+1 < 9223372036854775808:=by omega
    have b2:Q.length+1+1 < 9223372036854775808:=by omega
    have b3:A.length+1 < 9223372036854775808:=by omega
    have b4:A.length+1+B.length < 9223372036854775808:=by omega
    have b5:A.length+(Q.length+1+1) < 9223372036854775808:=by omega
    have b6:A.length+(Q.length+1+1)+B.length < 9223372036854775808:=by omega
    have b7:1+Q.length < 9223372036854775808:=by omega
    have b8:A.length+(1+B.length) < 9223372036854775808:=by omega
    have hpr:=aZ T;have e3:=iP ok [121,102,120];have e4:=iP i2 [121,102,120];have e5:=iP t.name [44]
    have key:∀(n:List UInt8) (hn:t.name=n) (sg:List UInt8),sg=(if n=[44] then [44] else [32]++Q++[32])→
     aw (cW [mq,kl] [fM,eF N]) 6 140 [.ptr 0 0,(⟨on,ok,ol⟩:aF).enc,.agg [.int .i64 t.kind,.int .i64 t.num,.str n,.sl [.agg [.int .i64 y.kind,.int .i64 y.num,.str y.name,y.aJ],.agg [.int .i64 z.kind,.int .i64 z.num,.str z.name,z.aJ]]]] ⟨2,[.map (eO ps),.row [x,.bool b,.map 1]],2,2⟩=
      some (.str (A++sg++B),⟨2,[.map (eO ps),.row [x,.bool b,.map 1]],2,2⟩):=fun n hn sg hsg=>by
     rw[hn] at q3;have e5':=iP n [44];rw[hsg];by_cases g1:ok=[121,102,120]
     ·have g1':(ok==[121,102,120])=true:=by rw[e3];exact decide_eq_true g1
      subst g1
      cases i4 with
      | false=>
        simp only[decide_true,Bool.false_and,Bool.not_false,Bool.and_self,if_true] at q4;by_cases g3:n=[44]
        ·subst g3;rcases aD hx with⟨rfl,rfl⟩ | rfl<;>
         simp[lN,yI,cT,cH,bF,bg,bZ,bB,-bL,-bw,q1,q2,q4,q5,w1,hyr,hzr,ag,hpr,b1,b2,b3,b4,b5,b6,b7,b8,aF.enc,aF.cells]
        ·have g3':(n==[44])=false:=by rw[e5'];exact decide_eq_false g3
         rcases aD hx with⟨rfl,rfl⟩ | rfl<;>
         simp[lN,yI,cT,cH,bF,bg,bZ,bB,-bL,-bw,q1,q2,q3,q4,q5,w1,hyr,hzr,ag,hpr,b1,b2,b3,b4,b5,b6,b7,b8,g3,g3',aF.enc,aF.cells]
      | true=>
        by_cases g2:i2=[121,102,120]
        ·subst g2;simp only[decide_true,Bool.and_self,Bool.not_true,Bool.and_false,Bool.false_eq_true,if_false] at q4;by_cases g3:n=[44]
         ·subst g3;rcases aD hx with⟨rfl,rfl⟩ | rfl<;>
          simp[lN,yI,cT,cH,bF,bg,bZ,bB,-bL,-bw,q1,q2,q4,q5,hyr,hzr,ag,hpr,b1,b2,b3,b4,b5,b6,b7,b8,aF.enc,aF.cells]
         ·have g3':(n==[44])=false:=by rw[e5'];exact decide_eq_false g3
          rcases aD hx with⟨rfl,rfl⟩ | rfl<;>
          simp[lN,yI,cT,cH,bF,bg,bZ,bB,-bL,-bw,q1,q2,q3,q4,q5,hyr,hzr,ag,hpr,b1,b2,b3,b4,b5,b6,b7,b8,g3,g3',aF.enc,aF.cells]
        ·have g2':(i2==[121,102,120])=false:=by rw[e4];exact decide_eq_false g2
         rw[decide_eq_false g2] at q4;simp only[decide_true,Bool.and_false,Bool.not_false,Bool.and_self,if_true] at q4;by_cases g3:n=[44]
         ·subst g3;rcases aD hx with⟨rfl,rfl⟩ | rfl<;>
          simp[lN,yI,cT,cH,bF,bg,bZ,bB,-bL,-bw,q1,q2,q4,q5,w1,hyr,hzr,ag,hpr,b1,b2,b3,b4,b5,b6,b7,b8,g2,g2',aF.enc,aF.cells]
         ·have g3':(n==[44])=false:=by rw[e5'];exact decide_eq_false g3
          rcases aD hx with⟨rfl,rfl⟩ | rfl<;>
          simp[lN,yI,cT,cH,bF,bg,bZ,bB,-bL,-bw,q1,q2,q3,q4,q5,w1,hyr,hzr,ag,hpr,b1,b2,b3,b4,b5,b6,b7,b8,g2,g2',g3,g3',aF.enc,aF.cells]
     ·have g1':(ok==[121,102,120])=false:=by rw[e3];exact decide_eq_false g1
      rw[decide_eq_false g1] at q4;simp only[Bool.false_and,Bool.false_eq_true,if_false] at q4;by_cases g3:n=[44]
      ·subst g3;rcases aD hx with⟨rfl,rfl⟩ | rfl<;>
       simp[lN,yI,cT,cH,bF,bg,bZ,bB,-bL,-bw,q1,q2,q4,q5,hyr,hzr,ag,hpr,b1,b2,b3,b4,b5,b6,b7,b8,g1,g1',aF.enc,aF.cells]
      ·have g3':(n==[44])=false:=by rw[e5'];exact decide_eq_false g3
       rcases aD hx with⟨rfl,rfl⟩ | rfl<;>
       simp[lN,yI,cT,cH,bF,bg,bZ,bB,-bL,-bw,q1,q2,q3,q4,q5,hyr,hzr,ag,hpr,b1,b2,b3,b4,b5,b6,b7,b8,g1,g1',g3,g3',aF.enc,aF.cells]
    exact key t.name rfl _ rfl
   ·cases hv
  ·cases hv
 ·cases hv
theorem JW (N:Nat) {x:AV} {T:List aF} (hx:a6 x=some T) (b:Bool) (ps:List (Int×Int)) (hT:T.length < 1000000) (hp:lG ps=true) (t:Tm) (h:N≤t.size) (n:Int) (bs:Bool):
 (eF N).S [.ptr 0 0,t.enc,.int .i64 n,.bool bs] (gY x b ps)=none:=by
 simp only[eF,kL hx b ps hT hp,aX];rw[if_neg (by omega)]
theorem Df (t:Tm):nA t.aJ=some t.args:=by
 cases t with
 | nl k n s=>rfl
 | mk k n s us=>simp[nA,Tm.aJ,Tm.args,←j6,ny]
noncomputable def WG:List ai:=[wo,hP,kl,mq]
noncomputable def Wx (N:Nat):List aU:=[tN,nL N,fM,mc,nQ N,jN N,eF N]
theorem MU (N:Nat) (x:AV) (T:List aF) (b:Bool) (ps:List (Int×Int)) (hx:a6 x=some T) (hT:T.length < 1000000) (hp:lG ps=true) (t:Tm) (hok:ib t) (hsN:t.size=N) (n:Int) (bs:Bool):
 aw (cW WG (Wx N)) 6 98 [.ptr 0 0,t.enc,.int .i64 n,.bool bs] ⟨2,[.map (eO ps),.row [x,.bool b,.map 1]],2,2⟩=some (.str (wF T b (iv ps) t n bs),⟨2,[.map (eO ps),.row [x,.bool b,.map 1]],2,2⟩):=by
 rw[zx T b (iv ps) t n bs hok];have qno:=JW N hx b ps hT hp t (by omega) n bs;have hxr:=bC hx;have hpr:=aZ T;have har:=ah t;have hlv:=fB t;have hs:=aM t;have hg:=hok.1;simp only[dp,Bool.and_eq_true,decide_eq_true_eq] at hg;have hnm:=ln hok;have hq:=fK hnm;have hcl:=Tm.an t;have hte:t.enc=.agg [.int .i64 t.kind,.int .i64 t.num,.str t.name,t.aJ]:=by rw[Tm.ay,hcl]
 simp only[WG,Wx];simp only[gY] at qno;rw[hte] at qno;by_cases k0:t.kind=0
 ·rw[if_pos k0,hte];rw[k0] at qno ⊢;have hm:=Ot t.num ps;have hr:=IP hp t.num;have q1:=FU (QA ps t.num) (by omega);have hil:=jx (QA ps t.num) (by omega);unfold iv;unfold QA at q1 hil ⊢;have b1:(fj ((Ge t.num ps).getD 0)).length+1 < 9223372036854775808:=by omega
  have b2:1+(fj ((Ge t.num ps).getD 0)).length < 9223372036854775808:=by omega
  cases hix:Ge t.num ps with
  | none=>
    rw[hix] at hm q1 b1 b2;simp only[Option.map_none,Option.getD_none] at hm q1 b1 b2;rcases aD hx with⟨rfl,rfl⟩ | rfl<;>
    simp[gV,CN,fp,cR,cH,cT,fe,dY,bF,dZ,dU,cQ,bg,bZ,bB,-bL,-bw,dy,qno,har,ag,hlv,hpr,hxr,hm,q1,b1,b2,aa.eW]
  | some i=>
    rw[hix] at hm q1 b1 b2;simp only[Option.map_some,Option.getD_some] at hm q1 b1 b2;rcases aD hx with⟨rfl,rfl⟩ | rfl<;>
    simp[gV,CN,fp,cR,cH,cT,fe,dY,bF,dZ,dU,cQ,bg,bZ,bB,-bL,-bw,dy,qno,har,ag,hlv,hpr,hxr,hm,q1,b1,b2,aa.eW]
 rw[if_neg k0];by_cases k1:t.kind=1
 ·rw[if_pos k1,hte];rw[k1] at qno ⊢;have hr:=xa hok;have q1:=FU t.num hr;have hil:=jx t.num hr;have q2:=fun c=>lX (fj t.num) c (by omega)
  cases bs with
  | false=>
    rcases aD hx with⟨rfl,rfl⟩ | rfl<;>
    simp[gV,CN,fp,cR,cH,cT,fe,dY,bF,dZ,dU,cQ,bg,bZ,bB,-bL,-bw,dy,qno,har,ag,hlv,hpr,hxr,q1,q2]
  | true=>
    by_cases c1:t.num < 0
    ·rcases aD hx with⟨rfl,rfl⟩ | rfl<;>
     simp[gV,CN,fp,cR,cH,cT,fe,dY,bF,dZ,dU,cQ,bg,bZ,bB,-bL,-bw,dy,qno,har,ag,hlv,hpr,hxr,q1,q2,c1]
    ·rcases aD hx with⟨rfl,rfl⟩ | rfl<;>
     simp[gV,CN,fp,cR,cH,cT,fe,dY,bF,dZ,dU,cQ,bg,bZ,bB,-bL,-bw,dy,qno,har,ag,hlv,hpr,hxr,q1,q2,c1]
 rw[if_neg k1];by_cases k2:t.args.length=0
 ·rw[if_pos k2,hte];have q1:=MK hx b ps hT hp t.name hnm n bs;simp only[gY] at q1;have k2':((t.args.length:Int)=0)=True:=eq_true (by omega);rcases aD hx with⟨rfl,rfl⟩ | rfl<;>
  simp[gV,CN,fp,cR,cH,cT,fe,dY,bF,dZ,dU,cQ,bg,bZ,bB,-bL,-bw,dy,qno,har,ag,hlv,hpr,hxr,k0,k1,k2,k2',q1]
 rw[if_neg k2];have k2':((t.args.length:Int)=0)=False:=eq_false (by omega);have e46:=iP t.name [46];have e123:=iP t.name [123,125];by_cases k3:((b&&decide (t.name=[46]))&&decide (t.args.length=2))=true
 ·rw[if_pos k3];have k3c:=k3;simp only[Bool.and_eq_true,decide_eq_true_eq] at k3
  have hdot:dx t=true:=by
   have hk:t.kind=2:=by
    rcases o5 hok with k | k | k
    ·exact absurd k k0
    ·exact absurd k k1
    ·exact k
   simp[dx,hk,k3.1.2,k3.2]
  have q1:=JM N hx b ps hT hp t ⟨hok,hdot,by omega⟩;simp only[gY] at q1;rw[hte] at q1 ⊢;have c1:b=true:=k3.1.1;have c2:(t.name==[46])=true:=by rw[e46];exact decide_eq_true k3.1.2
  have c3:((t.args.length:Int)=2)=True:=eq_true (by omega);subst c1;rcases aD hx with⟨rfl,rfl⟩ | rfl<;>
  simp[gV,CN,fp,cR,cH,cT,fe,dY,bF,dZ,dU,cQ,bg,bZ,bB,-bL,-bw,dy,qno,har,ag,hlv,hpr,hxr,k0,k1,k2,k2',c2,c3,k3.2,q1]
 rw[if_neg k3]
 -- the two tests,as the run makes them
 have hlt:∀(fr:List AV) (h:aa) (o:bW),o.ev fr=t.aJ→aW fr h (.ud o)=some (.int .i64 t.args.length,h):=hlv;by_cases k4:((b&&decide (t.name=[123,125]))&&decide (t.args.length=1))=true
 ·rw[if_pos k4];simp only[Bool.and_eq_true,decide_eq_true_eq] at k4;obtain⟨y,ha,hav,hy⟩:=mJ k4.2;have oky:=dI hok (y:=y) (by rw[ha];simp);have hsy:y.size < N:=by rw[ha] at hs;simp only[Tm.aI] at hs;omega
  have q1:=gM N hx b ps hT hp y ⟨oky,hsy⟩ 1200 false;have l1:=eR T b (iv ps) (jT hp) y 1200 false oky;rw[hy];generalize wF T b (iv ps) y 1200 false=A at *;have b1:A.length+1 < 9223372036854775808:=by omega
  have b2:A.length+1+1 < 9223372036854775808:=by omega
  have b3:1+A.length < 9223372036854775808:=by omega
  have hcy:=Tm.an y;have hyr:=ah y;simp only[gY] at q1;rw[Tm.ay y,hcy] at q1;rw[hav,Tm.ay y,hcy] at qno;rw[hte,hav,Tm.ay y,hcy];have c1:b=true:=k4.1.1;have c2:t.name=[123,125]:=k4.1.2;subst c1;rw[c2] at qno ⊢;rcases aD hx with⟨rfl,rfl⟩ | rfl<;>
  simp[gV,CN,fp,cR,cH,cT,fe,dY,bF,dZ,dU,cQ,bg,bZ,bB,-bL,-bw,dy,qno,har,ag,hlv,hpr,hxr,k0,k1,q1,hyr,b1,b2,b3]
 rw[if_neg k4];have run1:∀(R:Option (AV×aa)),(∀(c d:Bool),((b&&decide (t.name=[46]))&&decide (t.args.length=2))=false→((b&&decide (t.name=[123,125]))&&decide (t.args.length=1))=false→True)→True:=fun _ _=>trivial
 -- the name and the number of Args fail the two tests
 have c46:b=true→(t.name==[46])=true→((t.args.length:Int)=2)=False:=fun h1 h2=>eq_false fun h3=>k3 (by
  rw[h1];simp only[Bool.true_and,Bool.and_eq_true,decide_eq_true_eq];exact⟨by simpa using h2,by omega⟩)
 have c123:b=true→(t.name==[123,125])=true→((t.args.length:Int)=1)=False:=fun h1 h2=>eq_false fun h3=>k4 (by
  rw[h1];simp only[Bool.true_and,Bool.and_eq_true,decide_eq_true_eq];exact⟨by simpa using h2,by omega⟩)
 have q2:=wG hx b ps hT hp t;have q3:=KV hx b ps hT hp t;by_cases k5:(cZ T b t).2=true
 ·rw[if_pos k5]
  have hi:b=true∧t.args.length=2∧¬ t.name=[46]:=by
   unfold cZ at k5;split at k5
   ·cases k5
   ·rename_i hc;simp at hc;exact⟨hc.1.1,hc.1.2,hc.2⟩
  obtain⟨c1,c2,c3⟩:=hi
  have hlo:0≤(cZ T b t).1.l∧(cZ T b t).1.l≤1200:=by
   unfold cZ;split
   ·exact⟨Int.le_refl 0,by simp[eX]⟩
   ·exact vy _ _ _
  have q4:=JF N hx b ps hT hp (cZ T b t).1 t ⟨hok,c2,by omega,hlo⟩
  have hol:(PC T b (iv ps) (cZ T b t).1 t).length < 1000000:=by
   obtain⟨y,z,ha,hav,hy,hz⟩:=zj c2;unfold PC;rw[hy,hz];rw[ha] at hs;simp only[Tm.aI] at hs;have l4:=eR T b (iv ps) (jT hp) y (lW T b (cZ T b t).1 t) true (dI hok (by rw[ha];simp));have l5:=eR T b (iv ps) (jT hp) z (bz (cZ T b t).1).2 true (dI hok (by rw[ha];simp));have:=Aq hnm;simp only[List.length_append];omega
  have q5:=fun c=>lX (PC T b (iv ps) (cZ T b t).1 t) c (by omega)
  generalize PC T b (iv ps) (cZ T b t).1 t=A at *;generalize cZ T b t=I at *;obtain⟨⟨i1,i2,i3⟩,i4⟩:=I;dsimp only at k5 q2 q4 q5;simp only[gY,aF.enc,aF.cells] at q2 q4;rw[hte] at q2 q4 ⊢;have d1:(t.name==[46])=false:=by rw[e46];exact decide_eq_false c3
  have d2:((t.args.length:Int)=2)=True:=eq_true (by omega);have d3:((t.args.length:Int)=1)=False:=eq_false (by omega);subst c1 k5
  have fin:∀(e:Bool),(t.name==[123,125])=e→aw (cW [wo,hP,kl,mq] [tN,nL N,fM,mc,nQ N,jN N,eF N]) 6 98 [.ptr 0 0,.agg [.int .i64 t.kind,.int .i64 t.num,.str t.name,t.aJ],.int .i64 n,.bool bs] ⟨2,[.map (eO ps),.row [x,.bool true,.map 1]],2,2⟩=some (.str (yV A (decide (n < i3))),⟨2,[.map (eO ps),.row [x,.bool true,.map 1]],2,2⟩):=fun e he=>by
   cases e with
   | false=>
     rcases aD hx with⟨rfl,rfl⟩ | rfl<;>
      simp[gV,CN,fp,cR,cH,cT,fe,dY,bF,dZ,dU,cQ,bg,bZ,bB,-bL,-bw,dy,qno,har,ag,hlv,hpr,hxr,k0,k1,k2,k2',d1,d2,d3,c2,c3,he,q2,q4,q5]
   | true=>
     have he':t.name=[123,125]:=by simpa using he
     rw[he'] at qno q2 q4 d1 ⊢;rcases aD hx with⟨rfl,rfl⟩ | rfl<;>
     simp[gV,CN,fp,cR,cH,cT,fe,dY,bF,dZ,dU,cQ,bg,bZ,bB,-bL,-bw,dy,qno,har,ag,hlv,hpr,hxr,k0,k1,k2,k2',d2,d3,c2,q2,q4,q5]
  exact fin _ rfl
 rw[if_neg k5];have k5':(cZ T b t).2=false:=by simpa using k5
 have hq5:fM.S [.ptr 0 0,t.enc] (gY x b ps)=some (.tuple [(cZ T b t).1.enc,.bool false],none):=by rw[q2,k5']
 clear q2;generalize cZ T b t=I at *;obtain⟨⟨i1,i2,i3⟩,i4⟩:=I;dsimp only at hq5
 -- what both tests come to,by cases
 have tests:∀(V:List UInt8) (hV:∀(nm:List UInt8),nm=t.name→∀(c1:b=true→(nm==[46])=true→((t.args.length:Int)=2)=False) (c2:b=true→(nm==[123,125])=true→((t.args.length:Int)=1)=False),True),True:=fun _ _=>trivial
 by_cases k6:(dn T b t).2=true
 ·rw[if_pos k6]
  have hi:b=true∧t.args.length=1:=by
   unfold dn at k6;split at k6
   ·cases k6
   ·rename_i hc;simp at hc;exact⟨hc.1.1.1,hc.1.1.2⟩
  obtain⟨c1,c2⟩:=hi
  have hlo:0≤(dn T b t).1.l∧(dn T b t).1.l≤1200:=by
   unfold dn;split
   ·exact⟨Int.le_refl 0,by simp[eX]⟩
   ·exact vy _ _ _
  obtain⟨y,ha,hav,hy⟩:=mJ c2;have oky:=dI hok (y:=y) (by rw[ha];simp);have hsy:y.size < N:=by rw[ha] at hs;simp only[Tm.aI] at hs;omega
  have q4:=Bt (dn T b t).1 hlo;have q6:=gM N hx b ps hT hp y ⟨oky,hsy⟩ (bz (dn T b t).1).2 true;have l1:=eR T b (iv ps) (jT hp) y (bz (dn T b t).1).2 true oky;have q7:=pZ t.name;rw[hy];generalize wF T b (iv ps) y (bz (dn T b t).1).2 true=A at *;generalize bz (dn T b t).1=sd at *;obtain⟨s1,s2⟩:=sd;dsimp only at q4 q6;have hqs:(cb t.name++[32]++A).length < 1000000:=by simp only[List.length_append,List.length_cons,List.length_nil];omega
  have q8:=fun c=>lX (cb t.name++[32]++A) c (by omega)
  have b1:(cb t.name).length+1 < 9223372036854775808:=by omega
  have b2:(cb t.name).length+1+A.length < 9223372036854775808:=by omega
  have b3:(cb t.name).length+(A.length+1) < 9223372036854775808:=by omega
  generalize cb t.name=Q at *;generalize dn T b t=P at *;obtain⟨⟨p1,p2,p3⟩,p4⟩:=P;dsimp only at k6 q3 q4;have hcy:=Tm.an y;have hyr:=ah y;simp only[gY,aF.enc,aF.cells] at q3 q4 q6 hq5;rw[hte,hav,Tm.ay y,hcy] at q3 hq5;rw[Tm.ay y,hcy] at q6;rw[hav,Tm.ay y,hcy] at qno;rw[hte,hav,Tm.ay y,hcy];subst c1 k6
  have d3:(t.name==[123,125])=false:=by
   cases hb:t.name==[123,125] with
   | false=>rfl
   | true=>
     have:=c123 rfl hb;rw[c2] at this;simp at this
  have d4:¬ t.name=[123,125]:=fun e=>by rw[e] at d3;simp at d3
  simp only[List.append_assoc,List.cons_append,List.nil_append] at q8
  have fin:∀(e:Bool),(t.name==[46])=e→aw (cW [wo,hP,kl,mq] [tN,nL N,fM,mc,nQ N,jN N,eF N]) 6 98 [.ptr 0 0,.agg [.int .i64 t.kind,.int .i64 t.num,.str t.name,.sl [.agg [.int .i64 y.kind,.int .i64 y.num,.str y.name,y.aJ]]],.int .i64 n,.bool bs] ⟨2,[.map (eO ps),.row [x,.bool true,.map 1]],2,2⟩=some (.str (yV (Q++[32]++A) (decide (n < p3))),⟨2,[.map (eO ps),.row [x,.bool true,.map 1]],2,2⟩):=fun e he=>by
   cases e with
   | false=>
     rcases aD hx with⟨rfl,rfl⟩ | rfl<;>
      simp[gV,CN,fp,cR,cH,cT,fe,dY,bF,dZ,dU,cQ,bg,bZ,bB,-bL,-bw,dy,qno,har,ag,hlv,hpr,hxr,k0,k1,d3,d4,he,hq5,q3,q4,q6,q7,q8,hyr,b1,b2,b3]
   | true=>
     have he':t.name=[46]:=by simpa using he
     rw[he'] at qno q3 hq5 q7 ⊢;rcases aD hx with⟨rfl,rfl⟩ | rfl<;>
     simp[gV,CN,fp,cR,cH,cT,fe,dY,bF,dZ,dU,cQ,bg,bZ,bB,-bL,-bw,dy,qno,har,ag,hlv,hpr,hxr,k0,k1,hq5,q3,q4,q6,q7,q8,hyr,b1,b2,b3]
  exact fin _ rfl
 rw[if_neg k6];have k6':(dn T b t).2=false:=by simpa using k6
 have hq6:mc.S [.ptr 0 0,t.enc] (gY x b ps)=some (.tuple [(dn T b t).1.enc,.bool false],none):=by rw[q3,k6']
 clear q3;generalize dn T b t=P at *;obtain⟨⟨p1,p2,p3⟩,p4⟩:=P;dsimp only at hq6;have q7:=pZ t.name;have hsub:∀y ∈ t.args,ib y∧y.size < N:=fun y hy=>⟨dI hok hy,by have:=iV hy;omega⟩
 have q8:=zd N hx b ps hT hp (Df t) ⟨hsub,by omega⟩;have j1:=iU [44] (t.args.map fun y=>wF T b (iv ps) y 999 false);have j2:=n7 (f:=fun y=>(wF T b (iv ps) y 999 false).length) t.args (fun y hy=>eR T b (iv ps) (jT hp) y 999 false (hsub y hy).1);rw[List.map_map] at j1;have j4:(Lib.join (t.args.map fun y=>wF T b (iv ps) y 999 false) [44]).length≤150*Tm.aI t.args:=Nat.le_trans j1 j2;generalize Lib.join (t.args.map fun y=>wF T b (iv ps) y 999 false) [44]=J at *;have b1:(cb t.name).length+1 < 9223372036854775808:=by omega
 have b2:(cb t.name).length+1+J.length < 9223372036854775808:=by omega
 have b3:(cb t.name).length+(J.length+1) < 9223372036854775808:=by omega
 have b4:(cb t.name).length+(J.length+1)+1 < 9223372036854775808:=by omega
 have b5:(cb t.name).length+1+J.length+1 < 9223372036854775808:=by omega
 generalize cb t.name=Q at *;simp only[gY,aF.enc,aF.cells] at hq5 hq6 q8;rw[hte] at hq5 hq6 ⊢
 have fin:∀(nm:List UInt8),t.name=nm→∀e1 e2:Bool,(nm==[46])=e1→(nm==[123,125])=e2→aw (cW [wo,hP,kl,mq] [tN,nL N,fM,mc,nQ N,jN N,eF N]) 6 98 [.ptr 0 0,.agg [.int .i64 t.kind,.int .i64 t.num,.str nm,t.aJ],.int .i64 n,.bool bs] ⟨2,[.map (eO ps),.row [x,.bool b,.map 1]],2,2⟩=some (.str (Q++[40]++J++[41]),⟨2,[.map (eO ps),.row [x,.bool b,.map 1]],2,2⟩):=fun nm hnm e1 e2 he1 he2=>by
  rw[hnm] at qno hq5 hq6 q7 c46 c123
  cases b with
  | false=>
   rcases aD hx with⟨rfl,rfl⟩ | rfl<;>
   simp[gV,CN,fp,cR,cH,cT,fe,dY,bF,dZ,dU,cQ,bg,bZ,bB,-bL,-bw,dy,qno,har,ag,hlv,hpr,hxr,k0,k1,k2,k2',hq5,hq6,q7,q8,b1,b2,b3,b4,b5]
  | true=>
    cases e1 with
    | true=>
      have d1:=c46 rfl he1;have he':nm=[46]:=by simpa using he1
      subst he';rcases aD hx with⟨rfl,rfl⟩ | rfl<;>
      simp[gV,CN,fp,cR,cH,cT,fe,dY,bF,dZ,dU,cQ,bg,bZ,bB,-bL,-bw,dy,qno,har,ag,hlv,hpr,hxr,k0,k1,k2,k2',d1,hq5,hq6,q7,q8,b1,b2,b3,b4,b5]
    | false=>
      have n1:¬ nm=[46]:=by simpa using he1
      cases e2 with
      | true=>
        have d1:=c123 rfl he2;have he':nm=[123,125]:=by simpa using he2
        subst he';rcases aD hx with⟨rfl,rfl⟩ | rfl<;>
        simp[gV,CN,fp,cR,cH,cT,fe,dY,bF,dZ,dU,cQ,bg,bZ,bB,-bL,-bw,dy,qno,har,ag,hlv,hpr,hxr,k0,k1,k2,k2',d1,hq5,hq6,q7,q8,b1,b2,b3,b4,b5]
      | false=>
        have n2:¬ nm=[123,125]:=by simpa using he2
        rcases aD hx with⟨rfl,rfl⟩ | rfl<;>
        simp[gV,CN,fp,cR,cH,cT,fe,dY,bF,dZ,dU,cQ,bg,bZ,bB,-bL,-bw,dy,qno,har,ag,hlv,hpr,hxr,k0,k1,k2,k2',he1,he2,n1,n2,hq5,hq6,q7,q8,b1,b2,b3,b4,b5]
 exact fin t.name rfl _ _ rfl rfl
theorem E1:ch Tryz.prog dm (eF 0):=fun args os v r hv=>by
 unfold eF at hv;dsimp only at hv;split at hv
 ·split at hv
  ·split at hv
   ·rename_i hc;exact absurd hc.2 (by omega)
   ·cases hv
  ·cases hv
 ·cases hv
theorem EF (N:Nat) (hN:ch Tryz.prog dm (eF N)):ch Tryz.prog dm (eF (N+1)):=fun args os v r hv=>by
 have hv0:=hv;unfold eF at hv;dsimp only at hv;split at hv
 ·rename_i v0 n bs os;split at hv
  ·rename_i W t hW ht;split at hv
   ·rename_i hc;cases hv;by_cases hlt:t.size < N
    ·refine hN _ _ _ _ ?_;obtain⟨x,hx,rfl,hT,hp⟩:=iN hW;rw[bc ht];exact gM N hx W.b W.ps hT hp t ⟨hc.1,hlt⟩ _ _
    ·obtain⟨x,hx,rfl,hT,hp⟩:=iN hW;obtain⟨T,b,ps⟩:=W;dsimp only at hx hT hp ⊢;rw[bc ht,bg];have hE:dA Tryz.prog dm (cW WG (Wx N)):=dv (by simp[WG,Mx,wx.lift,vm,Aw.lift]) (by simp[Wx,Mt,Kn N hN,wB.lift,KN,J7 N hN,ym N hN,hN]);exact mj hE hx (MU N x T b ps hx hT hp t hc.1 (by omega) _ _) (by simp[AV.refs]) (by simp[AV.af,Tm.ba,AV.refs])
   ·cases hv
  ·cases hv
 ·cases hv
theorem zC:∀N,ch Tryz.prog dm (eF N)
 | 0=>E1
 | N+1=>EF N (zC N)
def C5 (p:Tm→Bool):List Tm→Bool
 | []=>false
 | x::r=>if p x then true else C5 p r
def nh:Nat→Tm→Bool
 | 0,_=>true
 | n+1,t=>if 12 < t.args.length then true else C5 (nh n) t.args
def ik (m:Nat):ai:=⟨19,fun | [v,.int .i64 n]=>(match dB v with | some t=>if n=m then some (.bool (nh m t)) else none | none=>none) | _=>none⟩
theorem gF (m:Nat):(ik m).f=19:=(rfl)
theorem AK (m:Nat) (t:Tm):(ik m).S [t.enc,.int .i64 (m:Nat)]=some (.bool (nh m t)):=by
 simp only[ik,aX,if_true]
theorem JJ (m k:Nat) (v:AV) (h:k≠m):(ik m).S [v,.int .i64 (k:Nat)]=none:=by
 simp only[ik];split
 ·rw[if_neg (by omega)]
 ·rfl
theorem Ec (n m:Nat) (hm:m≤100) (hm1:1≤m) (K N:Int) (s:List UInt8) (us:List Tm) (hs:us.length≤12):∀(post pre:List Tm) (k:Nat),us=pre++post→post.length < k→
 ∃md,er 1 0 (aT (ak (aw (a8 [ik (m - 1)]) (n+1)) (n+1) vI) oW 1 k (Ti (.int .i64 m) (.ptr 0 0) (.int .i64 pre.length)) ⟨1,[.row [.int .i64 K,.int .i64 N,.str s,.sl (us.map Tm.enc)]],1,0⟩)=
   some (if C5 (nh (m - 1)) post then .ret else .exit 0,if C5 (nh (m - 1)) post then FM 29 [(4,.bool true)] else FM 29 [],⟨1,[.row [.int .i64 K,.int .i64 N,.str s,.sl (us.map Tm.enc)]],0,md⟩)
 | [],pre,k+1,e,_=>by
   simp at e;subst e;have h5:AV.af (us.map Tm.enc)=0:=aB _;exact⟨0,by simp[ae,vI,h5,C5]⟩
 | x::post,pre,k+1,e,hk=>by
   have h1:us[pre.length]? =some x:=by rw[e];simp
   have h5:AV.af (us.map Tm.enc)=0:=aB _;have hpl:pre.length < us.length:=by rw[e];simp
   have h6:((pre.length:Int) < (us.length:Int))=True:=eq_true (by omega);have h3:IntKind.i64.wrap ((pre.length:Int)+1)=(pre.length:Int)+1:=wrap_i64 (by omega) (by omega);have hxe:=Tm.ay x;have hcl:=Tm.an x;have hxr:=ah x;have w1:IntKind.i64.wrap ((m:Int) - 1)=((m - 1:Nat):Int):=by rw[wrap_i64 (by omega) (by omega)];omega
   have hc:=AK (m - 1) x;rw[hxe,hcl] at hc;obtain⟨md,ih⟩:=Ec n m hm hm1 K N s us hs post (pre++[x]) k (by simp[e]) (by rw[List.length_cons] at hk;omega);simp only[List.length_append,List.length_cons,List.length_nil,Nat.zero_add] at ih;rw[show ((pre.length+1:Nat):Int)=(pre.length:Int)+1 by omega] at ih;rw[ae]
   cases hd:nh (m - 1) x with
   | true=>
     rw[hd] at hc;refine⟨0,?_⟩;simp[vI,oW,h1,h3,h5,h6,hxe,hcl,hxr,w1,hc,ag,gF,C5,hd]
   | false=>
     rw[hd] at hc;refine⟨md,?_⟩;simp[vI,oW,h1,h3,h5,h6,hxe,hcl,hxr,w1,hc,ag,gF,C5,hd];exact ih
theorem Dy (m:Nat) (hm1:1≤m) (hm:m≤100) (hp:az Tryz.prog (ik (m - 1))):az Tryz.prog (ik m):=fun args v hv=>by
 have hv0:=hv;unfold ik at hv;dsimp only at hv;split at hv
 ·rename_i x n;split at hv
  ·rename_i t ht;split at hv
   ·rename_i hc;subst hc;cases hv;rw[bc ht];have hno:=JJ (m - 1) m t.enc (by omega);refine aH (n:=20) (h':=h0) (aG (ss:=[ik (m - 1)]) (by simp[hp])) ?_ rfl (by simp[AV.af,AV.refs,Tm.ba]);rw[gF];have hxe:=Tm.ay t;obtain⟨q,rfl⟩:∃q,m=q+1:=⟨m - 1,by omega⟩
    have t1:((((q+1:Nat):Int)) < 1)=False:=eq_false (by omega);have t1':((q:Int)+1 < 1)=False:=eq_false (by omega);rw[Nat.add_sub_cancel] at hno
    cases t with
    | nl kk nn ss=>
      have hcl:(Tm.nl kk nn ss).cells=[.int .i64 kk,.int .i64 nn,.str ss,.ax]:=rfl;rw[hxe,hcl] at hno ⊢;have hd:nh (q+1) (Tm.nl kk nn ss)=false:=rfl;rw[hd];simp only[Int.natCast_add,Int.natCast_one] at hno;simp[Eg,RT,oW,vI,ae,hno,gF,t1']
    | mk kk nn ss us=>
      have hcl:(Tm.mk kk nn ss us).cells=[.int .i64 kk,.int .i64 nn,.str ss,.sl (us.map Tm.enc)]:=rfl;have h5:AV.af (us.map Tm.enc)=0:=aB _;rw[hxe,hcl] at hno ⊢;have hd:nh (q+1) (Tm.mk kk nn ss us)=if 12 < us.length then true else C5 (nh q) us:=rfl
      rw[hd];by_cases hl:12 < us.length
      ·have t2:((12:Int) < (us.length:Int))=True:=eq_true (by omega);simp only[Int.natCast_add,Int.natCast_one] at hno;simp[Eg,RT,hno,gF,t1',t2,h5,hl]
      ·have t2:((12:Int) < (us.length:Int))=False:=eq_false (by omega);obtain⟨md,lp⟩:=Ec 18 (q+1) hm hm1 kk nn ss us (by omega) us [] 19 rfl (by omega);simp only[List.length_nil,Int.natCast_zero,Nat.add_sub_cancel,Int.natCast_add,Int.natCast_one,oW] at lp;simp only[Int.natCast_add,Int.natCast_one] at hno;rw[if_neg hl]
       cases ha:C5 (nh q) us with
       | true=>
         rw[ha] at lp;simp only[if_true] at lp;simp[Eg,RT,oW,hno,gF,t1',t2,h5,hl,lp]
       | false=>
         rw[ha] at lp;simp only[Bool.false_eq_true,if_false] at lp;simp[Eg,RT,oW,hno,gF,t1',t2,h5,hl,lp]
   ·cases hv
  ·cases hv
 ·cases hv
theorem DY:az Tryz.prog (ik 0):=fun args v hv=>by
 unfold ik at hv;dsimp only at hv;split at hv
 ·rename_i x n;split at hv
  ·rename_i t ht;split at hv
   ·rename_i hc;subst hc;cases hv;rw[bc ht];refine aH (n:=5) (h':=h0) (aG (ss:=[]) (by simp)) ?_ rfl (by simp[AV.af,AV.refs,Tm.ba]);rw[gF];have hxe:=Tm.ay t;have hcl:=Tm.an t;have hxr:=ah t;have hd:nh 0 t=true:=rfl;rw[hxe,hcl,hd];simp[Eg,RT,hxr]
   ·cases hv
  ·cases hv
 ·cases hv
theorem zD:∀m,m≤100→az Tryz.prog (ik m)
 | 0,_=>DY
 | m+1,h=>Dy (m+1) (by omega) h (zD m (by omega))
theorem fN {fr:List AV} {h:aa} (kd:Nat) (m k v:bW):aW fr h (.Pz kd m k v)=match m.ev fr with
 | .map id=>match h.eW id with
   | some es=>(oC kd (k.ev fr) (v.ev fr) es).map fun es'=>(.undef,((h.set id (.map es')).mark id (v.ev fr)).mark id (k.ev fr))
   | none=>none
 | _=>none:=rfl
def mp (vs:List Int):List (AV×AV):=vs.map fun v=>(.int .i64 v,.bool true)
theorem tU (v:Int):∀vs:List Int,kz 1 (.int .i64 v) (mp vs)=some (if v ∈ vs then some (.bool true) else none)
 | []=>rfl
 | w::r=>by
   have ih:=tU v r;unfold mp at ih ⊢;simp only[List.map_cons,kz,List.mem_cons];by_cases h:v=w
   ·subst h;simp[fh]
   ·simp[fh,h,ih]
theorem Hb (v:Int):∀vs:List Int,v ∉ vs→oC 1 (.int .i64 v) (.bool true) (mp vs)=some (mp (vs++[v]))
 | [],_=>rfl
 | w::r,h=>by
   have ih:=Hb v r (fun hh=>h (List.mem_cons_of_mem _ hh));have hw:¬ v=w:=fun e=>h (by simp[e])
   unfold mp at ih ⊢;simp only[List.map_cons,List.cons_append,oC];simp[fh,hw,ih]
def ints (vs:List Int):List AV:=vs.map fun v=>.int .i64 v
theorem cd:∀vs:List Int,AV.af (ints vs)=0
 | []=>rfl
 | v::r=>by
   have:=cd r;unfold ints at this ⊢;simp[AV.af,AV.refs,this]
def cf (T:Tm) (cv:AV) (vs:List Int):List aC:=[.row T.cells,.row [.map 2],.map (mp vs),.row [cv],.row T.cells]
theorem Nb (n:Nat) (x T:Tm) (R:List AV) (md:Nat) (hmd:md≤4) (hx:x.kind=0):
 aw (a8 [dD]) (n+1) 127 [x.enc,.ptr 3 0,.ptr 1 0] ⟨7,.row x.cells::.row R::cf T .ax [],6,md⟩=
  some (.bool true,⟨10,.row [.int .i64 x.num]::.row [.int .i64 x.num]::.row x.cells::.row x.cells::.row R::cf T (.vec 9 0 1 1 1) [x.num],1,min md 1⟩):=by
 have hxe:=Tm.ay x;have hcl:=Tm.an x;have hxr:=ah x;simp only[cf];rw[hxe,hcl,hx];simp[my,c127,aS,aS,aS,ag,hxr,au,fN,aa.eW,mp,kz,oC]
theorem Pf (n:Nat) (x T:Tm) (R:List AV) (md:Nat) (hmd:md≤4) (hx:x.kind≠0):
 aw (a8 [dD]) (n+1) 127 [x.enc,.ptr 3 0,.ptr 1 0] ⟨7,.row x.cells::.row R::cf T .ax [],6,md⟩=
  some (.bool true,⟨7,.row x.cells::.row R::cf T .ax [],6,md⟩):=by
 have hxe:=Tm.ay x;have hcl:=Tm.an x;have hxr:=ah x;simp only[cf];rw[hxe,hcl];simp[my,c127,aS,aS,aS,ag,hxr,au,fN,aa.eW,hx]
theorem NA (n:Nat) (x T:Tm) (R:List AV) (md:Nat) (hmd:md≤4) (hx:x.kind=0):
 aw (a8 [dD]) (n+1) 127 [x.enc,.ptr 3 0,.ptr 1 0] ⟨8,.row x.cells::.row R::.dead::cf T .ax [],6,md⟩=
  some (.bool true,⟨11,.row [.int .i64 x.num]::.row [.int .i64 x.num]::.row x.cells::.row x.cells::.row R::.dead::cf T (.vec 10 0 1 1 1) [x.num],1,min md 1⟩):=by
 have hxe:=Tm.ay x;have hcl:=Tm.an x;have hxr:=ah x;simp only[cf];rw[hxe,hcl,hx];simp[my,c127,aS,aS,aS,ag,hxr,au,fN,aa.eW,mp,kz,oC]
theorem Pb (n:Nat) (x T:Tm) (R:List AV) (md:Nat) (hmd:md≤4) (hx:x.kind≠0):
 aw (a8 [dD]) (n+1) 127 [x.enc,.ptr 3 0,.ptr 1 0] ⟨8,.row x.cells::.row R::.dead::cf T .ax [],6,md⟩=
  some (.bool true,⟨8,.row x.cells::.row R::.dead::cf T .ax [],6,md⟩):=by
 have hxe:=Tm.ay x;have hcl:=Tm.an x;have hxr:=ah x;simp only[cf];rw[hxe,hcl];simp[my,c127,aS,aS,aS,ag,hxr,au,fN,aa.eW,hx]
theorem N0 (n:Nat) (x T:Tm) (R:List AV) (v:Int) (vs:List Int) (hl:vs.length < 100000) (md:Nat) (hmd:md≤4) (hx:x.kind=0) (hm:x.num ∉ v::vs):
 aw (a8 [dD]) (n+1) 127 [x.enc,.ptr 3 0,.ptr 1 0] ⟨8,.row x.cells::.row (ints (v::vs))::.row R::cf T (.vec 6 0 (vs.length+1) 1 (vs.length+1)) (v::vs),1,md⟩=
  some (.bool true,⟨11,.row (ints (v::vs++[x.num]))::.row [.int .i64 x.num]::.row x.cells::.row x.cells::.dead::.row R::cf T (.vec 10 0 (vs.length+2) 1 (vs.length+2)) (v::vs++[x.num]),1,min md 1⟩):=by
 have hxe:=Tm.ay x;have hcl:=Tm.an x;have hxr:=ah x;simp only[cf];have h1:=tU x.num (v::vs);have h3:=cd (v::vs);have h4:(ints (v::vs)).take (vs.length+1)=ints (v::vs):=List.take_of_length_le (by simp[ints]);have h5:(ints (v::vs)).length=vs.length+1:=by simp[ints]
 have h6:(vs.length+1+1)*8≤140737488355328:=by omega
 have h7:vs.length+1+1 < 9223372036854775808:=by omega
 have h2:=Hb x.num (v::vs) hm;have h8:ints (v::vs++[x.num])=ints (v::vs)++[.int .i64 x.num]:=by simp[ints]
 have h9:AV.af (ints (v::vs)++[.int .i64 x.num])=0:=by rw[←h8];exact cd _
 rw[if_neg hm] at h1;rw[hxe,hcl,hx,h8];generalize mp (v::vs++[x.num])=M' at *;generalize mp (v::vs)=M at *;generalize ints (v::vs)=I at *;simp[my,c127,aS,aS,aS,ag,hxr,au,fN,aa.eW,h1,h2,h3,h4,h5,h6,h7,h9]
theorem NL (n:Nat) (x T:Tm) (R:List AV) (v:Int) (vs:List Int) (hl:vs.length < 100000) (md:Nat) (hmd:md≤4) (hx:x.kind≠0∨x.num ∈ v::vs):
 aw (a8 [dD]) (n+1) 127 [x.enc,.ptr 3 0,.ptr 1 0] ⟨8,.row x.cells::.row (ints (v::vs))::.row R::cf T (.vec 6 0 (vs.length+1) 1 (vs.length+1)) (v::vs),1,md⟩=
  some (.bool true,⟨8,.row x.cells::.row (ints (v::vs))::.row R::cf T (.vec 6 0 (vs.length+1) 1 (vs.length+1)) (v::vs),1,md⟩):=by
 have hxe:=Tm.ay x;have hcl:=Tm.an x;have hxr:=ah x;simp only[cf];have h1:=tU x.num (v::vs);have h3:=cd (v::vs);have h4:(ints (v::vs)).take (vs.length+1)=ints (v::vs):=List.take_of_length_le (by simp[ints]);have h5:(ints (v::vs)).length=vs.length+1:=by simp[ints]
 have h6:(vs.length+1+1)*8≤140737488355328:=by omega
 have h7:vs.length+1+1 < 9223372036854775808:=by omega
 rw[hxe,hcl];by_cases h0:x.kind=0
 ·have hm:x.num ∈ v::vs:=by
   rcases hx with h | h
   ·exact absurd h0 h
   ·exact h
  rw[if_pos hm] at h1;rw[h0];generalize mp (v::vs)=M at *;generalize ints (v::vs)=I at *;simp[my,c127,aS,aS,aS,ag,hxr,au,fN,aa.eW,h1,h3,h4,h5]
 ·generalize mp (v::vs)=M at *;generalize ints (v::vs)=I at *;simp[my,c127,aS,aS,aS,ag,hxr,au,fN,aa.eW,h0,h3,h4,h5]
theorem MG (n:Nat) (x T:Tm) (R:List AV) (v:Int) (vs:List Int) (hl:vs.length < 100000) (md:Nat) (hmd:md≤4) (hx:x.kind=0) (hm:x.num ∉ v::vs):
 aw (a8 [dD]) (n+1) 127 [x.enc,.ptr 3 0,.ptr 1 0] ⟨9,.row x.cells::.row (ints (v::vs))::.row R::.dead::cf T (.vec 7 0 (vs.length+1) 1 (vs.length+1)) (v::vs),1,md⟩=
  some (.bool true,⟨12,.row (ints (v::vs++[x.num]))::.row [.int .i64 x.num]::.row x.cells::.row x.cells::.dead::.row R::.dead::cf T (.vec 11 0 (vs.length+2) 1 (vs.length+2)) (v::vs++[x.num]),1,min md 1⟩):=by
 have hxe:=Tm.ay x;have hcl:=Tm.an x;have hxr:=ah x;simp only[cf];have h1:=tU x.num (v::vs);have h3:=cd (v::vs);have h4:(ints (v::vs)).take (vs.length+1)=ints (v::vs):=List.take_of_length_le (by simp[ints]);have h5:(ints (v::vs)).length=vs.length+1:=by simp[ints]
 have h6:(vs.length+1+1)*8≤140737488355328:=by omega
 have h7:vs.length+1+1 < 9223372036854775808:=by omega
 have h2:=Hb x.num (v::vs) hm;have h8:ints (v::vs++[x.num])=ints (v::vs)++[.int .i64 x.num]:=by simp[ints]
 have h9:AV.af (ints (v::vs)++[.int .i64 x.num])=0:=by rw[←h8];exact cd _
 rw[if_neg hm] at h1;rw[hxe,hcl,hx,h8];generalize mp (v::vs++[x.num])=M' at *;generalize mp (v::vs)=M at *;generalize ints (v::vs)=I at *;simp[my,c127,aS,aS,aS,ag,hxr,au,fN,aa.eW,h1,h2,h3,h4,h5,h6,h7,h9]
theorem Oe (n:Nat) (x T:Tm) (R:List AV) (v:Int) (vs:List Int) (hl:vs.length < 100000) (md:Nat) (hmd:md≤4) (hx:x.kind≠0∨x.num ∈ v::vs):
 aw (a8 [dD]) (n+1) 127 [x.enc,.ptr 3 0,.ptr 1 0] ⟨9,.row x.cells::.row (ints (v::vs))::.row R::.dead::cf T (.vec 7 0 (vs.length+1) 1 (vs.length+1)) (v::vs),1,md⟩=
  some (.bool true,⟨9,.row x.cells::.row (ints (v::vs))::.row R::.dead::cf T (.vec 7 0 (vs.length+1) 1 (vs.length+1)) (v::vs),1,md⟩):=by
 have hxe:=Tm.ay x;have hcl:=Tm.an x;have hxr:=ah x;simp only[cf];have h1:=tU x.num (v::vs);have h3:=cd (v::vs);have h4:(ints (v::vs)).take (vs.length+1)=ints (v::vs):=List.take_of_length_le (by simp[ints]);have h5:(ints (v::vs)).length=vs.length+1:=by simp[ints]
 have h6:(vs.length+1+1)*8≤140737488355328:=by omega
 have h7:vs.length+1+1 < 9223372036854775808:=by omega
 rw[hxe,hcl];by_cases h0:x.kind=0
 ·have hm:x.num ∈ v::vs:=by
   rcases hx with h | h
   ·exact absurd h0 h
   ·exact h
  rw[if_pos hm] at h1;rw[h0];generalize mp (v::vs)=M at *;generalize ints (v::vs)=I at *;simp[my,c127,aS,aS,aS,ag,hxr,au,fN,aa.eW,h1,h3,h4,h5]
 ·generalize mp (v::vs)=M at *;generalize ints (v::vs)=I at *;simp[my,c127,aS,aS,aS,ag,hxr,au,fN,aa.eW,h0,h3,h4,h5]
theorem tM (C:Nat→List AV→aa→Option (AV×aa)) (n g:Nat) (caps:List AV) (hc:AV.af caps≤4) (X:Tm) (os:List aC) (md:Nat) (hmd:∀k,4≤k→min md k=md) (w:Nat) (hw:min w 7=w):∀(i m:Nat) (st:List Tm),i≤X.args.length→i < m→st.length+i < 1000000000000→
 er 7 w (aT (ak C n aV) aL 7 m (ep (.fn g caps) (.vec 7 0 st.length 4 st.length) (.ptr 6 0) (.int .i64 ((i:Int) - 1))) ⟨8,.row (aq st)::.row X.cells::.dead::os,7,md⟩)=
  some (.exit 2,FM 44 [(1,.fn g caps),(5,.vec 7 0 (st.length+i) 4 (st.length+i))],⟨8,.row (aq (st++(X.args.take i).reverse))::.row X.cells::.dead::os,w,md⟩)
 | 0,m+1,st,_,_,_=>by
   have h1:(0≤(-1:Int))=False:=by simp
   have hr:AV.af caps≤7:=by omega
   have hm1:min md 5=md:=hmd 5 (by omega);have hm2:min md 7=md:=hmd 7 (by omega);have hfr:=aK st;simp[ae,aV,hr,hfr,hw]
 | i+1,m+1,st,hi,hm,hl=>by
   have hr:AV.af caps≤7:=by omega
   have hm1:min md 5=md:=hmd 5 (by omega);have hm2:min md 7=md:=hmd 7 (by omega);obtain⟨x,hx⟩:∃x,X.args[i]? =some x:=⟨X.args[i]'(by omega),by simp⟩
   have ih:=tM C n g caps hc X os md hmd w hw i m (st++[x]) (by omega) (by omega) (by simp;omega)
   have ha:X.aJ=.sl (X.args.map Tm.enc):=by
    cases X with
    | nl k n s=>simp[Tm.args] at hx
    | mk k n s us=>rfl
   have hX:X.cells=[.int .i64 X.kind,.int .i64 X.num,.str X.name,.sl (X.args.map Tm.enc)]:=by rw[←ha];rfl
   have h5:AV.af (X.args.map Tm.enc)=0:=aB _;have hxe:=Tm.ay x;have hxc:=Tm.an x;have hxr:=ah x;have hfr:=aK st;have hfl:=cg st;have w1:IntKind.i64.wrap ((i:Int) - 1)=(i:Int) - 1:=wrap_i64 (by omega) (by omega);have t1:(0≤(i:Int))=True:=eq_true (by omega);have b1:(st.length+1)*56≤140737488355328:=by omega
   have b2:st.length+1 < 9223372036854775808:=by omega
   have htk:X.args.take (i+1)=X.args.take i++[x]:=by
    rw[List.take_add_one,hx];rfl
   have hft:aq (st++[x])=aq st++[.int .i64 x.kind,.int .i64 x.num,.str x.name,x.aJ]:=by
    simp[aq,Tm.cells]
   have hft2:List.take (st.length*4) (aq st)=aq st:=List.take_of_length_le (by omega);have hfr2:AV.af (aq st++[.int .i64 x.kind,.int .i64 x.num,.str x.name,x.aJ])=0:=by rw[←hft];exact aK _
   rw[htk,List.reverse_append];simp only[List.length_append,List.length_cons,List.length_nil,Nat.zero_add,List.append_assoc,hft] at ih;have e1:st.length+1+i=st.length+(i+1):=by omega
   rw[e1] at ih;have e2:((i+1:Nat):Int) - 1=(i:Int):=by omega
   rw[e2,ae];rw[hX] at ih ⊢;simp[aV,aL,h5,hx,hxe,hxc,hxr,hfr,hfl,w1,t1,b1,b2,hr,hft2,hfr2,hm1,hm2,au];exact ih
theorem qk {R:List AV} {st:List Tm} {lb:Nat} (hR:R.length=lb*4) (ht:R.take (st.length*4)=aq st) (hlb:st.length+1≤lb) (x:Tm):
 (putAt R (st.length*4) x.cells).length=lb*4∧(putAt R (st.length*4) x.cells).take ((st++[x]).length*4)=aq (st++[x]):=by
 have hc:x.cells.length=4:=rfl;have h1:st.length*4+x.cells.length≤R.length:=by omega
 refine⟨?_,?_⟩
 ·rw[kf x.cells R _ h1];simp only[List.length_append,List.length_take,List.length_drop];omega
 ·have:=gR x.cells h1;rw[List.length_append,show (st.length+[x].length)*4=st.length*4+x.cells.length by simp[hc];omega,this,ht];simp[aq]
theorem qW (C:Nat→List AV→aa→Option (AV×aa)) (n g:Nat) (caps:List AV) (hc:AV.af caps≤4) (X:Tm) (os:List aC) (md:Nat) (hmd:∀k,4≤k→min md k=md) (w:Nat) (hw:min w 7=w) (lb:Nat):∀(i m:Nat) (st:List Tm) (R:List AV),i≤X.args.length→i < m→st.length+i≤lb→lb < 1000000000000→R.length=lb*4→R.take (st.length*4)=aq st→AV.af R=0→
 ∃R',R'.length=lb*4∧R'.take ((st.length+i)*4)=aq (st++(X.args.take i).reverse)∧AV.af R'=0∧
 er 7 w (aT (ak C n aV) aL 7 m (ep (.fn g caps) (.vec 5 0 st.length 4 lb) (.ptr 6 0) (.int .i64 ((i:Int) - 1))) ⟨7,.row X.cells::.row R::os,7,md⟩)=
  some (.exit 2,FM 44 [(1,.fn g caps),(5,.vec 5 0 (st.length+i) 4 lb)],⟨7,.row X.cells::.row R'::os,w,md⟩)
 | 0,m+1,st,R,_,_,_,_,hR,ht,hrR=>by
   have h1:(0≤(-1:Int))=False:=by simp
   have hr:AV.af caps≤7:=by omega
   have hm1:min md 5=md:=hmd 5 (by omega);have hm2:min md 7=md:=hmd 7 (by omega);refine⟨R,hR,by simpa using ht,hrR,?_⟩;simp[ae,aV,hr,hw]
 | i+1,m+1,st,R,hi,hm,hlb,hl,hR,ht,hrR=>by
   have hr:AV.af caps≤7:=by omega
   have hm1:min md 5=md:=hmd 5 (by omega);have hm2:min md 7=md:=hmd 7 (by omega);obtain⟨x,hx⟩:∃x,X.args[i]? =some x:=⟨X.args[i]'(by omega),by simp⟩
   obtain⟨p1,p2⟩:=qk hR ht (by omega) x;have p3:=dM hrR x (st.length*4) (by omega);obtain⟨R',r1,r2,r3,ih⟩:=qW C n g caps hc X os md hmd w hw lb i m (st++[x]) (putAt R (st.length*4) x.cells) (by omega) (by omega) (by simp;omega) hl p1 p2 p3;have e1:(st++[x]).length+i=st.length+(i+1):=by simp;omega
   have htk:X.args.take (i+1)=X.args.take i++[x]:=by
    rw[List.take_add_one,hx];rfl
   refine⟨R',r1,?_,r3,?_⟩
   ·rw[htk,List.reverse_append,←e1,r2];simp[List.append_assoc]
   have ha:X.aJ=.sl (X.args.map Tm.enc):=by
    cases X with
    | nl k n s=>simp[Tm.args] at hx
    | mk k n s us=>rfl
   have hX:X.cells=[.int .i64 X.kind,.int .i64 X.num,.str X.name,.sl (X.args.map Tm.enc)]:=by rw[←ha];rfl
   have h5:AV.af (X.args.map Tm.enc)=0:=aB _;have hxe:=Tm.ay x;have hxc:=Tm.an x;have hxr:=ah x;have w1:IntKind.i64.wrap ((i:Int) - 1)=(i:Int) - 1:=wrap_i64 (by omega) (by omega);have t1:(0≤(i:Int))=True:=eq_true (by omega);have b1:st.length*4≤R.length:=by omega
   have b2:st.length+1≤lb:=by omega
   have b3:(st.length+1)*4≤R.length:=by omega
   have hbs:putAt [.int .i64 0,.int .i64 0,.str [],.ax] 0 [.int .i64 x.kind,.int .i64 x.num,.str x.name,x.aJ]=[.int .i64 x.kind,.int .i64 x.num,.str x.name,x.aJ]:=rfl;have hl1:(st++[x]).length=st.length+1:=by simp
   rw[hl1,show st.length+1+i=st.length+(i+1) by omega] at ih;have e2:((i+1:Nat):Int) - 1=(i:Int):=by omega
   rw[e2,ae];rw[hX,hxc] at ih;rw[hX];simp[aV,aL,h5,hx,hxe,hxc,hxr,w1,t1,b1,b2,b3,hr,hm1,hm2,hrR,hbs,au,-cY];exact ih
theorem qM (C:Nat→List AV→aa→Option (AV×aa)) (n g:Nat) (caps:List AV) (hc:AV.af caps≤4) (X:Tm) (os:List aC) (md:Nat) (hmd:∀k,4≤k→min md k=md) (w:Nat) (hw:min w 7=w) (lb:Nat):∀(i m:Nat) (st:List Tm) (R:List AV),i≤X.args.length→i < m→st.length≤lb→lb < st.length+i→st.length+i < 1000000000000→R.length=lb*4→R.take (st.length*4)=aq st→AV.af R=0→
 er 7 w (aT (ak C n aV) aL 7 m (ep (.fn g caps) (.vec 5 0 st.length 4 lb) (.ptr 6 0) (.int .i64 ((i:Int) - 1))) ⟨7,.row X.cells::.row R::os,7,md⟩)=
  some (.exit 2,FM 44 [(1,.fn g caps),(5,.vec 7 0 (st.length+i) 4 (st.length+i))],⟨8,.row (aq (st++(X.args.take i).reverse))::.row X.cells::.dead::os,w,md⟩)
 | 0,m,st,R,_,_,h1,h2,_,_,_,_=>by omega
 | i+1,0,st,R,_,h,_,_,_,_,_,_=>by omega
 | i+1,m+1,st,R,hi,hm,h1,h2,hl,hR,ht,hrR=>by
   have hr:AV.af caps≤7:=by omega
   have hm1:min md 5=md:=hmd 5 (by omega);have hm2:min md 7=md:=hmd 7 (by omega);obtain⟨x,hx⟩:∃x,X.args[i]? =some x:=⟨X.args[i]'(by omega),by simp⟩
   have htk:X.args.take (i+1)=X.args.take i++[x]:=by
    rw[List.take_add_one,hx];rfl
   have ha:X.aJ=.sl (X.args.map Tm.enc):=by
    cases X with
    | nl k n s=>simp[Tm.args] at hx
    | mk k n s us=>rfl
   have hX:X.cells=[.int .i64 X.kind,.int .i64 X.num,.str X.name,.sl (X.args.map Tm.enc)]:=by rw[←ha];rfl
   have h5:AV.af (X.args.map Tm.enc)=0:=aB _;have hxe:=Tm.ay x;have hxc:=Tm.an x;have hxr:=ah x;have w1:IntKind.i64.wrap ((i:Int) - 1)=(i:Int) - 1:=wrap_i64 (by omega) (by omega);have t1:(0≤(i:Int))=True:=eq_true (by omega);have b1:st.length*4≤R.length:=by omega
   have hbs:putAt [.int .i64 0,.int .i64 0,.str [],.ax] 0 [.int .i64 x.kind,.int .i64 x.num,.str x.name,x.aJ]=[.int .i64 x.kind,.int .i64 x.num,.str x.name,x.aJ]:=rfl;have hl1:(st++[x]).length=st.length+1:=by simp
   have e2:((i+1:Nat):Int) - 1=(i:Int):=by omega
   by_cases hfit:st.length+1≤lb
   ·obtain⟨p1,p2⟩:=qk hR ht (by omega) x;have p3:=dM hrR x (st.length*4) (by omega);have ih:=qM C n g caps hc X os md hmd w hw lb i m (st++[x]) (putAt R (st.length*4) x.cells) (by omega) (by omega) (by omega) (by omega) (by omega) p1 p2 p3;have b3:(st.length+1)*4≤R.length:=by omega
    rw[hl1,show st.length+1+i=st.length+(i+1) by omega] at ih;rw[e2,ae,htk,List.reverse_append];rw[hX,hxc] at ih;rw[hX];simp only[List.append_assoc] at ih;simp[aV,aL,h5,hx,hxe,hxc,hxr,w1,t1,b1,hfit,b3,hr,hm1,hm2,hrR,hbs,au,-cY];exact ih
   ·have hlb:lb=st.length:=by omega
    have ih:=tM C n g caps hc X os md hmd w hw i m (st++[x]) (by omega) (by omega) (by omega);have c1:(st.length+1)*56≤140737488355328:=by omega
    have c2:st.length+1 < 9223372036854775808:=by omega
    have hft:aq (st++[x])=aq st++[.int .i64 x.kind,.int .i64 x.num,.str x.name,x.aJ]:=by
     simp[aq,Tm.cells]
    have hfr2:AV.af (aq st++[.int .i64 x.kind,.int .i64 x.num,.str x.name,x.aJ])=0:=by rw[←hft];exact aK _
    rw[hl1,show st.length+1+i=st.length+(i+1) by omega,hft] at ih;rw[e2,ae,htk,List.reverse_append];rw[hX] at ih ⊢;simp only[List.append_assoc] at ih;simp[aV,aL,h5,hx,hxe,hxc,hxr,w1,t1,b1,hfit,c1,c2,hr,hm1,hm2,hrR,ht,hfr2,au];exact ih
theorem sj (C:Nat→List AV→aa→Option (AV×aa)) (n g:Nat) (caps:List AV) (hc:AV.af caps≤4) (X:Tm) (os:List aC) (md:Nat) (hmd:∀k,4≤k→min md k=md) (w:Nat) (hw:min w 8=w):∀(i m:Nat) (st:List Tm),i≤X.args.length→i < m→st.length+i < 1000000000000→
 er 8 w (aT (ak C n aV) aL 8 m (ep (.fn g caps) (.vec 8 0 st.length 4 st.length) (.ptr 7 0) (.int .i64 ((i:Int) - 1))) ⟨9,.row (aq st)::.row X.cells::.dead::os,8,md⟩)=
  some (.exit 2,FM 44 [(1,.fn g caps),(5,.vec 8 0 (st.length+i) 4 (st.length+i))],⟨9,.row (aq (st++(X.args.take i).reverse))::.row X.cells::.dead::os,w,md⟩)
 | 0,m+1,st,_,_,_=>by
   have h1:(0≤(-1:Int))=False:=by simp
   have hr:AV.af caps≤8:=by omega
   have hm1:min md 6=md:=hmd 6 (by omega);have hm2:min md 8=md:=hmd 8 (by omega);have hfr:=aK st;simp[ae,aV,hr,hfr,hw]
 | i+1,m+1,st,hi,hm,hl=>by
   have hr:AV.af caps≤8:=by omega
   have hm1:min md 6=md:=hmd 6 (by omega);have hm2:min md 8=md:=hmd 8 (by omega);obtain⟨x,hx⟩:∃x,X.args[i]? =some x:=⟨X.args[i]'(by omega),by simp⟩
   have ih:=sj C n g caps hc X os md hmd w hw i m (st++[x]) (by omega) (by omega) (by simp;omega)
   have ha:X.aJ=.sl (X.args.map Tm.enc):=by
    cases X with
    | nl k n s=>simp[Tm.args] at hx
    | mk k n s us=>rfl
   have hX:X.cells=[.int .i64 X.kind,.int .i64 X.num,.str X.name,.sl (X.args.map Tm.enc)]:=by rw[←ha];rfl
   have h5:AV.af (X.args.map Tm.enc)=0:=aB _;have hxe:=Tm.ay x;have hxc:=Tm.an x;have hxr:=ah x;have hfr:=aK st;have hfl:=cg st;have w1:IntKind.i64.wrap ((i:Int) - 1)=(i:Int) - 1:=wrap_i64 (by omega) (by omega);have t1:(0≤(i:Int))=True:=eq_true (by omega);have b1:(st.length+1)*56≤140737488355328:=by omega
   have b2:st.length+1 < 9223372036854775808:=by omega
   have htk:X.args.take (i+1)=X.args.take i++[x]:=by
    rw[List.take_add_one,hx];rfl
   have hft:aq (st++[x])=aq st++[.int .i64 x.kind,.int .i64 x.num,.str x.name,x.aJ]:=by
    simp[aq,Tm.cells]
   have hft2:List.take (st.length*4) (aq st)=aq st:=List.take_of_length_le (by omega);have hfr2:AV.af (aq st++[.int .i64 x.kind,.int .i64 x.num,.str x.name,x.aJ])=0:=by rw[←hft];exact aK _
   rw[htk,List.reverse_append];simp only[List.length_append,List.length_cons,List.length_nil,Nat.zero_add,List.append_assoc,hft] at ih;have e1:st.length+1+i=st.length+(i+1):=by omega
   rw[e1] at ih;have e2:((i+1:Nat):Int) - 1=(i:Int):=by omega
   rw[e2,ae];rw[hX] at ih ⊢;simp[aV,aL,h5,hx,hxe,hxc,hxr,hfr,hfl,w1,t1,b1,b2,hr,hft2,hfr2,hm1,hm2,au];exact ih
theorem pz {R:List AV} {st:List Tm} {lb:Nat} (hR:R.length=lb*4) (ht:R.take (st.length*4)=aq st) (hlb:st.length+1≤lb) (x:Tm):
 (putAt R (st.length*4) x.cells).length=lb*4∧(putAt R (st.length*4) x.cells).take ((st++[x]).length*4)=aq (st++[x]):=by
 have hc:x.cells.length=4:=rfl;have h1:st.length*4+x.cells.length≤R.length:=by omega
 refine⟨?_,?_⟩
 ·rw[kf x.cells R _ h1];simp only[List.length_append,List.length_take,List.length_drop];omega
 ·have:=gR x.cells h1;rw[List.length_append,show (st.length+[x].length)*4=st.length*4+x.cells.length by simp[hc];omega,this,ht];simp[aq]
theorem qS (C:Nat→List AV→aa→Option (AV×aa)) (n g:Nat) (caps:List AV) (hc:AV.af caps≤4) (X:Tm) (os:List aC) (md:Nat) (hmd:∀k,4≤k→min md k=md) (w:Nat) (hw:min w 8=w) (lb:Nat):∀(i m:Nat) (st:List Tm) (R:List AV),i≤X.args.length→i < m→st.length+i≤lb→lb < 1000000000000→R.length=lb*4→R.take (st.length*4)=aq st→AV.af R=0→
 ∃R',R'.length=lb*4∧R'.take ((st.length+i)*4)=aq (st++(X.args.take i).reverse)∧AV.af R'=0∧
 er 8 w (aT (ak C n aV) aL 8 m (ep (.fn g caps) (.vec 6 0 st.length 4 lb) (.ptr 7 0) (.int .i64 ((i:Int) - 1))) ⟨8,.row X.cells::.row R::os,8,md⟩)=
  some (.exit 2,FM 44 [(1,.fn g caps),(5,.vec 6 0 (st.length+i) 4 lb)],⟨8,.row X.cells::.row R'::os,w,md⟩)
 | 0,m+1,st,R,_,_,_,_,hR,ht,hrR=>by
   have h1:(0≤(-1:Int))=False:=by simp
   have hr:AV.af caps≤8:=by omega
   have hm1:min md 6=md:=hmd 6 (by omega);have hm2:min md 8=md:=hmd 8 (by omega);refine⟨R,hR,by simpa using ht,hrR,?_⟩;simp[ae,aV,hr,hw]
 | i+1,m+1,st,R,hi,hm,hlb,hl,hR,ht,hrR=>by
   have hr:AV.af caps≤8:=by omega
   have hm1:min md 6=md:=hmd 6 (by omega);have hm2:min md 8=md:=hmd 8 (by omega);obtain⟨x,hx⟩:∃x,X.args[i]? =some x:=⟨X.args[i]'(by omega),by simp⟩
   obtain⟨p1,p2⟩:=pz hR ht (by omega) x;have p3:=dM hrR x (st.length*4) (by omega);obtain⟨R',r1,r2,r3,ih⟩:=qS C n g caps hc X os md hmd w hw lb i m (st++[x]) (putAt R (st.length*4) x.cells) (by omega) (by omega) (by simp;omega) hl p1 p2 p3;have e1:(st++[x]).length+i=st.length+(i+1):=by simp;omega
   have htk:X.args.take (i+1)=X.args.take i++[x]:=by
    rw[List.take_add_one,hx];rfl
   refine⟨R',r1,?_,r3,?_⟩
   ·rw[htk,List.reverse_append,←e1,r2];simp[List.append_assoc]
   have ha:X.aJ=.sl (X.args.map Tm.enc):=by
    cases X with
    | nl k n s=>simp[Tm.args] at hx
    | mk k n s us=>rfl
   have hX:X.cells=[.int .i64 X.kind,.int .i64 X.num,.str X.name,.sl (X.args.map Tm.enc)]:=by rw[←ha];rfl
   have h5:AV.af (X.args.map Tm.enc)=0:=aB _;have hxe:=Tm.ay x;have hxc:=Tm.an x;have hxr:=ah x;have w1:IntKind.i64.wrap ((i:Int) - 1)=(i:Int) - 1:=wrap_i64 (by omega) (by omega);have t1:(0≤(i:Int))=True:=eq_true (by omega);have b1:st.length*4≤R.length:=by omega
   have b2:st.length+1≤lb:=by omega
   have b3:(st.length+1)*4≤R.length:=by omega
   have hbs:putAt [.int .i64 0,.int .i64 0,.str [],.ax] 0 [.int .i64 x.kind,.int .i64 x.num,.str x.name,x.aJ]=[.int .i64 x.kind,.int .i64 x.num,.str x.name,x.aJ]:=rfl;have hl1:(st++[x]).length=st.length+1:=by simp
   rw[hl1,show st.length+1+i=st.length+(i+1) by omega] at ih;have e2:((i+1:Nat):Int) - 1=(i:Int):=by omega
   rw[e2,ae];rw[hX,hxc] at ih;rw[hX];simp[aV,aL,h5,hx,hxe,hxc,hxr,w1,t1,b1,b2,b3,hr,hm1,hm2,hrR,hbs,au,-cY];exact ih
theorem qR (C:Nat→List AV→aa→Option (AV×aa)) (n g:Nat) (caps:List AV) (hc:AV.af caps≤4) (X:Tm) (os:List aC) (md:Nat) (hmd:∀k,4≤k→min md k=md) (w:Nat) (hw:min w 8=w) (lb:Nat):∀(i m:Nat) (st:List Tm) (R:List AV),i≤X.args.length→i < m→st.length≤lb→lb < st.length+i→st.length+i < 1000000000000→R.length=lb*4→R.take (st.length*4)=aq st→AV.af R=0→
 er 8 w (aT (ak C n aV) aL 8 m (ep (.fn g caps) (.vec 6 0 st.length 4 lb) (.ptr 7 0) (.int .i64 ((i:Int) - 1))) ⟨8,.row X.cells::.row R::os,8,md⟩)=
  some (.exit 2,FM 44 [(1,.fn g caps),(5,.vec 8 0 (st.length+i) 4 (st.length+i))],⟨9,.row (aq (st++(X.args.take i).reverse))::.row X.cells::.dead::os,w,md⟩)
 | 0,m,st,R,_,_,h1,h2,_,_,_,_=>by omega
 | i+1,0,st,R,_,h,_,_,_,_,_,_=>by omega
 | i+1,m+1,st,R,hi,hm,h1,h2,hl,hR,ht,hrR=>by
   have hr:AV.af caps≤8:=by omega
   have hm1:min md 6=md:=hmd 6 (by omega);have hm2:min md 8=md:=hmd 8 (by omega);obtain⟨x,hx⟩:∃x,X.args[i]? =some x:=⟨X.args[i]'(by omega),by simp⟩
   have htk:X.args.take (i+1)=X.args.take i++[x]:=by
    rw[List.take_add_one,hx];rfl
   have ha:X.aJ=.sl (X.args.map Tm.enc):=by
    cases X with
    | nl k n s=>simp[Tm.args] at hx
    | mk k n s us=>rfl
   have hX:X.cells=[.int .i64 X.kind,.int .i64 X.num,.str X.name,.sl (X.args.map Tm.enc)]:=by rw[←ha];rfl
   have h5:AV.af (X.args.map Tm.enc)=0:=aB _;have hxe:=Tm.ay x;have hxc:=Tm.an x;have hxr:=ah x;have w1:IntKind.i64.wrap ((i:Int) - 1)=(i:Int) - 1:=wrap_i64 (by omega) (by omega);have t1:(0≤(i:Int))=True:=eq_true (by omega);have b1:st.length*4≤R.length:=by omega
   have hbs:putAt [.int .i64 0,.int .i64 0,.str [],.ax] 0 [.int .i64 x.kind,.int .i64 x.num,.str x.name,x.aJ]=[.int .i64 x.kind,.int .i64 x.num,.str x.name,x.aJ]:=rfl;have hl1:(st++[x]).length=st.length+1:=by simp
   have e2:((i+1:Nat):Int) - 1=(i:Int):=by omega
   by_cases hfit:st.length+1≤lb
   ·obtain⟨p1,p2⟩:=pz hR ht (by omega) x;have p3:=dM hrR x (st.length*4) (by omega);have ih:=qR C n g caps hc X os md hmd w hw lb i m (st++[x]) (putAt R (st.length*4) x.cells) (by omega) (by omega) (by omega) (by omega) (by omega) p1 p2 p3;have b3:(st.length+1)*4≤R.length:=by omega
    rw[hl1,show st.length+1+i=st.length+(i+1) by omega] at ih;rw[e2,ae,htk,List.reverse_append];rw[hX,hxc] at ih;rw[hX];simp only[List.append_assoc] at ih;simp[aV,aL,h5,hx,hxe,hxc,hxr,w1,t1,b1,hfit,b3,hr,hm1,hm2,hrR,hbs,au,-cY];exact ih
   ·have hlb:lb=st.length:=by omega
    have ih:=sj C n g caps hc X os md hmd w hw i m (st++[x]) (by omega) (by omega) (by omega);have c1:(st.length+1)*56≤140737488355328:=by omega
    have c2:st.length+1 < 9223372036854775808:=by omega
    have hft:aq (st++[x])=aq st++[.int .i64 x.kind,.int .i64 x.num,.str x.name,x.aJ]:=by
     simp[aq,Tm.cells]
    have hfr2:AV.af (aq st++[.int .i64 x.kind,.int .i64 x.num,.str x.name,x.aJ])=0:=by rw[←hft];exact aK _
    rw[hl1,show st.length+1+i=st.length+(i+1) by omega,hft] at ih;rw[e2,ae,htk,List.reverse_append];rw[hX] at ih ⊢;simp only[List.append_assoc] at ih;simp[aV,aL,h5,hx,hxe,hxc,hxr,w1,t1,b1,hfit,c1,c2,hr,hm1,hm2,hrR,ht,hfr2,au];exact ih
theorem wD (C:Nat→List AV→aa→Option (AV×aa)) (n g:Nat) (caps:List AV) (hc:AV.af caps≤4) (X:Tm) (O:aC) (os:List aC) (md:Nat) (hmd:∀k,4≤k→min md k=md) (w:Nat) (hw:min w 8=w):∀(i m:Nat) (st:List Tm),i≤X.args.length→i < m→st.length+i < 1000000000000→
 er 8 w (aT (ak C n aV) aL 8 m (ep (.fn g caps) (.vec 8 0 st.length 4 st.length) (.ptr 7 0) (.int .i64 ((i:Int) - 1))) ⟨9,.row (aq st)::.row X.cells::O::.dead::os,8,md⟩)=
  some (.exit 2,FM 44 [(1,.fn g caps),(5,.vec 8 0 (st.length+i) 4 (st.length+i))],⟨9,.row (aq (st++(X.args.take i).reverse))::.row X.cells::O::.dead::os,w,md⟩)
 | 0,m+1,st,_,_,_=>by
   have h1:(0≤(-1:Int))=False:=by simp
   have hr:AV.af caps≤8:=by omega
   have hm1:min md 5=md:=hmd 5 (by omega);have hm2:min md 8=md:=hmd 8 (by omega);have hfr:=aK st;simp[ae,aV,hr,hfr,hw]
 | i+1,m+1,st,hi,hm,hl=>by
   have hr:AV.af caps≤8:=by omega
   have hm1:min md 5=md:=hmd 5 (by omega);have hm2:min md 8=md:=hmd 8 (by omega);obtain⟨x,hx⟩:∃x,X.args[i]? =some x:=⟨X.args[i]'(by omega),by simp⟩
   have ih:=wD C n g caps hc X O os md hmd w hw i m (st++[x]) (by omega) (by omega) (by simp;omega)
   have ha:X.aJ=.sl (X.args.map Tm.enc):=by
    cases X with
    | nl k n s=>simp[Tm.args] at hx
    | mk k n s us=>rfl
   have hX:X.cells=[.int .i64 X.kind,.int .i64 X.num,.str X.name,.sl (X.args.map Tm.enc)]:=by rw[←ha];rfl
   have h5:AV.af (X.args.map Tm.enc)=0:=aB _;have hxe:=Tm.ay x;have hxc:=Tm.an x;have hxr:=ah x;have hfr:=aK st;have hfl:=cg st;have w1:IntKind.i64.wrap ((i:Int) - 1)=(i:Int) - 1:=wrap_i64 (by omega) (by omega);have t1:(0≤(i:Int))=True:=eq_true (by omega);have b1:(st.length+1)*56≤140737488355328:=by omega
   have b2:st.length+1 < 9223372036854775808:=by omega
   have htk:X.args.take (i+1)=X.args.take i++[x]:=by
    rw[List.take_add_one,hx];rfl
   have hft:aq (st++[x])=aq st++[.int .i64 x.kind,.int .i64 x.num,.str x.name,x.aJ]:=by
    simp[aq,Tm.cells]
   have hft2:List.take (st.length*4) (aq st)=aq st:=List.take_of_length_le (by omega);have hfr2:AV.af (aq st++[.int .i64 x.kind,.int .i64 x.num,.str x.name,x.aJ])=0:=by rw[←hft];exact aK _
   rw[htk,List.reverse_append];simp only[List.length_append,List.length_cons,List.length_nil,Nat.zero_add,List.append_assoc,hft] at ih;have e1:st.length+1+i=st.length+(i+1):=by omega
   rw[e1] at ih;have e2:((i+1:Nat):Int) - 1=(i:Int):=by omega
   rw[e2,ae];rw[hX] at ih ⊢;simp[aV,aL,h5,hx,hxe,hxc,hxr,hfr,hfl,w1,t1,b1,b2,hr,hft2,hfr2,hm1,hm2,au];exact ih
theorem uo (C:Nat→List AV→aa→Option (AV×aa)) (n g:Nat) (caps:List AV) (hc:AV.af caps≤4) (X:Tm) (O:aC) (os:List aC) (md:Nat) (hmd:∀k,4≤k→min md k=md) (w:Nat) (hw:min w 8=w) (lb:Nat):∀(i m:Nat) (st:List Tm) (R:List AV),i≤X.args.length→i < m→st.length+i≤lb→lb < 1000000000000→R.length=lb*4→R.take (st.length*4)=aq st→AV.af R=0→
 ∃R',R'.length=lb*4∧R'.take ((st.length+i)*4)=aq (st++(X.args.take i).reverse)∧AV.af R'=0∧
 er 8 w (aT (ak C n aV) aL 8 m (ep (.fn g caps) (.vec 5 0 st.length 4 lb) (.ptr 7 0) (.int .i64 ((i:Int) - 1))) ⟨8,.row X.cells::O::.row R::os,8,md⟩)=
  some (.exit 2,FM 44 [(1,.fn g caps),(5,.vec 5 0 (st.length+i) 4 lb)],⟨8,.row X.cells::O::.row R'::os,w,md⟩)
 | 0,m+1,st,R,_,_,_,_,hR,ht,hrR=>by
   have h1:(0≤(-1:Int))=False:=by simp
   have hr:AV.af caps≤8:=by omega
   have hm1:min md 5=md:=hmd 5 (by omega);have hm2:min md 8=md:=hmd 8 (by omega);refine⟨R,hR,by simpa using ht,hrR,?_⟩;simp[ae,aV,hr,hw]
 | i+1,m+1,st,R,hi,hm,hlb,hl,hR,ht,hrR=>by
   have hr:AV.af caps≤8:=by omega
   have hm1:min md 5=md:=hmd 5 (by omega);have hm2:min md 8=md:=hmd 8 (by omega);obtain⟨x,hx⟩:∃x,X.args[i]? =some x:=⟨X.args[i]'(by omega),by simp⟩
   obtain⟨p1,p2⟩:=qk hR ht (by omega) x;have p3:=dM hrR x (st.length*4) (by omega);obtain⟨R',r1,r2,r3,ih⟩:=uo C n g caps hc X O os md hmd w hw lb i m (st++[x]) (putAt R (st.length*4) x.cells) (by omega) (by omega) (by simp;omega) hl p1 p2 p3;have e1:(st++[x]).length+i=st.length+(i+1):=by simp;omega
   have htk:X.args.take (i+1)=X.args.take i++[x]:=by
    rw[List.take_add_one,hx];rfl
   refine⟨R',r1,?_,r3,?_⟩
   ·rw[htk,List.reverse_append,←e1,r2];simp[List.append_assoc]
   have ha:X.aJ=.sl (X.args.map Tm.enc):=by
    cases X with
    | nl k n s=>simp[Tm.args] at hx
    | mk k n s us=>rfl
   have hX:X.cells=[.int .i64 X.kind,.int .i64 X.num,.str X.name,.sl (X.args.map Tm.enc)]:=by rw[←ha];rfl
   have h5:AV.af (X.args.map Tm.enc)=0:=aB _;have hxe:=Tm.ay x;have hxc:=Tm.an x;have hxr:=ah x;have w1:IntKind.i64.wrap ((i:Int) - 1)=(i:Int) - 1:=wrap_i64 (by omega) (by omega);have t1:(0≤(i:Int))=True:=eq_true (by omega);have b1:st.length*4≤R.length:=by omega
   have b2:st.length+1≤lb:=by omega
   have b3:(st.length+1)*4≤R.length:=by omega
   have hbs:putAt [.int .i64 0,.int .i64 0,.str [],.ax] 0 [.int .i64 x.kind,.int .i64 x.num,.str x.name,x.aJ]=[.int .i64 x.kind,.int .i64 x.num,.str x.name,x.aJ]:=rfl;have hl1:(st++[x]).length=st.length+1:=by simp
   rw[hl1,show st.length+1+i=st.length+(i+1) by omega] at ih;have e2:((i+1:Nat):Int) - 1=(i:Int):=by omega
   rw[e2,ae];rw[hX,hxc] at ih;rw[hX];simp[aV,aL,h5,hx,hxe,hxc,hxr,w1,t1,b1,b2,b3,hr,hm1,hm2,hrR,hbs,au,-cY];exact ih
theorem uf (C:Nat→List AV→aa→Option (AV×aa)) (n g:Nat) (caps:List AV) (hc:AV.af caps≤4) (X:Tm) (O:aC) (os:List aC) (md:Nat) (hmd:∀k,4≤k→min md k=md) (w:Nat) (hw:min w 8=w) (lb:Nat):∀(i m:Nat) (st:List Tm) (R:List AV),i≤X.args.length→i < m→st.length≤lb→lb < st.length+i→st.length+i < 1000000000000→R.length=lb*4→R.take (st.length*4)=aq st→AV.af R=0→
 er 8 w (aT (ak C n aV) aL 8 m (ep (.fn g caps) (.vec 5 0 st.length 4 lb) (.ptr 7 0) (.int .i64 ((i:Int) - 1))) ⟨8,.row X.cells::O::.row R::os,8,md⟩)=
  some (.exit 2,FM 44 [(1,.fn g caps),(5,.vec 8 0 (st.length+i) 4 (st.length+i))],⟨9,.row (aq (st++(X.args.take i).reverse))::.row X.cells::O::.dead::os,w,md⟩)
 | 0,m,st,R,_,_,h1,h2,_,_,_,_=>by omega
 | i+1,0,st,R,_,h,_,_,_,_,_,_=>by omega
 | i+1,m+1,st,R,hi,hm,h1,h2,hl,hR,ht,hrR=>by
   have hr:AV.af caps≤8:=by omega
   have hm1:min md 5=md:=hmd 5 (by omega);have hm2:min md 8=md:=hmd 8 (by omega);obtain⟨x,hx⟩:∃x,X.args[i]? =some x:=⟨X.args[i]'(by omega),by simp⟩
   have htk:X.args.take (i+1)=X.args.take i++[x]:=by
    rw[List.take_add_one,hx];rfl
   have ha:X.aJ=.sl (X.args.map Tm.enc):=by
    cases X with
    | nl k n s=>simp[Tm.args] at hx
    | mk k n s us=>rfl
   have hX:X.cells=[.int .i64 X.kind,.int .i64 X.num,.str X.name,.sl (X.args.map Tm.enc)]:=by rw[←ha];rfl
   have h5:AV.af (X.args.map Tm.enc)=0:=aB _;have hxe:=Tm.ay x;have hxc:=Tm.an x;have hxr:=ah x;have w1:IntKind.i64.wrap ((i:Int) - 1)=(i:Int) - 1:=wrap_i64 (by omega) (by omega);have t1:(0≤(i:Int))=True:=eq_true (by omega);have b1:st.length*4≤R.length:=by omega
   have hbs:putAt [.int .i64 0,.int .i64 0,.str [],.ax] 0 [.int .i64 x.kind,.int .i64 x.num,.str x.name,x.aJ]=[.int .i64 x.kind,.int .i64 x.num,.str x.name,x.aJ]:=rfl;have hl1:(st++[x]).length=st.length+1:=by simp
   have e2:((i+1:Nat):Int) - 1=(i:Int):=by omega
   by_cases hfit:st.length+1≤lb
   ·obtain⟨p1,p2⟩:=qk hR ht (by omega) x;have p3:=dM hrR x (st.length*4) (by omega);have ih:=uf C n g caps hc X O os md hmd w hw lb i m (st++[x]) (putAt R (st.length*4) x.cells) (by omega) (by omega) (by omega) (by omega) (by omega) p1 p2 p3;have b3:(st.length+1)*4≤R.length:=by omega
    rw[hl1,show st.length+1+i=st.length+(i+1) by omega] at ih;rw[e2,ae,htk,List.reverse_append];rw[hX,hxc] at ih;rw[hX];simp only[List.append_assoc] at ih;simp[aV,aL,h5,hx,hxe,hxc,hxr,w1,t1,b1,hfit,b3,hr,hm1,hm2,hrR,hbs,au,-cY];exact ih
   ·have hlb:lb=st.length:=by omega
    have ih:=wD C n g caps hc X O os md hmd w hw i m (st++[x]) (by omega) (by omega) (by omega);have c1:(st.length+1)*56≤140737488355328:=by omega
    have c2:st.length+1 < 9223372036854775808:=by omega
    have hft:aq (st++[x])=aq st++[.int .i64 x.kind,.int .i64 x.num,.str x.name,x.aJ]:=by
     simp[aq,Tm.cells]
    have hfr2:AV.af (aq st++[.int .i64 x.kind,.int .i64 x.num,.str x.name,x.aJ])=0:=by rw[←hft];exact aK _
    rw[hl1,show st.length+1+i=st.length+(i+1) by omega,hft] at ih;rw[e2,ae,htk,List.reverse_append];rw[hX] at ih ⊢;simp only[List.append_assoc] at ih;simp[aV,aL,h5,hx,hxe,hxc,hxr,w1,t1,b1,hfit,c1,c2,hr,hm1,hm2,hrR,ht,hfr2,au];exact ih
theorem wk (C:Nat→List AV→aa→Option (AV×aa)) (n g:Nat) (caps:List AV) (hc:AV.af caps≤4) (X:Tm) (O:aC) (os:List aC) (md:Nat) (hmd:∀k,4≤k→min md k=md) (w:Nat) (hw:min w 9=w):∀(i m:Nat) (st:List Tm),i≤X.args.length→i < m→st.length+i < 1000000000000→
 er 9 w (aT (ak C n aV) aL 9 m (ep (.fn g caps) (.vec 9 0 st.length 4 st.length) (.ptr 8 0) (.int .i64 ((i:Int) - 1))) ⟨10,.row (aq st)::.row X.cells::O::.dead::os,9,md⟩)=
  some (.exit 2,FM 44 [(1,.fn g caps),(5,.vec 9 0 (st.length+i) 4 (st.length+i))],⟨10,.row (aq (st++(X.args.take i).reverse))::.row X.cells::O::.dead::os,w,md⟩)
 | 0,m+1,st,_,_,_=>by
   have h1:(0≤(-1:Int))=False:=by simp
   have hr:AV.af caps≤9:=by omega
   have hm1:min md 6=md:=hmd 6 (by omega);have hm2:min md 9=md:=hmd 9 (by omega);have hfr:=aK st;simp[ae,aV,hr,hfr,hw]
 | i+1,m+1,st,hi,hm,hl=>by
   have hr:AV.af caps≤9:=by omega
   have hm1:min md 6=md:=hmd 6 (by omega);have hm2:min md 9=md:=hmd 9 (by omega);obtain⟨x,hx⟩:∃x,X.args[i]? =some x:=⟨X.args[i]'(by omega),by simp⟩
   have ih:=wk C n g caps hc X O os md hmd w hw i m (st++[x]) (by omega) (by omega) (by simp;omega)
   have ha:X.aJ=.sl (X.args.map Tm.enc):=by
    cases X with
    | nl k n s=>simp[Tm.args] at hx
    | mk k n s us=>rfl
   have hX:X.cells=[.int .i64 X.kind,.int .i64 X.num,.str X.name,.sl (X.args.map Tm.enc)]:=by rw[←ha];rfl
   have h5:AV.af (X.args.map Tm.enc)=0:=aB _;have hxe:=Tm.ay x;have hxc:=Tm.an x;have hxr:=ah x;have hfr:=aK st;have hfl:=cg st;have w1:IntKind.i64.wrap ((i:Int) - 1)=(i:Int) - 1:=wrap_i64 (by omega) (by omega);have t1:(0≤(i:Int))=True:=eq_true (by omega);have b1:(st.length+1)*56≤140737488355328:=by omega
   have b2:st.length+1 < 9223372036854775808:=by omega
   have htk:X.args.take (i+1)=X.args.take i++[x]:=by
    rw[List.take_add_one,hx];rfl
   have hft:aq (st++[x])=aq st++[.int .i64 x.kind,.int .i64 x.num,.str x.name,x.aJ]:=by
    simp[aq,Tm.cells]
   have hft2:List.take (st.length*4) (aq st)=aq st:=List.take_of_length_le (by omega);have hfr2:AV.af (aq st++[.int .i64 x.kind,.int .i64 x.num,.str x.name,x.aJ])=0:=by rw[←hft];exact aK _
   rw[htk,List.reverse_append];simp only[List.length_append,List.length_cons,List.length_nil,Nat.zero_add,List.append_assoc,hft] at ih;have e1:st.length+1+i=st.length+(i+1):=by omega
   rw[e1] at ih;have e2:((i+1:Nat):Int) - 1=(i:Int):=by omega
   rw[e2,ae];rw[hX] at ih ⊢;simp[aV,aL,h5,hx,hxe,hxc,hxr,hfr,hfl,w1,t1,b1,b2,hr,hft2,hfr2,hm1,hm2,au];exact ih
theorem tG (C:Nat→List AV→aa→Option (AV×aa)) (n g:Nat) (caps:List AV) (hc:AV.af caps≤4) (X:Tm) (O:aC) (os:List aC) (md:Nat) (hmd:∀k,4≤k→min md k=md) (w:Nat) (hw:min w 9=w) (lb:Nat):∀(i m:Nat) (st:List Tm) (R:List AV),i≤X.args.length→i < m→st.length+i≤lb→lb < 1000000000000→R.length=lb*4→R.take (st.length*4)=aq st→AV.af R=0→
 ∃R',R'.length=lb*4∧R'.take ((st.length+i)*4)=aq (st++(X.args.take i).reverse)∧AV.af R'=0∧
 er 9 w (aT (ak C n aV) aL 9 m (ep (.fn g caps) (.vec 6 0 st.length 4 lb) (.ptr 8 0) (.int .i64 ((i:Int) - 1))) ⟨9,.row X.cells::O::.row R::os,9,md⟩)=
  some (.exit 2,FM 44 [(1,.fn g caps),(5,.vec 6 0 (st.length+i) 4 lb)],⟨9,.row X.cells::O::.row R'::os,w,md⟩)
 | 0,m+1,st,R,_,_,_,_,hR,ht,hrR=>by
   have h1:(0≤(-1:Int))=False:=by simp
   have hr:AV.af caps≤9:=by omega
   have hm1:min md 6=md:=hmd 6 (by omega);have hm2:min md 9=md:=hmd 9 (by omega);refine⟨R,hR,by simpa using ht,hrR,?_⟩;simp[ae,aV,hr,hw]
 | i+1,m+1,st,R,hi,hm,hlb,hl,hR,ht,hrR=>by
   have hr:AV.af caps≤9:=by omega
   have hm1:min md 6=md:=hmd 6 (by omega);have hm2:min md 9=md:=hmd 9 (by omega);obtain⟨x,hx⟩:∃x,X.args[i]? =some x:=⟨X.args[i]'(by omega),by simp⟩
   obtain⟨p1,p2⟩:=pz hR ht (by omega) x;have p3:=dM hrR x (st.length*4) (by omega);obtain⟨R',r1,r2,r3,ih⟩:=tG C n g caps hc X O os md hmd w hw lb i m (st++[x]) (putAt R (st.length*4) x.cells) (by omega) (by omega) (by simp;omega) hl p1 p2 p3;have e1:(st++[x]).length+i=st.length+(i+1):=by simp;omega
   have htk:X.args.take (i+1)=X.args.take i++[x]:=by
    rw[List.take_add_one,hx];rfl
   refine⟨R',r1,?_,r3,?_⟩
   ·rw[htk,List.reverse_append,←e1,r2];simp[List.append_assoc]
   have ha:X.aJ=.sl (X.args.map Tm.enc):=by
    cases X with
    | nl k n s=>simp[Tm.args] at hx
    | mk k n s us=>rfl
   have hX:X.cells=[.int .i64 X.kind,.int .i64 X.num,.str X.name,.sl (X.args.map Tm.enc)]:=by rw[←ha];rfl
   have h5:AV.af (X.args.map Tm.enc)=0:=aB _;have hxe:=Tm.ay x;have hxc:=Tm.an x;have hxr:=ah x;have w1:IntKind.i64.wrap ((i:Int) - 1)=(i:Int) - 1:=wrap_i64 (by omega) (by omega);have t1:(0≤(i:Int))=True:=eq_true (by omega);have b1:st.length*4≤R.length:=by omega
   have b2:st.length+1≤lb:=by omega
   have b3:(st.length+1)*4≤R.length:=by omega
   have hbs:putAt [.int .i64 0,.int .i64 0,.str [],.ax] 0 [.int .i64 x.kind,.int .i64 x.num,.str x.name,x.aJ]=[.int .i64 x.kind,.int .i64 x.num,.str x.name,x.aJ]:=rfl;have hl1:(st++[x]).length=st.length+1:=by simp
   rw[hl1,show st.length+1+i=st.length+(i+1) by omega] at ih;have e2:((i+1:Nat):Int) - 1=(i:Int):=by omega
   rw[e2,ae];rw[hX,hxc] at ih;rw[hX];simp[aV,aL,h5,hx,hxe,hxc,hxr,w1,t1,b1,b2,b3,hr,hm1,hm2,hrR,hbs,au,-cY];exact ih
theorem sW (C:Nat→List AV→aa→Option (AV×aa)) (n g:Nat) (caps:List AV) (hc:AV.af caps≤4) (X:Tm) (O:aC) (os:List aC) (md:Nat) (hmd:∀k,4≤k→min md k=md) (w:Nat) (hw:min w 9=w) (lb:Nat):∀(i m:Nat) (st:List Tm) (R:List AV),i≤X.args.length→i < m→st.length≤lb→lb < st.length+i→st.length+i < 1000000000000→R.length=lb*4→R.take (st.length*4)=aq st→AV.af R=0→
 er 9 w (aT (ak C n aV) aL 9 m (ep (.fn g caps) (.vec 6 0 st.length 4 lb) (.ptr 8 0) (.int .i64 ((i:Int) - 1))) ⟨9,.row X.cells::O::.row R::os,9,md⟩)=
  some (.exit 2,FM 44 [(1,.fn g caps),(5,.vec 9 0 (st.length+i) 4 (st.length+i))],⟨10,.row (aq (st++(X.args.take i).reverse))::.row X.cells::O::.dead::os,w,md⟩)
 | 0,m,st,R,_,_,h1,h2,_,_,_,_=>by omega
 | i+1,0,st,R,_,h,_,_,_,_,_,_=>by omega
 | i+1,m+1,st,R,hi,hm,h1,h2,hl,hR,ht,hrR=>by
   have hr:AV.af caps≤9:=by omega
   have hm1:min md 6=md:=hmd 6 (by omega);have hm2:min md 9=md:=hmd 9 (by omega);obtain⟨x,hx⟩:∃x,X.args[i]? =some x:=⟨X.args[i]'(by omega),by simp⟩
   have htk:X.args.take (i+1)=X.args.take i++[x]:=by
    rw[List.take_add_one,hx];rfl
   have ha:X.aJ=.sl (X.args.map Tm.enc):=by
    cases X with
    | nl k n s=>simp[Tm.args] at hx
    | mk k n s us=>rfl
   have hX:X.cells=[.int .i64 X.kind,.int .i64 X.num,.str X.name,.sl (X.args.map Tm.enc)]:=by rw[←ha];rfl
   have h5:AV.af (X.args.map Tm.enc)=0:=aB _;have hxe:=Tm.ay x;have hxc:=Tm.an x;have hxr:=ah x;have w1:IntKind.i64.wrap ((i:Int) - 1)=(i:Int) - 1:=wrap_i64 (by omega) (by omega);have t1:(0≤(i:Int))=True:=eq_true (by omega);have b1:st.length*4≤R.length:=by omega
   have hbs:putAt [.int .i64 0,.int .i64 0,.str [],.ax] 0 [.int .i64 x.kind,.int .i64 x.num,.str x.name,x.aJ]=[.int .i64 x.kind,.int .i64 x.num,.str x.name,x.aJ]:=rfl;have hl1:(st++[x]).length=st.length+1:=by simp
   have e2:((i+1:Nat):Int) - 1=(i:Int):=by omega
   by_cases hfit:st.length+1≤lb
   ·obtain⟨p1,p2⟩:=pz hR ht (by omega) x;have p3:=dM hrR x (st.length*4) (by omega);have ih:=sW C n g caps hc X O os md hmd w hw lb i m (st++[x]) (putAt R (st.length*4) x.cells) (by omega) (by omega) (by omega) (by omega) (by omega) p1 p2 p3;have b3:(st.length+1)*4≤R.length:=by omega
    rw[hl1,show st.length+1+i=st.length+(i+1) by omega] at ih;rw[e2,ae,htk,List.reverse_append];rw[hX,hxc] at ih;rw[hX];simp only[List.append_assoc] at ih;simp[aV,aL,h5,hx,hxe,hxc,hxr,w1,t1,b1,hfit,b3,hr,hm1,hm2,hrR,hbs,au,-cY];exact ih
   ·have hlb:lb=st.length:=by omega
    have ih:=wk C n g caps hc X O os md hmd w hw i m (st++[x]) (by omega) (by omega) (by omega);have c1:(st.length+1)*56≤140737488355328:=by omega
    have c2:st.length+1 < 9223372036854775808:=by omega
    have hft:aq (st++[x])=aq st++[.int .i64 x.kind,.int .i64 x.num,.str x.name,x.aJ]:=by
     simp[aq,Tm.cells]
    have hfr2:AV.af (aq st++[.int .i64 x.kind,.int .i64 x.num,.str x.name,x.aJ])=0:=by rw[←hft];exact aK _
    rw[hl1,show st.length+1+i=st.length+(i+1) by omega,hft] at ih;rw[e2,ae,htk,List.reverse_append];rw[hX] at ih ⊢;simp only[List.append_assoc] at ih;simp[aV,aL,h5,hx,hxe,hxc,hxr,w1,t1,b1,hfit,c1,c2,hr,hm1,hm2,hrR,ht,hfr2,au];exact ih
theorem kR (n0:Nat) (vs:List Int):cG n0 (.map (mp vs))=true:=by
 rw[cB];unfold mp;rw[List.all_eq_true];intro e he;obtain⟨v,_,rfl⟩:=List.mem_map.1 he;simp[AV.refs]
theorem E7 (v:Int):ints [v]=[.int .i64 v]:=rfl
def o6 (x:Tm) (vs:List Int):List Int:=if x.kind=0∧x.num ∉ vs then vs++[x.num] else vs
def di:Nat→List Tm→List Int→List Int
 | 0,_,vs=>vs
 | _+1,[],vs=>vs
 | d+1,x::rs,vs=>di d (x.args++rs) (o6 x vs)
def Ac (T:Tm) (Y:aC) (vs:List Int) (md:Nat):aa:=match vs with
 | []=>⟨6,Y::cf T .ax [],4,md⟩
 | v::vs=>⟨7,.row (ints (v::vs))::Y::cf T (.vec 6 0 (vs.length+1) 1 (vs.length+1)) (v::vs),1,md⟩
theorem iC (x:Tm) (h:x.eM fc=true) (hk:x.kind=0):x.args=[]:=by
 rw[dd,Bool.and_eq_true] at h;have:=h.1;unfold fc at this;rw[if_pos hk] at this;simp only[Bool.and_eq_true,decide_eq_true_eq] at this;exact List.length_eq_zero_iff.1 this.2
theorem I5 (x:Tm) (h:x.args=[]):x.aJ=.ax∨x.aJ=.sl []:=by
 cases x with
 | nl k n s=>exact .inl rfl
 | mk k n s us=>
   have h':us=[]:=h;subst h';exact .inr rfl
theorem yR {p:Tm→Bool}:∀{us:List Tm},Tm.eN p us=true→∀y ∈ us,y.eM p=true
 | [],_,y,h=>by simp at h
 | t::r,h,y,hy=>by
   simp only[Tm.eN,Bool.and_eq_true] at h;rcases List.mem_cons.1 hy with rfl | hy
   ·exact h.1
   ·exact yR h.2 y hy
theorem mG (n:Nat) (T:Tm):∀(d m:Nat) (rs:List Tm) (R:List AV) (lb:Nat) (md:Nat),Tm.aI rs < d→d≤m→d≤n→Tm.aI rs < 50000→lb < 1000000000→rs.length≤lb→R.length=lb*4→R.take (rs.length*4)=aq rs.reverse→AV.af R=0→(∀x ∈ rs,x.eM fc=true)→md≤4→
 (∃Y md',er 6 4 (aT (ak (aw (a8 [dD]) (n+1)) (n+1) cq) cF 6 m (kS (.fn 127 [.ptr 3 0,.ptr 1 0]) (.vec 5 0 rs.length 4 lb)) ⟨6,.row R::cf T .ax [],6,md⟩)=some (.exit 0,FM 44 [],Ac T Y (di d rs []) md'))∧
 (∃Y md',er 6 4 (aT (ak (aw (a8 [dD]) (n+1)) (n+1) cq) cF 6 m (kS (.fn 127 [.ptr 3 0,.ptr 1 0]) (.vec 6 0 rs.length 4 lb)) ⟨7,.row R::.dead::cf T .ax [],6,md⟩)=some (.exit 0,FM 44 [],Ac T Y (di d rs []) md'))∧
 (∀(v:Int) (vs:List Int),vs.length+Tm.aI rs < 100000→∃Y md',er 6 4 (aT (ak (aw (a8 [dD]) (n+1)) (n+1) cq) cF 6 m (kS (.fn 127 [.ptr 3 0,.ptr 1 0]) (.vec 5 0 rs.length 4 lb)) ⟨7,.row (ints (v::vs))::.row R::cf T (.vec 6 0 (vs.length+1) 1 (vs.length+1)) (v::vs),1,md⟩)=some (.exit 0,FM 44 [],Ac T Y (di d rs (v::vs)) md'))∧
 (∀(v:Int) (vs:List Int),vs.length+Tm.aI rs < 100000→∃Y md',er 6 4 (aT (ak (aw (a8 [dD]) (n+1)) (n+1) cq) cF 6 m (kS (.fn 127 [.ptr 3 0,.ptr 1 0]) (.vec 6 0 rs.length 4 lb)) ⟨8,.row (ints (v::vs))::.row R::.dead::cf T (.vec 7 0 (vs.length+1) 1 (vs.length+1)) (v::vs),1,md⟩)=some (.exit 0,FM 44 [],Ac T Y (di d rs (v::vs)) md'))
 | 0,m,rs,R,lb,md,h,_,_,_,_,_,_,_,_,_,_=>by omega
 | d+1,0,rs,R,lb,md,_,h,_,_,_,_,_,_,_,_,_=>by omega
 | d+1,m+1,[],R,lb,md,_,_,_,_,_,_,hR,ht,hrR,hox,hmd=>by
   have hT:AV.af T.cells=0:=by simp[Tm.cells,AV.af,AV.refs,ah]
   have hml0:∀n0,cG n0 (.map (mp []))=true:=fun n0=>kR n0 _
   have ge:=fun nx os wl md=>Fy (n:=44) (m:=[]) 6 nx os wl md rfl
   refine⟨⟨.row R,md,?_⟩,⟨.dead,md,?_⟩,?_,?_⟩
   ·simp[ae,cq,di,hrR,Ac,cf]
   ·simp[ae,cq,di,hrR,Ac,cf]
   ·intro v vs hvs;have hml:∀n0,cG n0 (.map (mp (v::vs)))=true:=fun n0=>kR n0 _
    have hI:=cd (v::vs);exact⟨.row R,min md 1,by simp[ae,cq,di,hrR,Ac,cf,hT,-cB,hml,hI,ge]⟩
   ·intro v vs hvs;have hml:∀n0,cG n0 (.map (mp (v::vs)))=true:=fun n0=>kR n0 _
    have hI:=cd (v::vs);exact⟨.dead,min md 1,by simp[ae,cq,di,hrR,Ac,cf,hT,-cB,hml,hI,ge]⟩
 | d+1,m+1,x::rs,R,lb,md,hd,hm,hn,hsz,hlb,hlen,hR,ht,hrR,hox,hmd=>by
   have hsx:=aM x;simp only[Tm.aI] at hd hsz;have hla:=ct x.args;have hlr:=ct rs;have hs2:Tm.aI (x.args++rs)=Tm.aI x.args+Tm.aI rs:=iB _ _;rw[List.length_cons] at hlen ht;rw[List.reverse_cons] at ht;have hrl:rs.reverse.length=rs.length:=List.length_reverse;rw[←hrl] at ht;obtain⟨t1,t2⟩:=xW ht;rw[hrl] at t1 t2;have hT:AV.af T.cells=0:=by simp[Tm.cells,AV.af,AV.refs,ah]
   have w1:IntKind.i64.wrap (rs.length:Int)=(rs.length:Int):=wrap_i64 (by omega) (by omega);have b1:(0 < (rs.length:Int)+1)=True:=eq_true (by omega);have b2:rs.length*4+4≤R.length:=by omega
   have m1:min md 6=md:=by omega
   have m2:min md 7=md:=by omega
   have m3:min md 8=md:=by omega
   have b3:((rs.length:Int) < (rs.length:Int)+1)=True:=eq_true (by omega)
   have hsl:eP (rs.length+1) lb none (some (.int .i64 (rs.length:Int))) none=some (0,rs.length,none):=by
    have a1:(rs.length:Int)≤((max (rs.length+1) lb:Nat):Int):=by omega
    simp[eP,sliceB,a1]
   have BH:AV.af [AV.ptr 3 0,AV.ptr 1 0]=4:=by simp[AV.af,AV.refs]
   have hxe:=Tm.ay x;have hcl:=Tm.an x;have hxr:=ah x;have hox1:∀y ∈ rs,y.eM fc=true:=fun y hy=>hox y (by simp[hy])
   have hox2:∀y ∈ x.args++rs,y.eM fc=true:=fun y hy=>by
    rcases List.mem_append.1 hy with hy | hy
    ·have:=hox x (by simp);rw[dd,Bool.and_eq_true] at this;exact yR this.2 y hy
    ·exact hox1 y hy
   have hta:x.args.take x.args.length=x.args:=List.take_length;have hst:rs.reverse++x.args.reverse=(x.args++rs).reverse:=by simp
   have hl2:rs.length+x.args.length=(x.args++rs).length:=by simp;omega
   have w2:IntKind.i64.wrap ((x.args.length:Int) - 1)=(x.args.length:Int) - 1:=wrap_i64 (by omega) (by omega)
   have hlv:∀(fr:List AV) (h:aa) (o:bW),o.ev fr=x.aJ→aW fr h (.ud o)=some (.int .i64 x.args.length,h):=by
    intro fr h o ho;rw[jy,ho];cases x<;>simp[Tm.aJ,Tm.args]
   have t1':R.take (rs.reverse.length*4)=aq rs.reverse:=by rw[hrl];exact t1
   refine⟨?_,?_,?_,?_⟩
   ·have hml:∀n0,cG n0 (.map (mp []))=true:=fun n0=>kR n0 _
    by_cases hnew:x.kind=0
    ·have ha:=iC x (hox x (by simp)) hnew
     have e:di (d+1) (x::rs) []=di d rs ([x.num]):=by
      show di d (x.args++rs) (o6 x [])=_;rw[ha,List.nil_append];congr 1;exact if_pos ⟨hnew,by simp⟩
     rw[e];have hc:=Nb n x T R md hmd hnew;obtain⟨Y,md',k2⟩:=(mG n T d m rs R lb (min md 1) (by omega) (by omega) (by omega) (by omega) hlb (by omega) hR t1 hrR hox1 (by omega)).2.2.1 x.num [] (by simp;omega);refine⟨Y,md',?_⟩;rw[ae];have hml2:∀n0,cG n0 (.map (mp ([x.num])))=true:=fun n0=>kR n0 _
     have hI2:=cd ([x.num]);have hx0:x.aJ=.ax∨x.aJ=.sl []:=I5 x ha;have wm:IntKind.i64.wrap (-1)=-1:=rfl;simp only[ha,List.length_nil,Int.natCast_zero] at hlv;rw[hxe,hcl] at hc;rw[hcl] at t2;skip;simp only[cf,List.length_nil,Nat.zero_add,E7] at hc k2 hI2;simp[aV,ae,cq,aL,cF,cf,w1,b1,b2,b3,m1,m2,m3,t2,hsl,BH,hrR,hxr,hlv,hT,-cB,hml,aS,hml2,hI2,hc,wm];exact k2
    ·have e:di (d+1) (x::rs) []=di d (x.args++rs) []:=by
      show di d (x.args++rs) (o6 x [])=_;congr 1;exact if_neg (fun h=>hnew h.1)
     rw[e];have hc:=Pf n x T R md hmd hnew;rw[hxe] at hc;by_cases hfit:rs.length+x.args.length≤lb
     ·obtain⟨R',r1,r2,r3,eq⟩:=qW (aw (a8 [dD]) (n+1)) (n+1) 127 [.ptr 3 0,.ptr 1 0] (by simp[AV.af,AV.refs]) x (cf T .ax []) md (fun k hk=>by omega) 6 rfl lb x.args.length (n+1) rs.reverse R (Nat.le_refl _) (by omega) (by rw[hrl];exact hfit) (by omega) hR t1' hrR;obtain⟨Y,md',k2⟩:=(mG n T d m (x.args++rs) R' lb md (by omega) (by omega) (by omega) (by omega) hlb (by rw[←hl2];exact hfit) r1 (by rw[←hl2,←hst,←hrl];rw[hta] at r2;exact r2) r3 hox2 (by omega)).1;refine⟨Y,md',?_⟩;rw[hrl] at eq;rw[ae];rw[←hl2] at k2;rw[hcl] at hc t2 eq;simp only[aL,cf] at eq hc k2;simp[cq,aL,cF,cf,w1,w2,b1,b2,b3,m1,m2,m3,t2,hsl,BH,hrR,hxr,hlv,hT,-cB,hml,aS,hc,eq,r3];exact k2
     ·have hRn:(aq (x.args++rs).reverse).length=(x.args++rs).length*4:=by rw[cg,List.length_reverse]
      have hRr:=aK (x.args++rs).reverse;obtain⟨Y,md',k2⟩:=(mG n T d m (x.args++rs) (aq (x.args++rs).reverse) (x.args++rs).length md (by omega) (by omega) (by omega) (by omega) (by omega) (Nat.le_refl _) hRn (List.take_of_length_le (by omega)) hRr hox2 (by omega)).2.1;have eq:=qM (aw (a8 [dD]) (n+1)) (n+1) 127 [.ptr 3 0,.ptr 1 0] (by simp[AV.af,AV.refs]) x (cf T .ax []) md (fun k hk=>by omega) 6 rfl lb x.args.length (n+1) rs.reverse R (Nat.le_refl _) (by omega) (by omega) (by omega) (by omega) hR t1' hrR;refine⟨Y,md',?_⟩;rw[←hl2] at k2;have hRr':=hRr;rw[List.reverse_append] at hRr' k2;rw[hta,hst,hrl,List.reverse_append] at eq;rw[ae];rw[hcl] at hc t2 eq;simp only[aL,cf] at eq hc k2;simp[cq,aL,cF,cf,w1,w2,b1,b2,b3,m1,m2,m3,t2,hsl,BH,hrR,hxr,hlv,hT,-cB,hml,aS,hc,eq,hRr'];exact k2
   ·have hml:∀n0,cG n0 (.map (mp []))=true:=fun n0=>kR n0 _
    by_cases hnew:x.kind=0
    ·have ha:=iC x (hox x (by simp)) hnew
     have e:di (d+1) (x::rs) []=di d rs ([x.num]):=by
      show di d (x.args++rs) (o6 x [])=_;rw[ha,List.nil_append];congr 1;exact if_pos ⟨hnew,by simp⟩
     rw[e];have hc:=NA n x T R md hmd hnew;obtain⟨Y,md',k2⟩:=(mG n T d m rs R lb (min md 1) (by omega) (by omega) (by omega) (by omega) hlb (by omega) hR t1 hrR hox1 (by omega)).2.2.2 x.num [] (by simp;omega);refine⟨Y,md',?_⟩;rw[ae];have hml2:∀n0,cG n0 (.map (mp ([x.num])))=true:=fun n0=>kR n0 _
     have hI2:=cd ([x.num]);have hx0:x.aJ=.ax∨x.aJ=.sl []:=I5 x ha;have wm:IntKind.i64.wrap (-1)=-1:=rfl;simp only[ha,List.length_nil,Int.natCast_zero] at hlv;rw[hxe,hcl] at hc;rw[hcl] at t2;skip;simp only[cf,List.length_nil,Nat.zero_add,E7] at hc k2 hI2;simp[aV,ae,cq,aL,cF,cf,w1,b1,b2,b3,m1,m2,m3,t2,hsl,BH,hrR,hxr,hlv,hT,-cB,hml,aS,hml2,hI2,hc,wm];exact k2
    ·have e:di (d+1) (x::rs) []=di d (x.args++rs) []:=by
      show di d (x.args++rs) (o6 x [])=_;congr 1;exact if_neg (fun h=>hnew h.1)
     rw[e];have hc:=Pb n x T R md hmd hnew;rw[hxe] at hc;by_cases hfit:rs.length+x.args.length≤lb
     ·obtain⟨R',r1,r2,r3,eq⟩:=qS (aw (a8 [dD]) (n+1)) (n+1) 127 [.ptr 3 0,.ptr 1 0] (by simp[AV.af,AV.refs]) x (.dead::cf T .ax []) md (fun k hk=>by omega) 6 rfl lb x.args.length (n+1) rs.reverse R (Nat.le_refl _) (by omega) (by rw[hrl];exact hfit) (by omega) hR t1' hrR;obtain⟨Y,md',k2⟩:=(mG n T d m (x.args++rs) R' lb md (by omega) (by omega) (by omega) (by omega) hlb (by rw[←hl2];exact hfit) r1 (by rw[←hl2,←hst,←hrl];rw[hta] at r2;exact r2) r3 hox2 (by omega)).2.1;refine⟨Y,md',?_⟩;rw[hrl] at eq;rw[ae];rw[←hl2] at k2;rw[hcl] at hc t2 eq;simp only[aL,cf] at eq hc k2;simp[cq,aL,cF,cf,w1,w2,b1,b2,b3,m1,m2,m3,t2,hsl,BH,hrR,hxr,hlv,hT,-cB,hml,aS,hc,eq,r3];exact k2
     ·have hRn:(aq (x.args++rs).reverse).length=(x.args++rs).length*4:=by rw[cg,List.length_reverse]
      have hRr:=aK (x.args++rs).reverse;obtain⟨Y,md',k2⟩:=(mG n T d m (x.args++rs) (aq (x.args++rs).reverse) (x.args++rs).length md (by omega) (by omega) (by omega) (by omega) (by omega) (Nat.le_refl _) hRn (List.take_of_length_le (by omega)) hRr hox2 (by omega)).2.1;have eq:=qR (aw (a8 [dD]) (n+1)) (n+1) 127 [.ptr 3 0,.ptr 1 0] (by simp[AV.af,AV.refs]) x (.dead::cf T .ax []) md (fun k hk=>by omega) 6 rfl lb x.args.length (n+1) rs.reverse R (Nat.le_refl _) (by omega) (by omega) (by omega) (by omega) hR t1' hrR;refine⟨Y,md',?_⟩;rw[←hl2] at k2;have hRr':=hRr;rw[List.reverse_append] at hRr' k2;rw[hta,hst,hrl,List.reverse_append] at eq;rw[ae];rw[hcl] at hc t2 eq;simp only[aL,cf] at eq hc k2;simp[cq,aL,cF,cf,w1,w2,b1,b2,b3,m1,m2,m3,t2,hsl,BH,hrR,hxr,hlv,hT,-cB,hml,aS,hc,eq,hRr'];exact k2
   ·intro v vs hvs;simp only[Tm.aI] at hvs;have hml:∀n0,cG n0 (.map (mp (v::vs)))=true:=fun n0=>kR n0 _
    have hI:=cd (v::vs);by_cases hnew:x.kind=0∧x.num ∉ v::vs
    ·have ha:=iC x (hox x (by simp)) hnew.1
     have e:di (d+1) (x::rs) (v::vs)=di d rs (v::(vs++[x.num])):=by
      show di d (x.args++rs) (o6 x (v::vs))=_;rw[ha,List.nil_append];congr 1;exact if_pos hnew
     rw[e];have hc:=N0 n x T R v vs (by omega) md hmd hnew.1 hnew.2;obtain⟨Y,md',k2⟩:=(mG n T d m rs R lb (min md 1) (by omega) (by omega) (by omega) (by omega) hlb (by omega) hR t1 hrR hox1 (by omega)).2.2.1 v (vs++[x.num]) (by simp;omega);refine⟨Y,md',?_⟩;rw[ae];have hml2:∀n0,cG n0 (.map (mp (v::(vs++[x.num]))))=true:=fun n0=>kR n0 _
     have hI2:=cd (v::(vs++[x.num]));have hx0:x.aJ=.ax∨x.aJ=.sl []:=I5 x ha;have wm:IntKind.i64.wrap (-1)=-1:=rfl;simp only[ha,List.length_nil,Int.natCast_zero] at hlv;rw[hxe,hcl] at hc;rw[hcl] at t2;rw[List.cons_append] at hc;simp only[cf,List.length_append,List.length_cons,List.length_nil,Nat.zero_add,E7] at hc k2 hI2;simp[aV,ae,cq,aL,cF,cf,w1,b1,b2,b3,m1,m2,m3,t2,hsl,BH,hrR,hxr,hlv,hT,-cB,hml,aS,hI,hml2,hI2,hc,wm];exact k2
    ·have e:di (d+1) (x::rs) (v::vs)=di d (x.args++rs) (v::vs):=by
      show di d (x.args++rs) (o6 x (v::vs))=_;congr 1;exact if_neg hnew
     rw[e];have hc:=NL n x T R v vs (by omega) md hmd (by by_cases h0:x.kind=0;exact .inr (Classical.byContradiction fun h=>hnew ⟨h0,h⟩);exact .inl h0);rw[hxe] at hc;by_cases hfit:rs.length+x.args.length≤lb
     ·obtain⟨R',r1,r2,r3,eq⟩:=uo (aw (a8 [dD]) (n+1)) (n+1) 127 [.ptr 3 0,.ptr 1 0] (by simp[AV.af,AV.refs]) x (.row (ints (v::vs))) (cf T (.vec 6 0 (vs.length+1) 1 (vs.length+1)) (v::vs)) md (fun k hk=>by omega) 1 rfl lb x.args.length (n+1) rs.reverse R (Nat.le_refl _) (by omega) (by rw[hrl];exact hfit) (by omega) hR t1' hrR;obtain⟨Y,md',k2⟩:=(mG n T d m (x.args++rs) R' lb (min md 1) (by omega) (by omega) (by omega) (by omega) hlb (by rw[←hl2];exact hfit) r1 (by rw[←hl2,←hst,←hrl];rw[hta] at r2;exact r2) r3 hox2 (by omega)).2.2.1 v vs (by omega);refine⟨Y,md',?_⟩;rw[hrl] at eq;rw[ae];rw[←hl2] at k2;rw[hcl] at hc t2 eq;simp only[aL,cf] at eq hc k2;simp[cq,aL,cF,cf,w1,w2,b1,b2,b3,m1,m2,m3,t2,hsl,BH,hrR,hxr,hlv,hT,-cB,hml,aS,hI,hc,eq,r3];exact k2
     ·have hRn:(aq (x.args++rs).reverse).length=(x.args++rs).length*4:=by rw[cg,List.length_reverse]
      have hRr:=aK (x.args++rs).reverse;obtain⟨Y,md',k2⟩:=(mG n T d m (x.args++rs) (aq (x.args++rs).reverse) (x.args++rs).length (min md 1) (by omega) (by omega) (by omega) (by omega) (by omega) (Nat.le_refl _) hRn (List.take_of_length_le (by omega)) hRr hox2 (by omega)).2.2.2 v vs (by omega);have eq:=uf (aw (a8 [dD]) (n+1)) (n+1) 127 [.ptr 3 0,.ptr 1 0] (by simp[AV.af,AV.refs]) x (.row (ints (v::vs))) (cf T (.vec 6 0 (vs.length+1) 1 (vs.length+1)) (v::vs)) md (fun k hk=>by omega) 1 rfl lb x.args.length (n+1) rs.reverse R (Nat.le_refl _) (by omega) (by omega) (by omega) (by omega) hR t1' hrR;refine⟨Y,md',?_⟩;rw[←hl2] at k2;have hRr':=hRr;rw[List.reverse_append] at hRr' k2;rw[hta,hst,hrl,List.reverse_append] at eq;rw[ae];rw[hcl] at hc t2 eq;simp only[aL,cf] at eq hc k2;simp[cq,aL,cF,cf,w1,w2,b1,b2,b3,m1,m2,m3,t2,hsl,BH,hrR,hxr,hlv,hT,-cB,hml,aS,hI,hc,eq,hRr'];exact k2
   ·intro v vs hvs;simp only[Tm.aI] at hvs;have hml:∀n0,cG n0 (.map (mp (v::vs)))=true:=fun n0=>kR n0 _
    have hI:=cd (v::vs);by_cases hnew:x.kind=0∧x.num ∉ v::vs
    ·have ha:=iC x (hox x (by simp)) hnew.1
     have e:di (d+1) (x::rs) (v::vs)=di d rs (v::(vs++[x.num])):=by
      show di d (x.args++rs) (o6 x (v::vs))=_;rw[ha,List.nil_append];congr 1;exact if_pos hnew
     rw[e];have hc:=MG n x T R v vs (by omega) md hmd hnew.1 hnew.2;obtain⟨Y,md',k2⟩:=(mG n T d m rs R lb (min md 1) (by omega) (by omega) (by omega) (by omega) hlb (by omega) hR t1 hrR hox1 (by omega)).2.2.2 v (vs++[x.num]) (by simp;omega);refine⟨Y,md',?_⟩;rw[ae];have hml2:∀n0,cG n0 (.map (mp (v::(vs++[x.num]))))=true:=fun n0=>kR n0 _
     have hI2:=cd (v::(vs++[x.num]));have hx0:x.aJ=.ax∨x.aJ=.sl []:=I5 x ha;have wm:IntKind.i64.wrap (-1)=-1:=rfl;simp only[ha,List.length_nil,Int.natCast_zero] at hlv;rw[hxe,hcl] at hc;rw[hcl] at t2;rw[List.cons_append] at hc;simp only[cf,List.length_append,List.length_cons,List.length_nil,Nat.zero_add,E7] at hc k2 hI2;simp[aV,ae,cq,aL,cF,cf,w1,b1,b2,b3,m1,m2,m3,t2,hsl,BH,hrR,hxr,hlv,hT,-cB,hml,aS,hI,hml2,hI2,hc,wm];exact k2
    ·have e:di (d+1) (x::rs) (v::vs)=di d (x.args++rs) (v::vs):=by
      show di d (x.args++rs) (o6 x (v::vs))=_;congr 1;exact if_neg hnew
     rw[e];have hc:=Oe n x T R v vs (by omega) md hmd (by by_cases h0:x.kind=0;exact .inr (Classical.byContradiction fun h=>hnew ⟨h0,h⟩);exact .inl h0);rw[hxe] at hc;by_cases hfit:rs.length+x.args.length≤lb
     ·obtain⟨R',r1,r2,r3,eq⟩:=tG (aw (a8 [dD]) (n+1)) (n+1) 127 [.ptr 3 0,.ptr 1 0] (by simp[AV.af,AV.refs]) x (.row (ints (v::vs))) (.dead::cf T (.vec 7 0 (vs.length+1) 1 (vs.length+1)) (v::vs)) md (fun k hk=>by omega) 1 rfl lb x.args.length (n+1) rs.reverse R (Nat.le_refl _) (by omega) (by rw[hrl];exact hfit) (by omega) hR t1' hrR;obtain⟨Y,md',k2⟩:=(mG n T d m (x.args++rs) R' lb (min md 1) (by omega) (by omega) (by omega) (by omega) hlb (by rw[←hl2];exact hfit) r1 (by rw[←hl2,←hst,←hrl];rw[hta] at r2;exact r2) r3 hox2 (by omega)).2.2.2 v vs (by omega);refine⟨Y,md',?_⟩;rw[hrl] at eq;rw[ae];rw[←hl2] at k2;rw[hcl] at hc t2 eq;simp only[aL,cf] at eq hc k2;simp[cq,aL,cF,cf,w1,w2,b1,b2,b3,m1,m2,m3,t2,hsl,BH,hrR,hxr,hlv,hT,-cB,hml,aS,hI,hc,eq,r3];exact k2
     ·have hRn:(aq (x.args++rs).reverse).length=(x.args++rs).length*4:=by rw[cg,List.length_reverse]
      have hRr:=aK (x.args++rs).reverse;obtain⟨Y,md',k2⟩:=(mG n T d m (x.args++rs) (aq (x.args++rs).reverse) (x.args++rs).length (min md 1) (by omega) (by omega) (by omega) (by omega) (by omega) (Nat.le_refl _) hRn (List.take_of_length_le (by omega)) hRr hox2 (by omega)).2.2.2 v vs (by omega);have eq:=sW (aw (a8 [dD]) (n+1)) (n+1) 127 [.ptr 3 0,.ptr 1 0] (by simp[AV.af,AV.refs]) x (.row (ints (v::vs))) (.dead::cf T (.vec 7 0 (vs.length+1) 1 (vs.length+1)) (v::vs)) md (fun k hk=>by omega) 1 rfl lb x.args.length (n+1) rs.reverse R (Nat.le_refl _) (by omega) (by omega) (by omega) (by omega) hR t1' hrR;refine⟨Y,md',?_⟩;rw[←hl2] at k2;have hRr':=hRr;rw[List.reverse_append] at hRr' k2;rw[hta,hst,hrl,List.reverse_append] at eq;rw[ae];rw[hcl] at hc t2 eq;simp only[aL,cf] at eq hc k2;simp[cq,aL,cF,cf,w1,w2,b1,b2,b3,m1,m2,m3,t2,hsl,BH,hrR,hxr,hlv,hT,-cB,hml,aS,hI,hc,eq,hRr'];exact k2
def bN (t:Tm):List Int:=if dp t then di (t.size+1) [t] [] else []
def eD (vs:List Int):AV:=match vs with
 | []=>.ax
 | _=>.sl (ints vs)
theorem nr (vs:List Int):(eD vs).refs=0:=by
 cases vs with
 | nil=>rfl
 | cons v r=>rfl
theorem KR (vs:List Int):∀x ∈ ints vs,x8 1 x:=by
 intro x hx;obtain⟨o,_,rfl⟩:=List.mem_map.1 hx;exact⟨rfl,rfl,(fun _=>rfl),(fun h=>absurd rfl h),rfl⟩
theorem KP (vs:List Int):(ints vs).flatMap AV.cells=ints vs:=by
 unfold ints
 induction vs with
 | nil=>rfl
 | cons v r ih=>rw[List.map_cons,List.flatMap_cons,ih];rfl
theorem RM {h:aa} {n0 d id:Nat} (v:Int) (r:List Int) (hid:n0≤id) (hg:h.get id=some (.row (ints (v::r)))):
 gr h n0 (d+2) (.vec id 0 (r.length+1) 1 (r.length+1))=some (.sl (ints (v::r)),[id]):=by
 have hl:(ints (v::r)).length=r.length+1:=by simp[ints]
 exact p8 hid hg (by omega) (KR (v::r)) (by rw[hl]) (by rw[hl];omega) (by rw[KP,List.take_of_length_le];omega)
noncomputable def sD:ai:=⟨87,fun | [v]=>(match dB v with | some t=>if t.eU < 1000000000 then some (eD (bN t)) else none | none=>none) | _=>none⟩
theorem xi:sD.f=87:=(rfl)
theorem EG (t:Tm) (h:t.eU < 1000000000):sD.S [t.enc]=some (eD (bN t)):=by
 simp only[sD,aX,if_pos h]
theorem DT:az Tryz.prog sD:=fun args v hv=>by
 unfold sD at hv ⊢;dsimp only at hv ⊢;split at hv
 ·rename_i x;split at hv
  ·rename_i t ht;split at hv
   ·rename_i hl;cases hv;rw[bc ht];refine aH (n:=t.size+5) (h':=h0) (aG (ss:=[dD]) (by simp[vx])) ?_ (nr _) (by simp[AV.af,Tm.ba]);have c1:=vz t hl;have hxe:=Tm.ay t;have hcl:=Tm.an t;have hxr:=ah t;unfold bN
    cases hg:dp t with
    | false=>
      rw[hg] at c1;rw[hxe,hcl] at c1 ⊢;simp[NN,c87,hxr,ag,c1,aS,eD]
    | true=>
      rw[hg] at c1;have hg':=hg;simp only[dp,Bool.and_eq_true,decide_eq_true_eq] at hg';obtain⟨Y,md',eq⟩:=(mG (t.size+2) t (t.size+1) (t.size+3) [t] t.cells 1 4 (by simp[Tm.aI]) (by omega) (by omega) (by simp[Tm.aI];omega) (by omega) (by simp) rfl (by simp[aq];rfl) (by simp[Tm.cells,AV.af,AV.refs,ah]) (fun x hx=>by simp at hx;subst hx;exact hg'.2) (Nat.le_refl _)).1;simp only[if_true];generalize di (t.size+1) [t] []=vs at *;have hT:AV.af t.cells=0:=by simp[Tm.cells,AV.af,AV.refs,ah]
      simp only[cF,kS,List.length_cons,List.length_nil,Nat.zero_add,cf,show mp []=[] from rfl] at eq
      cases vs with
      | nil=>
        simp only[Ac,cf,show mp []=[] from rfl] at eq;rw[hxe,hcl] at c1 ⊢;rw[hcl] at eq;simp[NN,c87,Au,Qu,cF,hxr,ag,c1,aS,eD,eq]
      | cons v r=>
        simp only[Ac,cf] at eq
        have fk:∀d nx wl md os,nx=os.length+7→gr ⟨nx,os++[.row (ints (v::r)),Y,.row t.cells,.row [.map 2],.map (mp (v::r)),.row [.vec 6 0 (r.length+1) 1 (r.length+1)],.row t.cells],wl,md⟩ 0 (d+2) (.vec 6 0 (r.length+1) 1 (r.length+1))=some (.sl (ints (v::r)),[6]):=fun d nx wl md os hn=>RM v r (Nat.zero_le 6) (by
         subst hn;simp[aa.get,List.getElem?_append_right])
        have fk0:=fun d wl md=>fk d 7 wl md [] rfl
        simp only[List.nil_append] at fk0;have rf:=cd (v::r);rw[hxe,hcl] at c1 ⊢;rw[hcl] at eq fk0;simp[NN,c87,Au,Qu,cF,hxr,ag,c1,aS,eD,eq,fk0,rf,-jZ]
   ·cases hv
  ·cases hv
 ·cases hv
def sv (T:List aF) (b:Bool) (ps:List (Int×Int)) (t:Tm):List UInt8×Int:=
 if dp t=true∧bM T=true then (if 4096 < (wF T b (iv ps) t 1200 false).length then ([],3) else (wF T b (iv ps) t 1200 false,0)) else ([],1)
def rQ (t:Tm):Prop:=t.eU < 1000000000∧t.eM kZ=true
instance (t:Tm):Decidable (rQ t):=by unfold rQ;infer_instance
noncomputable def sA:aU:=⟨56,fun
 | [.ptr 0 0,v],os=>(match w6 os,dB v with
   | some W,some t=>if rQ t then some (.tuple [.str (sv W.T W.b W.ps t).1,.int .i64 (sv W.T W.b W.ps t).2],none) else none
   | _,_=>none)
 | _,_=>none⟩
theorem sn:sA.f=56:=(rfl)
theorem DX {x:AV} {T:List aF} (hx:a6 x=some T) (b:Bool) (ps:List (Int×Int)) (hT:T.length < 1000000) (hp:lG ps=true) (t:Tm) (h:rQ t):
 sA.S [.ptr 0 0,t.enc] (gY x b ps)=some (.tuple [.str (sv T b ps t).1,.int .i64 (sv T b ps t).2],none):=by
 simp only[sA,kL hx b ps hT hp,aX];rw[if_pos h]
theorem EA:ch Tryz.prog dm sA:=fun args os v r hv=>by
 unfold sA at hv;dsimp only at hv;split at hv
 ·rename_i v0 os;split at hv
  ·rename_i W t hW ht;split at hv
   ·rename_i hc;cases hv;obtain⟨x,hx,rfl,hT,hp⟩:=iN hW;obtain⟨T,b,ps⟩:=W;dsimp only at hx hT hp ⊢;rw[bc ht,sn];have hE:dA Tryz.prog dm (cW [dD,qA] [eF 2001]):=dv (by simp[vx.lift,Ha.lift]) (by simp[zC 2001]);have q1:=vz t hc.1;have q2:=H3 hx (by omega);have har:=ah t;have hcl:=Tm.an t;have hpr:=aZ T;refine mj (n:=6) (m:=2) hE hx ?_ (by simp[AV.refs,AV.af]) (by simp[AV.af,Tm.ba]);unfold sv
    cases hg:dp t with
    | false=>
      rw[hg] at q1;rw[if_neg (by simp)];rw[Tm.ay,hcl] at q1 ⊢;simp[Cu,Sl,aS,qn,bg,q1,har,ag]
    | true=>
      rw[hg] at q1
      cases hg2:bM T with
      | false=>
        rw[hg2] at q2;rw[if_neg (by simp)];rw[Tm.ay,hcl] at q1 ⊢;rcases aD hx with⟨rfl,rfl⟩ | rfl<;>
        simp[Cu,Sl,aS,qn,bg,q1,q2,har,ag]
      | true=>
        rw[hg2] at q2;rw[if_pos ⟨rfl,rfl⟩];have hok:ib t:=⟨hg,hc.1,hc.2⟩
        have hs:=hg;simp only[dp,Bool.and_eq_true,decide_eq_true_eq] at hs;have q3:=gM 2001 hx b ps hT hp t ⟨hok,by omega⟩ 1200 false;simp only[gY] at q3;generalize wF T b (iv ps) t 1200 false=A at *;rw[Tm.ay,hcl] at q1 q3 ⊢;by_cases hl:4096 < A.length
        ·have hl':((4096:Int) < (A.length:Int))=True:=eq_true (by omega);rw[if_pos hl];rcases aD hx with⟨rfl,rfl⟩ | rfl<;>
         simp[Cu,Sl,aS,qn,bg,bZ,bB,-bL,-bw,q1,q2,q3,har,hpr,ag,hl']
        ·have hl':((4096:Int) < (A.length:Int))=False:=eq_false (by omega);rw[if_neg hl];rcases aD hx with⟨rfl,rfl⟩ | rfl<;>
         simp[Cu,Sl,aS,qn,bg,bZ,bB,-bL,-bw,q1,q2,q3,har,hpr,ag,hl']
   ·cases hv
  ·cases hv
 ·cases hv
def wV:Nat→List Int→List (Int×Int)
 | _,[]=>[]
 | k,v::r=>(v,(k:Int))::wV (k+1) r
def j5 (vs:List Int):List (Int×Int):=wV 0 vs
theorem vp (v:Int):∀(a:List Int) (k:Nat),wV k (a++[v])=wV k a++[(v,((k+a.length:Nat):Int))]
 | [],k=>rfl
 | w::r,k=>by
   show (w,(k:Int))::wV (k+1) (r++[v])=(w,(k:Int))::wV (k+1) r++[_];rw[vp v r (k+1),List.cons_append,List.length_cons];congr 4;omega
theorem uB (n:Int):∀(a:List Int) (k:Nat),n ∉ a→Ge n (wV k a)=none
 | [],k,_=>rfl
 | w::r,k,h=>by
   have h1:¬ n=w:=fun e=>h (by simp[e])
   unfold wV Ge;rw[if_neg h1];exact uB n r (k+1) (fun e=>h (List.mem_cons_of_mem _ e))
theorem OR (v i:Int):∀ps,Ge v ps=none→oC 1 (.int .i64 v) (.int .i64 i) (eO ps)=some (eO (ps++[(v,i)]))
 | [],_=>rfl
 | (a,b)::r,h=>by
   unfold Ge at h;split at h
   ·cases h
   ·rename_i hn;have ih:=OR v i r h;unfold eO at ih ⊢;simp only[List.map_cons,List.cons_append,oC];simp[fh,hn,ih]
theorem Jr:∀(vs:List Int) (k:Nat),k+vs.length < 1000000000→lG (wV k vs)=true
 | [],_,_=>rfl
 | v::r,k,h=>by
   rw[List.length_cons] at h;have ih:=Jr r (k+1) (by omega);unfold wV lG;unfold lG at ih;rw[List.all_cons,ih,Bool.and_true];simp only[Bool.and_eq_true,decide_eq_true_eq];omega
theorem A5:∀(d:Nat) (rs:List Tm) (vs:List Int),(di d rs vs).length≤vs.length+d
 | 0,rs,vs=>by simp[di]
 | d+1,[],vs=>by simp[di]
 | d+1,x::rs,vs=>by
   have:=A5 d (x.args++rs) (o6 x vs);have h2:(o6 x vs).length≤vs.length+1:=by unfold o6;split<;>simp
   unfold di;omega
theorem vW:∀(d:Nat) (rs:List Tm) (vs:List Int),vs.Nodup→(di d rs vs).Nodup
 | 0,rs,vs,h=>by simpa[di] using h
 | d+1,[],vs,h=>by simpa[di] using h
 | d+1,x::rs,vs,h=>by
   unfold di;refine vW d _ _ ?_;unfold o6;split
   ·rename_i hc;rw[List.nodup_append];refine⟨h,by simp,fun a ha b hb=>?_⟩;simp at hb;subst hb;exact fun e=>hc.2 (e ▸ ha)
   ·exact h
theorem pT (t:Tm):(bN t).length≤2001:=by
 unfold bN;split
 ·rename_i hg;simp only[dp,Bool.and_eq_true,decide_eq_true_eq] at hg;have:=A5 (t.size+1) [t] [];simp at this;omega
 ·simp
theorem wq (t:Tm):(bN t).Nodup:=by
 unfold bN;split
 ·exact vW _ _ _ List.nodup_nil
 ·exact List.nodup_nil
theorem Bf (C:Nat→List AV→aa→Option (AV×aa)) (n w:Nat) (hw:min w 3=w) (vs:List Int) (hl:vs.length < 1000000) (hn:vs.Nodup) (os:List aC):∀(post pre:List Int) (m md:Nat),md≤2→vs=pre++post→post.length < m→
 er 3 w (aT (ak C n nv) jB 3 m (B7 (.map 2) (.sl (ints vs)) (.int .i64 vs.length) (.int .i64 pre.length)) ⟨3,.map (eO (j5 pre))::os,3,md⟩)=
  some (.exit 0,FM 20 [(3,.map 2)],⟨3,.map (eO (j5 vs))::os,w,md⟩)
 | _,_,0,_,_,_,h=>by omega
 | [],pre,m+1,md,hmd,hs,_=>by
   rw[ae];rw[List.append_nil] at hs;subst hs;simp[nv,jB,hw]
 | v::r,pre,m+1,md,hmd,hs,hm=>by
   rw[ae];have hps:pre.length+r.length+1=vs.length:=by rw[hs];simp;omega
   have h6:((pre.length:Int) < (vs.length:Int))=True:=eq_true (by omega);have hc:(ints vs)[pre.length]? =some (.int .i64 v):=by unfold ints;rw[List.getElem?_map,hs];simp
   have hil:(ints vs).length=vs.length:=by simp[ints]
   have h3:IntKind.i64.wrap ((pre.length:Int)+1)=(pre.length:Int)+1:=wrap_i64 (by omega) (by omega)
   have hnv:v ∉ pre:=fun h=>by
    rw[hs,List.nodup_append] at hn;exact hn.2.2 v h v (by simp) rfl
   have hz:j5 (pre++[v])=j5 pre++[(v,(pre.length:Int))]:=by
    unfold j5;rw[vp,Nat.zero_add]
   have hmu:=OR v pre.length (j5 pre) (uB v pre 0 hnv);have hmm:min md 2=md:=by omega
   have ih:=Bf C n w hw vs hl hn os r (pre++[v]) m md hmd (by rw[hs];simp) (by simp at hm;omega);simp only[List.length_append,List.length_cons,List.length_nil,Nat.zero_add,Int.natCast_add,Int.natCast_one,hz] at ih;have hr:=cd vs;generalize ints vs=I at *;simp[nv,jB,h6,hc,hil,h3,hmu,hr,fN,aa.eW,hmm];exact ih
theorem AZ (C:Nat→List AV→aa→Option (AV×aa)) (n w:Nat) (hw:min w 4=w) (vs:List Int) (hl:vs.length < 1000000) (hn:vs.Nodup) (os:List aC):∀(post pre:List Int) (m md:Nat),md≤3→vs=pre++post→post.length < m→
 er 4 w (aT (ak C n nv) jB 4 m (B7 (.map 3) (.sl (ints vs)) (.int .i64 vs.length) (.int .i64 pre.length)) ⟨4,.map (eO (j5 pre))::os,4,md⟩)=
  some (.exit 0,FM 20 [(3,.map 3)],⟨4,.map (eO (j5 vs))::os,w,md⟩)
 | _,_,0,_,_,_,h=>by omega
 | [],pre,m+1,md,hmd,hs,_=>by
   rw[ae];rw[List.append_nil] at hs;subst hs;simp[nv,jB,hw]
 | v::r,pre,m+1,md,hmd,hs,hm=>by
   rw[ae];have hps:pre.length+r.length+1=vs.length:=by rw[hs];simp;omega
   have h6:((pre.length:Int) < (vs.length:Int))=True:=eq_true (by omega);have hc:(ints vs)[pre.length]? =some (.int .i64 v):=by unfold ints;rw[List.getElem?_map,hs];simp
   have hil:(ints vs).length=vs.length:=by simp[ints]
   have h3:IntKind.i64.wrap ((pre.length:Int)+1)=(pre.length:Int)+1:=wrap_i64 (by omega) (by omega)
   have hnv:v ∉ pre:=fun h=>by
    rw[hs,List.nodup_append] at hn;exact hn.2.2 v h v (by simp) rfl
   have hz:j5 (pre++[v])=j5 pre++[(v,(pre.length:Int))]:=by
    unfold j5;rw[vp,Nat.zero_add]
   have hmu:=OR v pre.length (j5 pre) (uB v pre 0 hnv);have hmm:min md 3=md:=by omega
   have ih:=AZ C n w hw vs hl hn os r (pre++[v]) m md hmd (by rw[hs];simp) (by simp at hm;omega);simp only[List.length_append,List.length_cons,List.length_nil,Nat.zero_add,Int.natCast_add,Int.natCast_one,hz] at ih;have hr:=cd vs;generalize ints vs=I at *;simp[nv,jB,h6,hc,hil,h3,hmu,hr,fN,aa.eW,hmm];exact ih
def lJ (n:Int) (l:List Int):List Int:=if n ∈ l then l else l++[n]
mutual
def fQ:Tm→List Int→List Int
 | .nl k n _,l=>if k=0 then lJ n l else l
 | .mk k n _ us,l=>if k=0 then lJ n l else cO us l
def cO:List Tm→List Int→List Int
 | [],l=>l
 | t::r,l=>cO r (fQ t l)
end
theorem iS (t:Tm) (l:List Int):fQ t l=if t.kind=0 then lJ t.num l else cO t.args l:=by
 cases t with
 | nl k n s=>
   show (if k=0 then lJ n l else l)=if k=0 then lJ n l else cO [] l
   split<;>rfl
 | mk k n s us=>rfl
def Rg (nx:Nat) (os:List aC) (v:AV) (l:List Int):Prop:=
 (l=[]∧v=.ax)∨(∃id,id < nx∧v=.vec id 0 l.length 1 l.length∧l≠[]∧∀a b,aa.get ⟨nx,os,a,b⟩ id=some (.row (ints l)))
theorem Bl (n nx:Nat) (os:List aC) (t:Tm) (v:AV) (l:List Int) (hr:Rg nx os v l) (hl:l.length < 1000000):∀(post pre:List Int) (m md:Nat),l=pre++post→post.length < m→
 er (nx+1) nx (aT (ak (aw (a8 [jg]) (n+1)) (n+1) rT) ly (nx+1) m (OY v (.ptr nx 0) (.int .i64 pre.length)) ⟨nx+1,.row t.cells::os,nx+1,md⟩)=
  (if t.num ∈ post then some (.ret,FM 44 [(4,v)],⟨nx+1,.row t.cells::os,nx,md⟩) else some (.exit 0,FM 44 [(1,v),(2,.ptr nx 0)],⟨nx+1,.row t.cells::os,nx,md⟩))
 | _,_,0,_,_,h=>by omega
 | [],pre,m+1,md,hs,_=>by
   rw[List.append_nil] at hs;subst hs;rw[ae,if_neg (by simp)];rcases hr with⟨rfl,rfl⟩ | ⟨id,hid,rfl,hne,hget⟩
   ·simp[bY,rT,ly]
   ·have h1:(nx+1≤id)=False:=eq_false (by omega);have h2:(id < nx+1)=True:=eq_true (by omega);simp[bY,rT,ly,h1,h2]
 | x::r,pre,m+1,md,hs,hm=>by
   rw[ae];rcases hr with⟨rfl,rfl⟩ | ⟨id,hid,rfl,hne,hget⟩
   ·simp at hs
   ·have ih:=Bl n nx os t _ l (.inr ⟨id,hid,rfl,hne,hget⟩) hl r (pre++[x]) m md (by rw[hs];simp) (by simp at hm;omega);have hps:pre.length+r.length+1=l.length:=by rw[hs];simp;omega
    have h1:(nx+1≤id)=False:=eq_false (by omega);have h2:(id < nx)=True:=eq_true hid;have h6:((pre.length:Int) < (l.length:Int))=True:=eq_true (by omega);have hc:(ints l)[pre.length]? =some (.int .i64 x):=by unfold ints;rw[List.getElem?_map,hs];simp
    have hil:(ints l).length=l.length:=by simp[ints]
    have h3:IntKind.i64.wrap ((pre.length:Int)+1)=(pre.length:Int)+1:=wrap_i64 (by omega) (by omega);have hcl:=Tm.an t;have h7:(id < nx+1)=True:=eq_true (by omega);rw[hcl] at ih ⊢;simp only[List.length_append,List.length_cons,List.length_nil,Nat.zero_add,Int.natCast_add,Int.natCast_one] at ih;simp only[List.mem_cons];by_cases hx:x=t.num
    ·rw[if_pos (.inl hx.symm)];simp[bY,-fJ,-set_mk,dQ,eo,eH,eI,rT,ly,h1,h2,h6,h7,hc,hil,h3,hget,hx]
    ·have hx':¬ t.num=x:=fun e=>hx e.symm
     by_cases hm2:t.num ∈ r
     ·rw[if_pos (.inr hm2)];rw[if_pos hm2] at ih;simp[bY,-fJ,-set_mk,dQ,eo,eH,eI,rT,ly,h1,h2,h6,h7,hc,hil,h3,hget,hx];exact ih
     ·rw[if_neg (by simp[hx',hm2])];rw[if_neg hm2] at ih;simp[bY,-fJ,-set_mk,dQ,eo,eH,eI,rT,ly,h1,h2,h6,h7,hc,hil,h3,hget,hx];exact ih
def kX (nx:Nat) (os:List aC):AV→List aC
 | .vec id _ _ _ _=>os.set (nx - 1 - id) .dead
 | _=>os
theorem gG (a:Nat) (b:List aC) (c d:Nat) (v:AV) (nx:Nat) (os:List aC) (wl md:Nat):finish true ⟨a,b,c,d⟩ v ⟨nx,os,wl,md⟩=(v,⟨nx,os,min c wl,min d md⟩):=rfl
def Vt (nx:Nat) (os:List aC) (wl:Nat) (v:AV) (l l':List Int) (R:Option (AV×aa)):Prop:=
 ∃X md',(l'=l∧R=some (v,⟨nx+X.length,X++os,wl,md'⟩))∨
   (l'≠[]∧R=some (.vec (nx+X.length) 0 l'.length 1 l'.length,⟨nx+X.length+1,.row (ints l')::(X++kX nx os v),wl,md'⟩))
theorem Q6 (n nx:Nat) (os:List aC) (wl md:Nat) (t:Tm) (v:AV) (l:List Int) (hr:Rg nx os v l) (hl:l.length < 1000000) (hn:l.length < n+1) (hwl:wl≤nx) (hk:t.kind=0):
 Vt nx os wl v l (fQ t l) (aw (a8 [jg]) (n+2) 93 [t.enc,v] ⟨nx,os,wl,md⟩):=by
 have lp:=Bl n nx os t v l hr hl l [] (n+1) nx rfl hn;have hcl:=Tm.an t;have hte:=Tm.ay t;have har:=ah t;have e:fQ t l=lJ t.num l:=by rw[iS,if_pos hk]
 rw[e];have hw:min wl nx=wl:=Nat.min_eq_left hwl;rw[hcl,hk] at lp;simp only[ly,OY,List.length_nil,Int.natCast_zero] at lp;rw[hte,hcl,hk];unfold lJ;by_cases hm:t.num ∈ l
 ·rw[if_pos hm] at lp ⊢;refine⟨[.row [.int .i64 0,.int .i64 t.num,.str t.name,t.aJ]],min md nx,.inl ⟨rfl,?_⟩⟩;rcases hr with⟨rfl,rfl⟩ | ⟨id,hid,rfl,hne,hget⟩
  ·simp at hm
  ·have h1:(id < nx+1)=True:=eq_true (by omega);have h2:id≤nx:=by omega
   have h3:(nx+1≤id)=False:=eq_false (by omega);simp[bY,-fJ,-set_mk,dQ,eo,eH,eI,yt,c93,ly,ag,har,lp,hw,h1,h2,h3,gG]
 ·rw[if_neg hm] at lp ⊢;rcases hr with⟨rfl,rfl⟩ | ⟨id,hid,rfl,hne,hget⟩
  ·refine⟨[.row [.int .i64 t.num],.row [.int .i64 0,.int .i64 t.num,.str t.name,t.aJ]],min md nx,.inr ⟨by simp,?_⟩⟩;have e1:ints ([]++[t.num])=[.int .i64 t.num]:=rfl;simp[bY,-fJ,-set_mk,dQ,eo,eH,eI,yt,c93,ly,ag,har,lp,hw,au,e1,kX,gG,E7]
  ·have h1:(id < nx+1)=True:=eq_true (by omega);have h2:id≤nx:=by omega
   have h3:(nx+1≤id)=False:=eq_false (by omega);have hil:(ints l).length=l.length:=by simp[ints]
   have h4:(ints l).take l.length=ints l:=List.take_of_length_le (by omega);have h6:(l.length+1)*8≤140737488355328:=by omega
   have h7:l.length+1 < 9223372036854775808:=by omega
   have e1:ints (l++[t.num])=ints l++[.int .i64 t.num]:=by simp[ints]
   have hks:∀a b,(aa.set ⟨nx,os,a,b⟩ id .dead).eg=os.set (nx - 1 - id) .dead:=fun a b=>by unfold aa.set;rw[if_pos hid]
   refine⟨[.row [.int .i64 t.num],.row [.int .i64 0,.int .i64 t.num,.str t.name,t.aJ]],min md id,.inr ⟨by simp,?_⟩⟩;simp[bY,-fJ,-set_mk,dQ,eo,eH,eI,yt,c93,ly,ag,har,lp,hw,au,e1,kX,h1,h2,h3,gG,hil,h4,h6,h7,hget,hks,hid]
theorem NM {nx:Nat} {os:List aC} {v:AV} {l:List Int} (o:aC) (h:Rg nx os v l):Rg (nx+1) (o::os) v l:=by
 rcases h with h | ⟨id,hid,e,hne,hg⟩
 ·exact .inl h
 ·exact .inr ⟨id,by omega,e,hne,fun a b=>by rw[eo o os a b hid];exact hg a b⟩
theorem QH (nx:Nat) (os:List aC) {l:List Int} (hne:l≠[]):Rg (nx+1) (.row (ints l)::os) (.vec nx 0 l.length 1 l.length) l:=
 .inr ⟨nx,by omega,rfl,hne,fun a b=>dQ nx _ os a b⟩
theorem Ld {nx:Nat} {os:List aC} {v:AV} {l:List Int} (o:aC) (h:Rg nx os v l):kX (nx+1) (o::os) v=o::kX nx os v:=by
 rcases h with⟨_,rfl⟩ | ⟨id,hid,rfl,hne,hg⟩
 ·rfl
 ·show (o::os).set (nx+1 - 1 - id) .dead=o::os.set (nx - 1 - id) .dead;rw[show nx+1 - 1 - id=(nx - 1 - id)+1 by omega,List.set_cons_succ]
theorem Pk (nx:Nat) (os:List aC) (o:aC) (a b c d:Nat):kX (nx+1) (o::os) (.vec nx a b c d)=.dead::os:=by
 show (o::os).set (nx+1 - 1 - nx) .dead=_;rw[show nx+1 - 1 - nx=0 by omega,List.set_cons_zero]
theorem Xb {nx k:Nat} {os rest:List aC} {v:AV} {l:List Int} (hr:Rg nx os v l) (i:Int) (X:List aC) (hX:X.length=k) (md:Nat):
 gc (nx+1) (FM 44 [(1,v),(2,.ptr nx 0),(6,.int .i64 i)]) ⟨nx+1+k,X++rest,nx+1,md⟩=(FM 44 [(1,v),(2,.ptr nx 0),(6,.int .i64 i)],⟨nx+1,rest,nx+1,md⟩):=by
 rw[Fy (nx+1) _ _ _ _ rfl];have hd:(X++rest).drop k=rest:=by rw[←hX,List.drop_left]
 rcases hr with⟨_,rfl⟩ | ⟨id,hid,rfl,hne,hg⟩
 ·simp[keeps,s5,iw,AV.top,xS,yL,allM,hd,AV.refs,l8]
 ·have h1:(nx+1≤id)=False:=eq_false (by omega);have h2:(id < nx+1)=True:=eq_true (by omega);simp[keeps,s5,iw,AV.top,xS,yL,allM,hd,AV.refs,l8,h1,h2]
theorem SA {nx nxx j:Nat} {eg rest:List aC} (l:List Int) (a b:Nat) (i:Int) (md:Nat) (hj:nx+1≤j) (hle:nx+1≤nxx) (hg:aa.get ⟨nxx,eg,nx+1,md⟩ j=some (.row (ints l))) (hd:eg.drop (nxx - (nx+1))=rest):
 gc (nx+1) (FM 44 [(1,.vec j 0 a 1 b),(2,.ptr nx 0),(6,.int .i64 i)]) ⟨nxx,eg,nx+1,md⟩=(FM 44 [(1,.vec (nx+1) 0 a 1 b),(2,.ptr nx 0),(6,.int .i64 i)],⟨nx+2,.row (ints l)::rest,nx+1,md⟩):=by
 rw[Fy (nx+1) _ _ _ _ rfl];have h1:(j < nx+1)=False:=eq_false (by omega);simp[keeps,s5,iw,AV.top,xS,yL,allM,hd,hg,hj,hle,AV.refs,l8,h1,cd]
theorem DL (n:Int) (l:List Int):(lJ n l).length≤l.length+1:=by unfold lJ;split<;>simp
theorem Ja (n:Int) (l:List Int):lJ n l≠[]:=by
 unfold lJ;split
 ·rename_i h;intro e;rw[e] at h;simp at h
 ·simp
mutual
theorem vd:∀(t:Tm) (l:List Int),(fQ t l).length≤l.length+t.size
 | .nl k n s,l=>by
   have:=DL n l;show (if k=0 then lJ n l else l).length≤l.length+1;split<;>omega
 | .mk k n s us,l=>by
   have:=DL n l;have h2:=zo us l;show (if k=0 then lJ n l else cO us l).length≤l.length+(1+Tm.aI us);split<;>omega
theorem zo:∀(us:List Tm) (l:List Int),(cO us l).length≤l.length+Tm.aI us
 | [],l=>by simp[cO]
 | t::r,l=>by
   have h1:=vd t l;have h2:=zo r (fQ t l);simp only[cO,Tm.aI];omega
end
mutual
theorem Pd:∀(t:Tm) (l:List Int),l≠[]→fQ t l≠[]
 | .nl k n s,l,h=>by
   show (if k=0 then lJ n l else l)≠[];split
   ·exact Ja n l
   ·exact h
 | .mk k n s us,l,h=>by
   show (if k=0 then lJ n l else cO us l)≠[];split
   ·exact Ja n l
   ·exact uW us l h
theorem uW:∀(us:List Tm) (l:List Int),l≠[]→cO us l≠[]
 | [],l,h=>h
 | t::r,l,h=>uW r _ (Pd t l h)
end
def WH (n:Nat) (x:Tm) (B:Nat):Prop:=∀(nx:Nat) (os:List aC) (wl md:Nat) (v:AV) (l:List Int),Rg nx os v l→wl≤nx→l.length+x.size≤B→Vt nx os wl v l (fQ x l) (aw (a8 [jg]) (n+1) 93 [x.enc,v] ⟨nx,os,wl,md⟩)
theorem xu {t:Tm} {i:Nat} {x:Tm} (h:t.args[i]? =some x):t.aJ=.sl (t.args.map Tm.enc):=by
 cases t with
 | nl k n s=>simp[Tm.args] at h
 | mk k n s us=>rfl
theorem uR (n nx B:Nat) (os:List aC) (t:Tm) (H:∀x ∈ t.args,WH n x B) (hB:t.args.length < 100000):∀(post pre:List Tm) (m md:Nat) (l:List Int),t.args=pre++post→post.length < m→l≠[]→l.length+Tm.aI post≤B→
 ∃md',er (nx+1) nx (aT (ak (aw (a8 [jg]) (n+1)) (n+1) kj) eQ (nx+1) m (np (.vec (nx+1) 0 l.length 1 l.length) (.ptr nx 0) (.int .i64 pre.length)) ⟨nx+2,.row (ints l)::.row t.cells::os,nx+1,md⟩)=
   some (.exit 2,FM 44 [(1,.vec (nx+1) 0 (cO post l).length 1 (cO post l).length)],⟨nx+2,.row (ints (cO post l))::.row t.cells::os,nx,md'⟩)
 | _,_,0,_,_,_,h,_,_=>by omega
 | [],pre,m+1,md,l,hs,_,hne,_=>by
   rw[ae];rw[List.append_nil] at hs;have hlv:=fB t;have hcl:=Tm.an t;have har:=ah t;have hir:=cd l;rw[hcl];have hpl:pre.length=t.args.length:=by rw[hs]
   have h6:((pre.length:Int) < (t.args.length:Int))=False:=eq_false (by omega);exact⟨md,by simp[bY,-fJ,-set_mk,dQ,eo,eH,eI,kj,eQ,hlv,h6,hir,har,cO]⟩
 | x::r,pre,m+1,md,l,hs,hm,hne,hlB=>by
   rw[ae];simp only[Tm.aI] at hlB;have hps:pre.length+r.length+1=t.args.length:=by rw[hs];simp;omega
   have hc:t.args[pre.length]? =some x:=by rw[hs];simp
   have hxm:x ∈ t.args:=by rw[hs];simp
   have hav:=xu hc;have h3:IntKind.i64.wrap ((pre.length:Int)+1)=(pre.length:Int)+1:=wrap_i64 (by omega) (by omega);have h6:((pre.length:Int) < (t.args.length:Int))=True:=eq_true (by omega);have hxe:x.enc=.agg [.int .i64 x.kind,.int .i64 x.num,.str x.name,x.aJ]:=by rw[Tm.ay];rfl
   have hxr:=ah x;have htr:=aB t.args;have hir:=cd l;have hcl:t.cells=[.int .i64 t.kind,.int .i64 t.num,.str t.name,.sl (t.args.map Tm.enc)]:=by rw[←hav];rfl
   have hvl:=vd x l;have q:=H x hxm (nx+2) (.row (ints l)::.row t.cells::os) (nx+1) md (.vec (nx+1) 0 l.length 1 l.length) l (QH (nx+1) _ hne) (by omega) (by omega);rw[show cO (x::r) l=cO r (fQ x l) from rfl];have hcU:(t.args.map Tm.enc)[pre.length]? =some (.agg [.int .i64 x.kind,.int .i64 x.num,.str x.name,x.aJ]):=by rw[List.getElem?_map,hc];exact congrArg some hxe
   have hUl:(t.args.map Tm.enc).length=t.args.length:=List.length_map _;rw[hxe] at q;have kt:kX (nx+2) (.row (ints l)::.row t.cells::os) (.vec (nx+1) 0 l.length 1 l.length)=.dead::.row t.cells::os:=Pk (nx+1) _ _ _ _ _ _;obtain⟨X,mdq,⟨q1,q2⟩ | ⟨q1,q2⟩⟩:=q
   ·obtain⟨md',ih⟩:=uR n nx B os t H hB r (pre++[x]) m mdq l (by rw[hs];simp) (by simp at hm;omega) hne (by omega);rw[q1];refine⟨md',?_⟩
    have gg:aa.get ⟨nx+2+X.length,X++.row (ints l)::.row t.cells::os,nx+1,mdq⟩ (nx+1)=some (.row (ints l)):=by
     unfold aa.get;dsimp only;rw[if_pos (by omega),show nx+2+X.length - 1 - (nx+1)=X.length by omega,List.getElem?_append_right (Nat.le_refl _),Nat.sub_self];rfl
    have gd:(X++.row (ints l)::.row t.cells::os).drop (nx+2+X.length - (nx+1))=.row t.cells::os:=by
     rw[show nx+2+X.length - (nx+1)=X.length+1 by omega,←List.drop_drop,List.drop_left];rfl
    have hgc:=SA (nx:=nx) l l.length l.length ((pre.length:Int)+1) mdq (Nat.le_refl _) (by omega) gg gd;simp only[List.length_append,List.length_cons,List.length_nil,Nat.zero_add,Int.natCast_add,Int.natCast_one] at ih;rw[hcl] at q2 hgc ih ⊢;simp only[eQ,np] at ih;generalize t.args.map Tm.enc=U at *;simp[bY,-fJ,-set_mk,dQ,eo,eH,eI,kj,eQ,hcU,hUl,h3,h6,hxr,htr,q2,hgc];exact ih
   ·rw[kt] at q2;obtain⟨md',ih⟩:=uR n nx B os t H hB r (pre++[x]) m mdq (fQ x l) (by rw[hs];simp) (by simp at hm;omega) q1 (by omega);refine⟨md',?_⟩;generalize fQ x l=l' at *;have gg:aa.get ⟨nx+2+X.length+1,.row (ints l')::(X++.dead::.row t.cells::os),nx+1,mdq⟩ (nx+2+X.length)=some (.row (ints l')):=dQ _ _ _ _ _
    have gd:(aC.row (ints l')::(X++.dead::.row t.cells::os)).drop (nx+2+X.length+1 - (nx+1))=.row t.cells::os:=by
     rw[show nx+2+X.length+1 - (nx+1)=(X.length+1)+1 by omega,List.drop_succ_cons,←List.drop_drop,List.drop_left];rfl
    have hgc:=SA (nx:=nx) l' l'.length l'.length ((pre.length:Int)+1) mdq (by omega) (by omega) gg gd;simp only[List.length_append,List.length_cons,List.length_nil,Nat.zero_add,Int.natCast_add,Int.natCast_one] at ih;rw[hcl] at q2 hgc ih ⊢;simp only[eQ,np] at ih;generalize t.args.map Tm.enc=U at *;simp[bY,-fJ,-set_mk,dQ,eo,eH,eI,kj,eQ,hcU,hUl,h3,h6,hxr,htr,q2,hgc];exact ih
theorem Av (n nx B:Nat) (os:List aC) (t:Tm) (H:∀x ∈ t.args,WH n x B) (hB:t.args.length < 100000) (v:AV) (l:List Int) (hr:Rg nx os v l):∀(post pre:List Tm) (m md:Nat),t.args=pre++post→post.length < m→l.length+Tm.aI post≤B→
 ∃md',(cO post l=l∧er (nx+1) nx (aT (ak (aw (a8 [jg]) (n+1)) (n+1) kj) eQ (nx+1) m (np v (.ptr nx 0) (.int .i64 pre.length)) ⟨nx+1,.row t.cells::os,nx+1,md⟩)=
   some (.exit 2,FM 44 [(1,v)],⟨nx+1,.row t.cells::os,nx,md'⟩))∨
   (cO post l≠[]∧er (nx+1) nx (aT (ak (aw (a8 [jg]) (n+1)) (n+1) kj) eQ (nx+1) m (np v (.ptr nx 0) (.int .i64 pre.length)) ⟨nx+1,.row t.cells::os,nx+1,md⟩)=
   some (.exit 2,FM 44 [(1,.vec (nx+1) 0 (cO post l).length 1 (cO post l).length)],⟨nx+2,.row (ints (cO post l))::.row t.cells::kX nx os v,nx,md'⟩))
 | _,_,0,_,_,h,_=>by omega
 | [],pre,m+1,md,hs,_,_=>by
   rw[ae];rw[List.append_nil] at hs;have hlv:=fB t;have hcl:=Tm.an t;have har:=ah t;have hpl:pre.length=t.args.length:=by rw[hs]
   have h6:((pre.length:Int) < (t.args.length:Int))=False:=eq_false (by omega);refine⟨md,.inl ⟨rfl,?_⟩⟩;rw[hcl];rcases hr with⟨_,rfl⟩ | ⟨id,hid,rfl,hne,hg⟩
   ·simp[bY,-fJ,-set_mk,dQ,eo,eH,eI,kj,eQ,hlv,h6,har]
   ·have h1:(nx+1≤id)=False:=eq_false (by omega);have h2:(id < nx+1)=True:=eq_true (by omega);simp[bY,-fJ,-set_mk,dQ,eo,eH,eI,kj,eQ,hlv,h6,har,h1,h2]
 | x::r,pre,m+1,md,hs,hm,hlB=>by
   rw[ae];simp only[Tm.aI] at hlB;have hps:pre.length+r.length+1=t.args.length:=by rw[hs];simp;omega
   have hc:t.args[pre.length]? =some x:=by rw[hs];simp
   have hxm:x ∈ t.args:=by rw[hs];simp
   have hav:=xu hc;have h3:IntKind.i64.wrap ((pre.length:Int)+1)=(pre.length:Int)+1:=wrap_i64 (by omega) (by omega);have h6:((pre.length:Int) < (t.args.length:Int))=True:=eq_true (by omega);have hxe:x.enc=.agg [.int .i64 x.kind,.int .i64 x.num,.str x.name,x.aJ]:=by rw[Tm.ay];rfl
   have hxr:=ah x;have htr:=aB t.args;have hcl:t.cells=[.int .i64 t.kind,.int .i64 t.num,.str t.name,.sl (t.args.map Tm.enc)]:=by rw[←hav];rfl
   have hvl:=vd x l;have q:=H x hxm (nx+1) (.row t.cells::os) (nx+1) md v l (NM _ hr) (Nat.le_refl _) (by omega);rw[show cO (x::r) l=cO r (fQ x l) from rfl];have hcU:(t.args.map Tm.enc)[pre.length]? =some (.agg [.int .i64 x.kind,.int .i64 x.num,.str x.name,x.aJ]):=by rw[List.getElem?_map,hc];exact congrArg some hxe
   have hUl:(t.args.map Tm.enc).length=t.args.length:=List.length_map _
   have hvr:∀id a b c d,v=.vec id a b c d→id < nx:=fun id a b c d e=>by
    rcases hr with⟨_,rfl⟩ | ⟨id',hid,rfl,_,_⟩
    ·cases e
    ·cases e;exact hid
   rw[hxe] at q;have kt:=Ld (.row t.cells) hr;obtain⟨X,mdq,⟨q1,q2⟩ | ⟨q1,q2⟩⟩:=q
   ·rw[q1];have hgc:=Xb (k:=X.length) (rest:=.row t.cells::os) hr ((pre.length:Int)+1) X rfl mdq;obtain⟨md',⟨i1,ih⟩ | ⟨i1,ih⟩⟩:=Av n nx B os t H hB v l hr r (pre++[x]) m mdq (by rw[hs];simp) (by simp at hm;omega) (by omega)
    ·refine⟨md',.inl ⟨i1,?_⟩⟩;simp only[List.length_append,List.length_cons,List.length_nil,Nat.zero_add,Int.natCast_add,Int.natCast_one] at ih;rw[hcl] at q2 hgc ih ⊢;simp only[eQ,np] at ih;generalize t.args.map Tm.enc=U at *;simp[bY,-fJ,-set_mk,dQ,eo,eH,eI,kj,eQ,hcU,hUl,h3,h6,hxr,htr,q2,hgc];exact ih
    ·refine⟨md',.inr ⟨i1,?_⟩⟩;simp only[List.length_append,List.length_cons,List.length_nil,Nat.zero_add,Int.natCast_add,Int.natCast_one] at ih;rw[hcl] at q2 hgc ih ⊢;simp only[eQ,np] at ih;generalize t.args.map Tm.enc=U at *;simp[bY,-fJ,-set_mk,dQ,eo,eH,eI,kj,eQ,hcU,hUl,h3,h6,hxr,htr,q2,hgc];exact ih
   ·rw[kt] at q2;obtain⟨md',ih⟩:=uR n nx B (kX nx os v) t H hB r (pre++[x]) m mdq (fQ x l) (by rw[hs];simp) (by simp at hm;omega) q1 (by omega);refine⟨md',.inr ⟨uW r _ q1,?_⟩⟩;generalize fQ x l=l' at *;have gg:aa.get ⟨nx+1+X.length+1,.row (ints l')::(X++.row t.cells::kX nx os v),nx+1,mdq⟩ (nx+1+X.length)=some (.row (ints l')):=dQ _ _ _ _ _
    have gd:(aC.row (ints l')::(X++.row t.cells::kX nx os v)).drop (nx+1+X.length+1 - (nx+1))=.row t.cells::kX nx os v:=by
     rw[show nx+1+X.length+1 - (nx+1)=X.length+1 by omega,List.drop_succ_cons,List.drop_left]
    have hgc:=SA (nx:=nx) l' l'.length l'.length ((pre.length:Int)+1) mdq (by omega) (by omega) gg gd;simp only[List.length_append,List.length_cons,List.length_nil,Nat.zero_add,Int.natCast_add,Int.natCast_one] at ih;rw[hcl] at q2 hgc ih ⊢;simp only[eQ,np] at ih;generalize t.args.map Tm.enc=U at *;simp[bY,-fJ,-set_mk,dQ,eo,eH,eI,kj,eQ,hcU,hUl,h3,h6,hxr,htr,q2,hgc];exact ih
theorem Jj (B:Nat) (hB:B < 100000):∀(k:Nat) (t:Tm) (n:Nat),t.size≤k→B+t.size < n→WH n t B
 | 0,t,n,hk,_=>by have:=aM t;omega
 | k+1,t,n,hk,hn=>fun nx os wl md v l hr hwl hl=>by
   have hs:=aM t;obtain⟨n,rfl⟩:∃n',n=n'+1:=⟨n - 1,by omega⟩
   by_cases h0:t.kind=0
   ·exact Q6 n nx os wl md t v l hr (by omega) (by omega) hwl h0
   ·have hla:=ct t.args
    have H:∀x ∈ t.args,WH n x B:=fun x hx=>by
     have:=iV hx;exact Jj B hB k x n (by omega) (by omega)
    have e:fQ t l=cO t.args l:=by rw[iS,if_neg h0]
    rw[e];have lp:=Av n nx B os t H (by omega) v l hr t.args [] (n+1) nx rfl (by omega) (by omega);have hcl:=Tm.an t;have hte:=Tm.ay t;have har:=ah t;have hw:min wl nx=wl:=Nat.min_eq_left hwl;rw[hcl] at lp;simp only[eQ,np,List.length_nil,Int.natCast_zero] at lp;rw[hte,hcl];obtain⟨md',⟨i1,i2⟩ | ⟨i1,i2⟩⟩:=lp
    ·rw[i1];refine⟨[.row [.int .i64 t.kind,.int .i64 t.num,.str t.name,t.aJ]],min md md',.inl ⟨rfl,?_⟩⟩;rcases hr with⟨_,rfl⟩ | ⟨id,hid,rfl,hne,hg⟩
     ·simp[bY,-fJ,-set_mk,dQ,eo,eH,eI,yt,c93,eQ,ag,har,h0,i2,hw,gG]
     ·have h1:(nx+1≤id)=False:=eq_false (by omega);have h2:(id < nx+1)=True:=eq_true (by omega);have h4:id≤nx:=by omega
      simp[bY,-fJ,-set_mk,dQ,eo,eH,eI,yt,c93,eQ,ag,har,h0,i2,hw,gG,h1,h2,h4]
    ·refine⟨[.row [.int .i64 t.kind,.int .i64 t.num,.str t.name,t.aJ]],min md md',.inr ⟨i1,?_⟩⟩;rcases hr with⟨_,rfl⟩ | ⟨id,hid,rfl,hne,hg⟩
     ·simp[bY,-fJ,-set_mk,dQ,eo,eH,eI,yt,c93,eQ,ag,har,h0,i2,hw,gG]
     ·have h1:(nx+1≤id)=False:=eq_false (by omega);have h2:(id < nx+1)=True:=eq_true (by omega);have h4:id≤nx:=by omega
      simp[bY,-fJ,-set_mk,dQ,eo,eH,eI,yt,c93,eQ,ag,har,h0,i2,hw,gG,h1,h2,h4]
theorem xG:∀(a b:List Tm) (l:List Int),cO (a++b) l=cO b (cO a l)
 | [],b,l=>rfl
 | t::a,b,l=>xG a b (fQ t l)
theorem Fw:∀(d:Nat) (rs:List Tm) (vs:List Int),Tm.aI rs < d→(∀x ∈ rs,x.eM fc=true)→di d rs vs=cO rs vs
 | 0,rs,vs,h,_=>by omega
 | d+1,[],vs,_,_=>rfl
 | d+1,x::rs,vs,h,hox=>by
   have hs:=aM x;simp only[Tm.aI] at h;have hs2:Tm.aI (x.args++rs)=Tm.aI x.args+Tm.aI rs:=iB _ _;have hx:=hox x (by simp)
   have hox2:∀y ∈ x.args++rs,y.eM fc=true:=fun y hy=>by
    rcases List.mem_append.1 hy with hy | hy
    ·have h2:=hx;rw[dd,Bool.and_eq_true] at h2;exact yR h2.2 y hy
    ·exact hox y (by simp[hy])
   show di d (x.args++rs) (o6 x vs)=cO rs (fQ x vs);rw[Fw d _ _ (by omega) hox2,xG,iS];by_cases h0:x.kind=0
   ·rw[if_pos h0,iC x hx h0];show cO rs (o6 x vs)=_;congr 1;unfold o6 lJ;by_cases hm:x.num ∈ vs
    ·rw[if_neg (fun h=>h.2 hm),if_pos hm]
    ·rw[if_pos ⟨h0,hm⟩,if_neg hm]
   ·rw[if_neg h0];congr 2;unfold o6;rw[if_neg (fun h=>h0 h.1)]
theorem sw (t:Tm):bN t=if dp t then fQ t [] else []:=by
 unfold bN
 cases hg:dp t with
 | false=>rfl
 | true=>
   simp only[dp,Bool.and_eq_true,decide_eq_true_eq] at hg;rw[if_pos rfl,if_pos rfl,Fw _ _ _ (by simp[Tm.aI]) (fun x hx=>by simp at hx;subst hx;exact hg.2)];rfl
noncomputable def r8:ai:=⟨54,fun | [v]=>(match dB v with | some t=>if t.eU < 1000000000 then some (eD (bN t)) else none | none=>none) | _=>none⟩
theorem kU:r8.f=54:=(rfl)
theorem BT (t:Tm) (h:t.eU < 1000000000):r8.S [t.enc]=some (eD (bN t)):=by
 simp only[r8,aX,if_pos h]
theorem Bv:az Tryz.prog r8:=fun args v hv=>by
 unfold r8 at hv ⊢;dsimp only at hv ⊢;split at hv
 ·rename_i x;split at hv
  ·rename_i t ht;split at hv
   ·rename_i hl;cases hv;rw[bc ht];refine aH (n:=60000) (h':=h0) (aG (ss:=[jg]) (by simp[uA])) ?_ (nr _) (by simp[AV.af,Tm.ba]);have c1:=uP t hl;have hte:t.enc=.agg [.int .i64 t.kind,.int .i64 t.num,.str t.name,t.aJ]:=by rw[Tm.ay];rfl
    have har:=ah t;rw[sw]
    cases hg:dp t with
    | false=>
      rw[hg] at c1;rw[hte] at c1 ⊢;simp[L6,Ut,har,ag,c1,bY,eD]
    | true=>
      rw[hg] at c1;have hg':=hg;simp only[dp,Bool.and_eq_true,decide_eq_true_eq] at hg';rw[if_pos rfl];have q:=Jj 10000 (by omega) t.size t 59998 (Nat.le_refl _) (by omega) 1 [.row [.int .i64 t.kind,.int .i64 t.num,.str t.name,t.aJ]] 0 0 .ax [] (.inl ⟨rfl,rfl⟩) (by omega) (by simp;omega);obtain⟨X,md',⟨q1,q2⟩ | ⟨q1,q2⟩⟩:=q
      ·rw[q1];rw[hte] at c1 q2 ⊢;simp[L6,Ut,har,ag,c1,bY,eD,q2];omega
      ·generalize fQ t []=vs at *
       cases vs with
       | nil=>exact absurd rfl q1
       | cons v r=>
         have fk:∀d,gr ⟨1+X.length+1,.row (ints (v::r))::(X++kX 1 [.row [.int .i64 t.kind,.int .i64 t.num,.str t.name,t.aJ]] .ax),0,md'⟩ 0 (d+2) (.vec (1+X.length) 0 (r.length+1) 1 (r.length+1))=some (.sl (ints (v::r)),[1+X.length]):=fun d=>RM v r (Nat.zero_le _) (dQ _ _ _ _ _)
         have rf:=cd (v::r);rw[hte] at c1 q2 ⊢;simp only[List.length_cons] at q2;have hK:(kX 1 [.row [.int .i64 t.kind,.int .i64 t.num,.str t.name,t.aJ]] .ax).length=1:=rfl;generalize kX 1 [.row [.int .i64 t.kind,.int .i64 t.num,.str t.name,t.aJ]] .ax=K at *;simp[L6,Ut,har,ag,c1,bY,eD,q2,fk,rf,-jZ];omega
   ·cases hv
  ·cases hv
 ·cases hv
theorem VH (a b:List UInt8):(a==b)=decide (a=b):=by
 by_cases h:a=b
 ·subst h;simp
 ·rw[decide_eq_false h];simpa using h
def mm:ai:=⟨89,fun | [.str k]=>some (.bool (bK k)) | _=>none⟩
theorem cm:mm.f=89:=(rfl)
theorem qh (k:List UInt8):mm.S [.str k]=some (.bool (bK k)):=(rfl)
theorem vt:az Tryz.prog mm:=fun args v hv=>by
 unfold mm at hv ⊢;dsimp only at hv ⊢;split at hv
 ·rename_i k;cases hv;refine aH (n:=4) (h':=h0) (aG (ss:=[]) (by simp)) ?_ rfl (by simp[AV.refs,AV.af]);unfold bK;cases e1:k==[120,102,120]<;>cases e2:k==[120,102,121]<;>cases e3:k==[121,102,120]<;>simp[Wb,Wv,e1,e2,e3]
 ·cases hv
def uw:ai:=⟨128,fun | [.str k]=>some (.bool (dX k)) | _=>none⟩
theorem eT:uw.f=128:=(rfl)
theorem Gr (k:List UInt8):uw.S [.str k]=some (.bool (dX k)):=(rfl)
theorem GC:az Tryz.prog uw:=fun args v hv=>by
 unfold uw at hv ⊢;dsimp only at hv ⊢;split at hv
 ·rename_i k;cases hv;refine aH (n:=4) (h':=h0) (aG (ss:=[]) (by simp)) ?_ rfl (by simp[AV.refs,AV.af]);unfold dX;cases e1:k==[102,121]<;>cases e2:k==[102,120]<;>simp[SX,C6,e1,e2]
 ·cases hv
def xR:ai:=⟨88,fun | [v]=>(iJ v).map fun o=>.bool (iI o.n o.k o.l) | _=>none⟩
theorem iW:xR.f=88:=(rfl)
theorem N6 (a b:List UInt8) (l:Int):xR.S [.agg [.str a,.str b,.int .i64 l]]=some (.bool (iI a b l)):=(rfl)
theorem Nu:az Tryz.prog xR:=fun args v hv=>by
 unfold xR at hv ⊢;dsimp only at hv ⊢;split at hv
 ·rename_i w;simp only[Option.map_eq_some_iff] at hv;obtain⟨o,h1,rfl⟩:=hv;rw[fV h1];obtain⟨a,b,l⟩:=o;refine aH (n:=5) (h':=h0) (aG (ss:=[mm,uw]) (by simp[vt,GC])) ?_ rfl (by simp[AV.refs,AV.af,aF.enc,aF.cells]);have q1:=qh b;have q2:=Gr b;unfold iI;have nn:∀(x y:List UInt8),x≠y→(x==y)=false:=fun x y h=>by simpa using h
  by_cases c1:a=[]
  ·subst c1;simp[oi,H2,cm,eT,aF.enc,aF.cells]
  have d1:=nn _ _ c1;by_cases c2:64 < a.length
  ·have c2':((64:Int) < (a.length:Int))=True:=eq_true (by omega);have n44:¬ a=[44]:=fun e=>by rw[e] at c2;simp at c2
   have d44:=nn _ _ n44;simp[oi,H2,cm,eT,aF.enc,aF.cells,c1,d1,c2,c2',n44,d44]
  have c2':((64:Int) < (a.length:Int))=False:=eq_false (by omega);by_cases c3:a=[124]
  ·subst c3;simp[oi,H2,cm,eT,aF.enc,aF.cells]
  have d3:=nn _ _ c3;by_cases c4:a=[91,93]
  ·subst c4;simp[oi,H2,cm,eT,aF.enc,aF.cells]
  have d4:=nn _ _ c4;by_cases c5:a=[123,125]
  ·subst c5;simp[oi,H2,cm,eT,aF.enc,aF.cells]
  have d5:=nn _ _ c5;by_cases c6:l < 1
  ·have c6':¬ 1≤l:=by omega
   by_cases c7:a=[44]
   ·have c8:¬ l=1000:=by omega
    subst c7;simp[oi,H2,cm,eT,aF.enc,aF.cells,c6,c8]
   ·have d7:=nn _ _ c7;simp[oi,H2,cm,eT,aF.enc,aF.cells,c1,d1,c2,c2',c3,d3,c4,d4,c5,d5,c6,c6',c7,d7]
  by_cases c8:1200 < l
  ·have c8':¬ l≤1200:=by omega
   by_cases c7:a=[44]
   ·have c9:¬ l=1000:=by omega
    subst c7;simp[oi,H2,cm,eT,aF.enc,aF.cells,c6,c8,c9]
   ·have d7:=nn _ _ c7;simp[oi,H2,cm,eT,aF.enc,aF.cells,c1,d1,c2,c2',c3,d3,c4,d4,c5,d5,c6,c8,c8',c7,d7]
  have c6':1≤l:=by omega
  have c8':l≤1200:=by omega
  by_cases c7:a=[44]
  ·subst c7;cases e1:b==[120,102,121]<;>by_cases c9:l=1000<;>simp[oi,H2,cm,eT,aF.enc,aF.cells,c6,c8,e1,c9]
  ·have d7:=nn _ _ c7
   cases e1:bK b with
   | true=>
     rw[e1] at q1;simp[oi,H2,cm,eT,aF.enc,aF.cells,c1,d1,c2,c2',c3,d3,c4,d4,c5,d5,c6,c6',c8,c8',c7,d7,q1]
   | false=>
     rw[e1] at q1;simp[oi,H2,cm,eT,aF.enc,aF.cells,c1,d1,c2,c2',c3,d3,c4,d4,c5,d5,c6,c6',c8,c8',c7,d7,q1,q2]
 ·cases hv
def nN:ai:=⟨113,fun | [v]=>(match iJ v with | some o=>if 0≤o.l∧o.l≤1200 then some (.tuple [.int .i64 (bz o).1,.int .i64 (bz o).2]) else none | none=>none) | _=>none⟩
theorem dK:nN.f=113:=(rfl)
theorem zE (o:aF) (h:0≤o.l∧o.l≤1200):nN.S [.agg [.str o.n,.str o.k,.int .i64 o.l]]=some (.tuple [.int .i64 (bz o).1,.int .i64 (bz o).2]):=if_pos h
theorem Hv:az Tryz.prog nN:=fun args v hv=>by
 unfold nN at hv ⊢;dsimp only at hv ⊢;split at hv
 ·rename_i x;split at hv
  ·rename_i o hd;split at hv
   ·rename_i hl;cases hv;rw[fV hd];refine aH (n:=6) (h':=h0) (aG (ss:=[]) (by simp)) ?_ (by simp[AV.refs,AV.af]) (by simp[AV.af,AV.refs,aF.enc,aF.cells]);have w:IntKind.i64.wrap (o.l - 1)=o.l - 1:=wrap_i64 (by omega) (by omega);obtain⟨n,k,l⟩:=o;dsimp only at w;have hb:∀a b:List UInt8,a≠b→(a==b)=false:=fun a b h=>by simpa using h
    unfold bz;dsimp only;by_cases h1:k=[120,102,120]
    ·subst h1;simp[uE,CI,aF.enc,aF.cells,w]
    rw[if_neg h1];have e1:=hb _ _ h1;by_cases h2:k=[120,102,121]
    ·subst h2;simp[uE,CI,aF.enc,aF.cells,w]
    rw[if_neg h2];have e2:=hb _ _ h2;by_cases h3:k=[121,102,120]
    ·subst h3;simp[uE,CI,aF.enc,aF.cells,w]
    rw[if_neg h3];have e3:=hb _ _ h3;by_cases h4:k=[102,121]
    ·subst h4;simp[uE,CI,aF.enc,aF.cells,w]
    rw[if_neg h4];have e4:=hb _ _ h4;by_cases h5:k=[102,120]
    ·subst h5;simp[uE,CI,aF.enc,aF.cells,w]
    rw[if_neg h5];have e5:=hb _ _ h5;simp[uE,CI,aF.enc,aF.cells,w,h1,h2,h3,h4,h5,e1,e2,e3,e4,e5]
   ·cases hv
  ·cases hv
 ·cases hv
def re (l:List aF) (s:List UInt8) (b:Bool):Int:=wW (dt (fun o=>o.n==s&&bK o.k==b) l)
theorem BI (n:Nat) (l:List aF) (s:List UInt8) (b:Bool) (hl:l.length < 4611686018427387904):∀post pre m,l=pre++post→post.length < m→
 er 0 0 (aT (ak (aw (a8 [mm]) (n+1)) (n+1) nI) kG 0 m (Qr (.sl (l.map aF.enc)) (.str s) (.bool b) (.int .i64 pre.length)) ⟨0,[],0,0⟩)=
  match dt (fun o=>o.n==s&&bK o.k==b) post with
  | some i=>some (.ret,FM 32 [(6,.int .i64 (pre.length+i:Nat))],⟨0,[],0,0⟩)
  | none=>some (.exit 0,FM 32 [],⟨0,[],0,0⟩)
 | [],pre,m+1,e,_=>by
   subst e;have h5:AV.af (pre.map aF.enc)=0:=aZ _;simp[dt,ae,nI,h5]
 | o::post,pre,m+1,e,hm=>by
   have ih:=BI n l s b hl post (pre++[o]) m (by simp[e]) (by rw[List.length_cons] at hm;omega);have h1:l[pre.length]? =some o:=by rw[e];simp
   have h3:IntKind.i64.wrap ((pre.length:Int)+1)=(pre.length:Int)+1:=by
    rw[iG (by rw[e] at hl;simp at hl;omega)];simp
   have h4:o.enc=.agg [.str o.n,.str o.k,.int .i64 o.l]:=rfl;have h5:AV.af (l.map aF.enc)=0:=aZ l;have h6:((pre.length:Int) < (l.length:Int))=True:=eq_true (by rw[e,List.length_append,List.length_cons];omega);have q:=qh o.k;have hF:dt (fun o=>o.n==s&&bK o.k==b) (o::post)=if (o.n==s&&bK o.k==b) then some 0 else (dt (fun o=>o.n==s&&bK o.k==b) post).map (·+1):=rfl
   rw[hF];generalize dt (fun o=>o.n==s&&bK o.k==b) post=F at *
   have last:∀R,R=(match F with
    | some i=>some (Ex.ret,FM 32 [(6,AV.int .i64 ((pre++[o]).length+i:Nat))],(⟨0,[],0,0⟩:aa))
    | none=>some (Ex.exit 0,FM 32 [],⟨0,[],0,0⟩))→R=(match F.map (·+1) with
    | some i=>some (Ex.ret,FM 32 [(6,AV.int .i64 (pre.length+i:Nat))],(⟨0,[],0,0⟩:aa))
    | none=>some (Ex.exit 0,FM 32 [],⟨0,[],0,0⟩)):=fun R hR=>by
    rw[hR]
    cases F with
    | none=>rfl
    | some i=>
      simp only[Option.map_some,List.length_append,List.length_cons,List.length_nil];rw[show pre.length+(0+1)+i=pre.length+(i+1) by omega]
   rw[←ih] at last;rw[ae];simp only[List.length_append,List.length_cons,List.length_nil,Nat.zero_add,Int.natCast_add,Int.natCast_one] at last
   cases e1:o.n==s with
   | false=>
     rw[Bool.false_and,if_neg (by simp)];refine last _ ?_;simp[nI,kG,h1,h3,h4,h5,h6,e1,cm]
   | true=>
     rw[Bool.true_and]
     cases e2:bK o.k==b with
     | true=>
       have e3:bK o.k=b:=by simpa using e2
       rw[e3] at q;rw[if_pos rfl];simp[nI,kG,h1,h3,h4,h5,h6,e1,e3,q,cm]
     | false=>
       have e3:bK o.k=!b:=by cases b<;>cases hb:bK o.k<;>simp[hb] at e2 ⊢
       rw[e3] at q;rw[if_neg (by simp)];refine last _ ?_;simp[nI,kG,h1,h3,h4,h5,h6,e1,e3,q,cm]
def iM:ai:=⟨132,fun | [x,.str s,.bool b]=>(match a6 x with | some l=>if l.length < 4611686018427387904 then some (.int .i64 (re l s b)) else none | none=>none) | _=>none⟩
theorem bx:iM.f=132:=(rfl)
theorem Kl {x:AV} {l:List aF} (hx:a6 x=some l) (s:List UInt8) (b:Bool) (h:l.length < 4611686018427387904):iM.S [x,.str s,.bool b]=some (.int .i64 (re l s b)):=by
 simp only[iM,hx,if_pos h]
theorem Bx:az Tryz.prog iM:=fun args v hv=>by
 unfold iM at hv ⊢;dsimp only at hv ⊢;split at hv
 ·rename_i x s b;split at hv
  ·rename_i l hd;split at hv
   ·rename_i hl;cases hv;have hr:=bC hd;refine aH (n:=l.length+6) (h':=h0) (aG (ss:=[mm]) (by simp[vt])) ?_ rfl (by simp[AV.af,AV.refs,hr]);rcases aD hd with⟨rfl,rfl⟩ | rfl
    ·simp[Hu,KU,kG,nI,ae,cm,re,dt,wW]
    ·have lp:=BI (l.length+4) l s b hl l [] (l.length+5) rfl (by omega);have h5:=aZ l;simp only[kG,List.length_nil,Int.natCast_zero,Nat.zero_add] at lp;unfold re
     cases hf:dt (fun o=>o.n==s&&bK o.k==b) l with
     | none=>
       rw[hf] at lp;simp[Hu,KU,kG,h5,cm,lp,wW]
     | some i=>
       rw[hf] at lp;simp[Hu,KU,kG,h5,cm,lp,wW]
   ·cases hv
  ·cases hv
 ·cases hv
def wR (s:List UInt8):List aF→Int→Int
 | [],n=>n
 | o::r,n=>wR s r (if o.n=s∧n < o.l then o.l else n)
def uM (l:List aF) (s:List UInt8):Int:=wR s l 0
theorem FH (n:Nat) (l:List aF) (s:List UInt8) (hl:l.length < 4611686018427387904):∀post pre (a:Int) m,l=pre++post→post.length < m→
 er 0 0 (aT (ak (aw (a8 []) (n+1)) (n+1) rX) oz 0 m (Tg (.sl (l.map aF.enc)) (.str s) (.int .i64 a) (.int .i64 pre.length)) ⟨0,[],0,0⟩)=
  some (.exit 0,FM 35 [(5,.int .i64 (wR s post a))],⟨0,[],0,0⟩)
 | [],pre,a,m+1,e,_=>by
   subst e;have h5:AV.af (pre.map aF.enc)=0:=aZ _;simp[wR,ae,rX,h5]
 | o::post,pre,a,m+1,e,hm=>by
   have ih:=FH n l s hl post (pre++[o]) (if o.n=s∧a < o.l then o.l else a) m (by simp[e]) (by rw[List.length_cons] at hm;omega);have h1:l[pre.length]? =some o:=by rw[e];simp
   have h3:IntKind.i64.wrap ((pre.length:Int)+1)=(pre.length:Int)+1:=by
    rw[iG (by rw[e] at hl;simp at hl;omega)];simp
   have h4:o.enc=.agg [.str o.n,.str o.k,.int .i64 o.l]:=rfl;have h5:AV.af (l.map aF.enc)=0:=aZ l;have h6:((pre.length:Int) < (l.length:Int))=True:=eq_true (by rw[e,List.length_append,List.length_cons];omega);simp only[List.length_append,List.length_cons,List.length_nil,Nat.zero_add,Int.natCast_add,Int.natCast_one] at ih;rw[ae];unfold wR;by_cases e1:o.n=s
   ·by_cases e2:a < o.l
    ·rw[if_pos ⟨e1,e2⟩] at ih ⊢;simp[rX,oz,h1,h3,h4,h5,h6,e1,e2];exact ih
    ·rw[if_neg (fun h=>e2 h.2)] at ih ⊢;simp[rX,oz,h1,h3,h4,h5,h6,e1,e2];exact ih
   ·have e1':(o.n==s)=false:=by simpa using e1
    rw[if_neg (fun h=>e1 h.1)] at ih ⊢;simp[rX,oz,h1,h3,h4,h5,h6,e1,e1'];exact ih
def wb:ai:=⟨94,fun | [x,.str s]=>(match a6 x with | some l=>if l.length < 4611686018427387904 then some (.int .i64 (uM l s)) else none | none=>none) | _=>none⟩
theorem dT:wb.f=94:=(rfl)
theorem Pp {x:AV} {l:List aF} (hx:a6 x=some l) (s:List UInt8) (h:l.length < 4611686018427387904):wb.S [x,.str s]=some (.int .i64 (uM l s)):=by
 simp only[wb,hx,if_pos h]
theorem OC:az Tryz.prog wb:=fun args v hv=>by
 unfold wb at hv ⊢;dsimp only at hv ⊢;split at hv
 ·rename_i x s;split at hv
  ·rename_i l hd;split at hv
   ·rename_i hl;cases hv;have hr:=bC hd;refine aH (n:=l.length+6) (h':=h0) (aG (ss:=[]) (by simp)) ?_ rfl (by simp[AV.af,AV.refs,hr]);rcases aD hd with⟨rfl,rfl⟩ | rfl
    ·simp[RB,VR,oz,rX,ae,uM,wR]
    ·have lp:=FH (l.length+4) l s hl l [] 0 (l.length+5) rfl (by omega);have h5:=aZ l;simp only[oz,List.length_nil,Int.natCast_zero] at lp;simp[RB,VR,oz,h5,lp,uM]
   ·cases hv
  ·cases hv
 ·cases hv
def wC (o y:aF):Bool:=y.n==o.n&&bK y.k==bK o.k
theorem AR (n:Nat) (l:List aF) (hl:l.length < 4611686018427387904) (o:aF) (i:Nat) (hi:l[i]? =some o):∀post pre m,l.take i=pre++post→post.length < m→
 er 0 0 (aT (ak (aw (a8 [mm,xR]) (n+1)) (n+1) vE) o4 0 m (L3 (.sl (l.map aF.enc)) (.int .i64 i) (.int .i64 pre.length)) ⟨0,[],0,0⟩)=
  (if post.any (wC o) then some (.ret,FM 51 [(2,.bool false)],⟨0,[],0,0⟩) else some (.exit 2,FM 51 [(0,.sl (l.map aF.enc)),(3,.int .i64 i)],⟨0,[],0,0⟩))
 | [],pre,m+1,e,_=>by
   have hil:=(List.getElem?_eq_some_iff.1 hi).1;have hpl:pre.length=i:=by have:=congrArg List.length e;simp at this;omega
   have h5:AV.af (l.map aF.enc)=0:=aZ _;simp[ae,vE,h5,hpl,cm,iW]
 | y::post,pre,m+1,e,hm=>by
   have hil:=(List.getElem?_eq_some_iff.1 hi).1;have hpl:pre.length+post.length+1=i:=by have:=congrArg List.length e;simp at this;omega
   have ih:=AR n l hl o i hi post (pre++[y]) m (by simp[e]) (by rw[List.length_cons] at hm;omega)
   have h1:l[pre.length]? =some y:=by
    have:(l.take i)[pre.length]? =some y:=by rw[e];simp
    rw[List.getElem?_take] at this;rw[if_pos (by omega)] at this;exact this
   have h3:IntKind.i64.wrap ((pre.length:Int)+1)=(pre.length:Int)+1:=by
    rw[iG (by omega)];simp
   have h4:∀z:aF,z.enc=.agg [.str z.n,.str z.k,.int .i64 z.l]:=fun z=>rfl
   have h5:AV.af (l.map aF.enc)=0:=aZ l;have h6:((pre.length:Int) < (i:Int))=True:=eq_true (by omega);have q1:=qh y.k;have q2:=qh o.k;simp only[List.length_append,List.length_cons,List.length_nil,Nat.zero_add,Int.natCast_add,Int.natCast_one] at ih;rw[ae,List.any_cons];generalize post.any (wC o)=A at *;unfold wC
   cases e1:y.n==o.n with
   | false=>
     simp only[Bool.false_and,Bool.false_or];simp[vE,o4,h1,hi,h3,h4,h5,h6,e1,cm,iW];exact ih
   | true=>
     have e1':y.n=o.n:=by simpa using e1
     generalize bK o.k=bo at *
     cases e2:bK y.k==bo with
     | true=>
       have e3:bK y.k=bo:=by simpa using e2
       rw[e3] at q1;simp[vE,o4,h1,hi,h3,h4,h5,h6,e1',q1,q2,cm,iW]
     | false=>
       simp only[Bool.and_false,Bool.false_or];have e3:bK y.k=!bo:=by cases bo<;>cases hb:bK y.k<;>simp[hb] at e2 ⊢
       rw[e3] at q1;simp[vE,o4,h1,hi,h3,h4,h5,h6,e1',q1,q2,cm,iW];exact ih
def rZ:List aF→List aF→Bool
 | _,[]=>true
 | pre,o::post=>if !iI o.n o.k o.l then false else if pre.any (wC o) then false else rZ (pre++[o]) post
theorem BR (n:Nat) (l:List aF) (hl:l.length < 4611686018427387904) (hn:l.length < n):∀post pre m,l=pre++post→post.length < m→
 er 0 0 (aT (ak (aw (a8 [mm,xR]) (n+1)) (n+1) rE) mB 0 m (TW (.sl (l.map aF.enc)) (.int .i64 pre.length)) ⟨0,[],0,0⟩)=
  some (if rZ pre post then .exit 0 else .ret,if rZ pre post then FM 51 [(0,.sl (l.map aF.enc))] else FM 51 [(2,.bool false)],⟨0,[],0,0⟩)
 | [],pre,m+1,e,_=>by
   subst e;have h5:AV.af (pre.map aF.enc)=0:=aZ _;simp[rZ,ae,rE,h5]
 | o::post,pre,m+1,e,hm=>by
   have ih:=BR n l hl hn post (pre++[o]) m (by simp[e]) (by rw[List.length_cons] at hm;omega);have h1:l[pre.length]? =some o:=by rw[e];simp
   have hpl:pre.length+post.length+1=l.length:=by rw[e];simp;omega
   have h3:IntKind.i64.wrap ((pre.length:Int)+1)=(pre.length:Int)+1:=by
    rw[iG (by omega)];simp
   have h4:o.enc=.agg [.str o.n,.str o.k,.int .i64 o.l]:=rfl;have h5:AV.af (l.map aF.enc)=0:=aZ l;have h6:((pre.length:Int) < (l.length:Int))=True:=eq_true (by omega);have q:=N6 o.n o.k o.l;have lp:=AR n l hl o pre.length h1 pre [] (n+1) (by rw[e];simp) (by omega);simp only[List.length_append,List.length_cons,List.length_nil,Nat.zero_add,Int.natCast_add,Int.natCast_one,Int.natCast_zero,o4,L3] at ih lp;rw[ae];unfold rZ
   cases hm:iI o.n o.k o.l with
   | false=>
     rw[hm] at q;simp[rE,mB,h1,h3,h4,h5,h6,q,cm,iW]
   | true=>
     rw[hm] at q
     cases ha:pre.any (wC o) with
     | true=>
       rw[ha] at lp;simp only[if_true] at lp;simp[rE,mB,o4,h1,h3,h4,h5,h6,q,lp,cm,iW]
     | false=>
       rw[ha] at lp;simp only[Bool.false_eq_true,if_false] at lp;simp[rE,mB,o4,h1,h3,h4,h5,h6,q,lp,cm,iW];exact ih
theorem yH {a b:List UInt8} {l:Int} (h:iI a b l=true):bK b=!dX b:=by
 have hx:bK b=true→dX b=false:=fun hb=>by
  unfold bK at hb;simp only[Bool.or_eq_true] at hb;rcases hb with (hb | hb) | hb
  ·have e:b=[120,102,120]:=by simpa using hb
   subst e;rfl
  ·have e:b=[120,102,121]:=by simpa using hb
   subst e;rfl
  ·have e:b=[121,102,120]:=by simpa using hb
   subst e;rfl
 cases hb:bK b with
 | true=>rw[hx hb];rfl
 | false=>
   cases ha:dX b with
   | true=>rfl
   | false=>
     exfalso;unfold iI at h;rw[hb,ha] at h;split at h
     ·simp only[Bool.and_eq_true] at h;have e:b=[120,102,121]:=by simpa using h.1
      subst e;cases hb
     ·simp at h
theorem pN {α:Type} (p:α→Bool):∀l:List α,(dt p l).isSome=l.any p
 | []=>rfl
 | x::r=>by
   have ih:=pN p r;rw[List.any_cons];unfold dt
   cases hp:p x with
   | true=>simp
   | false=>
     simp only[Bool.false_eq_true,if_false,Bool.false_or];rw[←ih];cases dt p r<;>rfl
theorem AH:∀(post pre:List aF),(∀y ∈ pre,iI y.n y.k y.l=true)→rZ pre post=jn pre post
 | [],_,_=>rfl
 | o::r,pre,hp=>by
   unfold rZ jn
   cases hm:iI o.n o.k o.l with
   | false=>simp
   | true=>
     simp only[Bool.not_true,Bool.false_eq_true,if_false]
     have e:pre.any (wC o)=(dt (fun x=>kq x o) pre).isSome:=by
      rw[pN]
      have key:∀l:List aF,(∀y ∈ l,iI y.n y.k y.l=true)→l.any (wC o)=l.any fun x=>kq x o:=fun l=>by
       induction l with
       | nil=>intro _;rfl
       | cons y q ih=>
         intro hy;rw[List.any_cons,List.any_cons,ih (fun z hz=>hy z (List.mem_cons_of_mem _ hz))];congr 1;have k1:=yH (hy y (by simp));have k2:=yH hm;unfold wC kq;rw[k1,k2];cases dX y.k<;>cases dX o.k<;>rfl
      exact key pre hp
     rw[e,AH r (pre++[o]) (fun y hy=>by
      rcases List.mem_append.1 hy with hy | hy
      ·exact hp y hy
      ·simp at hy;subst hy;exact hm)]
def pA:ai:=⟨51,fun | [x]=>(match a6 x with | some l=>if l.length < 4611686018427387904 then some (.bool (bM l)) else none | none=>none) | _=>none⟩
theorem pJ:pA.f=51:=(rfl)
theorem GM {x:AV} {l:List aF} (hx:a6 x=some l) (h:l.length < 4611686018427387904):pA.S [x]=some (.bool (bM l)):=by
 simp only[pA,hx,if_pos h]
theorem G2:az Tryz.prog pA:=fun args v hv=>by
 unfold pA at hv ⊢;dsimp only at hv ⊢;split at hv
 ·rename_i x;split at hv
  ·rename_i l hd;split at hv
   ·rename_i hl;cases hv;have hr:=bC hd;refine aH (n:=l.length+6) (h':=h0) (aG (ss:=[mm,xR]) (by simp[vt,Nu])) ?_ rfl (by simp[AV.af,hr]);rcases aD hd with⟨rfl,rfl⟩ | rfl
    ·simp[Ig,c51,mB,rE,ae,cm,iW,bM,jn]
    ·have lp:=BR (l.length+4) l hl (by omega) l [] (l.length+5) rfl (by omega);have h5:=aZ l;rw[AH l [] (fun y hy=>by simp at hy)] at lp;simp only[mB,List.length_nil,Int.natCast_zero] at lp;unfold bM
     cases hg:jn [] l with
     | false=>
       rw[hg] at lp;simp only[Bool.false_eq_true,if_false] at lp;simp[Ig,c51,mB,h5,cm,iW,lp]
     | true=>
       rw[hg] at lp;simp only[if_true] at lp;by_cases h128:l.length≤128
       ·have h128':((l.length:Int)≤128)=True:=eq_true (by omega);simp[Ig,c51,mB,h5,cm,iW,lp,h128,h128']
       ·have h128':((l.length:Int)≤128)=False:=eq_false (by omega);simp[Ig,c51,mB,h5,cm,iW,lp,h128,h128']
   ·cases hv
  ·cases hv
 ·cases hv
theorem wI {α:Type} {p q:α→Bool}:∀l:List α,(∀x ∈ l,p x=q x)→dt p l=dt q l
 | [],_=>rfl
 | x::r,h=>by
   unfold dt;rw[h x (by simp),wI r (fun y hy=>h y (List.mem_cons_of_mem _ hy))]
theorem rU {α:Type} {p:α→Bool}:∀{l:List α} {i:Nat} {x:α},dt p l=some i→l[i]? =some x→p x=true
 | [],i,x,h,_=>by simp[dt] at h
 | y::r,i,x,h,hx=>by
   unfold dt at h
   cases hp:p y with
   | true=>
     rw[hp,if_pos rfl] at h;cases h;simp at hx;rw[←hx];exact hp
   | false=>
     rw[hp,if_neg (by simp)] at h;rw[Option.map_eq_some_iff] at h;obtain⟨j,h1,rfl⟩:=h;exact rU h1 (by simpa using hx)
theorem FE {l:List aF} (hg:bM l=true) (s:List UInt8) (b:Bool):
 ((aQ l s (!b)).2=false∧re l s b=-1)∨((aQ l s (!b)).2=true∧∃i:Nat,re l s b=(i:Int)∧l[i]? =some (aQ l s (!b)).1):=by
 have e:dt (fun o=>o.n==s&&bK o.k==b) l=dt (fun o=>o.n==s&&dX o.k==!b) l:=wI l fun o ho=>by
  rw[yH (nf hg o ho)];cases dX o.k<;>cases b<;>rfl
 unfold re aQ;rw[e]
 cases hf:dt (fun o=>o.n==s&&dX o.k==!b) l with
 | none=>exact .inl ⟨rfl,rfl⟩
 | some i=>
   dsimp only;rw[if_pos hg];have hlt:=mQ hf;exact .inr ⟨rfl,i,rfl,by simp[List.getD,List.getElem?_eq_getElem hlt]⟩
theorem wu:∀(post pre:List aF),jn pre post=true→∀(i j:Nat) (x o:aF),(pre++post)[i]? =some x→post[j]? =some o→i < pre.length+j→kq x o=false
 | [],pre,_,i,j,x,o,_,ho,_=>by simp at ho
 | y::r,pre,hg,i,j,x,o,hx,ho,hij=>by
   unfold jn at hg
   cases hm:iI y.n y.k y.l with
   | false=>rw[hm] at hg;simp at hg
   | true=>
     rw[hm] at hg;simp only[Bool.not_true,Bool.false_eq_true,if_false] at hg;split at hg
     ·cases hg
     ·rename_i hn
      cases j with
      | zero=>
        simp at ho;subst ho;have hi:i < pre.length:=by omega
        rw[List.getElem?_append_left hi] at hx;rw[pN] at hn;simp only[List.any_eq_true,not_exists,not_and] at hn;have:=hn x (List.mem_of_getElem? hx);simpa using this
      | succ j=>
        refine wu r (pre++[y]) hg i j x o (by simpa using hx) (by simpa using ho) (by simp;omega)
theorem GP {l:List aF} (hg:bM l=true) {o:aF} (ho:o ∈ l):aQ l o.n (dX o.k)=(o,true):=by
 obtain⟨j,hj,rfl⟩:=List.getElem_of_mem ho;have hA:jn [] l=true:=by unfold bM at hg;rw[Bool.and_eq_true] at hg;exact hg.2
 have hs:(dt (fun x=>x.n==l[j].n&&dX x.k==dX l[j].k) l).isSome=true:=by
  rw[pN,List.any_eq_true];exact⟨l[j],ho,by simp⟩
 obtain⟨i,hi⟩:=Option.isSome_iff_exists.1 hs;have hlt:=mQ hi;have hp:=rU hi (List.getElem?_eq_getElem hlt)
 have hle:i≤j:=by
  have key:∀(l:List aF) (p:aF→Bool) (i j:Nat) (x:aF),dt p l=some i→l[j]? =some x→p x=true→i≤j:=by
   intro l p
   induction l with
   | nil=>intro i j x h;simp[dt] at h
   | cons y r ih=>
     intro i j x h hx hpx;unfold dt at h
     cases hpy:p y with
     | true=>rw[hpy,if_pos rfl] at h;cases h;omega
     | false=>
       rw[hpy,if_neg (by simp)] at h;rw[Option.map_eq_some_iff] at h;obtain⟨k,h1,rfl⟩:=h
       cases j with
       | zero=>simp at hx;subst hx;rw[hpx] at hpy;cases hpy
       | succ j=>have:=ih k j x h1 (by simpa using hx) hpx;omega
  exact key l _ i j l[j] hi (List.getElem?_eq_getElem hj) (by simp)
 have hij:i=j:=by
  rcases Nat.lt_or_ge i j with h | h
  ·have:=wu l [] hA i j l[i] l[j] (by simp) (List.getElem?_eq_getElem hj) (by simpa using h);unfold kq at this;rw[hp] at this;cases this
  ·omega
 subst hij;unfold aQ;rw[hi];dsimp only;rw[if_pos hg];simp[List.getD,List.getElem?_eq_getElem hlt]
theorem Ji (s:List UInt8):∀(l:List aF) (n:Int),n≤wR s l n∧∀o ∈ l,o.n=s→o.l≤wR s l n
 | [],n=>⟨Int.le_refl _,fun o h=>by simp at h⟩
 | x::r,n=>by
   obtain⟨h1,h2⟩:=Ji s r (if x.n=s∧n < x.l then x.l else n);unfold wR;have hge:n≤(if x.n=s∧n < x.l then x.l else n):=by split<;>omega
   refine⟨Int.le_trans hge h1,fun o ho hs=>?_⟩;rcases List.mem_cons.1 ho with rfl | ho
   ·refine Int.le_trans ?_ h1;by_cases hc:n < o.l
    ·rw[if_pos ⟨hs,hc⟩];exact Int.le_refl _
    ·rw[if_neg (fun h=>hc h.2)];omega
   ·exact h2 o ho hs
theorem Cc (s:List UInt8):∀(l:List aF) (n:Int),wR s l n=n∨∃o ∈ l,o.n=s∧o.l=wR s l n
 | [],n=>.inl rfl
 | x::r,n=>by
   unfold wR;by_cases hc:x.n=s∧n < x.l
   ·rw[if_pos hc];rcases Cc s r x.l with h | ⟨o,h1,h2,h3⟩
    ·exact .inr ⟨x,by simp,hc.1,h.symm⟩
    ·exact .inr ⟨o,List.mem_cons_of_mem _ h1,h2,h3⟩
   ·rw[if_neg hc];rcases Cc s r n with h | ⟨o,h1,h2,h3⟩
    ·exact .inl h
    ·exact .inr ⟨o,List.mem_cons_of_mem _ h1,h2,h3⟩
theorem jF {l:List aF} {s:List UInt8} {b:Bool} (h:(aQ l s b).2=true):(aQ l s b).1 ∈ l∧(aQ l s b).1.n=s∧dX (aQ l s b).1.k=b:=by
 unfold aQ at h ⊢;split at h
 ·cases h
 ·rename_i i hi;split at h
  ·rename_i hg;rw[if_pos hg];have hlt:=mQ hi;have hp:=rU hi (List.getElem?_eq_getElem hlt);simp only[Bool.and_eq_true,beq_iff_eq] at hp;have e:l.getD i eX=l[i]:=by simp[List.getD,List.getElem?_eq_getElem hlt]
   dsimp only;rw[e];exact⟨List.getElem_mem hlt,hp.1,hp.2⟩
  ·cases h
theorem rN {l:List aF} {s:List UInt8} {b:Bool} (h:(aQ l s b).2=false):(aQ l s b).1=eX:=by
 unfold aQ at h ⊢;split at h
 ·rfl
 ·rename_i i hi;split at h
  ·cases h
  ·rename_i hg;rw[if_neg hg]
theorem BK {l:List aF} (hg:bM l=true) (s:List UInt8):uM l s=max (aQ l s false).1.l (aQ l s true).1.l:=by
 obtain⟨h1,h2⟩:=Ji s l 0
 have up:∀b,(aQ l s b).1.l≤uM l s:=fun b=>by
  cases hb:(aQ l s b).2 with
  | true=>exact h2 _ (jF hb).1 (jF hb).2.1
  | false=>rw[rN hb];exact h1
 have down:uM l s≤max (aQ l s false).1.l (aQ l s true).1.l:=by
  rcases Cc s l 0 with h | ⟨o,ho,hs,hl⟩
  ·unfold uM;rw[h];have:=(vy l s false).1;omega
  ·unfold uM;rw[←hl];have e:=GP hg ho;rw[hs] at e
   cases ha:dX o.k with
   | true=>
     rw[ha] at e;rw[e];dsimp only;omega
   | false=>
     rw[ha] at e;rw[e];dsimp only;omega
 have:=up false;have:=up true;omega
theorem Qw {l:List aF} (hg:bM l=true) (s:List UInt8):(0 < uM l s)↔((aQ l s false).2||(aQ l s true).2)=true:=by
 rw[BK hg]
 have pos:∀b,(aQ l s b).2=true→0 < (aQ l s b).1.l:=fun b h=>by
  have:=Cn (nf hg _ (jF h).1);omega
 cases h1:(aQ l s false).2 with
 | true=>have:=pos false h1;simp;omega
 | false=>
   cases h2:(aQ l s true).2 with
   | true=>have:=pos true h2;simp;omega
   | false=>rw[rN h1,rN h2];simp[eX]
def js (l:List aF):List AV:=l.flatMap aF.cells
theorem xK (l:List aF):(l.map aF.enc).flatMap AV.cells=js l:=by
 unfold js
 induction l with
 | nil=>rfl
 | cons t r ih=>rw[List.map_cons,List.flatMap_cons,List.flatMap_cons,ih];rfl
theorem pW (l:List aF):(js l).length=l.length*3:=by
 rw[←xK,sh (qw l),List.length_map]
theorem sb (l:List aF):AV.af (js l)=0:=by
 rw[←xK];exact ke (tD (qw l))
theorem GH (l:List aF) (t:aF):js (l++[t])=js l++t.cells:=by simp[js]
theorem VB {h:aa} {n0 d id:Nat} (x:aF) (r:List aF) (hid:n0≤id) (hg:h.get id=some (.row (js (x::r)))):
 gr h n0 (d+2) (.vec id 0 (r.length+1) 3 (r.length+1))=some (.sl ((x::r).map aF.enc),[id]):=
 p8 hid hg (by omega) (qw (x::r)) (by simp) (by rw[pW];simp) (by rw[xK,List.take_of_length_le];rw[pW];simp)
def opsV (l:List aF):AV:=match l with
 | []=>.ax
 | _=>.sl (l.map aF.enc)
theorem BQ (l:List aF):(opsV l).refs=0:=by
 cases l with
 | nil=>rfl
 | cons o r=>rfl
theorem Eh (l:List aF):a6 (opsV l)=some l:=by
 cases l with
 | nil=>rfl
 | cons o r=>exact pE (o::r)
theorem Ew (n:Nat) (l:List aF) (hl:l.length < 1000000):∀(post pre:List aF) (acc:List aF) (m md:Nat),l=pre++post→acc=pre→acc≠[]→post.length < m→
 ∃md',er 1 0 (aT (ak (aw (a8 []) (n+1)) (n+1) oy) mh 1 m (Hg (.ptr 0 0) (.vec 1 0 acc.length 3 acc.length) (.int .i64 pre.length)) ⟨2,[.row (js acc),.row [.sl (l.map aF.enc)]],1,md⟩)=
   some (.exit 0,FM 35 [(3,.vec 1 0 l.length 3 l.length)],⟨2,[.row (js l),.row [.sl (l.map aF.enc)]],0,md'⟩)
 | _,_,_,0,_,_,_,_,h=>by omega
 | [],pre,acc,m+1,md,hs,ha,hne,hm=>by
   rw[ae];rw[List.append_nil] at hs;subst hs ha;have hf:=sb acc;have h5:AV.af (acc.map aF.enc)=0:=aZ _;exact⟨md,by simp[oy,mh,hf,h5]⟩
 | o::r,pre,acc,m+1,md,hs,ha,hne,hm=>by
   rw[ae];have hps:pre.length+r.length+1=l.length:=by rw[hs];simp;omega
   have hal:acc.length=pre.length:=by rw[ha]
   have hf:=sb acc;have h8:(acc.length+1)*40≤140737488355328:=by omega
   have h9:acc.length+1 < 9223372036854775808:=by omega
   have h11:=pW acc;have h10:(js acc).take (acc.length*3)=js acc:=by rw[List.take_of_length_le];rw[pW];exact Nat.le_refl _
   have h6:((pre.length:Int) < (l.length:Int))=True:=eq_true (by omega);have hc:l[pre.length]? =some o:=by rw[hs];simp
   have h3:IntKind.i64.wrap ((pre.length:Int)+1)=(pre.length:Int)+1:=wrap_i64 (by omega) (by omega);obtain⟨md',ih⟩:=Ew n l hl r (pre++[o]) (acc++[o]) m (min md 1) (by rw[hs];simp) (by rw[ha]) (by simp) (by simp at hm;omega);have h4:o.enc=.agg [.str o.n,.str o.k,.int .i64 o.l]:=rfl;have h5:AV.af (l.map aF.enc)=0:=aZ l;have e1:js (acc++[o])=js acc++[.str o.n,.str o.k,.int .i64 o.l]:=GH _ _;have hf2:AV.af (js acc++[.str o.n,.str o.k,.int .i64 o.l])=0:=by rw[←e1];exact sb _
   refine⟨md',?_⟩;simp only[List.length_append,List.length_cons,List.length_nil,Nat.zero_add,Int.natCast_add,Int.natCast_one,e1] at ih;simp[oy,mh,h5,au,hf,h8,h9,h10,h11,h6,hc,h3,h4,hf2];exact ih
theorem LM (n:Nat) (l:List aF) (hl:l.length < 1000000):∀(o:aF) (post:List aF) (m md:Nat),l=o::post→post.length+1 < m→
 ∃md',er 1 0 (aT (ak (aw (a8 []) (n+1)) (n+1) oy) mh 1 m (Hg (.ptr 0 0) .ax (.int .i64 0)) ⟨1,[.row [.sl (l.map aF.enc)]],1,md⟩)=
   some (.exit 0,FM 35 [(3,.vec 1 0 l.length 3 l.length)],⟨2,[.row (js l),.row [.sl (l.map aF.enc)]],0,md'⟩)
 | o,r,0,md,hs,hm=>by omega
 | o,r,m+1,md,hs,hm=>by
   have hps:r.length+1=l.length:=by rw[hs];simp
   rw[ae];have h6:(0 < l.length)=True:=eq_true (by omega);have hc:l[0]? =some o:=by rw[hs];rfl
   have h3:IntKind.i64.wrap 1=1:=rfl;obtain⟨md',ih⟩:=Ew n l hl r [o] [o] m md (by rw[hs];rfl) rfl (by simp) (by omega);have h4:o.enc=.agg [.str o.n,.str o.k,.int .i64 o.l]:=rfl;have h5:AV.af (l.map aF.enc)=0:=aZ l;have hmap:l.map aF.enc=.agg [.str o.n,.str o.k,.int .i64 o.l]::r.map aF.enc:=by rw[hs];rfl
   have h7:AV.af (.agg [.str o.n,.str o.k,.int .i64 o.l]::r.map aF.enc)=0:=by rw[←hmap];exact h5
   have hlr:r.length+1=l.length:=hps;refine⟨md',?_⟩;rw[hmap] at ih ⊢;simp only[List.length_cons,List.length_nil,Nat.zero_add,Int.natCast_add,Int.natCast_one,show js [o]=[.str o.n,.str o.k,.int .i64 o.l] from rfl] at ih;have h6':(0 < r.length+1)=True:=eq_true (by omega);have h5:AV.af (r.map aF.enc)=0:=aZ r;simp[oy,mh,h5,au,h3,h6',h7];exact ih
def qm:ai:=⟨22,fun | [.agg [x]]=>(match a6 x with | some l=>if l.length < 1000000 then some (opsV l) else none | none=>none) | _=>none⟩
theorem ve:qm.f=22:=(rfl)
theorem GK {x:AV} {l:List aF} (hx:a6 x=some l) (h:l.length < 1000000):qm.S [.agg [x]]=some (opsV l):=by
 simp only[qm,hx,if_pos h]
theorem G8:az Tryz.prog qm:=fun args v hv=>by
 unfold qm at hv ⊢;dsimp only at hv ⊢;split at hv
 ·rename_i x;split at hv
  ·rename_i l hd;split at hv
   ·rename_i hl;cases hv;have hr:=bC hd;refine aH (n:=l.length+6) (h':=h0) (aG (ss:=[]) (by simp)) ?_ (BQ l) (by simp[AV.af,AV.refs,hr]);rcases aD hd with⟨rfl,rfl⟩ | rfl
    ·simp[Ow,Uz,mh,oy,ae,opsV]
    ·cases l with
     | nil=>simp[Ow,Uz,mh,oy,ae,opsV]
     | cons o r=>
       obtain⟨md,lp⟩:=LM (r.length+5) (o::r) hl o r (r.length+6) 0 rfl (by omega);have h5:=aZ (o::r);have h4:o.enc=.agg [.str o.n,.str o.k,.int .i64 o.l]:=rfl;simp only[mh,Hg,List.length_cons] at lp;have fk:∀d wl md,gr ⟨2,[.row (js (o::r)),.row [.sl ((o::r).map aF.enc)]],wl,md⟩ 0 (d+2) (.vec 1 0 (r.length+1) 3 (r.length+1))=some (.sl ((o::r).map aF.enc),[1]):=fun d wl md=>VB o r (Nat.zero_le 1) rfl
       unfold opsV;dsimp only;rw[show (o::r).length+6=r.length+7 from rfl];generalize (o::r).map aF.enc=U at *;simp[Ow,Uz,mh,h5,lp,fk,-jZ]
   ·cases hv
  ·cases hv
 ·cases hv
end Go.Proofs.YtjmeonoabiliiaaGreatDoor
