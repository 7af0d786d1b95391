import Derived.Test.YtjmeonoabiliiaaGreatDoorAt
import Derived.Test.YtjmeonoabiliiaaGreatDoorBd5
set_option linter.all false
set_option maxHeartbeats 16000000
set_option maxRecDepth 100000
namespace Go.Proofs.YtjmeonoabiliiaaGreatDoor
open Go Sz
mutual
theorem Kq:∀t u:Tm,t.fg kf=true->u.fg kf=true->nL t u=true->t=u
 |.nl k n s,u,h1,h2,h=>by
   rw[Ds] at h;simp only[Bool.and_eq_true,decide_eq_true_eq,beq_iff_eq] at h;obtain⟨⟨⟨e1,e2⟩,e3⟩,e4⟩:=h
   cases u with
   |nl k2 n2 s2=>cases e1;cases e2;cases e3;rfl
   |mk k2 n2 s2 ws=>
     obtain⟨g1,_⟩:=j6 h2;have g1:(decide (k2=2)&&!ws.isEmpty)=true:=g1
     cases ws with
     |nil=>simp at g1
     |cons x r=>exact absurd (show jf [] (x::r)=true from e4) (by rw[oS];simp)
 |.mk k n s us,u,h1,h2,h=>by
   rw[Ds] at h;simp only[Bool.and_eq_true,decide_eq_true_eq,beq_iff_eq] at h;obtain⟨⟨⟨e1,e2⟩,e3⟩,e4⟩:=h;obtain⟨f1,f2⟩:=j6 h1;have f1:(decide (k=2)&&!us.isEmpty)=true:=f1
   cases u with
   |nl k2 n2 s2=>
     have e4:jf us []=true:=e4
     cases us with
     |nil=>simp at f1
     |cons x r=>simp[jf] at e4
   |mk k2 n2 s2 ws=>have e:us=ws:=GX us ws f2 (j6 h2).2 e4;cases e1;cases e2;cases e3;rw[e]
theorem GX:∀us ws:List Tm,Tm.eX kf us=true->Tm.eX kf ws=true->jf us ws=true->us=ws
 |[],ws,_,_,h=>by rw[oS] at h;exact (List.isEmpty_iff.1 h).symm
 |x::r,[],_,_,h=>by simp[jf] at h
 |x::r,y::q,h1,h2,h=>by simp only[Tm.eX,Bool.and_eq_true] at h1 h2;rw[tH,Bool.and_eq_true] at h;rw[Kq x y h1.1 h2.1 h.1,GX r q h1.2 h2.2 h.2]
end
theorem Db{t:Tm}{n:Nat}(h:Rdd t n)(hn:n<=602):uu t=(wF [] false (iZ (eS (cU t))) t 1200 false,0):=by unfold uu B8;have:=S0 h;rw[if_pos ⟨h.Dj,rfl⟩,if_neg (by omega)]
noncomputable def Cf:List aZ:=[oA,kU,qP,mJ,sx,Hz]
theorem Yt:∀s∈Cf,dX Tryz.prog bV s:=by simp[Cf,D4,uN.lift,GF,xV,D5,Ub.lift]
theorem JP(s r:List UInt8):∃h',aH (cV Cf) 20 10 [.str s,.str r] h0=some (.bool true,h'):=by
 have q0:=E4;have q1:=nE;have jI:=dN bw;by_cases l1:(600:Int)<(s.length:Int)
 .exact⟨_,by simp[Ae,TN,Cf,cW,cA,dM,cQ,jn,ox,q0,l1];with_reducible rfl⟩
 by_cases l2:(600:Int)<(r.length:Int)
 .exact⟨_,by simp[Ae,TN,Cf,cW,cA,dM,cQ,jn,ox,q0,l1,l2];with_reducible rfl⟩
 have m1:s.length+2<9223372036854775808:=by omega
 have m2:r.length+2<9223372036854775808:=by omega
 have q2:=vG (gW bw) (by decide) (s++[32,46]);have q3:=vG (gW bw) (by decide) (r++[32,46])
 cases hR:po bw (s++[32,46]) with
 |mk p e=>
 obtain⟨t,ns⟩:=p
 cases hR2:po bw (r++[32,46]) with
 |mk p e2=>
 obtain⟨u,ns2⟩:=p;rw[hR] at q2;rw[hR2] at q3;unfold uE at q2 q3;dsimp only at q2 q3;have ur:=ar t;have uc:=dy t;have vr:=ar u;have vc:=dy u;have n1:=nQ ns;have o1:=CP ns;have n2:=nQ ns2;have o2:=CP ns2;rw[au t] at q2;rw[au u] at q3;by_cases he:e=0
 rotate_left
 .generalize bw.map aY.aR=pt at *;generalize fY ns=vn at *;generalize fY ns2=vn2 at *;rcases o1 with rfl|⟨W,rfl⟩<;>rcases o2 with rfl|⟨W2,rfl⟩<;>exact⟨_,by simp[aE,Ae,TN,Cf,cW,cA,dM,cQ,jn,ox,q0,q1,q2,q3,l1,l2,m1,m2,ur,uc,vr,vc,jI,he];with_reducible rfl⟩
 by_cases he2:e2=0
 rotate_left
 .subst he;generalize bw.map aY.aR=pt at *;generalize fY ns=vn at *;generalize fY ns2=vn2 at *;rcases o1 with rfl|⟨W,rfl⟩<;>rcases o2 with rfl|⟨W2,rfl⟩<;>exact⟨_,by simp[aE,Ae,TN,Cf,cW,cA,dM,cQ,jn,ox,q0,q1,q2,q3,l1,l2,m1,m2,ur,uc,vr,vc,jI,he2];with_reducible rfl⟩
 subst he he2;have rt:=Km hR;have ru:=Km hR2;have hls:(s++[32,46]).length<=602:=by simp;omega
 have hlr:(r++[32,46]).length<=602:=by simp;omega
 have okt:FN t:=⟨by have:=rt.gr;omega,rt.rng⟩
 have oku:FN u:=⟨by have:=ru.gr;omega,ru.rng⟩
 have q4:=s9 (gW bw) t okt (by decide);have q5:=s9 (gW bw) u oku (by decide);have q6:=xw t okt;have q7:=xw u oku;have q8:=Xd t u ⟨okt.1,oku.1⟩;rw[rt.Dj,ru.Dj,Bool.true_and,Bool.true_and] at q8;rw[Db rt hls] at q6;rw[Db ru hlr] at q7
 cases hW:tX bw t with
 |mk a g=>
 cases hW2:tX bw u with
 |mk b h=>
 rw[hW] at q4;rw[hW2] at q5;dsimp only at q4 q5 q6 q7;by_cases hg:g=0
 rotate_left
 .rw[au t] at q4;rw[au u] at q5;clear q6 q7 q8;generalize bw.map aY.aR=pt at *;generalize fY ns=vn at *;generalize fY ns2=vn2 at *;rcases o1 with rfl|⟨W,rfl⟩<;>rcases o2 with rfl|⟨W2,rfl⟩<;>exact⟨_,by simp[aE,Ae,TN,Cf,cW,cA,dM,cQ,jn,ox,q0,q1,q2,q3,q4,q5,l1,l2,m1,m2,ur,uc,vr,vc,jI,hg];with_reducible rfl⟩
 by_cases hh:h=0
 rotate_left
 .subst hg;rw[au t] at q4;rw[au u] at q5;clear q6 q7 q8;generalize bw.map aY.aR=pt at *;generalize fY ns=vn at *;generalize fY ns2=vn2 at *;rcases o1 with rfl|⟨W,rfl⟩<;>rcases o2 with rfl|⟨W2,rfl⟩<;>exact⟨_,by simp[aE,Ae,TN,Cf,cW,cA,dM,cQ,jn,ox,q0,q1,q2,q3,q4,q5,l1,l2,m1,m2,ur,uc,vr,vc,jI,hh];with_reducible rfl⟩
 subst hg hh;obtain⟨_,hgo,ha,hal⟩:=Pq hW;obtain⟨_,_,hb,hbl⟩:=Pq hW2;have m3:a.length+2<9223372036854775808:=by omega
 have rbt:=GL hgo (t:=t) ⟨rt.Dj,okt.1,rt.rng⟩;have rbu:=GL hgo (t:=u) ⟨ru.Dj,oku.1,ru.rng⟩;rw[(zS rt).1,<-ha] at rbt;rw[(zS ru).1,<-hb] at rbu;have q9:=vG (gW bw) (by decide) (a++[32,46]);have Mp:=RQ rt ru;generalize wF [] false (iZ (eS (cU t))) t 1200 false=P at *;generalize wF [] false (iZ (eS (cU u))) u 1200 false=Q at *;by_cases hc:(dC (a++[32,46])).2.2=0
 rotate_left
 .have h3:po bw (a++[32,46])=((CR,[]),3):=by
   unfold po;rw[hgo,if_neg (by simp),if_pos hc];rcases rbt.1 with h|h
   .exact absurd h hc
   .rw[h]
  rw[h3] at q9;unfold uE fY at q9;dsimp only at q9;rw[au t] at q4;rw[au u] at q5;rw[show CR.aR=.agg [.int .i64 0,.int .i64 0,.str [],.aD] from rfl] at q9;clear q6 q7 q8;generalize bw.map aY.aR=pt at *;generalize fY ns=vn at *;generalize fY ns2=vn2 at *;rcases o1 with rfl|⟨W,rfl⟩<;>rcases o2 with rfl|⟨W2,rfl⟩<;>exact⟨_,by simp[aE,Ae,TN,Cf,cW,cA,dM,cQ,jn,ox,q0,q1,q2,q3,q4,q5,q9,l1,l2,m1,m2,m3,ur,uc,vr,vc,jI];with_reducible rfl⟩
 obtain⟨ns3,h3⟩:=rbt.2 hc;rw[h3] at q9;unfold uE at q9;dsimp only at q9;have n3:=nQ ns3;have o3:=CP ns3;by_cases htu:t=u
 .subst htu;have hab:b=a:=by rw[ha,hb]
  rw[hab] at q5
  have hPQ:Q=P:=by rw[q6] at q7;cases q7;rfl
  rw[hPQ] at q7;rw[Ee] at q8;rw[au t] at q4 q6 q8 q9;generalize bw.map aY.aR=pt at *;generalize fY ns=vn at *;generalize fY ns2=vn2 at *;generalize fY ns3=vn3 at *;rcases o1 with rfl|⟨W,rfl⟩<;>rcases o2 with rfl|⟨W2,rfl⟩<;>rcases o3 with rfl|⟨W3,rfl⟩<;>exact⟨_,by simp[aE,Ae,TN,Cf,cW,cA,dM,cQ,jn,ox,q0,q1,q2,q3,q4,q6,q8,q9,l1,l2,m1,m2,m3,ur,uc,vr,vc,jI];with_reducible rfl⟩
 .have hab:¬a=b:=λe=>by
   rw[<-e] at rbu;obtain⟨ns4,h4⟩:=rbu.2 hc;rw[h3] at h4;exact htu (congrArg (λp=>p.1.1) h4)
  have hPQ:¬P=Q:=λe=>htu (Mp e)
  have hs:nL t u=false:=by
   cases hx:nL t u with
   |false=>rfl
   |true=>exact absurd (Kq t u rt.nod ru.nod hx) htu
  have al3:(a==b)=false:=by simpa using hab
  have al4:(P==Q)=false:=by simpa using hPQ
  rw[hs] at q8;rw[au t] at q4 q6 q9;rw[au u] at q5 q7;rw[au t,au u] at q8;generalize bw.map aY.aR=pt at *;generalize fY ns=vn at *;generalize fY ns2=vn2 at *;generalize fY ns3=vn3 at *;rcases o1 with rfl|⟨W,rfl⟩<;>rcases o2 with rfl|⟨W2,rfl⟩<;>rcases o3 with rfl|⟨W3,rfl⟩<;>exact⟨_,by simp[aE,Ae,TN,Cf,cW,cA,dM,cQ,jn,ox,q0,q1,q2,q3,q4,q5,q6,q7,q8,q9,l1,l2,m1,m2,m3,ur,uc,vr,vc,jI,hab,hPQ,al3,al4];with_reducible rfl⟩
theorem zi{H:Type}(ds:List (DataW H))(h:vl Tryz.prog Tryz.f10.params.toList (ds.map mL))(_:(DataW.weightsEach Tryz.prog Tryz.f10.params.toList ds).all (·<=reachBytes)=true):gY Tryz.prog bV 10 (ds.map mL) (.bool true):=by
 generalize ds.map mL=avs at h;rw[Tryz.params10] at h
 cases h with
 |cons h1 r1=>
   cases r1 with
   |cons h2 r2=>cases r2;obtain⟨s,rfl,_⟩:=MY Tryz.underlying9 h1;obtain⟨r,rfl,_⟩:=MY Tryz.underlying9 h2;obtain⟨h',e⟩:=JP s r;exact cf (kz Yt) e rfl (by simp[AV.aj,AV.aK])
end Go.Proofs.YtjmeonoabiliiaaGreatDoor
