import Derived.Test.YtjmeonoabiliiaaGreatDoorBd5
import Derived.Test.YtjmeonoabiliiaaGreatDoorBd4
import Derived.Test.YtjmeonoabiliiaaGreatDoorAt
import Derived.Test.YtjmeonoabiliiaaGreatDoorBd2
set_option linter.all false
set_option maxHeartbeats 16000000
set_option maxRecDepth 100000
namespace Go.Proofs.YtjmeonoabiliiaaGreatDoor
open Go Sz
theorem SA(n:Int):∀(A B:List Int) (k:Nat),n∉A->NO n (yT k (A++n::B))=some ((k+A.length:Nat):Int)
 |[],B,k,_=>by show (if n=n then some ((k:Nat):Int) else _)=_;rw[if_pos rfl];simp
 |a::A,B,k,h=>by show (if n=a then _ else NO n (yT (k+1) (A++n::B)))=_;rw[if_neg (λe=>h (by simp[e])),SA n A B (k+1) (λe=>h (by simp[e]))];congr 2;simp;omega
theorem OS{n:Int}{A B:List Int}(h:n∉A):qW (ff (A++n::B)) n=(A.length:Int):=by unfold qW ff;rw[SA n A B 0 h];simp
theorem IB{n:Int}:∀{P:List Int},n∈P->∃A B,P=A++n::B/\n∉A
 |[],h=>by simp at h
 |a::P,h=>by
   by_cases e:n=a
   .exact⟨[],P,by rw[e];rfl,by simp⟩
   .obtain⟨A,B,h1,h2⟩:=IB (P:=P) (by
     rcases List.mem_cons.1 h with h|h
     .exact absurd h e
     .exact h)
    exact⟨a::A,B,by rw[h1];rfl,by simp[e,h2]⟩
mutual
theorem UK:∀(t:Tm) (P:List Int),∃q,fF t P=P++q
 |.nl k n s,P=>by
   show ∃q,(if k=0 then jY n P else P)=P++q;split
   .unfold jY;split
    .exact⟨[],by simp⟩
    .exact⟨[n],rfl⟩
   .exact⟨[],by simp⟩
 |.mk k n s us,P=>by
   show ∃q,(if k=0 then jY n P else cN us P)=P++q;split
   .unfold jY;split
    .exact⟨[],by simp⟩
    .exact⟨[n],rfl⟩
   .exact tT us P
theorem tT:∀(us:List Tm) (P:List Int),∃q,cN us P=P++q
 |[],P=>⟨[],by simp[cN]⟩
 |t::r,P=>by obtain⟨q1,h1⟩:=UK t P;obtain⟨q2,h2⟩:=tT r (fF t P);exact⟨q1++q2,by show cN r (fF t P)=_;rw[h2,h1,List.append_assoc]⟩
end
theorem Rv{V P q:List Int}{n:Int}(hV:V=jY n P++q):(if qW (ff V) n<P.length then some P.length else if qW (ff V) n=P.length then some (P.length+1) else none)=some (jY n P).length:=by
 unfold jY at hV|-;by_cases h:n∈P
 .rw[if_pos h] at hV|-;obtain⟨A,B,e,hA⟩:=IB h
  have hx:qW (ff V) n=(A.length:Int):=by rw[hV,e,List.append_assoc];exact OS hA
  have hl:A.length<P.length:=by rw[e];simp
  rw[hx,if_pos (by omega)]
 .rw[if_neg h] at hV|-
  have hx:qW (ff V) n=(P.length:Int):=by rw[hV,List.append_assoc];exact OS h
  rw[hx,if_neg (by omega),if_pos rfl];simp
mutual
theorem LN{V:List Int}:∀(t:Tm) (P q:List Int),V=fF t P++q->mc (qW (ff V)) t P.length=some (fF t P).length
 |.nl k n s,P,q,h=>by
   by_cases hk:k=0
   .subst hk;exact Rv (n:=n) h
   .show (if k=0 then _ else some P.length)=some (if k=0 then jY n P else P).length;rw[if_neg hk,if_neg hk]
 |.mk k n s us,P,q,h=>by
   by_cases hk:k=0
   .subst hk;exact Rv (n:=n) h
   .show (if k=0 then _ else oS (qW (ff V)) us P.length)=some (if k=0 then jY n P else cN us P).length;have h:V=(if k=0 then jY n P else cN us P)++q:=h;rw[if_neg hk] at h;rw[if_neg hk,if_neg hk];exact Hp us P q h
theorem Hp{V:List Int}:∀(us:List Tm) (P q:List Int),V=cN us P++q->oS (qW (ff V)) us P.length=some (cN us P).length
 |[],P,q,h=>rfl
 |t::r,P,q,h=>by obtain⟨q2,h2⟩:=tT r (fF t P);have h1:=LN (V:=V) t P (q2++q) (by rw[h];show cN r (fF t P)++q=_;rw[h2,List.append_assoc]);unfold oS;rw[h1];exact Hp r (fF t P) q h
end
theorem L8{t:Tm}(hg:dp t=true):mc (qW (ff (bO t))) t 0=some (bO t).length:=by
 have e:bO t=fF t []:=by rw[tf,if_pos hg]
 rw[e];exact LN t [] [] (by simp)
theorem WH(k n:Int)(s:List UInt8)(us:List Tm):(GM k n s us).size=1+Tm.br us:=by
 cases us with
 |nil=>simp[GM,Tm.size,Tm.br]
 |cons x r=>simp[GM,Tm.size]
theorem Tb(k n:Int)(s:List UInt8)(us:List Tm):(GM k n s us).eZ=1+Tm.iX us:=by
 cases us with
 |nil=>simp[GM,Tm.eZ,Tm.iX]
 |cons x r=>simp[GM,Tm.eZ]
mutual
theorem r8(ix:Int->Int):∀t:Tm,(fE ix t).size=t.size/\(fE ix t).eZ=t.eZ
 |.nl k n s=>⟨rfl,rfl⟩
 |.mk k n s us=>by have h:=HA ix us;rw[fE];refine⟨by rw[WH,h.1];rfl,by rw[Tb,h.2];rfl⟩
theorem HA(ix:Int->Int):∀us:List Tm,Tm.br (vW ix us)=Tm.br us/\Tm.iX (vW ix us)=Tm.iX us
 |[]=>⟨rfl,rfl⟩
 |t::r=>by have h1:=r8 ix t;have h2:=HA ix r;rw[vW];simp only[Tm.br,Tm.iX];rw[h1.1,h1.2,h2.1,h2.2];exact⟨rfl,rfl⟩
end
theorem oF(ix:Int->Int)(t:Tm):(fE ix t).aj=t.aj/\(fE ix t).bj=(if t.aj=0 then ix t.bj else t.bj)/\(fE ix t).az=t.az/\(fE ix t).aa=t.aa.map (fE ix):=by rw[nW];exact se _ _ _ _
theorem SH{ix:Int->Int}(uF:∀a,0<=ix a/\ix a<1000000000){t:Tm}(h:eT t=true):eT (fE ix t)=true:=by
 obtain⟨f1,f2,f3,f4⟩:=oF ix t;unfold eT at h|-;rw[f1,f2,f3,f4,List.length_map];by_cases k0:t.aj=0
 .rw[if_pos k0] at h;rw[if_pos k0,if_pos k0];simp only[Bool.and_eq_true,decide_eq_true_eq] at h|-;have:=uF t.bj;exact⟨⟨⟨by omega,by omega⟩,h.1.2⟩,h.2⟩
 .rw[if_neg k0] at h;rw[if_neg k0,if_neg k0];exact h
mutual
theorem QY{ix:Int->Int}(uF:∀a,0<=ix a/\ix a<1000000000):∀t:Tm,t.gu eT=true->(fE ix t).gu eT=true
 |.nl k n s,h=>SH uF h
 |.mk k n s us,h=>by obtain⟨h1,h2⟩:=sv h;rw[gq,SH uF h1,(oF ix _).2.2.2,Bool.true_and,<-sB];exact Mb uF us h2
theorem Mb{ix:Int->Int}(uF:∀a,0<=ix a/\ix a<1000000000):∀us:List Tm,Tm.ft eT us=true->Tm.ft eT (vW ix us)=true
 |[],_=>rfl
 |t::r,h=>by simp only[Tm.ft,Bool.and_eq_true] at h;rw[vW];simp only[Tm.ft,Bool.and_eq_true];exact⟨QY uF t h.1,Mb uF r h.2⟩
end
theorem FK{ix:Int->Int}(uF:∀a,0<=ix a/\ix a<1000000000){t:Tm}(h:dp t=true):dp (fE ix t)=true:=by unfold dp at h|-;rw[(r8 ix t).1,(r8 ix t).2];rw[Bool.and_eq_true] at h|-;exact⟨h.1,QY uF t h.2⟩
theorem ab9:vS [32,46]=some [af7]:=by kernel_rfl
theorem abA{T:List a7}{st:St}(h:(ai T 1200 ⟨st.bQ,st.ax,0,[]⟩).1.2.2=true)(hk:(aP (ai T 1200 ⟨st.bQ,st.ax,0,[]⟩).2).aj=6)(hg:dp (ai T 1200 ⟨st.bQ,st.ax,0,[]⟩).1.1=true):vi T st=(((ai T 1200 ⟨st.bQ,st.ax,0,[]⟩).1.1,0),aA (ai T 1200 ⟨st.bQ,st.ax,0,[]⟩).2):=by unfold vi;dsimp only;rw[if_neg (by rw[h,hk];decide),if_pos hg]
theorem Uo{T:List a7}(hg:eN T=true){t:Tm}(cT:xB t):
 ((fw (wF T true (k9 (ff (bO t))) t 1200 false++[32,46])).2.2=0\/(fw (wF T true (k9 (ff (bO t))) t 1200 false++[32,46])).2.2=3)/\
 ((fw (wF T true (k9 (ff (bO t))) t 1200 false++[32,46])).2.2=0->∃ns,IE T (wF T true (k9 (ff (bO t))) t 1200 false++[32,46])=((fE (qW (ff (bO t))) t,ns),0)):=by
 have uF:∀a,0<=qW (ff (bO t)) a/\qW (ff (bO t)) a<1000000000:=λa=>Ap (zY t) a
 obtain⟨h1,y,L,hc,_,hr⟩:=W6 (T:=T) (ix:=qW (ff (bO t))) hg uF t.size t 1200 false [32,46] (Nat.le_refl _) cT (by decide) (by decide) (oT (by decide));change eL (wF T true (k9 (ff (bO t))) t 1200 false) (y::L) [32,46] at hc;have hq:=hc _ ab9;refine⟨Up hq,λh0=>?_⟩;generalize wF T true (k9 (ff (bO t))) t 1200 false++[32,46]=s at *;have ha:=UM hq h0;have hgd:=HE s
 have hn:jk (y::L):=λx hx=>by
  have hm:x∈mZ (fw s).1:=by rw[ha];exact List.mem_append.2 (.inl hx)
  have:=List.all_eq_true.1 (J3 hgd.1) x hm;unfold yD at this;simp only[Bool.and_eq_true,decide_eq_true_eq] at this;exact this.2.1
 obtain⟨lv,r,b1,b2,b3,_,b5⟩:=hr hn;have dI:(fw s).1.length=L.length+2:=by rw[<-jd,ha];simp
 have qS:(Gw (fw s).1 0).ax=(y::L)++af7::[]:=by show (mZ (fw s).1).drop 0=_;rw[ha];rfl
 have hvl:(bO t).length<=100000:=by have:=sb t;omega
 have N7:uP af7:=.inl rfl;obtain⟨s1,a1,a2,a3,a4⟩:=b5.stop (m:=1200) b1 qS (show Wv 0 (Gw (fw s).1 0) from⟨rfl,rfl⟩) (L8 cT.1) hvl (N7.XT (T:=T) (by decide) r).1 (λ_=>N7) (λe=>by rw[zZ (by rfl)] at e;cases e);have hgt:=FK uF cT.1;have ho:=abA (T:=T) (st:=Gw (fw s).1 0) (by show (ai T 1200 (Gw (fw s).1 0)).1.2.2=true;rw[a4]) (by show (aP (ai T 1200 (Gw (fw s).1 0)).2).aj=6;rw[a4,oj a1];rfl) (by show dp (ai T 1200 (Gw (fw s).1 0)).1.1=true;rw[a4];exact hgt);change vi T (Gw (fw s).1 0)=(((ai T 1200 (Gw (fw s).1 0)).1.1,0),aA (ai T 1200 (Gw (fw s).1 0)).2) at ho;rw[a4] at ho;refine⟨s1.ae,?_⟩;unfold IE
 rw[if_neg (by rw[hg];simp),if_neg (λe=>e h0),ho,if_neg (by
  rintro (e|e)
  .exact absurd (show (0:Int)=2 from e) (by decide)
  .have e2:((s1.bQ+1:Nat):Int)<((fw s).1.length:Int):=e;have e3:(Gw (fw s).1 0).bQ=0:=rfl;rw[a2,e3,dI,List.length_cons] at e2;omega),if_neg (λe=>e rfl)]
 rfl
def ib:Nat->List Int
 |0=>[]
 |k+1=>ib k++[(k:Int)]
theorem Ew:∀k,(ib k).length=k
 |0=>rfl
 |k+1=>by show (ib k++[_]).length=_;rw[List.length_append,Ew k];rfl
theorem uu:∀{k:Nat} {i:Nat},((i:Int)∈ib k)↔i<k
 |0,i=>by simp[ib]
 |k+1,i=>by show (i:Int)∈ib k++[(k:Int)]↔_;rw[List.mem_append,uu (k:=k),List.mem_singleton];omega
theorem ID{ix:Int->Int}{n:Int}(h0:0<=ix n){j k:Nat}(h:(if ix n<j then some j else if ix n=j then some (j+1) else none)=some k):jY (ix n) (ib j)=ib k:=by
 obtain⟨i,hi⟩:∃i:Nat,ix n=(i:Int):=⟨(ix n).toNat,by omega⟩
 rw[hi] at h|-;unfold jY;by_cases h1:i<j
 .rw[if_pos (by omega)] at h;cases h;rw[if_pos (uu.2 h1)]
 .rw[if_neg (by omega)] at h;by_cases h2:(i:Int)=j
  .rw[if_pos h2] at h;cases h;obtain rfl:i=j:=by omega
   rw[if_neg (λe=>by have:=uu.1 e;omega)];rfl
  .rw[if_neg h2] at h;cases h
mutual
theorem KV{ix:Int->Int}(uF:∀a,0<=ix a):∀(t:Tm) (j k:Nat),mc ix t j=some k->fF (fE ix t) (ib j)=ib k
 |.nl kd n s,j,k,h=>by
   unfold mc at h;rw[fE];show (if kd=0 then jY (if kd=0 then ix n else n) (ib j) else ib j)=_;by_cases hk:kd=0
   .rw[if_pos hk] at h;rw[if_pos hk,if_pos hk];exact ID (uF n) h
   .rw[if_neg hk] at h;cases h;rw[if_neg hk]
 |.mk kd n s us,j,k,h=>by
   unfold mc at h;rw[r9,(oF ix _).1,(oF ix _).2.1,(oF ix _).2.2.2];show (if kd=0 then jY (if kd=0 then ix n else n) (ib j) else cN (us.map (fE ix)) (ib j))=_;by_cases hk:kd=0
   .rw[if_pos hk] at h;rw[if_pos hk,if_pos hk];exact ID (uF n) h
   .rw[if_neg hk] at h;rw[if_neg hk,<-sB];exact H7 uF us j k h
theorem H7{ix:Int->Int}(uF:∀a,0<=ix a):∀(us:List Tm) (j k:Nat),oS ix us j=some k->cN (vW ix us) (ib j)=ib k
 |[],j,k,h=>by cases h;rfl
 |t::r,j,k,h=>by unfold oS at h;obtain⟨i,h1,h2⟩:=Option.bind_eq_some_iff.1 h;rw[vW];show cN (vW ix r) (fF (fE ix t) (ib j))=_;rw[KV uF t j i h1];exact H7 uF r i k h2
end
theorem Xd{k i:Nat}(h:i<k):qW (ff (ib k)) (i:Int)=(i:Int):=by
 have key:∀(k i:Nat),i<k->∃B,ib k=ib i++(i:Int)::B:=by
  intro k
  induction k with
  |zero=>intro i h;omega
  |succ k ih=>
    intro i h;by_cases e:i=k
    .subst e;exact⟨[],rfl⟩
    .obtain⟨B,hB⟩:=ih i (by omega);exact⟨B++[(k:Int)],by show ib k++[_]=_;rw[hB];simp⟩
 obtain⟨B,hB⟩:=key k i h;rw[hB,OS (λe=>by have:=uu.1 e;omega),Ew]
theorem SF{ix iy:Int->Int}(uF:∀a,0<=ix a){n:Int}{j k m:Nat}(h:(if ix n<j then some j else if ix n=j then some (j+1) else none)=some k)(hm:k<=m)(hy:∀i:Nat,i<m->iy i=i):iy (ix n)=ix n:=by
 have h0:=uF n;obtain⟨i,hi⟩:∃i:Nat,ix n=(i:Int):=⟨(ix n).toNat,by omega⟩
 rw[hi] at h|-;refine hy i ?_;by_cases h1:(i:Int)<j
 .rw[if_pos h1] at h;cases h;omega
 .rw[if_neg h1] at h;by_cases h2:(i:Int)=j
  .rw[if_pos h2] at h;cases h;omega
  .rw[if_neg h2] at h;cases h
mutual
theorem Si{ix iy:Int->Int}(uF:∀a,0<=ix a):∀(t:Tm) (j k m:Nat),t.gu eT=true->mc ix t j=some k->k<=m->(∀i:Nat,i<m->iy i=i)->fE iy (fE ix t)=fE ix t
 |.nl kd n s,j,k,m,_,h,hm,hy=>by
   unfold mc at h;rw[fE];show Tm.nl kd (if kd=0 then iy (if kd=0 then ix n else n) else if kd=0 then ix n else n) s=_;by_cases hk:kd=0
   .rw[if_pos hk] at h;rw[if_pos hk,if_pos hk];rw[SF uF h hm hy]
   .rw[if_neg hk,if_neg hk]
 |.mk kd n s us,j,k,m,hg,h,hm,hy=>by
   unfold mc at h;obtain⟨f1,f2,f3,f4⟩:=oF ix (.mk kd n s us);obtain⟨g1,g2⟩:=sv hg;rw[nW iy,f1,f2,f3,f4,nW ix (.mk kd n s us)];show GM kd (if kd=0 then iy (if kd=0 then ix n else n) else if kd=0 then ix n else n) s ((us.map (fE ix)).map (fE iy))=GM kd (if kd=0 then ix n else n) s (us.map (fE ix));by_cases hk:kd=0
   .subst hk;obtain⟨_,e2⟩:=sC g1 (by show ¬(0:Int)=2;decide);obtain rfl:us=[]:=e2;rw[if_pos rfl] at h;rw[if_pos rfl,if_pos rfl,SF uF h hm hy];rfl
   .rw[if_neg hk] at h;rw[if_neg hk,if_neg hk];have:=NI uF us j k m g2 h hm hy;rw[sB,sB] at this;rw[this]
theorem NI{ix iy:Int->Int}(uF:∀a,0<=ix a):∀(us:List Tm) (j k m:Nat),Tm.ft eT us=true->oS ix us j=some k->k<=m->(∀i:Nat,i<m->iy i=i)->vW iy (vW ix us)=vW ix us
 |[],_,_,_,_,_,_,_=>rfl
 |t::r,j,k,m,hg,h,hm,hy=>by unfold oS at h;simp only[Tm.ft,Bool.and_eq_true] at hg;obtain⟨i,h1,h2⟩:=Option.bind_eq_some_iff.1 h;have hle:=Du ix r i k h2;rw[vW,vW,Si uF t j i m hg.1 h1 (by omega) hy,NI uF r i k m hg.2 h2 hm hy]
end
theorem UG{t:Tm}(hg:dp t=true):fE (qW (ff (bO (fE (qW (ff (bO t))) t)))) (fE (qW (ff (bO t))) t)=fE (qW (ff (bO t))) t:=by
 have uF:∀a,0<=qW (ff (bO t)) a/\qW (ff (bO t)) a<1000000000:=λa=>Ap (zY t) a
 have ho:=L8 hg
 have hv:bO (fE (qW (ff (bO t))) t)=ib (bO t).length:=by rw[tf (fE _ _),if_pos (FK uF hg)];exact KV (λa=>(uF a).1) t 0 _ ho
 have ha:t.gu eT=true:=by unfold dp at hg;rw[Bool.and_eq_true] at hg;exact hg.2
 rw[hv];exact Si (λa=>(uF a).1) t 0 _ _ ha ho (Nat.le_refl _) (λi hi=>Xd hi)
mutual
theorem IC:∀(t:Tm) (l:List Int),fF (dC t) l=fF t l
 |.nl k n s,l=>rfl
 |.mk k n s us,l=>by
   rw[r9,r9,Me,Q0,rI];show (if k=0 then jY n l else cN (us.map dC) l)=if k=0 then jY n l else cN us l
   rw[Ec us l]
theorem Ec:∀(us:List Tm) (l:List Int),cN (us.map dC) l=cN us l
 |[],l=>rfl
 |t::r,l=>by rw[List.map_cons];show cN (r.map dC) (fF (dC t) l)=cN r (fF t l);rw[IC t l,Ec r]
end
theorem TC(t:Tm):bO (dC t)=bO t:=by rw[tf,tf,Fs,IC]
def tA(s:List UInt8):Tm:=.nl 2 0 s
def adV:Tm:=.mk 2 0 [43] [tA [97],.mk 2 0 [42] [tA [98],tA [99]]]
def tF:Tm:=.mk 2 0 [102] [.nl 0 7 [],.nl 1 (-1) []]
noncomputable def agm:List aW:=[rQ,Ci,rV,uz,Bc,QC,wN]
theorem aaR:∀s∈agm,dU Tryz.prog bV s:=by simp[agm,Cf.lift,EP.lift,vz.lift,Ga,Q4.lift,Rn.lift,O9]
theorem acg:Aw np adV=([97,32,43,32,98,32,42,32,99],0):=by decide+kernel
theorem ahT:AX tF=([102,40,95,48,44,45,49,41],0):=by decide+kernel
def zr:aW:=⟨18,λ|[]=>some (.bool true)|_=>none⟩
theorem po:zr.f=18:=(rfl)
theorem FY:zr.S []=some (.bool true):=(rfl)
theorem O7:dU Tryz.prog bV zr:=λaa v hv=>by
 unfold zr at hv|-;dsimp only at hv|-;split at hv
 .cases hv;refine bL (n:=10) (h':=h0) (jF aaR) ?_ rfl rfl;have q0:=B9;have qa:∀s,Ci.S [.str s]=some (.agg [.int .i64 2,.int .i64 0,.str s,.aF]):=λs=>rfl
  have qb:rV.S [.str [42],.sl [.agg [.int .i64 2,.int .i64 0,.str [98],.aF],.agg [.int .i64 2,.int .i64 0,.str [99],.aF]]]=some (.agg [.int .i64 2,.int .i64 0,.str [42],.sl [.agg [.int .i64 2,.int .i64 0,.str [98],.aF],.agg [.int .i64 2,.int .i64 0,.str [99],.aF]]]):=by kernel_rfl
  have qc:rV.S [.str [43],.sl [.agg [.int .i64 2,.int .i64 0,.str [97],.aF],.agg [.int .i64 2,.int .i64 0,.str [42],.sl [.agg [.int .i64 2,.int .i64 0,.str [98],.aF],.agg [.int .i64 2,.int .i64 0,.str [99],.aF]]]]]=
   some (.agg [.int .i64 2,.int .i64 0,.str [43],.sl [.agg [.int .i64 2,.int .i64 0,.str [97],.aF],.agg [.int .i64 2,.int .i64 0,.str [42],.sl [.agg [.int .i64 2,.int .i64 0,.str [98],.aF],.agg [.int .i64 2,.int .i64 0,.str [99],.aF]]]]]):=by kernel_rfl
  have qd:=FC (Bu np) adV (by decide+kernel) (by decide);rw[acg] at qd;have qv:Bc.S [.int .i64 7]=some (.agg [.int .i64 0,.int .i64 7,.str [],.aF]):=rfl;have qi:QC.S [.int .i64 (-1)]=some (.agg [.int .i64 1,.int .i64 (-1),.str [],.aF]):=rfl;have qf:rV.S [.str [102],.sl [.agg [.int .i64 0,.int .i64 7,.str [],.aF],.agg [.int .i64 1,.int .i64 (-1),.str [],.aF]]]=some (.agg [.int .i64 2,.int .i64 0,.str [102],.sl [.agg [.int .i64 0,.int .i64 7,.str [],.aF],.agg [.int .i64 1,.int .i64 (-1),.str [],.aF]]]):=by kernel_rfl
  have qg:=O8 tF (by decide+kernel);rw[ahT] at qg;have e1:adV.aL=.agg [.int .i64 2,.int .i64 0,.str [43],.sl [.agg [.int .i64 2,.int .i64 0,.str [97],.aF],.agg [.int .i64 2,.int .i64 0,.str [42],.sl [.agg [.int .i64 2,.int .i64 0,.str [98],.aF],.agg [.int .i64 2,.int .i64 0,.str [99],.aF]]]]]:=rfl;have e2:tF.aL=.agg [.int .i64 2,.int .i64 0,.str [102],.sl [.agg [.int .i64 0,.int .i64 7,.str [],.aF],.agg [.int .i64 1,.int .i64 (-1),.str [],.aF]]]:=rfl;rw[e1] at qd;rw[e2] at qg;simp only[agm];generalize np.map a7.aL=P at *;simp[ahO,c18,En,Ka,qF,nD,vD,Qf,UI,q0,qa,qb,qc,qd,qv,qi,qf,qg]
 .cases hv
theorem GY:aX Tryz.prog (gO 0):=λaa v hv=>by
 unfold gO at hv;dsimp only at hv;split at hv
 .split at hv
  .split at hv
   .rename_i hc;have:=hc.1.2;omega
   .cases hv
  .cases hv
 .cases hv
theorem AD:∀N,N<=1000000001->aX Tryz.prog (gO N)
 |0,_=>GY
 |N+1,h=>GF N (by omega) (AD N (by omega))
theorem ada{n:Int}:∀(vs:List Int) (k:Nat),n∈vs->∃i:Nat,Y3 n vs k=some i/\NO n (yT k vs)=some (i:Int)
 |[],k,h=>by simp at h
 |v::r,k,h=>by
   unfold Y3 yT NO;by_cases hv:v=n
   .rw[if_pos hv,if_pos hv.symm];exact⟨k,rfl,rfl⟩
   .rw[if_neg hv,if_neg (λe=>hv e.symm)]
    exact ada r (k+1) (by
     rcases List.mem_cons.1 h with h|h
     .exact absurd h.symm hv
     .exact h)
theorem YX{V P q:List Int}{n:Int}(h:V=jY n P++q):n∈V:=by
 rw[h];refine List.mem_append.2 (.inl ?_);unfold jY;split
 .assumption
 .simp
theorem K9{V P q:List Int}{n:Int}(h:V=jY n P++q)(u:Tm):(match Y3 n V 0 with|some i=>Tm.nl 0 (i:Int) []|none=>u)=.nl 0 (qW (ff V) n) []:=by obtain⟨i,h1,h2⟩:=ada V 0 (YX h);rw[h1];unfold qW ff;rw[h2];rfl
mutual
theorem MY{V:List Int}:∀(t:Tm) (P q:List Int),t.gu eT=true->V=fF t P++q->dQ V (dC t)=fE (qW (ff V)) t
 |.nl k n s,P,q,hg,h=>by
   have h1:eT (.nl k n s)=true:=hg;by_cases hk:k=0
   .subst hk;obtain⟨e1,_⟩:=sC h1 (by show ¬(0:Int)=2;decide);obtain rfl:s=[]:=e1;rw[show dC (.nl 0 n [])=.nl 0 n [] from rfl,OL rfl];exact K9 (n:=n) (P:=P) (q:=q) h _
   .rw[show dC (.nl k n s)=.nl k n s from rfl,Qz (t:=.nl k n s) hk rfl];show _=Tm.nl k (if k=0 then _ else n) s;rw[if_neg hk]
 |.mk k n s us,P,q,hg,h=>by
   obtain⟨h1,h2⟩:=sv hg;have f:=se k n s (us.map dC);have eo:dC (.mk k n s us)=GM k n s (us.map dC):=wU _;have er:fE (qW (ff V)) (.mk k n s us)=GM k (if k=0 then qW (ff V) n else n) s (us.map (fE (qW (ff V)))):=nW _ _;by_cases hk:k=0
   .subst hk;obtain⟨e1,e2⟩:=sC h1 (by show ¬(0:Int)=2;decide);obtain rfl:s=[]:=e1;obtain rfl:us=[]:=e2;rw[eo,er,if_pos rfl];show dQ V (.nl 0 n [])=.nl 0 (qW (ff V) n) [];rw[OL rfl];exact K9 (n:=n) (P:=P) (q:=q) h _
   .rw[eo,er,if_neg hk];by_cases hu:us=[]
    .subst hu;exact Qz (t:=.nl k n s) hk rfl
    .have k2:k=2:=by
      by_cases h3:k=2
      .exact h3
      .exact absurd (sC h1 h3).2 hu
     have n0:n=0:=yQ h1 k2;rw[Wz (by rw[f.1];exact hk) (by rw[f.2.2.2];simpa using hu),f.2.2.1,f.2.2.2,k2,n0]
     have hl:V=cN us P++q:=by have h':V=(if k=0 then jY n P else cN us P)++q:=h;rw[if_neg hk] at h';exact h'
     have:=Ix us P q h2 hl;rw[this]
     cases us with
     |nil=>exact absurd rfl hu
     |cons x r=>rfl
theorem Ix{V:List Int}:∀(us:List Tm) (P q:List Int),Tm.ft eT us=true->V=cN us P++q->(us.map dC).map (dQ V)=us.map (fE (qW (ff V)))
 |[],_,_,_,_=>rfl
 |t::r,P,q,hg,h=>by simp only[Tm.ft,Bool.and_eq_true] at hg;obtain⟨q2,h2⟩:=tT r (fF t P);rw[List.map_cons,List.map_cons,List.map_cons,MY t P (q2++q) hg.1 (by rw[h];show cN r (fF t P)++q=_;rw[h2,List.append_assoc]),Ix r (fF t P) q hg.2 h]
end
theorem Hx{t:Tm}(hg:dp t=true):dQ (bO (dC t)) (dC t)=fE (qW (ff (bO t))) t:=by
 rw[TC];have e:bO t=fF t []:=by rw[tf,if_pos hg]
 have ha:t.gu eT=true:=by unfold dp at hg;rw[Bool.and_eq_true] at hg;exact hg.2
 exact MY t [] [] ha (by rw[e];simp)
theorem F7(vs:List Int):zP (oB vs)=some vs:=by
 unfold oB
 cases vs with
 |nil=>rfl
 |cons v r=>exact Ae _
def H4:aW:=⟨58,λ|[v,.int .i64 f]=>(match fK v with|some t=>if (f=0/\t.eO<100000000)/\dp t=true then some (.tuple [(dQ (bO t) t).aL,.int .i64 (bO t).length,.int .i64 0]) else none|none=>none)|_=>none⟩
theorem abG:H4.f=58:=(rfl)
theorem K1{t:Tm}(hb:t.eO<100000000)(hg:dp t=true):H4.S [t.aL,.int .i64 0]=some (.tuple [(dQ (bO t) t).aL,.int .i64 (bO t).length,.int .i64 0]):=by simp only[H4,cd];exact if_pos ⟨⟨trivial,hb⟩,hg⟩
noncomputable def aea:List aW:=[nM,BF,gO 1000000000]
theorem Ww:aX Tryz.prog H4:=λaa v hv=>by
 unfold H4 at hv|-;dsimp only at hv|-;split at hv
 .rename_i a f;split at hv
  .rename_i t ha;split at hv
   .rename_i hc;obtain⟨⟨rfl,hb⟩,hg⟩:=hc;cases hv;rw[cf ha];refine bL (n:=10) (h':=h0) (bK (ss:=aea) (by simp[aea,IG,Ut,AD 1000000000 (by decide)])) ?_ (by simp[AV.aJ,AV.ah,Tm.bC]) (by simp[AV.ah,AV.aJ,Tm.bC]);have iE:=mC t;have hvl:=sb t;have q1:=HZ t (by omega);have q2:=UY t (by omega);have q3:=vC 1000000000 (F7 (bO t)) (by omega) t (by omega);have ln:=Kn (F7 (bO t));have yr:=yq (bO t);rw[hg] at q1;rw[an t] at q1 q2 q3|-;have e3:(dQ (bO t) t).aL=.agg [.int .i64 (dQ (bO t) t).aj,.int .i64 (dQ (bO t) t).bj,.str (dQ (bO t) t).az,(dQ (bO t) t).bh]:=an _;rw[e3] at q3|-;have ur:=ar t;have uc:=cM t;have vr:=ar (dQ (bO t) t);have vc:=cM (dQ (bO t) t);have w1:=wrap_i64 (n:=((bO t).length:Int)) (by omega) (by omega);have w2:¬(2147483648:Int)<((bO t).length:Int):=by omega
    have yo:=mK (F7 (bO t));generalize dQ (bO t) t=u at *;generalize oB (bO t)=y at *;generalize (bO t).length=n at *;rcases yo with⟨rfl,_⟩|rfl<;>simp[-dZ,aia,c58,aea,eA,XU,l8,aw,q1,q2,q3,ln,ur,uc,vr,vc,w1,w2,cF]
   .cases hv
  .cases hv
 .cases hv
def xn:aW:=⟨26,λ|[a,b]=>(match fK a,fK b with|some x,some y=>if (x.eO<100000000/\dp x=true)/\(y.eO<100000000/\dp y=true)/\(dQ (bO x) x).size<100000000/\(dQ (bO y) y).size<100000000 then some (.bool (rT (dQ (bO x) x) (dQ (bO y) y))) else none|_,_=>none)|_=>none⟩
theorem pw:xn.f=26:=(rfl)
theorem OZ{x y:Tm}(hx:x.eO<100000000)(gx:dp x=true)(hy:y.eO<100000000)(gy:dp y=true)(sx:(dQ (bO x) x).size<100000000)(sy:(dQ (bO y) y).size<100000000):xn.S [x.aL,y.aL]=some (.bool (rT (dQ (bO x) x) (dQ (bO y) y))):=by simp only[xn,cd];exact if_pos ⟨⟨hx,gx⟩,⟨hy,gy⟩,sx,sy⟩
noncomputable def aeU:List aW:=[H4,jV 1000000000]
theorem Px:aX Tryz.prog xn:=λaa v hv=>by
 unfold xn at hv|-;dsimp only at hv|-;split at hv
 .rename_i a b;split at hv
  .rename_i x y ha hb;split at hv
   .rename_i hc;obtain⟨⟨bx,gx⟩,⟨b_y,gy⟩,sx,sy⟩:=hc;cases hv;rw[cf ha,cf hb];refine bL (n:=10) (h':=h0) (bK (ss:=aeU) (by simp[aeU,Ww,Cl 1000000000 (by decide)])) ?_ rfl (by simp[AV.ah,AV.aJ,Tm.bC]);have q1:=K1 bx gx;have q2:=K1 b_y gy;have q3:=yE 1000000000 (dQ (bO x) x) (dQ (bO y) y) ⟨by omega,by omega⟩;generalize dQ (bO x) x=u at *;generalize dQ (bO y) y=w at *;generalize (bO x).length=n1 at *;generalize (bO y).length=n2 at *;rw[an x,an u] at q1;rw[an y,an w] at q2;rw[an u,an w] at q3;rw[an x,an y];have a1:=ar x;have a2:=ar y;have a3:=ar u;have a4:=ar w;have b1:=cM x;have b2:=cM y;have b3:=cM u;have b4:=cM w;simp[aiH,c26,aeU,abG,iS,aw,q1,q2,q3,a1,a2,a3,a4,b1,b2,b3,b4]
   .cases hv
  .cases hv
 .cases hv
mutual
theorem LQ(ix:Int->Int):∀t:Tm,(fE ix t).eO=t.eO
 |.nl ..=>rfl
 |.mk k n s us=>by rw[py (fE ix _),(oF ix _).2.2.2,(oF ix _).2.2.1,Tm.aa,Tm.az,HP ix us,Tm.eO]
theorem HP(ix:Int->Int):∀l:List Tm,Tm.fv (l.map (fE ix))=Tm.fv l
 |[]=>rfl
 |t::r=>by simp only[List.map_cons,Tm.fv,LQ ix t,HP ix r]
end
theorem aaI{T:List a7}{t:Tm}{s:List UInt8}(h:Aw T t=(s,0)):dp t=true/\eN T=true/\s=wF T true (k9 (ff (bO t))) t 1200 false/\s.length<=4096:=by
 unfold Aw GW at h;split at h
 .rename_i hg;split at h
  .cases h
  .rename_i hl;cases h;exact⟨hg.1,hg.2,rfl,by omega⟩
 .cases h
theorem abP(us:List (List UInt8×Int)):vH us=.aF\/∃W,vH us=.sl W:=by
 cases us with
 |nil=>exact .inl rfl
 |cons x r=>exact .inr ⟨_,rfl⟩
theorem TU(us:List Tok):rS us=.aF\/∃W,rS us=.sl W:=by
 cases us with
 |nil=>exact .inl rfl
 |cons x r=>exact .inr ⟨_,rfl⟩
noncomputable def ss7:List aW:=[zr,lZ 70,uz,LV,BS,lf 1000000000,xn]
theorem Xc:∀s∈ss7,dU Tryz.prog bV s:=by simp[ss7,O7,(F5 70 (by decide)).lift,Ga,I7,TZ,(Gh 1000000000 (by decide)).lift,Px.lift]
theorem TP{x:AV}{T:List a7}(hx:aZ x=some T)(hT:T.length<1000000)(t:Tm)(hb:t.eO<100000000)(hr:t.gu qm=true):∃h',aH (cD ss7) 20 7 [x,t.aL] h0=some (.bool true,h'):=by
 have q0:=FY;have bA:=bM hx;have uM:=λh n0 d=>bA.fr h n0 d
 have fx:=bA.cl2;have cI:=bA.aJ;have cT:JH t:=⟨by omega,hr⟩
 have iE:=mC t;have ur:=ar t;have uc:=cM t
 have xl:=λ(fr:List AV) (h:af) (o:dY) (ho:o.ev fr=x)=>show bG fr h (.vj o)=some (.int .i64 T.length,h) by
  rw[dZ,ho];rcases bb hx with⟨rfl,rfl⟩|rfl
  .rfl
  .simp
 have q1:(lZ 70).S [t.aL,.int .i64 70]=some (.bool (sw 70 t)):=HJ 70 t;have q2:=FC hx t cT hT;by_cases hl:(60:Int)<(T.length:Int)
 .rw[an t];exact⟨_,by simp[-dZ,aw,Tp,c7,ss7,po,iv,nD,lX,rU,kz,pw,q0,xl,hl,ur,uc];with_reducible rfl⟩
 cases hd:sw 70 t with
 |true=>rw[hd] at q1;rw[an t] at q1|-;exact⟨_,by simp[-dZ,aw,Tp,c7,ss7,po,iv,nD,lX,rU,kz,pw,q0,q1,xl,hl,ur,uc];with_reducible rfl⟩
 |false=>
   rw[hd] at q1
   cases hW:Aw T t with
   |mk s e=>
     rw[hW] at q2;dsimp only at q2;by_cases he:e=0
     .subst he;obtain⟨hg,hgo,hs,oG⟩:=aaI hW;have hrb:=Uo hgo (t:=t) ⟨hg,by omega,hr⟩;rw[<-hs] at hrb;have q3:=Jm (s++[32,46]);have q4:=TG hx hT (s++[32,46]);have m1:s.length+2<9223372036854775808:=by omega
      unfold Ba at q3;have ct:=TU (fw (s++[32,46])).1;rcases hrb.1 with h0|h3
      .obtain⟨ns,VI⟩:=hrb.2 h0;rw[VI] at q4;unfold Cd at q4;dsimp only at q4;rw[h0] at q3;have hgu:=FK (λa=>Ap (zY t) a) hg;have q5:=su 1000000000 (fE (qW (ff (bO t))) t) (by rw[(r8 _ t).1];omega);have q6:=su 1000000000 t (by omega);have g1:dp (dC (fE (qW (ff (bO t))) t))=true:=by rw[Fs];exact hgu
       have g2:dp (dC t)=true:=by rw[Fs];exact hg
       have e1:=Hx hgu;have e2:=Hx hg;rw[UG hg] at e1;have q7:=OZ (x:=dC (fE (qW (ff (bO t))) t)) (y:=dC t) (by rw[F1,LQ];omega) g1 (by rw[F1];omega) g2 (by rw[e1,(r8 _ t).1];omega) (by rw[e2,(r8 _ t).1];omega);rw[e1,e2,E4] at q7;have hn:=CI ns;have fW:=abP ns;clear e1 e2 g1 g2 hgu hrb VI;generalize fE (qW (ff (bO t))) t=u at *;have a1:=ar u;have a2:=ar (dC u);have a3:=ar (dC t);have b1:=cM u;have b2:=cM (dC u);have b3:=cM (dC t);generalize dC u=ou at *;generalize dC t=ot at *;rw[an u] at q4;rw[an u,an ou] at q5;rw[an t,an ot] at q6;rw[an ou,an ot] at q7;rw[an t] at q1 q2|-;generalize rS (fw (s++[32,46])).1=vt at *;generalize vH ns=vn at *;rcases ct with rfl|⟨W,rfl⟩<;>rcases fW with rfl|⟨W2,rfl⟩<;>exact⟨_,by simp[-dZ,aw,Tp,c7,ss7,po,iv,nD,lX,rU,kz,pw,q0,q1,q2,q3,q4,q5,q6,q7,xl,hl,ur,uc,m1,a1,a2,a3,b1,b2,b3,cI,fx,uM];with_reducible rfl⟩
      .rw[h3] at q3;rw[an t] at q1 q2|-;generalize rS (fw (s++[32,46])).1=vt at *;rcases ct with rfl|⟨W,rfl⟩<;>exact⟨_,by simp[-dZ,aw,Tp,c7,ss7,po,iv,nD,lX,rU,kz,pw,q0,q1,q2,q3,xl,hl,ur,uc,m1,cI,fx,uM];with_reducible rfl⟩
     .rw[an t] at q1 q2|-;exact⟨_,by simp[-dZ,aw,Tp,c7,ss7,po,iv,nD,lX,rU,kz,pw,q0,q1,q2,xl,hl,ur,uc,he,cI,fx,uM];with_reducible rfl⟩
theorem EI{x:AV}{T:List a7}(hx:aZ x=some T)(hT:T.length<1000000)(t:Tm)(hb:t.eO<100000000)(hr:t.gu qm=true):gD Tryz.prog bV 7 [x,t.aL] (.bool true):=by obtain⟨h',e⟩:=TP hx hT t hb hr;exact bL (jF Xc) e rfl (by simp[AV.ah,Tm.bC,AV.aJ,fb hx])
theorem Xr{x:AV}{T:List a7}(hx:x=.sl (T.map a7.aL))(hT:¬T.length<1000000)(t:Tm):∃h',aH (cD ss7) 20 7 [x,t.aL] h0=some (.bool true,h'):=by
 have q0:=FY;have ur:=ar t;have uc:=cM t;have hl:(60:Int)<(T.length:Int):=by omega
 have QV:(T.map a7.aL).length=T.length:=List.length_map _;have mF:=ee T;subst hx;rw[an t];generalize T.map a7.aL=U at *;exact⟨_,by simp[aw,Tp,c7,ss7,po,iv,nD,lX,rU,kz,pw,q0,QV,hl,ur,uc,mF];with_reducible rfl⟩
theorem SW(T:List a7)(t:Tm)(hb:t.eO<100000000)(hr:t.gu qm=true):gD Tryz.prog bV 7 [.sl (T.map a7.aL),t.aL] (.bool true):=by
 by_cases hT:T.length<1000000
 .exact EI (Bu T) hT t hb hr
 .obtain⟨h',e⟩:=Xr rfl hT t;exact bL (jF Xc) e rfl (by simp[AV.ah,Tm.bC,AV.aJ,ee])
theorem Fj{H:Type}(ds:List (DataW H))(h:wc Tryz.prog Tryz.f7.params.toList (ds.map jv))(_:(DataW.weightsEach Tryz.prog Tryz.f7.params.toList ds).all (·<=reachBytes)=true)(hk:Rows.uptoSmall H ds=true):gD Tryz.prog bV 7 (ds.map jv) (.bool true):=by
 have hb:=Sh hk;generalize ds.map jv=avs at h hb;rw[Tryz.params7] at h
 cases h with
 |cons h1 r1=>
   cases r1 with
   |cons h2 r2=>cases r2;obtain⟨T,rfl⟩:=aaE h1;obtain⟨t,rfl,_,hr⟩:=ady h2;have:=I3 t;simp only[Ef] at hb;exact SW T t (by omega) hr
open Classical in
noncomputable def BJ:aW:=⟨7,λ|[x,v]=>(match aZ x,fK v with|some T,some t=>if (T.length<1000000/\t.eO<100000000)/\t.gu qm=true then some (.bool true) else none|_,_=>none)|_=>none⟩
theorem Yb:BJ.f=7:=(rfl)
theorem S3{x:AV}{T:List a7}(hx:aZ x=some T)(hT:T.length<1000000)(t:Tm)(hb:t.eO<100000000)(hr:t.gu qm=true):BJ.S [x,t.aL]=some (.bool true):=by simp only[BJ,hx,cd];exact if_pos ⟨⟨hT,hb⟩,hr⟩
theorem U1:dU Tryz.prog bV BJ:=λaa v hv=>by
 unfold BJ at hv|-;dsimp only at hv|-;split at hv
 .rename_i x a;split at hv
  .rename_i T t hx ha;split at hv
   .rename_i hc;cases hv;rw[cf ha];exact EI hx hc.1.1 t hc.1.2 hc.2
   .cases hv
  .cases hv
 .cases hv
noncomputable def ss8:List aW:=[rQ,BJ]
theorem afZ:∀s∈ss8,dU Tryz.prog bV s:=by simp[ss8,Cf.lift,U1]
theorem O0(t:Tm)(hb:t.eO<100000000)(hr:t.gu qm=true):∃h',aH (cD ss8) 20 8 [t.aL] h0=some (.bool true,h'):=by have q0:=B9;have q1:=S3 (Bu np) (by decide) t hb hr;have ur:=ar t;have uc:=cM t;have mF:=ee np;generalize np.map a7.aL=pt at *;rw[an t] at q1|-;exact⟨_,by simp[aw,al1,c8,ss8,En,Yb,q0,q1,ur,uc,mF];with_reducible rfl⟩
theorem CU{H:Type}(ds:List (DataW H))(h:wc Tryz.prog Tryz.f8.params.toList (ds.map jv))(_:(DataW.weightsEach Tryz.prog Tryz.f8.params.toList ds).all (·<=reachBytes)=true)(hk:Rows.uptoSmall H ds=true):gD Tryz.prog bV 8 (ds.map jv) (.bool true):=by
 have hb:=Sh hk;generalize ds.map jv=avs at h hb;rw[Tryz.params8] at h
 cases h with
 |cons h1 r1=>cases r1;obtain⟨t,rfl,_,hr⟩:=ady h1;have:=I3 t;simp only[Ef] at hb;obtain⟨h',e⟩:=O0 t (by omega) hr;exact bL (jF afZ) e rfl (by simp[AV.ah,Tm.bC,AV.aJ])
end Go.Proofs.YtjmeonoabiliiaaGreatDoor
