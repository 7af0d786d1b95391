import Derived.Test.YtjmeonoabiliiaaGreatDoorAt
import Derived.Test.YtjmeonoabiliiaaGreatDoorBd5
import Derived.Test.YtjmeonoabiliiaaGreatDoorBd2
import Derived.Test.YtjmeonoabiliiaaGreatDoorBd1
import Derived.Test.YtjmeonoabiliiaaGreatDoorArg
import Derived.Test.YtjmeonoabiliiaaGreatDoorRows
import Derived.ProofKit
set_option linter.all false
set_option maxHeartbeats 16000000
set_option maxRecDepth 100000
namespace Go.Proofs.YtjmeonoabiliiaaGreatDoor
open Go Sz
section
theorem ZA{T:List bj}{a b:St}(h1:a.aZ=b.aZ)(h2:a.aC=b.aC):cw T a=cw T b:=by unfold cw;rw[h1,h2]
theorem HW{T:List bj}{n:Nat}{a b:St}(h1:a.aZ=b.aZ)(h2:a.aC=b.aC):∀(M:Nat) (aB:List Tm),lI T n M aB a=lI T n M aB b
 |0,_=>rfl
 |M+1,aB=>by unfold lI;rw[h1,ZA h1 h2]
section
variable {T:List bj}{st:St}
theorem Nc(h:(ae T 1200 (bX st)).1.2.2=false):(cw T st).1.2=2:=by show (if (!(ae T 1200 (bX st)).1.2.2||!decide ((aL (ae T 1200 (bX st)).2).au=6))=true then ((lh,(2:Int)),(ae T 1200 (bX st)).2) else if fH (ae T 1200 (bX st)).1.1=true then (((ae T 1200 (bX st)).1.1,0),aq (ae T 1200 (bX st)).2) else ((lh,3),aq (ae T 1200 (bX st)).2)).1.2=2;rw[if_pos (by rw[h];rfl)]
theorem L7(h:¬(aL (ae T 1200 (bX st)).2).au=6):(cw T st).1.2=2:=by show (if (!(ae T 1200 (bX st)).1.2.2||!decide ((aL (ae T 1200 (bX st)).2).au=6))=true then ((lh,(2:Int)),(ae T 1200 (bX st)).2) else if fH (ae T 1200 (bX st)).1.1=true then (((ae T 1200 (bX st)).1.1,0),aq (ae T 1200 (bX st)).2) else ((lh,3),aq (ae T 1200 (bX st)).2)).1.2=2;rw[if_pos (by rw[decide_eq_false h];simp)]
theorem L5(h:(ae T 1200 (bX st)).1.2.2=true)(hk:(aL (ae T 1200 (bX st)).2).au=6):cw T st=if fH (ae T 1200 (bX st)).1.1=true then (((ae T 1200 (bX st)).1.1,0),aq (ae T 1200 (bX st)).2) else ((lh,3),aq (ae T 1200 (bX st)).2):=by show (if (!(ae T 1200 (bX st)).1.2.2||!decide ((aL (ae T 1200 (bX st)).2).au=6))=true then ((lh,(2:Int)),(ae T 1200 (bX st)).2) else if fH (ae T 1200 (bX st)).1.1=true then (((ae T 1200 (bX st)).1.1,0),aq (ae T 1200 (bX st)).2) else ((lh,3),aq (ae T 1200 (bX st)).2))=_;rw[if_neg (by rw[h,hk];decide)]
end
def CD(lhs:Option (Ex×List AV×ai))(r:List Tm×Int):Prop:=
 (∃h',lhs=some (.ret,FM 74 [(4,.aJ),(5,.int .i64 r.2)],h')/\r.2≠0/\r.1=[])\/
 (∃h',lhs=some (.exit 0,FM 74 [(9,.vec 1 0 r.1.length 4 r.1.length)],h')/\r.2=0/\r.1≠[]/\h'.get 1=some (.row (aG r.1)))
theorem Uz{a b:Option (Ex×List AV×ai)}{r:List Tm×Int}(h:CD a r)(e:b=a):CD b r:=by rw[e];exact h
noncomputable def Fk:List aX:=[so,Gy,xk]
noncomputable def Ff:List cr:=[fb 1025,mr]
theorem Az{L:List Tok}{a:Nat}(hL:L.length<=1024):(bJ L a).aC.length<1025:=by show ((mT L).drop a).length<1025;rw[List.length_drop,eZ];omega
attribute [local simp] fX fU fY fR eO eN fP fS fT eQ eR fQ lK lQ lS lO lM lT fc fe Laid.aK db dc bf bc zD ui Fk Ff zL HT DO jQ cM dJ
theorem Wk(n:Nat){x y:AV}{T:List bj}{L:List Tok}(hx:ba x=some T)(hy:bx y=some L)(hT:T.length<1000000)(hg:ew T=true)(hL1:L.all n9=true)(Ov:L.length<=1024):∀M:Nat,∀(ja jb:Int) (aB:List Tm) (a m md:Nat),a<=L.length->aB≠[]->aB.length+(L.length-a)<=100000->L.length-a<M->M<=m->CD (gu 1 0 (bL (aH (aF (b9 Fk Ff) (n+1)) (n+1) zD) ui 1 m (D3 x y (.vec 1 0 aB.length 4 aB.length) (.ptr 2 0)) ⟨3,[.row [x,y,.int .i64 a,.aJ,.int .i64 0,.bool false],.row (aG aB),.row [x,y,.int .i64 ja,.aJ,.int .i64 jb,.bool false]],1,md⟩)) (lI T L.length M aB (bJ L a))
 |0=>λ_ _ _ _ _ _ _ _ _ h _=>by omega
 |M+1=>by
   have iS1:=Wk n hx hy hT hg hL1 Ov M;have aN:=aR hx;have aP:=aI hy;have fA:=aN.Fh;have jX:=aP.Fh;have fx:=λh n0 d=>aN.fr h n0 d
   have hfy:=λh n0 d=>aP.fr h n0 d
   have u1:=yG aN aP;have u2:=B3 aN aP;have jT:=jR hy;have xr:x.aK=0:=aN.aK;have yr:y.aK=0:=aP.aK;intro ja jb aB a m md WU ha hl hM hm;obtain⟨m,rfl⟩:∃k,m=k+1:=⟨m-1,by omega⟩
   rw[ak];have hf:=bh aB;have h8:(aB.length+1)*56<=140737488355328:=by omega
   have h9:aB.length+1<9223372036854775808:=by omega
   have gG:(aG aB).take (aB.length*4)=aG aB:=by rw[List.take_of_length_le];rw[bP];exact Nat.le_refl _
   have iH:=bP aB;by_cases cR:(a:Int)<(L.length:Int)
   .have rC:((bJ L a).aZ:Int)<(L.length:Int):=cR;have hc:=ZV (T:=T) hT hg hL1 Ov (a:=a) (by omega);have q:=cE 1025 hx hy hc 1200 (by decide) (Az Ov);rw[aU (st:=bJ L a) rfl,show (bJ L a).aa=[] from rfl,show (((bJ L a).aZ:Nat):Int)=(a:Int) from rfl,show (((bJ L a).next:Nat):Int)=0 from rfl,an] at q;have ur:=ay (cP (ae T 1200 (bJ L a)).1).1;have uc:=br (cP (ae T 1200 (bJ L a)).1).1
    cases bV:(ae T 1200 (bJ L a)).1.2.2 with
    |false=>
      have e2:=Nc (st:=bJ L a) bV;rw[iD rC (by rw[e2];decide),e2];rw[bV] at q;refine .inl ?_;by_cases h1:(ae T 1200 (bJ L a)).2.aa=[];rw[cI h1] at q
      rotate_left
      rw[ch h1] at q
      rotate_left
      all_goals
       generalize aM L (ae T 1200 (bJ L a)).2=tk at *;generalize (cP (ae T 1200 (bJ L a)).1).2=tl at *;generalize (cP (ae T 1200 (bJ L a)).1).1=t at *;generalize (ae T 1200 (bJ L a)).2=s1 at *;generalize aG aB=A at *;exact⟨_,by simp[jT,-af,-aj,-ah,-az,-ck,u1,u2,xr,yr,fA,jX,fx,q,cR,ur,uc,aT,hf,h8,h9,gG,iH,aN,aP];with_reducible rfl,by decide,rfl⟩
    |true=>
      have ho:=(a6 T).ok 1200 (bJ L a) bV;have c1:=hc.ok ho;have q1:=ee hx hy c1;have ks:(aL (ae T 1200 (bJ L a)).2).au=(aM L (ae T 1200 (bJ L a)).2).au:=by rw[bm c1.rc]
      rw[bK] at q1;rw[bV] at q;by_cases hk:(aL (ae T 1200 (bJ L a)).2).au=6
      .have mQ:=de c1.rc (by rw[hk];decide);have oc:=L5 (st:=bJ L a) bV hk;change cw T (bJ L a)=if fH (ae T 1200 (bJ L a)).1.1=true then (((ae T 1200 (bJ L a)).1.1,0),aq (ae T 1200 (bJ L a)).2) else ((lh,3),aq (ae T 1200 (bJ L a)).2) at oc
       have hk2:=ks.symm.trans hk;rw[hk2] at q1;have et:(cP (ae T 1200 (bJ L a)).1).1=(ae T 1200 (bJ L a)).1.1:=by unfold cP;rw[bV];rfl
       have hB:=(wI T ((bJ L a).aC.length+1)).b 1200 (bJ L a) (AM hc.rc) bV;have Xe:=hB.1;have qm:=Az (a:=a) Ov;have q2:=vD (ae T 1200 (bJ L a)).1.1 (by change Tm.ig (ae T 1200 (bJ L a)).1.1<=_ at Xe;omega);rw[et] at q ur uc;rw[an] at q2
       cases G6:fH (ae T 1200 (bJ L a)).1.1 with
       |false=>
         rw[G6,if_neg (by simp)] at oc;have e2:(cw T (bJ L a)).1.2=3:=by rw[oc]
         rw[iD rC (by rw[e2];decide),e2];rw[G6] at q2;refine .inl ?_;by_cases h1:(ae T 1200 (bJ L a)).2.aa=[];rw[cI h1] at q;rw[aU h1] at q1
         rotate_left
         rw[ch h1] at q;rw[aS h1] at q1
         rotate_left
         all_goals
          generalize aM L (ae T 1200 (bJ L a)).2=tk at *;generalize (cP (ae T 1200 (bJ L a)).1).2=tl at *;generalize (ae T 1200 (bJ L a)).1.1=t at *;generalize (ae T 1200 (bJ L a)).2=s1 at *;generalize aG aB=A at *;exact⟨_,by simp[jT,-af,-aj,-ah,-az,-ck,u1,u2,xr,yr,fA,jX,fx,q,cR,ur,uc,aT,hf,h8,h9,gG,iH,q1,q2,aN,aP];with_reducible rfl,by decide,rfl⟩
       |true=>
         rw[G6,if_pos rfl] at oc;rw[G6] at q2;have e2:(cw T (bJ L a)).1.2=0:=by rw[oc]
         rw[pP rC e2,oc]
         have wm:∀M aB,lI T L.length M aB (aq (ae T 1200 (bJ L a)).2)=lI T L.length M aB (bJ L ((ae T 1200 (bJ L a)).2.aZ+1)):=λM aB=>HW (a:=aq (ae T 1200 (bJ L a)).2) (b:=bJ L ((ae T 1200 (bJ L a)).2.aZ+1)) rfl (by show (ae T 1200 (bJ L a)).2.aC.tail=(mT L).drop ((ae T 1200 (bJ L a)).2.aZ+1);rw[c1.rc.aC,List.tail_drop]) M aB
         dsimp only;rw[wm];have w1:=wrap_i64 (n:=((ae T 1200 (bJ L a)).2.aZ:Int)+1) (by omega) (by omega);have gr:=bh (aB++[(ae T 1200 (bJ L a)).1.1])
         have ahR:a<(ae T 1200 (bJ L a)).2.aZ+1:=by have h3:=ho.tot;have h4:=ho.pos;have h5:(bJ L a).aZ=a:=rfl;omega
         by_cases h1:(ae T 1200 (bJ L a)).2.aa=[];rw[cI h1] at q;rw[aU h1] at q1
         rotate_left
         rw[ch h1] at q;rw[aS h1] at q1
         rotate_left
         all_goals
          have ih:=iS1 ja jb (aB++[(ae T 1200 (bJ L a)).1.1]) ((ae T 1200 (bJ L a)).2.aZ+1) m (min md 1) (by omega) (by simp) (by simp;omega) (by omega) (by omega);rw[<-bB,List.length_append,List.length_cons,List.length_nil] at ih;rw[<-bB] at gr;refine Uz ih ?_;generalize aM L (ae T 1200 (bJ L a)).2=tk at *;generalize (cP (ae T 1200 (bJ L a)).1).2=tl at *;generalize (ae T 1200 (bJ L a)).1.1=t at *;generalize (ae T 1200 (bJ L a)).2=s1 at *;generalize aG aB=A at *;simp[jT,-af,-aj,-ah,-az,-ck,u1,u2,xr,yr,fA,jX,fx,q,q1,q2,cR,ur,uc,w1,gr,aT,hf,h8,h9,gG,iH,aN,aP]
      .have e2:=L7 (st:=bJ L a) hk;rw[iD rC (by rw[e2];decide),e2];rw[ks] at hk;refine .inl ?_;by_cases h1:(ae T 1200 (bJ L a)).2.aa=[];rw[cI h1] at q;rw[aU h1] at q1
       rotate_left
       rw[ch h1] at q;rw[aS h1] at q1
       rotate_left
       all_goals
        generalize aM L (ae T 1200 (bJ L a)).2=tk at *;generalize (cP (ae T 1200 (bJ L a)).1).2=tl at *;generalize (cP (ae T 1200 (bJ L a)).1).1=t at *;generalize (ae T 1200 (bJ L a)).2=s1 at *;generalize aG aB=A at *;exact⟨_,by simp[jT,-af,-aj,-ah,-az,-ck,u1,u2,xr,yr,fA,jX,fx,q,cR,ur,uc,aT,hf,h8,h9,gG,iH,q1,hk,aN,aP];with_reducible rfl,by decide,rfl⟩
   .rw[mj (st:=bJ L a) cR];exact .inr ⟨_,by simp[jT,-af,-aj,-ah,-az,-ck,u1,u2,xr,yr,fA,jX,fx,cR,hf,h8,h9,gG,iH,aN,aP];with_reducible rfl,rfl,ha,rfl⟩
theorem U5(n:Nat){x y:AV}{T:List bj}{L:List Tok}(hx:ba x=some T)(hy:bx y=some L)(hT:T.length<1000000)(hg:ew T=true)(hL1:L.all n9=true)(Ov:L.length<=1024):∀M:Nat,∀(ja jb:Int) (jl:Nat) (JF:List AV) (aB:List Tm) (a m md:Nat),a<=L.length->AV.aw JF=0->(∀τ,okO τ (.row JF)=true)->(∀s,gB s (.row JF)=.row JF)->aB≠[]->aB.length+(L.length-a)<=100000->L.length-a<M->M<=m->CD (gu 1 0 (bL (aH (aF (b9 Fk Ff) (n+1)) (n+1) zD) ui 1 m (D3 x y (.vec 1 0 aB.length 4 aB.length) (.ptr 2 0)) ⟨4,[.row JF,.row [x,y,.int .i64 a,.aJ,.int .i64 0,.bool false],.row (aG aB),.row [x,y,.int .i64 ja,.vec 3 0 jl 2 jl,.int .i64 jb,.bool false]],0,md⟩)) (lI T L.length M aB (bJ L a))
 |0=>λ_ _ _ _ _ _ _ _ _ _ _ _ _ _ h _=>by omega
 |M+1=>by
   have iS2:=U5 n hx hy hT hg hL1 Ov M;have aN:=aR hx;have aP:=aI hy;have fA:=aN.Fh;have jX:=aP.Fh;have fx:=λh n0 d=>aN.fr h n0 d
   have hfy:=λh n0 d=>aP.fr h n0 d
   have u1:=yG aN aP;have u2:=B3 aN aP;have jT:=jR hy;have xr:x.aK=0:=aN.aK;have yr:y.aK=0:=aP.aK;intro ja jb jl JF aB a m md WU jr jo js ha hl hM hm;obtain⟨m,rfl⟩:∃k,m=k+1:=⟨m-1,by omega⟩
   rw[ak];have hf:=bh aB;have h8:(aB.length+1)*56<=140737488355328:=by omega
   have h9:aB.length+1<9223372036854775808:=by omega
   have gG:(aG aB).take (aB.length*4)=aG aB:=by rw[List.take_of_length_le];rw[bP];exact Nat.le_refl _
   have iH:=bP aB;by_cases cR:(a:Int)<(L.length:Int)
   .have rC:((bJ L a).aZ:Int)<(L.length:Int):=cR;have hc:=ZV (T:=T) hT hg hL1 Ov (a:=a) (by omega);have q:=cE 1025 hx hy hc 1200 (by decide) (Az Ov);rw[aU (st:=bJ L a) rfl,show (bJ L a).aa=[] from rfl,show (((bJ L a).aZ:Nat):Int)=(a:Int) from rfl,show (((bJ L a).next:Nat):Int)=0 from rfl,an] at q;have ur:=ay (cP (ae T 1200 (bJ L a)).1).1;have uc:=br (cP (ae T 1200 (bJ L a)).1).1
    cases bV:(ae T 1200 (bJ L a)).1.2.2 with
    |false=>
      have e2:=Nc (st:=bJ L a) bV;rw[iD rC (by rw[e2];decide),e2];rw[bV] at q;refine .inl ?_;by_cases h1:(ae T 1200 (bJ L a)).2.aa=[];rw[cI h1] at q
      rotate_left
      rw[ch h1] at q
      rotate_left
      all_goals
       generalize aM L (ae T 1200 (bJ L a)).2=tk at *;generalize (cP (ae T 1200 (bJ L a)).1).2=tl at *;generalize (cP (ae T 1200 (bJ L a)).1).1=t at *;generalize (ae T 1200 (bJ L a)).2=s1 at *;generalize aG aB=A at *;exact⟨_,by simp[jT,-af,-aj,-ah,-az,-ck,u1,u2,xr,yr,fA,jX,fx,q,cR,ur,uc,aT,hf,h8,h9,gG,iH,jr,jo,js,aN,aP];with_reducible rfl,by decide,rfl⟩
    |true=>
      have ho:=(a6 T).ok 1200 (bJ L a) bV;have c1:=hc.ok ho;have q1:=ee hx hy c1;have ks:(aL (ae T 1200 (bJ L a)).2).au=(aM L (ae T 1200 (bJ L a)).2).au:=by rw[bm c1.rc]
      rw[bK] at q1;rw[bV] at q;by_cases hk:(aL (ae T 1200 (bJ L a)).2).au=6
      .have mQ:=de c1.rc (by rw[hk];decide);have oc:=L5 (st:=bJ L a) bV hk;change cw T (bJ L a)=if fH (ae T 1200 (bJ L a)).1.1=true then (((ae T 1200 (bJ L a)).1.1,0),aq (ae T 1200 (bJ L a)).2) else ((lh,3),aq (ae T 1200 (bJ L a)).2) at oc
       have hk2:=ks.symm.trans hk;rw[hk2] at q1;have et:(cP (ae T 1200 (bJ L a)).1).1=(ae T 1200 (bJ L a)).1.1:=by unfold cP;rw[bV];rfl
       have hB:=(wI T ((bJ L a).aC.length+1)).b 1200 (bJ L a) (AM hc.rc) bV;have Xe:=hB.1;have qm:=Az (a:=a) Ov;have q2:=vD (ae T 1200 (bJ L a)).1.1 (by change Tm.ig (ae T 1200 (bJ L a)).1.1<=_ at Xe;omega);rw[et] at q ur uc;rw[an] at q2
       cases G6:fH (ae T 1200 (bJ L a)).1.1 with
       |false=>
         rw[G6,if_neg (by simp)] at oc;have e2:(cw T (bJ L a)).1.2=3:=by rw[oc]
         rw[iD rC (by rw[e2];decide),e2];rw[G6] at q2;refine .inl ?_;by_cases h1:(ae T 1200 (bJ L a)).2.aa=[];rw[cI h1] at q;rw[aU h1] at q1
         rotate_left
         rw[ch h1] at q;rw[aS h1] at q1
         rotate_left
         all_goals
          generalize aM L (ae T 1200 (bJ L a)).2=tk at *;generalize (cP (ae T 1200 (bJ L a)).1).2=tl at *;generalize (ae T 1200 (bJ L a)).1.1=t at *;generalize (ae T 1200 (bJ L a)).2=s1 at *;generalize aG aB=A at *;exact⟨_,by simp[jT,-af,-aj,-ah,-az,-ck,u1,u2,xr,yr,fA,jX,fx,q,cR,ur,uc,aT,hf,h8,h9,gG,iH,jr,jo,js,q1,q2,aN,aP];with_reducible rfl,by decide,rfl⟩
       |true=>
         rw[G6,if_pos rfl] at oc;rw[G6] at q2;have e2:(cw T (bJ L a)).1.2=0:=by rw[oc]
         rw[pP rC e2,oc]
         have wm:∀M aB,lI T L.length M aB (aq (ae T 1200 (bJ L a)).2)=lI T L.length M aB (bJ L ((ae T 1200 (bJ L a)).2.aZ+1)):=λM aB=>HW (a:=aq (ae T 1200 (bJ L a)).2) (b:=bJ L ((ae T 1200 (bJ L a)).2.aZ+1)) rfl (by show (ae T 1200 (bJ L a)).2.aC.tail=(mT L).drop ((ae T 1200 (bJ L a)).2.aZ+1);rw[c1.rc.aC,List.tail_drop]) M aB
         dsimp only;rw[wm];have w1:=wrap_i64 (n:=((ae T 1200 (bJ L a)).2.aZ:Int)+1) (by omega) (by omega);have gr:=bh (aB++[(ae T 1200 (bJ L a)).1.1])
         have ahR:a<(ae T 1200 (bJ L a)).2.aZ+1:=by have h3:=ho.tot;have h4:=ho.pos;have h5:(bJ L a).aZ=a:=rfl;omega
         by_cases h1:(ae T 1200 (bJ L a)).2.aa=[];rw[cI h1] at q;rw[aU h1] at q1
         rotate_left
         rw[ch h1] at q;rw[aS h1] at q1
         rotate_left
         all_goals
          have ih:=iS2 ja jb jl JF (aB++[(ae T 1200 (bJ L a)).1.1]) ((ae T 1200 (bJ L a)).2.aZ+1) m 0 (by omega) jr jo js (by simp) (by simp;omega) (by omega) (by omega);rw[<-bB,List.length_append,List.length_cons,List.length_nil] at ih;rw[<-bB] at gr;refine Uz ih ?_;generalize aM L (ae T 1200 (bJ L a)).2=tk at *;generalize (cP (ae T 1200 (bJ L a)).1).2=tl at *;generalize (ae T 1200 (bJ L a)).1.1=t at *;generalize (ae T 1200 (bJ L a)).2=s1 at *;generalize aG aB=A at *;simp[jT,-af,-aj,-ah,-az,-ck,u1,u2,xr,yr,fA,jX,fx,q,q1,q2,cR,ur,uc,w1,gr,aT,hf,h8,h9,gG,iH,jr,jo,js,aN,aP]
      .have e2:=L7 (st:=bJ L a) hk;rw[iD rC (by rw[e2];decide),e2];rw[ks] at hk;refine .inl ?_;by_cases h1:(ae T 1200 (bJ L a)).2.aa=[];rw[cI h1] at q;rw[aU h1] at q1
       rotate_left
       rw[ch h1] at q;rw[aS h1] at q1
       rotate_left
       all_goals
        generalize aM L (ae T 1200 (bJ L a)).2=tk at *;generalize (cP (ae T 1200 (bJ L a)).1).2=tl at *;generalize (cP (ae T 1200 (bJ L a)).1).1=t at *;generalize (ae T 1200 (bJ L a)).2=s1 at *;generalize aG aB=A at *;exact⟨_,by simp[jT,-af,-aj,-ah,-az,-ck,u1,u2,xr,yr,fA,jX,fx,q,cR,ur,uc,aT,hf,h8,h9,gG,iH,jr,jo,js,q1,hk,aN,aP];with_reducible rfl,by decide,rfl⟩
   .rw[mj (st:=bJ L a) cR];exact .inr ⟨_,by simp[jT,-af,-aj,-ah,-az,-ck,u1,u2,xr,yr,fA,jX,fx,cR,hf,h8,h9,gG,iH,jr,jo,js,aN,aP];with_reducible rfl,rfl,ha,rfl⟩
theorem afB(n:Nat){x y:AV}{T:List bj}{L:List Tok}(hx:ba x=some T)(hy:bx y=some L)(hT:T.length<1000000)(hg:ew T=true)(hL1:L.all n9=true)(Ov:L.length<=1024)(M:Nat):∀(a m md:Nat),a<=L.length->(L.length-a)<=100000->L.length-a<M+1->M+1<=m->(CD (gu 1 0 (bL (aH (aF (b9 Fk Ff) (n+1)) (n+1) zD) ui 1 m (D3 x y .aJ (.ptr 0 0)) ⟨1,[.row [x,y,.int .i64 a,.aJ,.int .i64 0,.bool false]],1,md⟩)) (lI T L.length (M+1) [] (bJ L a))\/∃h',(gu 1 0 (bL (aH (aF (b9 Fk Ff) (n+1)) (n+1) zD) ui 1 m (D3 x y .aJ (.ptr 0 0)) ⟨1,[.row [x,y,.int .i64 a,.aJ,.int .i64 0,.bool false]],1,md⟩))=some (.exit 0,FM 74 [(9,.aJ)],h')/\lI T L.length (M+1) [] (bJ L a)=([],0)):=by
 have iS1:=Wk n hx hy hT hg hL1 Ov M;have iS2:=U5 n hx hy hT hg hL1 Ov M;have aN:=aR hx;have aP:=aI hy;have fA:=aN.Fh;have jX:=aP.Fh;have fx:=λh n0 d=>aN.fr h n0 d
 have hfy:=λh n0 d=>aP.fr h n0 d
 have u1:=yG aN aP;have u2:=B3 aN aP;have jT:=jR hy;have xr:x.aK=0:=aN.aK;have yr:y.aK=0:=aP.aK;intro a m md WU hl hM hm;obtain⟨m,rfl⟩:∃k,m=k+1:=⟨m-1,by omega⟩
 rw[ak];by_cases cR:(a:Int)<(L.length:Int)
 .have rC:((bJ L a).aZ:Int)<(L.length:Int):=cR;have hc:=ZV (T:=T) hT hg hL1 Ov (a:=a) (by omega);have q:=cE 1025 hx hy hc 1200 (by decide) (Az Ov);rw[aU (st:=bJ L a) rfl,show (bJ L a).aa=[] from rfl,show (((bJ L a).aZ:Nat):Int)=(a:Int) from rfl,show (((bJ L a).next:Nat):Int)=0 from rfl,an] at q;have ur:=ay (cP (ae T 1200 (bJ L a)).1).1;have uc:=br (cP (ae T 1200 (bJ L a)).1).1
  cases bV:(ae T 1200 (bJ L a)).1.2.2 with
  |false=>
    have e2:=Nc (st:=bJ L a) bV;rw[iD rC (by rw[e2];decide),e2];rw[bV] at q;refine .inl (.inl ?_);by_cases h1:(ae T 1200 (bJ L a)).2.aa=[];rw[cI h1] at q
    rotate_left
    rw[ch h1] at q
    rotate_left
    all_goals
     generalize aM L (ae T 1200 (bJ L a)).2=tk at *;generalize (cP (ae T 1200 (bJ L a)).1).2=tl at *;generalize (cP (ae T 1200 (bJ L a)).1).1=t at *;generalize (ae T 1200 (bJ L a)).2=s1 at *;exact⟨_,by simp[jT,-af,-aj,-ah,-az,-ck,u1,u2,xr,yr,fA,jX,fx,q,cR,ur,uc,aT,aN,aP];with_reducible rfl,by decide,rfl⟩
  |true=>
    have ho:=(a6 T).ok 1200 (bJ L a) bV;have c1:=hc.ok ho;have q1:=ee hx hy c1;have ks:(aL (ae T 1200 (bJ L a)).2).au=(aM L (ae T 1200 (bJ L a)).2).au:=by rw[bm c1.rc]
    rw[bK] at q1;rw[bV] at q;by_cases hk:(aL (ae T 1200 (bJ L a)).2).au=6
    .have mQ:=de c1.rc (by rw[hk];decide);have oc:=L5 (st:=bJ L a) bV hk;change cw T (bJ L a)=if fH (ae T 1200 (bJ L a)).1.1=true then (((ae T 1200 (bJ L a)).1.1,0),aq (ae T 1200 (bJ L a)).2) else ((lh,3),aq (ae T 1200 (bJ L a)).2) at oc
     have hk2:=ks.symm.trans hk;rw[hk2] at q1;have et:(cP (ae T 1200 (bJ L a)).1).1=(ae T 1200 (bJ L a)).1.1:=by unfold cP;rw[bV];rfl
     have hB:=(wI T ((bJ L a).aC.length+1)).b 1200 (bJ L a) (AM hc.rc) bV;have Xe:=hB.1;have qm:=Az (a:=a) Ov;have q2:=vD (ae T 1200 (bJ L a)).1.1 (by change Tm.ig (ae T 1200 (bJ L a)).1.1<=_ at Xe;omega);rw[et] at q ur uc;rw[an] at q2
     cases G6:fH (ae T 1200 (bJ L a)).1.1 with
     |false=>
       rw[G6,if_neg (by simp)] at oc;have e2:(cw T (bJ L a)).1.2=3:=by rw[oc]
       rw[iD rC (by rw[e2];decide),e2];rw[G6] at q2;refine .inl (.inl ?_);by_cases h1:(ae T 1200 (bJ L a)).2.aa=[];rw[cI h1] at q;rw[aU h1] at q1
       rotate_left
       rw[ch h1] at q;rw[aS h1] at q1
       rotate_left
       all_goals
        generalize aM L (ae T 1200 (bJ L a)).2=tk at *;generalize (cP (ae T 1200 (bJ L a)).1).2=tl at *;generalize (ae T 1200 (bJ L a)).1.1=t at *;generalize (ae T 1200 (bJ L a)).2=s1 at *;exact⟨_,by simp[jT,-af,-aj,-ah,-az,-ck,u1,u2,xr,yr,fA,jX,fx,q,cR,ur,uc,aT,q1,q2,aN,aP];with_reducible rfl,by decide,rfl⟩
     |true=>
       rw[G6,if_pos rfl] at oc;rw[G6] at q2;have e2:(cw T (bJ L a)).1.2=0:=by rw[oc]
       rw[pP rC e2,oc]
       have wm:∀M aB,lI T L.length M aB (aq (ae T 1200 (bJ L a)).2)=lI T L.length M aB (bJ L ((ae T 1200 (bJ L a)).2.aZ+1)):=λM aB=>HW (a:=aq (ae T 1200 (bJ L a)).2) (b:=bJ L ((ae T 1200 (bJ L a)).2.aZ+1)) rfl (by show (ae T 1200 (bJ L a)).2.aC.tail=(mT L).drop ((ae T 1200 (bJ L a)).2.aZ+1);rw[c1.rc.aC,List.tail_drop]) M aB
       dsimp only;rw[wm];have w1:=wrap_i64 (n:=((ae T 1200 (bJ L a)).2.aZ:Int)+1) (by omega) (by omega);have gr:=bh ([]++[(ae T 1200 (bJ L a)).1.1])
       have ahR:a<(ae T 1200 (bJ L a)).2.aZ+1:=by have h3:=ho.tot;have h4:=ho.pos;have h5:(bJ L a).aZ=a:=rfl;omega
       by_cases h1:(ae T 1200 (bJ L a)).2.aa=[];rw[cI h1] at q;rw[aU h1] at q1;have ih:=iS1 (((ae T 1200 (bJ L a)).2.aZ:Int)+1) ((ae T 1200 (bJ L a)).2.next:Int) ([]++[(ae T 1200 (bJ L a)).1.1]) ((ae T 1200 (bJ L a)).2.aZ+1) m 0 (by omega) (by simp) (by simp;omega) (by omega) (by omega)
       rotate_left
       rw[ch h1] at q;rw[aS h1] at q1;have ih:=iS2 (((ae T 1200 (bJ L a)).2.aZ:Int)+1) ((ae T 1200 (bJ L a)).2.next:Int) (ae T 1200 (bJ L a)).2.aa.length (aQ (ae T 1200 (bJ L a)).2.aa) ([]++[(ae T 1200 (bJ L a)).1.1]) ((ae T 1200 (bJ L a)).2.aZ+1) m 0 (by omega) (bf _) (db _) (dc _) (by simp) (by simp;omega) (by omega) (by omega)
       rotate_left
       all_goals
        rw[<-bB,List.length_append,List.length_cons,List.length_nil] at ih;rw[<-bB] at gr;refine .inl ?_;refine Uz ih ?_;generalize aM L (ae T 1200 (bJ L a)).2=tk at *;generalize (cP (ae T 1200 (bJ L a)).1).2=tl at *;generalize (ae T 1200 (bJ L a)).1.1=t at *;generalize (ae T 1200 (bJ L a)).2=s1 at *;simp[jT,-af,-aj,-ah,-az,-ck,u1,u2,xr,yr,fA,jX,fx,q,q1,q2,cR,ur,uc,w1,gr,aT,aG,aN,aP]
    .have e2:=L7 (st:=bJ L a) hk;rw[iD rC (by rw[e2];decide),e2];rw[ks] at hk;refine .inl (.inl ?_);by_cases h1:(ae T 1200 (bJ L a)).2.aa=[];rw[cI h1] at q;rw[aU h1] at q1
     rotate_left
     rw[ch h1] at q;rw[aS h1] at q1
     rotate_left
     all_goals
      generalize aM L (ae T 1200 (bJ L a)).2=tk at *;generalize (cP (ae T 1200 (bJ L a)).1).2=tl at *;generalize (cP (ae T 1200 (bJ L a)).1).1=t at *;generalize (ae T 1200 (bJ L a)).2=s1 at *;exact⟨_,by simp[jT,-af,-aj,-ah,-az,-ck,u1,u2,xr,yr,fA,jX,fx,q,cR,ur,uc,aT,q1,hk,aN,aP];with_reducible rfl,by decide,rfl⟩
 .rw[mj (st:=bJ L a) cR];exact .inr ⟨_,by simp[jT,-af,-aj,-ah,-az,-ck,u1,u2,xr,yr,fA,jX,fx,cR,aN,aP];with_reducible rfl,rfl⟩
end
section
attribute [local simp] fX fU fY fR eO eN fP fS fT eQ eR fQ lK lQ lS lO lM lT fc fe Laid.aK db dc bf abA c39 ui Fk Ff zL HT DO jQ cM nD
theorem IF{x:AV}{T:List bj}(hx:ba x=some T)(hT:T.length<1000000)(s:List UInt8):∃h',aF (b9 Fk Ff) 200000 39 [x,.str s] h0=some (nD (jI T s),h'):=by
 have qg:=Eu hx (by omega);have qc:=JO s;have zj:=oP s;have hy:=vy (a8 s).1;unfold oF at qc;unfold jI;have aN:=aR hx;have aP:=aI hy;have fx:=λh n0 d=>aN.fr h n0 d
 have fA:=aN.Fh;have jX:=aP.Fh;have u1:=yG aN aP;have xr:x.aK=0:=aN.aK
 cases hg:ew T with
 |false=>rw[if_pos rfl];rw[hg] at qg;exact⟨_,by simp[u1,qg,qc,fA,jX,fx,xr,-af,-aj,-ah,-az,-ck,wx,aN,aP];with_reducible rfl⟩
 |true=>
   rw[if_neg (by simp)];rw[hg] at qg;by_cases he:(a8 s).2.2=0
   .rw[if_neg (λh=>h he)];rw[he] at qc;have lp:=afB 199998 hx hy hT hg zj.1 zj.2 (a8 s).1.length 0 199999 0 (Nat.zero_le _) (by have:=zj.2;omega) (by omega) (by have:=zj.2;omega);rw[show (((0:Nat):Int))=0 from rfl] at lp;generalize j5 (a8 s).1=y at *;generalize lI T (a8 s).1.length ((a8 s).1.length+1) [] (bJ (a8 s).1 0)=r at *;generalize (a8 s).2.1=pp at *;obtain⟨l,e⟩:=r;simp only[ui,D3,Fk,Ff] at lp;rcases lp with (⟨⟨nx,os,wl,md⟩,lp,h1,h2⟩|⟨⟨nx,os,wl,md⟩,lp,h1,h2,h3⟩)|⟨⟨nx,os,wl,md⟩,lp,h1⟩
    .dsimp only at lp h1 h2;subst h2;exact⟨_,by simp[u1,qg,qc,fA,jX,fx,xr,-af,-aj,-ah,-az,-ck,wx,lp,aN,aP];with_reducible rfl⟩
    .dsimp only at lp h1 h2 h3;subst h1;have fk:∀d,jF ⟨nx,os,wl,md⟩ 0 (d+2) (.vec 1 0 l.length 4 l.length)=some (.sl (l.map Tm.aV),[1]):=λd=>sA h2 (Nat.zero_le 1) h3
     have hr:=bF l;have hs:=sh h2;unfold nD;dsimp only;rw[hs];generalize l.map Tm.aV=U at *;generalize l.length=k at *;exact⟨_,by simp[u1,qg,qc,fA,jX,fx,xr,-af,-aj,-ah,-az,-ck,lp,fk,hr,-iA,aN,aP];with_reducible rfl⟩
    .cases h1;exact⟨_,by simp[u1,qg,qc,fA,jX,fx,xr,-af,-aj,-ah,-az,-ck,wx,lp,aN,aP];with_reducible rfl⟩
   .rw[if_pos he];exact⟨_,by simp[u1,qg,qc,fA,jX,fx,xr,-af,-aj,-ah,-az,-ck,he,wx,aN,aP];with_reducible rfl⟩
noncomputable def oX:aX:=⟨39,λ
 |[x,.str s]=>(match ba x with|some T=>if T.length<1000000 then some (nD (jI T s)) else none|none=>none)
 |_=>none⟩
theorem pW:oX.f=39:=(rfl)
theorem HG{x:AV}{T:List bj}(hx:ba x=some T)(hT:T.length<1000000)(s:List UInt8):oX.S [x,.str s]=some (nD (jI T s)):=by simp only[oX,hx,if_pos hT]
theorem HN:fi Tryz.prog cX oX:=λag v hv=>by
 unfold oX at hv|-;dsimp only at hv|-;split at hv
 .rename_i x s;split at hv
  .rename_i T hx;split at hv
   .rename_i hT;cases hv;obtain⟨h',e⟩:=IF hx hT s;exact bG (dK (ss:=Fk) (ms:=Ff) (by simp[Fk,Em.lift,K0.lift,GS.lift]) (by simp[Ff,uo,pj])) e (Bb _) (by simp[AV.aK,AV.aw,fL hx])
   .cases hv
  .cases hv
 .cases hv
end
section
def kD(N:Nat):aX:=⟨38,λ|[v]=>(match kC v with|some t=>if t.size<N then some (fB t).aV else none|none=>none)|_=>none⟩
theorem lF(N:Nat):(kD N).f=38:=(rfl)
theorem oQ(N:Nat)(x:Tm)(h:x.size<N):(kD N).S [x.aV]=some (fB x).aV:=by simp only[kD,fh,if_pos h]
theorem RU(N:Nat)(x:Tm)(h:N<=x.size):(kD N).S [x.aV]=none:=by simp only[kD,fh];rw[if_neg (by omega)]
theorem J2(n N:Nat)(us:List Tm)(hN:N<=1000000000)(h1:Tm.dw us<N)(K M:Int)(s:List UInt8):∀(post pre aB:List Tm) (k:Nat),us=pre++post->aB.length=pre.length->aB≠[]->post.length<k->
 ∃md,gu 3 0 (bL (aH (aF (cY [kD N]) (n+1)) (n+1) uy) qI 3 k (Nd (.ptr 0 0) (.ptr 1 0) (.ptr 2 0) (.int .i64 pre.length)) ⟨4,[.row (aG aB),.row [.int .i64 K,.int .i64 M,.str s,.vec 3 0 aB.length 4 aB.length],.row zT,.row [.int .i64 K,.int .i64 M,.str s,.sl (us.map Tm.aV)]],2,0⟩)=
   some (.exit 0,FM 31 [(2,.ptr 1 0),(3,.ptr 2 0)],⟨4,[.row (aG (aB++post.map fB)),.row [.int .i64 K,.int .i64 M,.str s,.vec 3 0 (aB++post.map fB).length 4 (aB++post.map fB).length],.row zT,.row [.int .i64 K,.int .i64 M,.str s,.sl (us.map Tm.aV)]],0,md⟩)
 |[],pre,aB,k+1,e,ea,_,_=>by simp at e;subst e;have h5:AV.aw (us.map Tm.aV)=0:=bF _;have hf:=bh aB;exact⟨0,by simp[ak,uy,h5,hf,zT]⟩
 |x::post,pre,aB,k+1,e,ea,fy,hk=>by
   have hlu:=ft us;have g1:us[pre.length]? =some x:=by rw[e];simp
   have h5:AV.aw (us.map Tm.aV)=0:=bF _;have hf:=bh aB;have EN:pre.length<us.length:=by rw[e];simp
   have h6:((pre.length:Int)<(us.length:Int))=True:=eq_true (by omega);have h3:IntKind.i64.wrap ((pre.length:Int)+1)=(pre.length:Int)+1:=wrap_i64 (by omega) (by omega);have iI:=Tm.dj x;have fA:=Tm.dx x;have gm:=ay x;have hx:x∈us:=by rw[e];simp
   have hs:=oQ N x (by have:=nt hx;omega);obtain⟨md,ih⟩:=J2 n N us hN h1 K M s post (pre++[x]) (aB++[fB x]) k (by simp[e]) (by simp[ea]) (by simp) (by rw[List.length_cons] at hk;omega);refine⟨md,?_⟩;have WX:(fB x).aV=.agg (fB x).cells:=Tm.dj _;have SJ:=ay (fB x);have gr:AV.aw (aG aB++(fB x).cells)=0:=by rw[<-xA];exact bh _
   rw[iI,fA] at hs;have em:(x::post).map fB=fB x::post.map fB:=rfl;rw[em];generalize fB x=y at *;have jX:=Tm.dx y;rw[jX] at gr;have h8:(aB.length+1)*56<=140737488355328:=by omega
   have h9:aB.length+1<9223372036854775808:=by omega
   have gG:(aG aB).take (aB.length*4)=aG aB:=by rw[List.take_of_length_le];rw[bP];exact Nat.le_refl _
   have iH:=bP aB;simp only[List.length_append,List.length_cons,List.length_nil,Nat.zero_add,xA,jX,List.append_assoc] at ih;rw[show ((pre.length+1:Nat):Int)=(pre.length:Int)+1 by omega] at ih;rw[ak];simp[uy,qI,g1,h3,h5,h6,hf,gr,h8,h9,gG,iH,iI,fA,gm,WX,jX,SJ,hs,bc,lF,aT,zT];simp only[zT] at ih;refine Eq.trans ih ?_;simp[aG,jX,Nat.add_comm,Nat.add_left_comm,Nat.add_assoc]
theorem MA(C:Nat->List AV->ai->Option (AV×ai))(n k:Nat)(K M:Int)(s:List UInt8)(A:AV)(hA:A=.aJ\/A=.sl []):
 gu 3 0 (bL (aH C n uy) qI 3 (k+1) (Nd (.ptr 0 0) (.ptr 1 0) (.ptr 2 0) (.int .i64 0)) ⟨3,[.row [.int .i64 K,.int .i64 M,.str s,.aJ],.row zT,.row [.int .i64 K,.int .i64 M,.str s,A]],3,0⟩)=
  some (.exit 0,FM 31 [(2,.ptr 1 0),(3,.ptr 2 0)],⟨3,[.row [.int .i64 K,.int .i64 M,.str s,.aJ],.row zT,.row [.int .i64 K,.int .i64 M,.str s,A]],0,0⟩):=by
 rcases hA with rfl|rfl<;>simp[ak,uy,zT]
theorem Ra(n N:Nat)(x:Tm)(r:List Tm)(hN:N<=1000000000)(h1:Tm.dw (x::r)<N)(K M:Int)(s:List UInt8)(k:Nat)(hk:r.length+1<k):
 ∃md,gu 3 0 (bL (aH (aF (cY [kD N]) (n+1)) (n+1) uy) qI 3 k (Nd (.ptr 0 0) (.ptr 1 0) (.ptr 2 0) (.int .i64 0)) ⟨3,[.row [.int .i64 K,.int .i64 M,.str s,.aJ],.row zT,.row [.int .i64 K,.int .i64 M,.str s,.sl ((x::r).map Tm.aV)]],3,0⟩)=
   some (.exit 0,FM 31 [(2,.ptr 1 0),(3,.ptr 2 0)],⟨4,[.row (aG ((x::r).map fB)),.row [.int .i64 K,.int .i64 M,.str s,.vec 3 0 (r.length+1) 4 (r.length+1)],.row zT,.row [.int .i64 K,.int .i64 M,.str s,.sl ((x::r).map Tm.aV)]],0,md⟩):=by
 obtain⟨k,rfl⟩:∃k',k=k'+1:=⟨k-1,by omega⟩
 have h5:AV.aw (r.map Tm.aV)=0:=bF _;have h6:((0:Int)<(r.length:Int)+1)=True:=eq_true (by omega);have h3:IntKind.i64.wrap (0+1)=1:=rfl;have h3':IntKind.i64.wrap 1=1:=rfl;have iI:=Tm.dj x;have fA:=Tm.dx x;have gm:=ay x;have hs:=oQ N x (by simp only[Tm.dw] at h1;omega);obtain⟨md,ih⟩:=J2 n N (x::r) hN h1 K M s r [x] [fB x] k rfl rfl (by simp) (by omega);refine⟨md,?_⟩;have WX:(fB x).aV=.agg (fB x).cells:=Tm.dj _;have SJ:=ay (fB x);rw[iI,fA] at hs;have em:(x::r).map fB=fB x::r.map fB:=rfl;rw[em];generalize fB x=y at *;have jX:=Tm.dx y;simp only[List.length_append,List.length_cons,List.length_nil,Nat.zero_add,jX,zT,aG,List.flatMap_cons,List.flatMap_nil,List.append_nil,List.map_cons,iI,fA] at ih;rw[ak];simp[uy,qI,h3,h3',h5,h6,iI,fA,gm,WX,jX,SJ,hs,bc,lF,aT,zT];refine Eq.trans ih ?_;simp[aG,jX,Nat.add_comm,Nat.add_left_comm,Nat.add_assoc]
theorem KF(N:Nat)(hN:N<=1000000000)(hp:aY Tryz.prog (kD N)):aY Tryz.prog (kD (N+1)):=λag v hv=>by
 unfold kD at hv;dsimp only at hv;split at hv
 .rename_i a;split at hv
  .rename_i x ha;split at hv
   .rename_i hc;rcases Nat.lt_or_ge x.size N with cR|hge
    .refine hp _ _ ?_;rw[eI ha,oQ N x cR];exact hv
    cases hv;rw[lF,eI ha];have jm:=RU N x hge;have s1:=gQ x;have hla:=ft x.ag;refine bG (n:=x.size+5) (h':=h0) (bA (ss:=[kD N]) (by simp[hp])) ?_ (Tm.cm _) (by simp[AV.aw,AV.aK,Tm.cm]);have iI:=Tm.dj x;have fA:=Tm.dx x;rw[yn];rw[iI,fA] at jm|-;by_cases fy:x.ag=[]
    .have a1:x.ca=.aJ\/x.ca=.sl []:=by
      cases x with
      |nl k n s=>exact .inl rfl
      |mk k n s us=>simp only[Tm.ag] at fy;subst fy;exact .inr rfl
     have lp:=MA (aF (cY [kD N]) (x.size+4)) (x.size+4) (x.size+3) x.au x.cF x.bH x.ca a1;simp only[qI,zT] at lp;rw[fy];have em:(X3 x.au x.cF x.bH (List.map fB [])).aV=.agg [.int .i64 x.au,.int .i64 x.cF,.str x.bH,.aJ]:=rfl;rw[em];rcases a1 with a1|a1<;>rw[a1] at jm lp|-<;>simp[aas,c38,qI,jm,lF,lp]
    .obtain⟨y,r,ha⟩:∃y r,x.ag=y::r:=by
      cases h:x.ag with
      |nil=>exact absurd h fy
      |cons y r=>exact⟨y,r,rfl⟩
     have a1:x.ca=.sl (x.ag.map Tm.aV):=by
      cases x with
      |nl k n s=>exact absurd rfl fy
      |mk k n s us=>rfl
     have h5:=bF x.ag;rw[ha] at s1 hla h5;obtain⟨md,lp⟩:=Ra (x.size+3) N y r hN (by omega) x.au x.cF x.bH (x.size+4) (by simp at hla;omega);simp only[qI,zT] at lp;have gr:=bh ((y::r).map fB);have em:(X3 x.au x.cF x.bH ((y::r).map fB)).aV=.agg [.int .i64 x.au,.int .i64 x.cF,.str x.bH,.sl (((y::r).map fB).map Tm.aV)]:=by simp[X3,Tm.aV,kF,Tm.uJ]
     have hf:∀(A B C:bp) (wl md d:Nat),jF ⟨4,[.row (aG ((y::r).map fB)),A,B,C],wl,md⟩ 0 (d+2) (.vec 3 0 (r.length+1) 4 (r.length+1))=some (.sl (((y::r).map fB).map Tm.aV),[3]):=λA B C wl md d=>by have:=aaQ (h:=⟨4,[.row (aG ((y::r).map fB)),A,B,C],wl,md⟩) (n0:=0) (d:=d) (id:=3) (fB y) (r.map fB) (by omega) rfl;simpa using this
     rw[a1] at jm|-;rw[ha,em];rw[ha] at jm;generalize (y::r).map fB=Z at *;generalize (y::r).map Tm.aV=E at *;simp[aas,c38,qI,jm,h5,gr,hf,lp,lF,Bl]
   .cases hv
  .cases hv
 .cases hv
theorem J5:aY Tryz.prog (kD 0):=λag v hv=>by
 unfold kD at hv;dsimp only at hv;split at hv
 .split at hv
  .split at hv
   .rename_i hc;omega
   .cases hv
  .cases hv
 .cases hv
theorem xh:∀N,N<=1000000001->aY Tryz.prog (kD N)
 |0,_=>J5
 |N+1,h=>KF N (by omega) (xh N (by omega))
def J8:List UInt8:=[120,102,120]
def xfy:List UInt8:=[120,102,121]
def TC:List UInt8:=[121,102,120]
def fyK:List UInt8:=[102,121]
def nV:List bj:=[⟨[58,45],J8,1200⟩,⟨[59],xfy,1100⟩,⟨[45,62],xfy,1050⟩,⟨[44],xfy,1000⟩,⟨[92,43],fyK,900⟩,
 ⟨[61],J8,700⟩,⟨[92,61],J8,700⟩,⟨[61,61],J8,700⟩,⟨[92,61,61],J8,700⟩,⟨[64,60],J8,700⟩,⟨[64,62],J8,700⟩,⟨[64,61,60],J8,700⟩,⟨[64,62,61],J8,700⟩,
 ⟨[61,46,46],J8,700⟩,⟨[105,115],J8,700⟩,⟨[61,58,61],J8,700⟩,⟨[61,92,61],J8,700⟩,⟨[60],J8,700⟩,⟨[62],J8,700⟩,⟨[61,60],J8,700⟩,⟨[62,61],J8,700⟩,
 ⟨[43],TC,500⟩,⟨[45],TC,500⟩,⟨[47,92],TC,500⟩,⟨[92,47],TC,500⟩,⟨[120,111,114],TC,500⟩,
 ⟨[42],TC,400⟩,⟨[47,47],TC,400⟩,⟨[109,111,100],TC,400⟩,⟨[114,101,109],TC,400⟩,⟨[62,62],TC,400⟩,⟨[60,60],TC,400⟩,
 ⟨[94],xfy,200⟩,⟨[45],fyK,200⟩,⟨[92],fyK,200⟩]
def qL:aX:=⟨12,λ|[]=>some (.agg [.sl (nV.map bj.aV)])|_=>none⟩
theorem CQ:qL.f=12:=(rfl)
theorem A7:qL.S []=some (.agg [.sl (nV.map bj.aV)]):=(rfl)
theorem Li:(aF (cY []) 60 12 [] h0).map (·.1)=some (.agg [.sl (nV.map bj.aV)]):=by kernel_rfl
theorem Bc:aY Tryz.prog qL:=λag v hv=>by
 unfold qL at hv|-;dsimp only at hv|-;split at hv
 .cases hv;obtain⟨p,h1,h2⟩:=Option.map_eq_some_iff.1 Li;obtain⟨a,h'⟩:=p;dsimp only at h2;subst h2;exact bG (n:=60) (h':=h') (bA (ss:=[]) (by simp)) h1 (by decide+kernel) rfl
 .cases hv
def sAw:List UInt8:=[88,32,61,32,97,32,43,32,89,46]
def tAw:Tm:=.mk 2 0 [61] [.nl 0 0 [],.mk 2 0 [43] [.nl 2 0 [97],.nl 0 1 []]]
theorem adD:il nV sAw=((tAw,[([88],0),([89],1)]),0):=by kernel_rfl
def awV:AV:=.agg [.int .i64 2,.int .i64 0,.str [61],.sl [.agg [.int .i64 0,.int .i64 0,.str [],.aJ],.agg [.int .i64 2,.int .i64 0,.str [43],.sl [.agg [.int .i64 2,.int .i64 0,.str [97],.aJ],.agg [.int .i64 0,.int .i64 1,.str [],.aJ]]]]]
theorem afT:(aF (cY []) 60 25 [.agg [.int .i64 2,.int .i64 0,.str [61],.sl [.agg [.int .i64 0,.int .i64 0,.str [],.aJ],.agg [.int .i64 2,.int .i64 0,.str [43],.sl [.agg [.int .i64 2,.int .i64 0,.str [97],.aJ],.agg [.int .i64 0,.int .i64 1,.str [],.aJ]]]]]] h0).map (λp=>p.1)=some (.tuple [.str [61,40,95,48,44,43,40,97,44,95,49,41,41],.int .i64 0]):=by kernel_rfl
def y0:aX:=⟨25,λ|[v]=>if v.I5 awV then some (.tuple [.str [61,40,95,48,44,43,40,97,44,95,49,41,41],.int .i64 0]) else none|_=>none⟩
theorem Qr:y0.f=25:=(rfl)
theorem N5:aY Tryz.prog y0:=λag v hv=>by
 unfold y0 at hv|-;dsimp only at hv|-;split at hv
 .rename_i x;split at hv
  .rename_i hx;cases hv;rw[AV.Mm _ _ hx];obtain⟨⟨w,h'⟩,e1,e2⟩:=Option.map_eq_some_iff.1 afT;dsimp only at e2;subst e2;exact bG (n:=60) (h':=h') (bA (ss:=[]) (by simp)) e1 rfl rfl
  .cases hv
 .cases hv
noncomputable def abU:List aX:=[qL,xp,xo,kD 1000000000,y0]
theorem Yl:∀s∈abU,fi Tryz.prog cX s:=by simp[abU,Bc.lift,Gh,Fx.lift,(xh 1000000000 (by omega)).lift,N5.lift]
def xY:aX:=⟨13,λ|[]=>some (.bool true)|_=>none⟩
theorem vL:xY.f=13:=(rfl)
theorem Nh:xY.S []=some (.bool true):=(rfl)
theorem NO:fi Tryz.prog cX xY:=λag v hv=>by
 unfold xY at hv|-;dsimp only at hv|-;split at hv
 .cases hv;refine bG (n:=10) (h':=h0) (oR Yl) ?_ rfl rfl;have q0:=A7;have q1:=F7 (Ad nV) (by decide) sAw;rw[adD] at q1;have e1:o7 ((tAw,[([88],0),([89],1)]),0)=.tuple [.agg [.int .i64 2,.int .i64 0,.str [61],.sl [.agg [.int .i64 0,.int .i64 0,.str [],.aJ],.agg [.int .i64 2,.int .i64 0,.str [43],.sl [.agg [.int .i64 2,.int .i64 0,.str [97],.aJ],.agg [.int .i64 0,.int .i64 1,.str [],.aJ]]]]],.sl [.agg [.str [88],.int .i64 0],.agg [.str [89],.int .i64 1]],.int .i64 0]:=by kernel_rfl
  have e2:tAw.aV=.agg [.int .i64 2,.int .i64 0,.str [61],.sl [.agg [.int .i64 0,.int .i64 0,.str [],.aJ],.agg [.int .i64 2,.int .i64 0,.str [43],.sl [.agg [.int .i64 2,.int .i64 0,.str [97],.aJ],.agg [.int .i64 0,.int .i64 1,.str [],.aJ]]]]]:=by kernel_rfl
  have e3:(fB tAw).aV=tAw.aV:=by kernel_rfl
  rw[e1] at q1;unfold sAw at q1;have q2:=AT tAw (by decide+kernel);rw[show fH tAw=true by decide+kernel,e2] at q2;have q3:=oQ 1000000000 tAw (by decide+kernel);rw[e3,e2] at q3;have q4:y0.S [.agg [.int .i64 2,.int .i64 0,.str [61],.sl [.agg [.int .i64 0,.int .i64 0,.str [],.aJ],.agg [.int .i64 2,.int .i64 0,.str [43],.sl [.agg [.int .i64 2,.int .i64 0,.str [97],.aJ],.agg [.int .i64 0,.int .i64 1,.str [],.aJ]]]]]]=some (.tuple [.str [61,40,95,48,44,43,40,97,44,95,49,41,41],.int .i64 0]):=by kernel_rfl
  generalize nV.map bj.aV=pt at *;have c1:lN [2,1] [.str [88],.int .i64 0] [.str [88],.int .i64 0]=some true:=by kernel_rfl
  have c2:lN [2,1] [.str [89],.int .i64 1] [.str [89],.int .i64 1]=some true:=by kernel_rfl
  simp[c1,c2,ae6,afK,c13,c41,abU,CQ,um,Km,lF,Qr,q0,q1,q2,q3,q4]
 .cases hv
section
variable {b:UInt8}(hb:kB b=true)
include hb
end
section
variable {b:UInt8}(hb:kB b=true)(v:List UInt8)
include hb
end
section
variable {b:UInt8}(hb:b.toNat=10)(v:List UInt8)
include hb
end
def aaM(e:qQ):Prop:=e.au=6\/(e.au=5/\e.aD=[41])
def Sw(Q Q':List qQ)(d:Nat)(s s':St):Prop:=∃R,s.aC=R++Q/\s'.aC=R++Q'/\s'.aZ=s.aZ+d/\s'.next=s.next/\s'.aa=s.aa
section
variable {Q1 Q1':List qQ}{e e':qQ}{d:Nat}(he:aaM e)(he':aaM e')
section
variable {s s':St}(h:Sw (e::Q1) (e'::Q1') d s s')
include h
end
def SwR(Q1 Q1':List qQ)(e e':qQ)(d:Nat)(rec:Int->St->PR×St):Prop:=∀n s s',Sw (e::Q1) (e'::Q1') d s s'->(rec n s).1.2.2=true->Q1.length+1<=(rec n s).2.aC.length->(rec n s').1=(rec n s).1/\Sw (e::Q1) (e'::Q1') d (rec n s).2 (rec n s').2
variable {rec:Int->St->PR×St}(H:uV rec)(W:SwR Q1 Q1' e e' d rec)
include H W he'
end
mutual
theorem OA:∀t:Tm,wC t t=true
 |.nl k n s=>by rw[xR];simp[Tm.ag,oY]
 |.mk k n s us=>by rw[xR];simp[Tm.ag,La us]
theorem La:∀us:List Tm,oz us us=true
 |[]=>by simp[oY]
 |t::r=>by rw[ti,OA t,La r];rfl
end
theorem abx(us:List Tm):wx us=.aJ\/∃W,wx us=.sl W:=by
 cases us with
 |nil=>exact .inl rfl
 |cons x r=>exact .inr ⟨_,rfl⟩
theorem TS{T:List bj}{s:List UInt8}{a:Tm}{n:List (List UInt8×Int)}(hT:T.length<1000000)(h:il T s=((a,n),0)):fH a=true/\n.length<=1025:=by
 unfold il at h;by_cases hg:ew T=false
 .rw[if_pos hg] at h;cases h
 rw[if_neg hg] at h;by_cases hc:(a8 s).2.2=0
 .rw[if_neg (λg=>g hc)] at h;by_cases h2:(cw T (bJ (a8 s).1 0)).1.2=2\/((cw T (bJ (a8 s).1 0)).2.aZ:Int)<(a8 s).1.length
  .rw[if_pos h2] at h;cases h
  rw[if_neg h2] at h;by_cases h3:(cw T (bJ (a8 s).1 0)).1.2=0
  .rw[if_neg (λg=>g h3)] at h;simp only[Prod.mk.injEq] at h;obtain⟨⟨rfl,rfl⟩,_⟩:=h;have zj:=oP s;have tP:=YC (T:=T) (a:=0) hT zj.1 zj.2 (Nat.zero_le _);have hr:=(yi tP h3).1;obtain⟨_,_,g,e⟩:=MS h3;refine⟨by rw[e];exact g,?_⟩;have h4:=hr.nm;have h5:=hr.nx;have h6:=hr.le;have h7:=zj.2;omega
  .rw[if_pos h3] at h;exact absurd (congrArg Prod.snd h) h3
 .rw[if_pos hc] at h;exact absurd (congrArg Prod.snd h) hc
theorem xu(l:List (List UInt8×Int)):∀(fr:List AV) (h:ai) (o:dU),o.ev fr=lf l->cf fr h (.xX o)=some (.int .i64 l.length,h):=λfr h o ho=>by
 rw[gn,ho]
 cases l with
 |nil=>rfl
 |cons x r=>simp[lf]
mutual
theorem DX:∀t:Tm,wC (fB t) t=true
 |.nl k n s=>OA _
 |.mk k n s us=>by rw[xR,Uf,Xw,S2,I9];have h:=GJ us;simp only[Tm.ag];rw[h];simp
theorem GJ:∀us:List Tm,oz (us.map fB) us=true
 |[]=>rfl
 |t::r=>by rw[List.map_cons,ti,DX t,GJ r];rfl
end
theorem O3{t:Tm}(h:fH t=true):t.size<=2000:=by unfold fH at h;simp only[Bool.and_eq_true,decide_eq_true_eq] at h;exact h.1.1
theorem TE{T:List bj}(hT:T.length<1000000)(s:List UInt8):(il T s).1.1.size<=2000/\(il T s).1.2.length<=1025:=by
 by_cases h:(il T s).2=0
 .obtain⟨h1,h2⟩:=TS (a:=(il T s).1.1) (n:=(il T s).1.2) hT (by rw[<-h]);exact⟨O3 h1,h2⟩
 .have:(il T s).1=(lh,[]):=by
   unfold il at h|-;split
   .rfl
   .rename_i hg;rw[if_neg hg] at h;split
    .rfl
    .rename_i hc;rw[if_neg hc] at h;split
     .rfl
     .rename_i h2;rw[if_neg h2] at h;split
      .rfl
      .rename_i h3;rw[if_neg h3] at h;exact absurd rfl h
  rw[this];exact⟨by decide,by simp⟩
theorem PB(T:List bj)(n:Nat):∀(M:Nat) (aB:List Tm) (st:St),(∀t∈aB,t.size<=2000)->(∀t∈(lI T n M aB st).1,t.size<=2000)/\(lI T n M aB st).1.length<=aB.length+M
 |0,aB,st,h=>⟨h,by simp[lI]⟩
 |M+1,aB,st,h=>by
   by_cases cR:(st.aZ:Int)<n
   .by_cases he:(cw T st).1.2=0
    .rw[pP cR he];obtain⟨_,_,g,e⟩:=MS he
     have:=PB T n M (aB++[(cw T st).1.1]) (cw T st).2 (λt ht=>by
      rcases List.mem_append.1 ht with ht|ht
      .exact h t ht
      .rw[List.mem_singleton.1 ht,e];exact O3 g)
     refine⟨this.1,?_⟩;have h2:=this.2;rw[List.length_append,List.length_singleton] at h2;omega
    .rw[iD cR he];exact⟨λt ht=>absurd ht List.not_mem_nil,by simp⟩
   .rw[mj cR];exact⟨h,by simp⟩
theorem Le(T:List bj)(s:List UInt8):(∀t∈(jI T s).1,t.size<=2000)/\(jI T s).1.length<=1025:=by
 unfold jI;split
 .exact⟨λt ht=>absurd ht List.not_mem_nil,by simp⟩
 .split
  .exact⟨λt ht=>absurd ht List.not_mem_nil,by simp⟩
  .have h:=PB T (a8 s).1.length ((a8 s).1.length+1) [] (bJ (a8 s).1 0) (λt ht=>absurd ht List.not_mem_nil);have:=(oP s).2;refine⟨h.1,?_⟩;have h2:=h.2;rw[List.length_nil] at h2;omega
noncomputable def yT:List aX:=[xY,xp,rm,As,kD 2001,j9 2001,qW,oX]
theorem Y1:∀s∈yT,fi Tryz.prog cX s:=by simp[yT,NO,Gh,Kf.lift,SB,(xh 2001 (by omega)).lift,(Bi 2001 (by omega)).lift,JS,HN]
theorem Ei(l:List Tm):∀(fr:List AV) (h:ai) (o:dU),o.ev fr=wx l->cf fr h (.xX o)=some (.int .i64 l.length,h):=λfr h o ho=>by
 rw[gn,ho]
 cases l with
 |nil=>rfl
 |cons x r=>simp[wx]
theorem Gi(n:Nat)(s:List UInt8)(A B C:List AV)(hA:AV.aw A=0)(hB:AV.aw B=0)(hC:AV.aw C=0)(L:List (List UInt8×Int))(hl:L.length<=1025):∀(post pre:List (List UInt8×Int)) (k md:Nat),L=pre++post->post.length<k->
 ∃cq,gu 3 0 (bL (aH (aF (cY yT) (n+1)) (n+1) HY) Ai 3 k (T8 (.str s) (.ptr 0 0) (lf L) (lf L) (.int .i64 pre.length)) ⟨3,[.row C,.row B,.row A],3,md⟩)=some (.exit 0,FM 132 [(1,.str s),(5,.ptr 0 0)],⟨3,[.row C,.row B,.row A],0,cq⟩)
 |_,_,0,_,_,h=>by omega
 |[],pre,k+1,md,e,_=>by
   rw[List.append_nil] at e;subst e;rw[ak];have lz:=xu L
   have sz:lf L=.aJ\/∃W,lf L=.sl W:=by
    cases L with
    |nil=>exact .inl rfl
    |cons x r=>exact .inr ⟨_,rfl⟩
   generalize lf L=vz at *;rcases sz with rfl|⟨W,rfl⟩<;>exact⟨_,by simp[-gn,HY,Ai,yT,lz,hA,hB,hC];with_reducible rfl⟩
 |t::post,pre,k+1,md,e,hk=>by
   have fZ:L.length=pre.length+post.length+1:=by rw[e];simp;omega
   have ht:L[pre.length]? =some t:=by rw[e];simp
   obtain⟨cq,ih⟩:=Gi n s A B C hA hB hC L hl post (pre++[t]) k md (by rw[e];simp) (by simp only[List.length_cons] at hk;omega);rw[List.length_append,List.length_cons,List.length_nil] at ih;rw[ak];have lz:=xu L;have hz:L≠[]:=by rw[e];simp
   have sz:=At hz;have w1:=wrap_i64 (n:=(pre.length:Int)+1) (by omega) (by omega);have Xr:(L.map RG)[pre.length]? =some (.agg [.str t.1,.int .i64 t.2]):=by rw[List.getElem?_map,ht];rfl
   have cR:(pre.length:Int)<(L.length:Int):=by omega
   rw[sz] at lz ih|-;generalize L.map RG=Z at *;refine⟨cq,Eq.trans ?_ ih⟩;simp[-gn,HY,Ai,yT,lz,cR,Xr,w1,hA,hB,hC]
theorem F2(n:Nat)(A B C:List AV)(hA:AV.aw A=0)(hB:AV.aw B=0)(hC:AV.aw C=0)(L:List Tm)(hl:L.length<=1025)(hs:∀t∈L,t.size<=2000):∀(post pre:List Tm) (k md:Nat),L=pre++post->post.length<k->
 ∃cq,gu 3 0 (bL (aH (aF (cY yT) (n+1)) (n+1) HV) zH 3 k (TN (wx L) (wx L) (.int .i64 pre.length)) ⟨3,[.row C,.row B,.row A],3,md⟩)=some (.exit 2,FM 132 [],⟨3,[.row C,.row B,.row A],0,cq⟩)
 |_,_,0,_,_,h=>by omega
 |[],pre,k+1,md,e,_=>by
   rw[List.append_nil] at e;subst e;rw[ak];have lz:=Ei L
   have sz:wx L=.aJ\/∃W,wx L=.sl W:=by
    cases L with
    |nil=>exact .inl rfl
    |cons x r=>exact .inr ⟨_,rfl⟩
   generalize wx L=vz at *;rcases sz with rfl|⟨W,rfl⟩<;>exact⟨_,by simp[-gn,HV,zH,yT,lz,hA,hB,hC];with_reducible rfl⟩
 |t::post,pre,k+1,md,e,hk=>by
   have fZ:L.length=pre.length+post.length+1:=by rw[e];simp;omega
   have ht:L[pre.length]? =some t:=by rw[e];simp
   obtain⟨cq,ih⟩:=F2 n A B C hA hB hC L hl hs post (pre++[t]) k (min md 3) (by rw[e];simp) (by simp only[List.length_cons] at hk;omega);rw[List.length_append,List.length_cons,List.length_nil] at ih;rw[ak];have lz:=Ei L;have hz:L≠[]:=by rw[e];simp
   have sz:=sh hz;have w1:=wrap_i64 (n:=(pre.length:Int)+1) (by omega) (by omega);have Xr:(L.map Tm.aV)[pre.length]? =some (.agg [.int .i64 t.au,.int .i64 t.cF,.str t.bH,t.ca]):=by rw[List.getElem?_map,ht,<-an];rfl
   have cR:(pre.length:Int)<(L.length:Int):=by omega
   have hts:=hs t (by rw[e];simp);have q1:=oQ 2001 t (by omega);have q2:=td 2001 (fB t) t ⟨by rw[CX];omega,by omega⟩;rw[DX] at q2;rw[an,an (fB t)] at q1;rw[an,an t] at q2;have ur:=ay t;have uc:=br t;have vr:=ay (fB t);have vc:=br (fB t);generalize fB t=o at *;rw[sz] at lz ih|-;generalize L.map Tm.aV=Z at *;refine⟨cq,Eq.trans ?_ ih⟩;simp[-gn,bc,HV,zH,yT,vL,um,sa,yl,lF,gC,sy,pW,lz,cR,Xr,q1,q2,w1,hA,hB,hC,ur,uc,vr,vc]
theorem Tryz.own:ownKnob Tryz.prog.godebug=none:=by kernel_rfl
theorem Tryz.laidOut:laidOutB Tryz.prog=true:=by kernel_rfl
theorem Zi{l:List (String×DataW Unit)}{W:World}(hL:laidMetH Tryz.prog l W)
 (h:(l.filter λx=>x.1== "internal/strconv.uint64pow10")=[("internal/strconv.uint64pow10",Lib.tabData .u64 Lib.pow10Tab)]/\(l.filter λx=>x.1== "strconv.ErrRange")=[("strconv.ErrRange",Rows.laid_strconv_ErrRange)]):cX W:=by
 have h1:=hL.filter λx=>x.1== "internal/strconv.uint64pow10"
 rw[h.1,MakeChecks.laidMetH_plain _ _ _ (by kernel_rfl)] at h1;have h2:=hL.filter λx=>x.1== "strconv.ErrRange"
 rw[h.2,MakeChecks.laidMetH_plain _ _ _ (by kernel_rfl)] at h2;refine⟨Lib.tabIs_of_head (g:=5) (by kernel_rfl) (t:=251) (by kernel_rfl) (e:=213) (n:=20) (by kernel_rfl) (by kernel_rfl) (by kernel_rfl) (by kernel_rfl) h1,?_⟩;exact E6 (g:=2) (t:=170) (ms:=#[("Error",139)]) (by kernel_rfl) (by kernel_rfl) (by kernel_rfl) h2
end
section
open Go.ChangeShapes Go.WideShapes Go.ChangeAt Go.RowKit
mutual
def vb:AV->Nat
 |.bool _=>1
 |.int ..=>1
 |.str s=>s.length+1
 |.sl xs=>vbL xs+1
 |.agg cs=>vbL cs
 |_=>0
def vbL:List AV->Nat
 |[]=>0
 |v::r=>vb v+vbL r
end
end
section
theorem RM(us:List (List UInt8×Int)):lf us=.aJ\/∃W,lf us=.sl W:=by
 cases us with
 |nil=>exact .inl rfl
 |cons x r=>exact .inr ⟨_,rfl⟩
theorem Vi{x:AV}{T:List bj}(hx:ba x=some T)(hT:T.length<1000000)(s:List UInt8):∃h',aF (cY yT) 200000 11 [x,.str s] h0=some (.bool true,h'):=by
 have q0:=Nh;have xr:=fL hx
 have xl:=λ(fr:List AV) (h:ai) (o:dU) (ho:o.ev fr=x)=>show cf fr h (.xX o)=some (.int .i64 T.length,h) by
  rw[gn,ho];rcases gH hx with⟨rfl,rfl⟩|rfl
  .rfl
  .simp
 have aN:=aR hx;have fx:=λh n0 d=>aN.fr h n0 d
 have fA:=aN.Fh;by_cases la:(60:Int)<(T.length:Int)
 .exact⟨_,by simp[-gn,VC,c11,yT,vL,um,sa,yl,lF,gC,sy,pW,q0,xl,la];with_reducible rfl⟩
 by_cases lb:(1500:Int)<(s.length:Int)
 .exact⟨_,by simp[-gn,VC,c11,yT,vL,um,sa,yl,lF,gC,sy,pW,q0,xl,la,lb];with_reducible rfl⟩
 have ho:=Ud T;have oor:=F3 T;have IN:=aR ho;have hfo:=λh n0 d=>IN.fr h n0 d
 have qa:=F7 hx hT s;have qo:=J0 hx hT;have qb:=Qt ho hT s;have qc:=Kw hx hT s;have qd:=HG ho hT s;have hz:=TE hT s;have hz2:=Le T s;generalize il T s=ra at *;generalize jI T s=rb at *;obtain⟨⟨a,nm⟩,ea⟩:=ra;obtain⟨l,eb⟩:=rb;unfold o7 at qa qb;unfold nD at qc qd;dsimp only at qa qb qc qd hz hz2;have q1:=oQ 2001 a (by omega);have q2:=td 2001 (fB a) a ⟨by rw[CX];omega,by omega⟩;rw[DX] at q2;rw[an] at qa qb;rw[an,an (fB a)] at q1;rw[an,an a] at q2;have ur:=ay a;have uc:=br a;have vr:=ay (fB a);have vc:=br (fB a);have hA:AV.aw [x]=0:=by simp[AV.aw,xr]
 have hB:AV.aw [.int .i64 a.au,.int .i64 a.cF,.str a.bH,a.ca]=0:=by simp[AV.aw,AV.aK,ur]
 obtain⟨md1,Qj⟩:=Gi 199998 s [x] [.int .i64 a.au,.int .i64 a.cF,.str a.bH,a.ca] [.int .i64 a.au,.int .i64 a.cF,.str a.bH,a.ca] hA hB hB nm hz.2 nm [] 199999 0 rfl (by omega);obtain⟨md2,lp2⟩:=F2 199998 [x] [.int .i64 a.au,.int .i64 a.cF,.str a.bH,a.ca] [.int .i64 a.au,.int .i64 a.cF,.str a.bH,a.ca] hA hB hB l hz2.2 hz2.1 l [] 199999 md1 rfl (by have:=hz2.2;omega);rw[List.length_nil,show (((0:Nat):Int))=0 from rfl] at Qj lp2;simp only[Ai,T8,yT] at Qj;simp only[zH,TN,yT] at lp2;have ln:=xu nm;have lt:=Ei l;have sn:=RM nm;have sl:=abx l;generalize fB a=o at *;generalize lf nm=vn at *;generalize wx l=vt at *;generalize opsV T=ov at *;rcases sn with rfl|⟨W,rfl⟩<;>rcases sl with rfl|⟨W2,rfl⟩<;>exact⟨_,by simp[-gn,bc,VC,c11,Ai,zH,yT,vL,um,sa,yl,lF,gC,sy,pW,q0,q1,q2,qa,qb,qc,qd,qo,xl,la,lb,Qj,lp2,ln,lt,ur,uc,vr,vc,xr,oor,fx,hfo,fA];with_reducible rfl⟩
def F9:aX:=⟨11,λ|[x,.str _]=>(match ba x with|some T=>if T.length<1000000 then some (.bool true) else none|none=>none)|_=>none⟩
theorem Yz:F9.f=11:=(rfl)
theorem S8{x:AV}{T:List bj}(hx:ba x=some T)(hT:T.length<1000000)(s:List UInt8):F9.S [x,.str s]=some (.bool true):=by simp only[F9,hx,if_pos hT]
theorem U1:fi Tryz.prog cX F9:=λag v hv=>by
 unfold F9 at hv|-;dsimp only at hv|-;split at hv
 .rename_i x s;split at hv
  .rename_i T hx;split at hv
   .rename_i hT;cases hv;obtain⟨h',e⟩:=Vi hx hT s;exact bG (oR Y1) e rfl (by simp[AV.aK,AV.aw,fL hx])
   .cases hv
  .cases hv
 .cases hv
noncomputable def ss3:List aX:=[qL,F9]
theorem abF:∀s∈ss3,fi Tryz.prog cX s:=by simp[ss3,Bc.lift,U1]
theorem Rh(s:List UInt8):∃h',aF (cY ss3) 20 3 [.str s] h0=some (.bool true,h'):=by have q0:=A7;have q1:=S8 (Ad nV) (by decide) s;generalize nV.map bj.aV=pt at *;exact⟨_,by simp[ajg,c3,ss3,CQ,Yz,q0,q1];with_reducible rfl⟩
theorem Mx(s:List UInt8):jA Tryz.prog cX 3 [.str s] (.bool true):=by obtain⟨h',e⟩:=Rh s;exact bG (oR abF) e rfl (by simp[AV.aw,AV.aK])
theorem EJ{H:Type}(ds:List (DataW H))(h:xy Tryz.prog Tryz.f3.params.toList (ds.map oD))(_:(DataW.weightsEach Tryz.prog Tryz.f3.params.toList ds).all (·<=reachBytes)=true):jA Tryz.prog cX 3 (ds.map oD) (.bool true):=by
 rw[Tryz.params3] at h
 match ds,h with
 |[d1],.cons h1 .nil=>obtain⟨a,e1,_⟩:=abo Tryz.underlying9 h1;simp only[List.map_cons,List.map_nil,e1];exact Mx a
end
end Go.Proofs.YtjmeonoabiliiaaGreatDoor
