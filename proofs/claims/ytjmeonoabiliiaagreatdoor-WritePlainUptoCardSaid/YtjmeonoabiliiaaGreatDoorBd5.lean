import Derived.Test.YtjmeonoabiliiaaGreatDoorAt
import Derived.Test.YtjmeonoabiliiaaGreatDoorBd4
import Derived.Test.YtjmeonoabiliiaaGreatDoorBd2
import Derived.Test.YtjmeonoabiliiaaGreatDoorBd3
import Derived.Test.YtjmeonoabiliiaaGreatDoorBd1
import Derived.Test.YtjmeonoabiliiaaGreatDoorArg
import Derived.Test.YtjmeonoabiliiaaGreatDoorRows
import Derived.ProofKit
set_option linter.all false
set_option maxHeartbeats 16000000
set_option maxRecDepth 100000
namespace Go.Proofs.YtjmeonoabiliiaaGreatDoor
open Go Sz
section
theorem pV(n0:Nat)(vs:List Int):dB n0 (.map (mp vs))=true:=by rw[dz];unfold mp;rw[List.all_eq_true];intro e he;obtain⟨v,_,rfl⟩:=List.mem_map.1 he;simp[AV.aJ]
theorem NG(v:Int):ints [v]=[.int .i64 v]:=rfl
def wg(x:Tm)(vs:List Int):List Int:=if x.aj=0/\x.bj∉vs then vs++[x.bj] else vs
def eS:Nat->List Tm->List Int->List Int
 |0,_,vs=>vs
 |_+1,[],vs=>vs
 |d+1,x::rs,vs=>eS d (x.aa++rs) (wg x vs)
def GH(T:Tm)(Y:aT)(vs:List Int)(md:Nat):af:=match vs with
 |[]=>⟨6,Y::dk T .aF [],4,md⟩
 |v::vs=>⟨7,.row (ints (v::vs))::Y::dk T (.vec 6 0 (vs.length+1) 1 (vs.length+1)) (v::vs),1,md⟩
theorem kV(x:Tm)(h:x.gu eT=true)(hk:x.aj=0):x.aa=[]:=by rw[gq,Bool.and_eq_true] at h;have:=h.1;unfold eT at this;rw[if_pos hk] at this;simp only[Bool.and_eq_true,decide_eq_true_eq] at this;exact List.length_eq_zero_iff.1 this.2
theorem Rc(x:Tm)(h:x.aa=[]):x.bh=.aF\/x.bh=.sl []:=by
 cases x with
 |nl k n s=>exact .inl rfl
 |mk k n s us=>have h':us=[]:=h;subst h';exact .inr rfl
theorem Ea{p:Tm->Bool}:∀{us:List Tm},Tm.ft p us=true->∀y∈us,y.gu p=true
 |[],_,y,h=>by simp at h
 |t::r,h,y,hy=>by
   simp only[Tm.ft,Bool.and_eq_true] at h;rcases List.mem_cons.1 hy with rfl|hy
   .exact h.1
   .exact Ea h.2 y hy
theorem si(n:Nat)(T:Tm):∀(d m:Nat) (rs:List Tm) (R:List AV) (lb:Nat) (md:Nat),Tm.br rs<d->d<=m->d<=n->Tm.br rs<50000->lb<1000000000->rs.length<=lb->R.length=lb*4->R.take (rs.length*4)=ay rs.reverse->AV.ah R=0->(∀x∈rs,x.gu eT=true)->md<=4->
 (∃Y cH,il 6 4 (bP (aC (aH (cD [fu]) (n+1)) (n+1) dr) dL 6 m (pC (.fn 127 [.ptr 3 0,.ptr 1 0]) (.vec 5 0 rs.length 4 lb)) ⟨6,.row R::dk T .aF [],6,md⟩)=some (.exit 0,FM 44 [],GH T Y (eS d rs []) cH))/\
 (∃Y cH,il 6 4 (bP (aC (aH (cD [fu]) (n+1)) (n+1) dr) dL 6 m (pC (.fn 127 [.ptr 3 0,.ptr 1 0]) (.vec 6 0 rs.length 4 lb)) ⟨7,.row R::.dead::dk T .aF [],6,md⟩)=some (.exit 0,FM 44 [],GH T Y (eS d rs []) cH))/\
 (∀(v:Int) (vs:List Int),vs.length+Tm.br rs<100000->∃Y cH,il 6 4 (bP (aC (aH (cD [fu]) (n+1)) (n+1) dr) dL 6 m (pC (.fn 127 [.ptr 3 0,.ptr 1 0]) (.vec 5 0 rs.length 4 lb)) ⟨7,.row (ints (v::vs))::.row R::dk T (.vec 6 0 (vs.length+1) 1 (vs.length+1)) (v::vs),1,md⟩)=some (.exit 0,FM 44 [],GH T Y (eS d rs (v::vs)) cH))/\
 (∀(v:Int) (vs:List Int),vs.length+Tm.br rs<100000->∃Y cH,il 6 4 (bP (aC (aH (cD [fu]) (n+1)) (n+1) dr) dL 6 m (pC (.fn 127 [.ptr 3 0,.ptr 1 0]) (.vec 6 0 rs.length 4 lb)) ⟨8,.row (ints (v::vs))::.row R::.dead::dk T (.vec 7 0 (vs.length+1) 1 (vs.length+1)) (v::vs),1,md⟩)=some (.exit 0,FM 44 [],GH T Y (eS d rs (v::vs)) cH))
 |0,m,rs,R,lb,md,h,_,_,_,_,_,_,_,_,_,_=>by omega
 |d+1,0,rs,R,lb,md,_,h,_,_,_,_,_,_,_,_,_=>by omega
 |d+1,m+1,[],R,lb,md,_,_,_,_,_,_,hR,ht,fj,GC,dn=>by
   have hT:AV.ah T.cells=0:=by simp[Tm.cells,AV.ah,AV.aJ,ar]
   have aqD:∀n0,dB n0 (.map (mp []))=true:=λn0=>pV n0 _
   have ge:=λnx os wl md=>Nv (n:=44) (m:=[]) 6 nx os wl md rfl
   refine⟨⟨.row R,md,?_⟩,⟨.dead,md,?_⟩,?_,?_⟩
   .simp[ag,dr,eS,fj,GH,dk]
   .simp[ag,dr,eS,fj,GH,dk]
   .intro v vs Gz;have Da:∀n0,dB n0 (.map (mp (v::vs)))=true:=λn0=>pV n0 _
    have hI:=cF (v::vs);exact⟨.row R,min md 1,by simp[ag,dr,eS,fj,GH,dk,hT,-dz,Da,hI,ge]⟩
   .intro v vs Gz;have Da:∀n0,dB n0 (.map (mp (v::vs)))=true:=λn0=>pV n0 _
    have hI:=cF (v::vs);exact⟨.dead,min md 1,by simp[ag,dr,eS,fj,GH,dk,hT,-dz,Da,hI,ge]⟩
 |d+1,m+1,x::rs,R,lb,md,hd,hm,hn,iE,p8,dI,hR,ht,fj,GC,dn=>by
   have hsx:=bJ x;simp only[Tm.br] at hd iE;have ZO:=dE x.aa;have hlr:=dE rs;have hs2:Tm.br (x.aa++rs)=Tm.br x.aa+Tm.br rs:=mm _ _;rw[List.length_cons] at dI ht;rw[List.reverse_cons] at ht;have oI:rs.reverse.length=rs.length:=List.length_reverse;rw[<-oI] at ht;obtain⟨t1,t2⟩:=Fc ht;rw[oI] at t1 t2;have hT:AV.ah T.cells=0:=by simp[Tm.cells,AV.ah,AV.aJ,ar]
   have w1:IntKind.i64.wrap (rs.length:Int)=(rs.length:Int):=wrap_i64 (by omega) (by omega);have b1:(0<(rs.length:Int)+1)=True:=eq_true (by omega);have b2:rs.length*4+4<=R.length:=by omega
   have m1:min md 6=md:=by omega
   have m2:min md 7=md:=by omega
   have m3:min md 8=md:=by omega
   have b3:((rs.length:Int)<(rs.length:Int)+1)=True:=eq_true (by omega)
   have oG:ic (rs.length+1) lb none (some (.int .i64 (rs.length:Int))) none=some (0,rs.length,none):=by
    have a1:(rs.length:Int)<=((max (rs.length+1) lb:Nat):Int):=by omega
    simp[ic,sliceB,a1]
   have C5:AV.ah [AV.ptr 3 0,AV.ptr 1 0]=4:=by simp[AV.ah,AV.aJ]
   have dJ:=Tm.bm x;have dq:=Tm.aY x;have cI:=ar x;have ZV:∀y∈rs,y.gu eT=true:=λy hy=>GC y (by simp[hy])
   have uU:∀y∈x.aa++rs,y.gu eT=true:=λy hy=>by
    rcases List.mem_append.1 hy with hy|hy
    .have:=GC x (by simp);rw[gq,Bool.and_eq_true] at this;exact Ea this.2 y hy
    .exact ZV y hy
   have KM:x.aa.take x.aa.length=x.aa:=List.take_length;have qS:rs.reverse++x.aa.reverse=(x.aa++rs).reverse:=by simp
   have qh:rs.length+x.aa.length=(x.aa++rs).length:=by simp;omega
   have w2:IntKind.i64.wrap ((x.aa.length:Int)-1)=(x.aa.length:Int)-1:=wrap_i64 (by omega) (by omega)
   have eF:∀(fr:List AV) (h:af) (o:dY),o.ev fr=x.bh->bG fr h (.vj o)=some (.int .i64 x.aa.length,h):=by intro fr h o ho;rw[dZ,ho];cases x<;>simp[Tm.bh,Tm.aa]
   have Gt:R.take (rs.reverse.length*4)=ay rs.reverse:=by rw[oI];exact t1
   refine⟨?_,?_,?_,?_⟩
   .have Da:∀n0,dB n0 (.map (mp []))=true:=λn0=>pV n0 _
    by_cases nR:x.aj=0
    .have ha:=kV x (GC x (by simp)) nR
     have e:eS (d+1) (x::rs) []=eS d rs ([x.bj]):=by show eS d (x.aa++rs) (wg x [])=_;rw[ha,List.nil_append];congr 1;exact if_pos ⟨nR,by simp⟩
     rw[e];have hc:=Yy n x T R md dn nR;obtain⟨Y,cH,k2⟩:=(si n T d m rs R lb (min md 1) (by omega) (by omega) (by omega) (by omega) p8 (by omega) hR t1 fj ZV (by omega)).2.2.1 x.bj [] (by simp;omega);refine⟨Y,cH,?_⟩;rw[ag];have QX:∀n0,dB n0 (.map (mp ([x.bj])))=true:=λn0=>pV n0 _
     have ZW:=cF ([x.bj]);have hx0:x.bh=.aF\/x.bh=.sl []:=Rc x ha;have wm:IntKind.i64.wrap (-1)=-1:=rfl;simp only[ha,List.length_nil,Int.natCast_zero] at eF;rw[dJ,dq] at hc;rw[dq] at t2;skip;simp only[dk,List.length_nil,Nat.zero_add,NG] at hc k2 ZW;simp[bH,ag,dr,bn,dL,dk,w1,b1,b2,b3,m1,m2,m3,t2,oG,C5,fj,cI,eF,hT,-dz,Da,bF,QX,ZW,hc,wm];exact k2
    .have e:eS (d+1) (x::rs) []=eS d (x.aa++rs) []:=by
      show eS d (x.aa++rs) (wg x [])=_;congr 1;exact if_neg (λh=>nR h.1)
     rw[e];have hc:=XY n x T R md dn nR;rw[dJ] at hc;by_cases fR:rs.length+x.aa.length<=lb
     .obtain⟨R',r1,r2,r3,eq⟩:=xR (aH (cD [fu]) (n+1)) (n+1) 127 [.ptr 3 0,.ptr 1 0] (by simp[AV.ah,AV.aJ]) x (dk T .aF []) md (λk hk=>by omega) 6 rfl lb x.aa.length (n+1) rs.reverse R (Nat.le_refl _) (by omega) (by rw[oI];exact fR) (by omega) hR Gt fj;obtain⟨Y,cH,k2⟩:=(si n T d m (x.aa++rs) R' lb md (by omega) (by omega) (by omega) (by omega) p8 (by rw[<-qh];exact fR) r1 (by rw[<-qh,<-qS,<-oI];rw[KM] at r2;exact r2) r3 uU (by omega)).1;refine⟨Y,cH,?_⟩;rw[oI] at eq;rw[ag];rw[<-qh] at k2;rw[dq] at hc t2 eq;simp only[bn,dk] at eq hc k2;simp[dr,bn,dL,dk,w1,w2,b1,b2,b3,m1,m2,m3,t2,oG,C5,fj,cI,eF,hT,-dz,Da,bF,hc,eq,r3];exact k2
     .have ZP:(ay (x.aa++rs).reverse).length=(x.aa++rs).length*4:=by rw[cG,List.length_reverse]
      have Oc:=aU (x.aa++rs).reverse;obtain⟨Y,cH,k2⟩:=(si n T d m (x.aa++rs) (ay (x.aa++rs).reverse) (x.aa++rs).length md (by omega) (by omega) (by omega) (by omega) (by omega) (Nat.le_refl _) ZP (List.take_of_length_le (by omega)) Oc uU (by omega)).2.1;have eq:=xM (aH (cD [fu]) (n+1)) (n+1) 127 [.ptr 3 0,.ptr 1 0] (by simp[AV.ah,AV.aJ]) x (dk T .aF []) md (λk hk=>by omega) 6 rfl lb x.aa.length (n+1) rs.reverse R (Nat.le_refl _) (by omega) (by omega) (by omega) (by omega) hR Gt fj;refine⟨Y,cH,?_⟩;rw[<-qh] at k2;have uE:=Oc;rw[List.reverse_append] at uE k2;rw[KM,qS,oI,List.reverse_append] at eq;rw[ag];rw[dq] at hc t2 eq;simp only[bn,dk] at eq hc k2;simp[dr,bn,dL,dk,w1,w2,b1,b2,b3,m1,m2,m3,t2,oG,C5,fj,cI,eF,hT,-dz,Da,bF,hc,eq,uE];exact k2
   .have Da:∀n0,dB n0 (.map (mp []))=true:=λn0=>pV n0 _
    by_cases nR:x.aj=0
    .have ha:=kV x (GC x (by simp)) nR
     have e:eS (d+1) (x::rs) []=eS d rs ([x.bj]):=by show eS d (x.aa++rs) (wg x [])=_;rw[ha,List.nil_append];congr 1;exact if_pos ⟨nR,by simp⟩
     rw[e];have hc:=WV n x T R md dn nR;obtain⟨Y,cH,k2⟩:=(si n T d m rs R lb (min md 1) (by omega) (by omega) (by omega) (by omega) p8 (by omega) hR t1 fj ZV (by omega)).2.2.2 x.bj [] (by simp;omega);refine⟨Y,cH,?_⟩;rw[ag];have QX:∀n0,dB n0 (.map (mp ([x.bj])))=true:=λn0=>pV n0 _
     have ZW:=cF ([x.bj]);have hx0:x.bh=.aF\/x.bh=.sl []:=Rc x ha;have wm:IntKind.i64.wrap (-1)=-1:=rfl;simp only[ha,List.length_nil,Int.natCast_zero] at eF;rw[dJ,dq] at hc;rw[dq] at t2;skip;simp only[dk,List.length_nil,Nat.zero_add,NG] at hc k2 ZW;simp[bH,ag,dr,bn,dL,dk,w1,b1,b2,b3,m1,m2,m3,t2,oG,C5,fj,cI,eF,hT,-dz,Da,bF,QX,ZW,hc,wm];exact k2
    .have e:eS (d+1) (x::rs) []=eS d (x.aa++rs) []:=by
      show eS d (x.aa++rs) (wg x [])=_;congr 1;exact if_neg (λh=>nR h.1)
     rw[e];have hc:=Wx n x T R md dn nR;rw[dJ] at hc;by_cases fR:rs.length+x.aa.length<=lb
     .obtain⟨R',r1,r2,r3,eq⟩:=xN (aH (cD [fu]) (n+1)) (n+1) 127 [.ptr 3 0,.ptr 1 0] (by simp[AV.ah,AV.aJ]) x (.dead::dk T .aF []) md (λk hk=>by omega) 6 rfl lb x.aa.length (n+1) rs.reverse R (Nat.le_refl _) (by omega) (by rw[oI];exact fR) (by omega) hR Gt fj;obtain⟨Y,cH,k2⟩:=(si n T d m (x.aa++rs) R' lb md (by omega) (by omega) (by omega) (by omega) p8 (by rw[<-qh];exact fR) r1 (by rw[<-qh,<-qS,<-oI];rw[KM] at r2;exact r2) r3 uU (by omega)).2.1;refine⟨Y,cH,?_⟩;rw[oI] at eq;rw[ag];rw[<-qh] at k2;rw[dq] at hc t2 eq;simp only[bn,dk] at eq hc k2;simp[dr,bn,dL,dk,w1,w2,b1,b2,b3,m1,m2,m3,t2,oG,C5,fj,cI,eF,hT,-dz,Da,bF,hc,eq,r3];exact k2
     .have ZP:(ay (x.aa++rs).reverse).length=(x.aa++rs).length*4:=by rw[cG,List.length_reverse]
      have Oc:=aU (x.aa++rs).reverse;obtain⟨Y,cH,k2⟩:=(si n T d m (x.aa++rs) (ay (x.aa++rs).reverse) (x.aa++rs).length md (by omega) (by omega) (by omega) (by omega) (by omega) (Nat.le_refl _) ZP (List.take_of_length_le (by omega)) Oc uU (by omega)).2.1;have eq:=xF (aH (cD [fu]) (n+1)) (n+1) 127 [.ptr 3 0,.ptr 1 0] (by simp[AV.ah,AV.aJ]) x (.dead::dk T .aF []) md (λk hk=>by omega) 6 rfl lb x.aa.length (n+1) rs.reverse R (Nat.le_refl _) (by omega) (by omega) (by omega) (by omega) hR Gt fj;refine⟨Y,cH,?_⟩;rw[<-qh] at k2;have uE:=Oc;rw[List.reverse_append] at uE k2;rw[KM,qS,oI,List.reverse_append] at eq;rw[ag];rw[dq] at hc t2 eq;simp only[bn,dk] at eq hc k2;simp[dr,bn,dL,dk,w1,w2,b1,b2,b3,m1,m2,m3,t2,oG,C5,fj,cI,eF,hT,-dz,Da,bF,hc,eq,uE];exact k2
   .intro v vs Gz;simp only[Tm.br] at Gz;have Da:∀n0,dB n0 (.map (mp (v::vs)))=true:=λn0=>pV n0 _
    have hI:=cF (v::vs);by_cases nR:x.aj=0/\x.bj∉v::vs
    .have ha:=kV x (GC x (by simp)) nR.1
     have e:eS (d+1) (x::rs) (v::vs)=eS d rs (v::(vs++[x.bj])):=by show eS d (x.aa++rs) (wg x (v::vs))=_;rw[ha,List.nil_append];congr 1;exact if_pos nR
     rw[e];have hc:=Xb n x T R v vs (by omega) md dn nR.1 nR.2;obtain⟨Y,cH,k2⟩:=(si n T d m rs R lb (min md 1) (by omega) (by omega) (by omega) (by omega) p8 (by omega) hR t1 fj ZV (by omega)).2.2.1 v (vs++[x.bj]) (by simp;omega);refine⟨Y,cH,?_⟩;rw[ag];have QX:∀n0,dB n0 (.map (mp (v::(vs++[x.bj]))))=true:=λn0=>pV n0 _
     have ZW:=cF (v::(vs++[x.bj]));have hx0:x.bh=.aF\/x.bh=.sl []:=Rc x ha;have wm:IntKind.i64.wrap (-1)=-1:=rfl;simp only[ha,List.length_nil,Int.natCast_zero] at eF;rw[dJ,dq] at hc;rw[dq] at t2;rw[List.cons_append] at hc;simp only[dk,List.length_append,List.length_cons,List.length_nil,Nat.zero_add,NG] at hc k2 ZW;simp[bH,ag,dr,bn,dL,dk,w1,b1,b2,b3,m1,m2,m3,t2,oG,C5,fj,cI,eF,hT,-dz,Da,bF,hI,QX,ZW,hc,wm];exact k2
    .have e:eS (d+1) (x::rs) (v::vs)=eS d (x.aa++rs) (v::vs):=by
      show eS d (x.aa++rs) (wg x (v::vs))=_;congr 1;exact if_neg nR
     rw[e];have hc:=YJ n x T R v vs (by omega) md dn (by by_cases h0:x.aj=0;exact .inr (Classical.byContradiction λh=>nR ⟨h0,h⟩);exact .inl h0);rw[dJ] at hc;by_cases fR:rs.length+x.aa.length<=lb
     .obtain⟨R',r1,r2,r3,eq⟩:=zd (aH (cD [fu]) (n+1)) (n+1) 127 [.ptr 3 0,.ptr 1 0] (by simp[AV.ah,AV.aJ]) x (.row (ints (v::vs))) (dk T (.vec 6 0 (vs.length+1) 1 (vs.length+1)) (v::vs)) md (λk hk=>by omega) 1 rfl lb x.aa.length (n+1) rs.reverse R (Nat.le_refl _) (by omega) (by rw[oI];exact fR) (by omega) hR Gt fj;obtain⟨Y,cH,k2⟩:=(si n T d m (x.aa++rs) R' lb (min md 1) (by omega) (by omega) (by omega) (by omega) p8 (by rw[<-qh];exact fR) r1 (by rw[<-qh,<-qS,<-oI];rw[KM] at r2;exact r2) r3 uU (by omega)).2.2.1 v vs (by omega);refine⟨Y,cH,?_⟩;rw[oI] at eq;rw[ag];rw[<-qh] at k2;rw[dq] at hc t2 eq;simp only[bn,dk] at eq hc k2;simp[dr,bn,dL,dk,w1,w2,b1,b2,b3,m1,m2,m3,t2,oG,C5,fj,cI,eF,hT,-dz,Da,bF,hI,hc,eq,r3];exact k2
     .have ZP:(ay (x.aa++rs).reverse).length=(x.aa++rs).length*4:=by rw[cG,List.length_reverse]
      have Oc:=aU (x.aa++rs).reverse;obtain⟨Y,cH,k2⟩:=(si n T d m (x.aa++rs) (ay (x.aa++rs).reverse) (x.aa++rs).length (min md 1) (by omega) (by omega) (by omega) (by omega) (by omega) (Nat.le_refl _) ZP (List.take_of_length_le (by omega)) Oc uU (by omega)).2.2.2 v vs (by omega);have eq:=zg (aH (cD [fu]) (n+1)) (n+1) 127 [.ptr 3 0,.ptr 1 0] (by simp[AV.ah,AV.aJ]) x (.row (ints (v::vs))) (dk T (.vec 6 0 (vs.length+1) 1 (vs.length+1)) (v::vs)) md (λk hk=>by omega) 1 rfl lb x.aa.length (n+1) rs.reverse R (Nat.le_refl _) (by omega) (by omega) (by omega) (by omega) hR Gt fj;refine⟨Y,cH,?_⟩;rw[<-qh] at k2;have uE:=Oc;rw[List.reverse_append] at uE k2;rw[KM,qS,oI,List.reverse_append] at eq;rw[ag];rw[dq] at hc t2 eq;simp only[bn,dk] at eq hc k2;simp[dr,bn,dL,dk,w1,w2,b1,b2,b3,m1,m2,m3,t2,oG,C5,fj,cI,eF,hT,-dz,Da,bF,hI,hc,eq,uE];exact k2
   .intro v vs Gz;simp only[Tm.br] at Gz;have Da:∀n0,dB n0 (.map (mp (v::vs)))=true:=λn0=>pV n0 _
    have hI:=cF (v::vs);by_cases nR:x.aj=0/\x.bj∉v::vs
    .have ha:=kV x (GC x (by simp)) nR.1
     have e:eS (d+1) (x::rs) (v::vs)=eS d rs (v::(vs++[x.bj])):=by show eS d (x.aa++rs) (wg x (v::vs))=_;rw[ha,List.nil_append];congr 1;exact if_pos nR
     rw[e];have hc:=YU n x T R v vs (by omega) md dn nR.1 nR.2;obtain⟨Y,cH,k2⟩:=(si n T d m rs R lb (min md 1) (by omega) (by omega) (by omega) (by omega) p8 (by omega) hR t1 fj ZV (by omega)).2.2.2 v (vs++[x.bj]) (by simp;omega);refine⟨Y,cH,?_⟩;rw[ag];have QX:∀n0,dB n0 (.map (mp (v::(vs++[x.bj]))))=true:=λn0=>pV n0 _
     have ZW:=cF (v::(vs++[x.bj]));have hx0:x.bh=.aF\/x.bh=.sl []:=Rc x ha;have wm:IntKind.i64.wrap (-1)=-1:=rfl;simp only[ha,List.length_nil,Int.natCast_zero] at eF;rw[dJ,dq] at hc;rw[dq] at t2;rw[List.cons_append] at hc;simp only[dk,List.length_append,List.length_cons,List.length_nil,Nat.zero_add,NG] at hc k2 ZW;simp[bH,ag,dr,bn,dL,dk,w1,b1,b2,b3,m1,m2,m3,t2,oG,C5,fj,cI,eF,hT,-dz,Da,bF,hI,QX,ZW,hc,wm];exact k2
    .have e:eS (d+1) (x::rs) (v::vs)=eS d (x.aa++rs) (v::vs):=by
      show eS d (x.aa++rs) (wg x (v::vs))=_;congr 1;exact if_neg nR
     rw[e];have hc:=Yd n x T R v vs (by omega) md dn (by by_cases h0:x.aj=0;exact .inr (Classical.byContradiction λh=>nR ⟨h0,h⟩);exact .inl h0);rw[dJ] at hc;by_cases fR:rs.length+x.aa.length<=lb
     .obtain⟨R',r1,r2,r3,eq⟩:=yU (aH (cD [fu]) (n+1)) (n+1) 127 [.ptr 3 0,.ptr 1 0] (by simp[AV.ah,AV.aJ]) x (.row (ints (v::vs))) (.dead::dk T (.vec 7 0 (vs.length+1) 1 (vs.length+1)) (v::vs)) md (λk hk=>by omega) 1 rfl lb x.aa.length (n+1) rs.reverse R (Nat.le_refl _) (by omega) (by rw[oI];exact fR) (by omega) hR Gt fj;obtain⟨Y,cH,k2⟩:=(si n T d m (x.aa++rs) R' lb (min md 1) (by omega) (by omega) (by omega) (by omega) p8 (by rw[<-qh];exact fR) r1 (by rw[<-qh,<-qS,<-oI];rw[KM] at r2;exact r2) r3 uU (by omega)).2.2.2 v vs (by omega);refine⟨Y,cH,?_⟩;rw[oI] at eq;rw[ag];rw[<-qh] at k2;rw[dq] at hc t2 eq;simp only[bn,dk] at eq hc k2;simp[dr,bn,dL,dk,w1,w2,b1,b2,b3,m1,m2,m3,t2,oG,C5,fj,cI,eF,hT,-dz,Da,bF,hI,hc,eq,r3];exact k2
     .have ZP:(ay (x.aa++rs).reverse).length=(x.aa++rs).length*4:=by rw[cG,List.length_reverse]
      have Oc:=aU (x.aa++rs).reverse;obtain⟨Y,cH,k2⟩:=(si n T d m (x.aa++rs) (ay (x.aa++rs).reverse) (x.aa++rs).length (min md 1) (by omega) (by omega) (by omega) (by omega) (by omega) (Nat.le_refl _) ZP (List.take_of_length_le (by omega)) Oc uU (by omega)).2.2.2 v vs (by omega);have eq:=zo (aH (cD [fu]) (n+1)) (n+1) 127 [.ptr 3 0,.ptr 1 0] (by simp[AV.ah,AV.aJ]) x (.row (ints (v::vs))) (.dead::dk T (.vec 7 0 (vs.length+1) 1 (vs.length+1)) (v::vs)) md (λk hk=>by omega) 1 rfl lb x.aa.length (n+1) rs.reverse R (Nat.le_refl _) (by omega) (by omega) (by omega) (by omega) hR Gt fj;refine⟨Y,cH,?_⟩;rw[<-qh] at k2;have uE:=Oc;rw[List.reverse_append] at uE k2;rw[KM,qS,oI,List.reverse_append] at eq;rw[ag];rw[dq] at hc t2 eq;simp only[bn,dk] at eq hc k2;simp[dr,bn,dL,dk,w1,w2,b1,b2,b3,m1,m2,m3,t2,oG,C5,fj,cI,eF,hT,-dz,Da,bF,hI,hc,eq,uE];exact k2
def bO(t:Tm):List Int:=if dp t then eS (t.size+1) [t] [] else []
def oB(vs:List Int):AV:=match vs with
 |[]=>.aF
 |_=>.sl (ints vs)
theorem yq(vs:List Int):(oB vs).aJ=0:=by
 cases vs with
 |nil=>rfl
 |cons v r=>rfl
theorem TY(vs:List Int):∀x∈ints vs,C6 1 x:=by intro x hx;obtain⟨o,_,rfl⟩:=List.mem_map.1 hx;exact⟨rfl,rfl,(λ_=>rfl),(λh=>absurd rfl h),rfl⟩
theorem Ue(vs:List Int):(ints vs).flatMap AV.cells=ints vs:=by
 unfold ints
 induction vs with
 |nil=>rfl
 |cons v r ih=>rw[List.map_cons,List.flatMap_cons,ih];rfl
theorem ac8{h:af}{n0 d id:Nat}(v:Int)(r:List Int)(bX:n0<=id)(hg:h.get id=some (.row (ints (v::r)))):
 jL h n0 (d+2) (.vec id 0 (r.length+1) 1 (r.length+1))=some (.sl (ints (v::r)),[id]):=by
 have hl:(ints (v::r)).length=r.length+1:=by simp[ints]
 exact wR bX hg (by omega) (TY (v::r)) (by rw[hl]) (by rw[hl];omega) (by rw[Ue,List.take_of_length_le];omega)
noncomputable def y0:aW:=⟨87,λ|[v]=>(match fK v with|some t=>if t.eO<1000000000 then some (oB (bO t)) else none|none=>none)|_=>none⟩
theorem Dh:y0.f=87:=(rfl)
theorem Lo(t:Tm)(h:t.eO<1000000000):y0.S [t.aL]=some (oB (bO t)):=by simp only[y0,cd,if_pos h]
theorem K8:aX Tryz.prog y0:=λaa v hv=>by
 unfold y0 at hv|-;dsimp only at hv|-;split at hv
 .rename_i x;split at hv
  .rename_i t ht;split at hv
   .rename_i hl;cases hv;rw[cf ht];refine bL (n:=t.size+5) (h':=h0) (bK (ss:=[fu]) (by simp[wy])) ?_ (yq _) (by simp[AV.ah,Tm.bC]);have c1:=s9 t hl;have dJ:=Tm.bm t;have dq:=Tm.aY t;have cI:=ar t;unfold bO
    cases hg:dp t with
    |false=>rw[hg] at c1;rw[dJ,dq] at c1|-;simp[Wu,c87,cI,aw,c1,bF,oB]
    |true=>
      rw[hg] at c1;have B4:=hg;simp only[dp,Bool.and_eq_true,decide_eq_true_eq] at B4;obtain⟨Y,cH,eq⟩:=(si (t.size+2) t (t.size+1) (t.size+3) [t] t.cells 1 4 (by simp[Tm.br]) (by omega) (by omega) (by simp[Tm.br];omega) (by omega) (by simp) rfl (by simp[ay];rfl) (by simp[Tm.cells,AV.ah,AV.aJ,ar]) (λx hx=>by simp at hx;subst hx;exact B4.2) (Nat.le_refl _)).1;simp only[if_true];generalize eS (t.size+1) [t] []=vs at *;have hT:AV.ah t.cells=0:=by simp[Tm.cells,AV.ah,AV.aJ,ar]
      simp only[dL,pC,List.length_cons,List.length_nil,Nat.zero_add,dk,show mp []=[] from rfl] at eq
      cases vs with
      |nil=>simp only[GH,dk,show mp []=[] from rfl] at eq;rw[dJ,dq] at c1|-;rw[dq] at eq;simp[Wu,c87,Hk,c61,dL,cI,aw,c1,bF,oB,eq]
      |cons v r=>
        simp only[GH,dk] at eq
        have fk:∀d nx wl md os,nx=os.length+7->jL ⟨nx,os++[.row (ints (v::r)),Y,.row t.cells,.row [.map 2],.map (mp (v::r)),.row [.vec 6 0 (r.length+1) 1 (r.length+1)],.row t.cells],wl,md⟩ 0 (d+2) (.vec 6 0 (r.length+1) 1 (r.length+1))=some (.sl (ints (v::r)),[6]):=λd nx wl md os hn=>ac8 v r (Nat.zero_le 6) (by subst hn;simp[af.get,List.getElem?_append_right])
        have fk0:=λd wl md=>fk d 7 wl md [] rfl
        simp only[List.nil_append] at fk0;have rf:=cF (v::r);rw[dJ,dq] at c1|-;rw[dq] at eq fk0;simp[Wu,c87,Hk,c61,dL,cI,aw,c1,bF,oB,eq,fk0,rf,-kh]
   .cases hv
  .cases hv
 .cases hv
def GW(T:List a7)(b:Bool)(ps:List (Int×Int))(t:Tm):List UInt8×Int:=if dp t=true/\eN T=true then (if 4096<(wF T b (k9 ps) t 1200 false).length then ([],3) else (wF T b (k9 ps) t 1200 false,0)) else ([],1)
def JH(t:Tm):Prop:=t.eO<1000000000/\t.gu qm=true
instance (t:Tm):Decidable (JH t):=by unfold JH;infer_instance
noncomputable def yS:cw:=⟨56,λ
 |[.ptr 0 0,v],os=>(match CX os,fK v with
   |some W,some t=>if JH t then some (.tuple [.str (GW W.T W.b W.ps t).1,.int .i64 (GW W.T W.b W.ps t).2],none) else none
   |_,_=>none)
 |_,_=>none⟩
theorem Ao:yS.f=56:=(rfl)
theorem M9{x:AV}{T:List a7}(hx:aZ x=some T)(b:Bool)(ps:List (Int×Int))(hT:T.length<1000000)(hp:qe ps=true)(t:Tm)(h:JH t):
 yS.S [.ptr 0 0,t.aL] (ly x b ps)=some (.tuple [.str (GW T b ps t).1,.int .i64 (GW T b ps t).2],none):=by
 simp only[yS,o9 hx b ps hT hp,cd];rw[if_pos h]
theorem Nr:cB Tryz.prog bV yS:=λaa os v r hv=>by
 unfold yS at hv;dsimp only at hv;split at hv
 .rename_i v0 os;split at hv
  .rename_i W t hW ht;split at hv
   .rename_i hc;cases hv;obtain⟨x,hx,rfl,hT,hp⟩:=mO hW;obtain⟨T,b,ps⟩:=W;dsimp only at hx hT hp|-;rw[cf ht,Ao];have hE:cb Tryz.prog bV (cm [fu,qA] [gL 2001]):=ey (by simp[wy.lift,Gb.lift]) (by simp[E3 2001]);have q1:=s9 t hc.1;have q2:=Fy hx (by omega);have nt:=ar t;have dq:=Tm.aY t;have mF:=ee T;refine qV (n:=6) (m:=2) hE hx ?_ (by simp[AV.aJ,AV.ah]) (by simp[AV.ah,Tm.bC]);unfold GW
    cases hg:dp t with
    |false=>rw[hg] at q1;rw[if_neg (by simp)];rw[Tm.bm,dq] at q1|-;simp[I1,c56,bF,nJ,cg,q1,nt,aw]
    |true=>
      rw[hg] at q1
      cases hg2:eN T with
      |false=>
        rw[hg2] at q2;rw[if_neg (by simp)];rw[Tm.bm,dq] at q1|-;rcases bb hx with⟨rfl,rfl⟩|rfl<;>
        simp[I1,c56,bF,nJ,cg,q1,q2,nt,aw]
      |true=>
        rw[hg2] at q2;rw[if_pos ⟨rfl,rfl⟩];have cT:xB t:=⟨hg,hc.1,hc.2⟩
        have hs:=hg;simp only[dp,Bool.and_eq_true,decide_eq_true_eq] at hs;have q3:=kM 2001 hx b ps hT hp t ⟨cT,by omega⟩ 1200 false;simp only[ly] at q3;generalize wF T b (k9 ps) t 1200 false=A at *;rw[Tm.bm,dq] at q1 q3|-;by_cases hl:4096<A.length
        .have wj:((4096:Int)<(A.length:Int))=True:=eq_true (by omega);rw[if_pos hl];rcases bb hx with⟨rfl,rfl⟩|rfl<;>
         simp[I1,c56,bF,nJ,cg,dj,cJ,-cV,-cA,q1,q2,q3,nt,mF,aw,wj]
        .have wj:((4096:Int)<(A.length:Int))=False:=eq_false (by omega);rw[if_neg hl];rcases bb hx with⟨rfl,rfl⟩|rfl<;>
         simp[I1,c56,bF,nJ,cg,dj,cJ,-cV,-cA,q1,q2,q3,nt,mF,aw,wj]
   .cases hv
  .cases hv
 .cases hv
def yT:Nat->List Int->List (Int×Int)
 |_,[]=>[]
 |k,v::r=>(v,(k:Int))::yT (k+1) r
def ff(vs:List Int):List (Int×Int):=yT 0 vs
theorem BP(v:Int):∀(a:List Int) (k:Nat),yT k (a++[v])=yT k a++[(v,((k+a.length:Nat):Int))]
 |[],k=>rfl
 |w::r,k=>by show (w,(k:Int))::yT (k+1) (r++[v])=(w,(k:Int))::yT (k+1) r++[_];rw[BP v r (k+1),List.cons_append,List.length_cons];congr 4;omega
theorem BM(n:Int):∀(a:List Int) (k:Nat),n∉a->NO n (yT k a)=none
 |[],k,_=>rfl
 |w::r,k,h=>by
   have h1:¬n=w:=λe=>h (by simp[e])
   unfold yT NO;rw[if_neg h1];exact BM n r (k+1) (λe=>h (List.mem_cons_of_mem _ e))
theorem XX(v i:Int):∀ps,NO v ps=none->vP 1 (.int .i64 v) (.int .i64 i) (gZ ps)=some (gZ (ps++[(v,i)]))
 |[],_=>rfl
 |(a,b)::r,h=>by
   unfold NO at h;split at h
   .cases h
   .rename_i hn;have ih:=XX v i r h;unfold gZ at ih|-;simp only[List.map_cons,List.cons_append,vP];simp[iC,hn,ih]
theorem RJ:∀(vs:List Int) (k:Nat),k+vs.length<1000000000->qe (yT k vs)=true
 |[],_,_=>rfl
 |v::r,k,h=>by rw[List.length_cons] at h;have ih:=RJ r (k+1) (by omega);unfold yT qe;unfold qe at ih;rw[List.all_cons,ih,Bool.and_true];simp only[Bool.and_eq_true,decide_eq_true_eq];omega
theorem HO:∀(d:Nat) (rs:List Tm) (vs:List Int),(eS d rs vs).length<=vs.length+d
 |0,rs,vs=>by simp[eS]
 |d+1,[],vs=>by simp[eS]
 |d+1,x::rs,vs=>by
   have:=HO d (x.aa++rs) (wg x vs);have h2:(wg x vs).length<=vs.length+1:=by unfold wg;split<;>simp
   unfold eS;omega
theorem Ck:∀(d:Nat) (rs:List Tm) (vs:List Int),vs.Nodup->(eS d rs vs).Nodup
 |0,rs,vs,h=>by simpa[eS] using h
 |d+1,[],vs,h=>by simpa[eS] using h
 |d+1,x::rs,vs,h=>by
   unfold eS;refine Ck d _ _ ?_;unfold wg;split
   .rename_i hc;rw[List.nodup_append];refine⟨h,by simp,λa ha b hb=>?_⟩;simp at hb;subst hb;exact λe=>hc.2 (e▸ha)
   .exact h
theorem sb(t:Tm):(bO t).length<=2001:=by
 unfold bO;split
 .rename_i hg;simp only[dp,Bool.and_eq_true,decide_eq_true_eq] at hg;have:=HO (t.size+1) [t] [];simp at this;omega
 .simp
theorem Cn(t:Tm):(bO t).Nodup:=by
 unfold bO;split
 .exact Ck _ _ _ List.nodup_nil
 .exact List.nodup_nil
theorem HV(C:Nat->List AV->af->Option (AV×af))(n w:Nat)(hw:min w 3=w)(vs:List Int)(hl:vs.length<1000000)(hn:vs.Nodup)(os:List aT):∀(post pre:List Int) (m md:Nat),md<=2->vs=pre++post->post.length<m->
 il 3 w (bP (aC C n tv) nF 3 m (Jc (.map 2) (.sl (ints vs)) (.int .i64 vs.length) (.int .i64 pre.length)) ⟨3,.map (gZ (ff pre))::os,3,md⟩)=
  some (.exit 0,FM 20 [(3,.map 2)],⟨3,.map (gZ (ff vs))::os,w,md⟩)
 |_,_,0,_,_,_,h=>by omega
 |[],pre,m+1,md,dn,hs,_=>by rw[ag];rw[List.append_nil] at hs;subst hs;simp[tv,nF,hw]
 |v::r,pre,m+1,md,dn,hs,hm=>by
   rw[ag];have AL:pre.length+r.length+1=vs.length:=by rw[hs];simp;omega
   have h6:((pre.length:Int)<(vs.length:Int))=True:=eq_true (by omega);have hc:(ints vs)[pre.length]? =some (.int .i64 v):=by unfold ints;rw[List.getElem?_map,hs];simp
   have qo:(ints vs).length=vs.length:=by simp[ints]
   have h3:IntKind.i64.wrap ((pre.length:Int)+1)=(pre.length:Int)+1:=wrap_i64 (by omega) (by omega)
   have hnv:v∉pre:=λh=>by rw[hs,List.nodup_append] at hn;exact hn.2.2 v h v (by simp) rfl
   have hz:ff (pre++[v])=ff pre++[(v,(pre.length:Int))]:=by unfold ff;rw[BP,Nat.zero_add]
   have hmu:=XX v pre.length (ff pre) (BM v pre 0 hnv);have hmm:min md 2=md:=by omega
   have ih:=HV C n w hw vs hl hn os r (pre++[v]) m md dn (by rw[hs];simp) (by simp at hm;omega);simp only[List.length_append,List.length_cons,List.length_nil,Nat.zero_add,Int.natCast_add,Int.natCast_one,hz] at ih;have hr:=cF vs;generalize ints vs=I at *;simp[tv,nF,h6,hc,qo,h3,hmu,hr,jA,af.iq,hmm];exact ih
theorem Ie(C:Nat->List AV->af->Option (AV×af))(n w:Nat)(hw:min w 4=w)(vs:List Int)(hl:vs.length<1000000)(hn:vs.Nodup)(os:List aT):∀(post pre:List Int) (m md:Nat),md<=3->vs=pre++post->post.length<m->
 il 4 w (bP (aC C n tv) nF 4 m (Jc (.map 3) (.sl (ints vs)) (.int .i64 vs.length) (.int .i64 pre.length)) ⟨4,.map (gZ (ff pre))::os,4,md⟩)=
  some (.exit 0,FM 20 [(3,.map 3)],⟨4,.map (gZ (ff vs))::os,w,md⟩)
 |_,_,0,_,_,_,h=>by omega
 |[],pre,m+1,md,dn,hs,_=>by rw[ag];rw[List.append_nil] at hs;subst hs;simp[tv,nF,hw]
 |v::r,pre,m+1,md,dn,hs,hm=>by
   rw[ag];have AL:pre.length+r.length+1=vs.length:=by rw[hs];simp;omega
   have h6:((pre.length:Int)<(vs.length:Int))=True:=eq_true (by omega);have hc:(ints vs)[pre.length]? =some (.int .i64 v):=by unfold ints;rw[List.getElem?_map,hs];simp
   have qo:(ints vs).length=vs.length:=by simp[ints]
   have h3:IntKind.i64.wrap ((pre.length:Int)+1)=(pre.length:Int)+1:=wrap_i64 (by omega) (by omega)
   have hnv:v∉pre:=λh=>by rw[hs,List.nodup_append] at hn;exact hn.2.2 v h v (by simp) rfl
   have hz:ff (pre++[v])=ff pre++[(v,(pre.length:Int))]:=by unfold ff;rw[BP,Nat.zero_add]
   have hmu:=XX v pre.length (ff pre) (BM v pre 0 hnv);have hmm:min md 3=md:=by omega
   have ih:=Ie C n w hw vs hl hn os r (pre++[v]) m md dn (by rw[hs];simp) (by simp at hm;omega);simp only[List.length_append,List.length_cons,List.length_nil,Nat.zero_add,Int.natCast_add,Int.natCast_one,hz] at ih;have hr:=cF vs;generalize ints vs=I at *;simp[tv,nF,h6,hc,qo,h3,hmu,hr,jA,af.iq,hmm];exact ih
def jY(n:Int)(l:List Int):List Int:=if n∈l then l else l++[n]
mutual
def fF:Tm->List Int->List Int
 |.nl k n _,l=>if k=0 then jY n l else l
 |.mk k n _ us,l=>if k=0 then jY n l else cN us l
def cN:List Tm->List Int->List Int
 |[],l=>l
 |t::r,l=>cN r (fF t l)
end
theorem r9(t:Tm)(l:List Int):fF t l=if t.aj=0 then jY t.bj l else cN t.aa l:=by
 cases t with
 |nl k n s=>
   show (if k=0 then jY n l else l)=if k=0 then jY n l else cN [] l
   split<;>rfl
 |mk k n s us=>rfl
def Rep(nx:Nat)(os:List aT)(v:AV)(l:List Int):Prop:=(l=[]/\v=.aF)\/(∃id,id<nx/\v=.vec id 0 l.length 1 l.length/\l≠[]/\∀a b,af.get ⟨nx,os,a,b⟩ id=some (.row (ints l)))
theorem Hb(n nx:Nat)(os:List aT)(t:Tm)(v:AV)(l:List Int)(hr:Rep nx os v l)(hl:l.length<1000000):∀(post pre:List Int) (m md:Nat),l=pre++post->post.length<m->
 il (nx+1) nx (bP (aC (aH (cD [nM]) (n+1)) (n+1) x7) pR (nx+1) m (Yk v (.ptr nx 0) (.int .i64 pre.length)) ⟨nx+1,.row t.cells::os,nx+1,md⟩)=
  (if t.bj∈post then some (.ret,FM 44 [(4,v)],⟨nx+1,.row t.cells::os,nx,md⟩) else some (.exit 0,FM 44 [(1,v),(2,.ptr nx 0)],⟨nx+1,.row t.cells::os,nx,md⟩))
 |_,_,0,_,_,h=>by omega
 |[],pre,m+1,md,hs,_=>by
   rw[List.append_nil] at hs;subst hs;rw[ag,if_neg (by simp)];rcases hr with⟨rfl,rfl⟩|⟨id,bX,rfl,eR,mg⟩
   .simp[eA,x7,pR]
   .have h1:(nx+1<=id)=False:=eq_false (by omega);have h2:(id<nx+1)=True:=eq_true (by omega);simp[eA,x7,pR,h1,h2]
 |x::r,pre,m+1,md,hs,hm=>by
   rw[ag];rcases hr with⟨rfl,rfl⟩|⟨id,bX,rfl,eR,mg⟩
   .simp at hs
   .have ih:=Hb n nx os t _ l (.inr ⟨id,bX,rfl,eR,mg⟩) hl r (pre++[x]) m md (by rw[hs];simp) (by simp at hm;omega);have AL:pre.length+r.length+1=l.length:=by rw[hs];simp;omega
    have h1:(nx+1<=id)=False:=eq_false (by omega);have h2:(id<nx)=True:=eq_true bX;have h6:((pre.length:Int)<(l.length:Int))=True:=eq_true (by omega);have hc:(ints l)[pre.length]? =some (.int .i64 x):=by unfold ints;rw[List.getElem?_map,hs];simp
    have qo:(ints l).length=l.length:=by simp[ints]
    have h3:IntKind.i64.wrap ((pre.length:Int)+1)=(pre.length:Int)+1:=wrap_i64 (by omega) (by omega);have dq:=Tm.aY t;have h7:(id<nx+1)=True:=eq_true (by omega);rw[dq] at ih|-;simp only[List.length_append,List.length_cons,List.length_nil,Nat.zero_add,Int.natCast_add,Int.natCast_one] at ih;simp only[List.mem_cons];by_cases hx:x=t.bj
    .rw[if_pos (.inl hx.symm)];simp[eA,-jo,-set_mk,fT,gF,gY,gX,x7,pR,h1,h2,h6,h7,hc,qo,h3,mg,hx]
    .have Ky:¬t.bj=x:=λe=>hx e.symm
     by_cases jt:t.bj∈r
     .rw[if_pos (.inr jt)];rw[if_pos jt] at ih;simp[eA,-jo,-set_mk,fT,gF,gY,gX,x7,pR,h1,h2,h6,h7,hc,qo,h3,mg,hx];exact ih
     .rw[if_neg (by simp[Ky,jt])];rw[if_neg jt] at ih;simp[eA,-jo,-set_mk,fT,gF,gY,gX,x7,pR,h1,h2,h6,h7,hc,qo,h3,mg,hx];exact ih
def pU(nx:Nat)(os:List aT):AV->List aT
 |.vec id _ _ _ _=>os.set (nx-1-id) .dead
 |_=>os
theorem kg(a:Nat)(b:List aT)(c d:Nat)(v:AV)(nx:Nat)(os:List aT)(wl md:Nat):finish true ⟨a,b,c,d⟩ v ⟨nx,os,wl,md⟩=(v,⟨nx,os,min c wl,min d md⟩):=rfl
def ahV(nx:Nat)(os:List aT)(wl:Nat)(v:AV)(l l':List Int)(R:Option (AV×af)):Prop:=
 ∃X cH,(l'=l/\R=some (v,⟨nx+X.length,X++os,wl,cH⟩))\/
   (l'≠[]/\R=some (.vec (nx+X.length) 0 l'.length 1 l'.length,⟨nx+X.length+1,.row (ints l')::(X++pU nx os v),wl,cH⟩))
theorem aaz(n nx:Nat)(os:List aT)(wl md:Nat)(t:Tm)(v:AV)(l:List Int)(hr:Rep nx os v l)(hl:l.length<1000000)(hn:l.length<n+1)(hwl:wl<=nx)(hk:t.aj=0):
 ahV nx os wl v l (fF t l) (aH (cD [nM]) (n+2) 93 [t.aL,v] ⟨nx,os,wl,md⟩):=by
 have lp:=Hb n nx os t v l hr hl l [] (n+1) nx rfl hn;have dq:=Tm.aY t;have Dd:=Tm.bm t;have nt:=ar t;have e:fF t l=jY t.bj l:=by rw[r9,if_pos hk]
 rw[e];have hw:min wl nx=wl:=Nat.min_eq_left hwl;rw[dq,hk] at lp;simp only[pR,Yk,List.length_nil,Int.natCast_zero] at lp;rw[Dd,dq,hk];unfold jY;by_cases hm:t.bj∈l
 .rw[if_pos hm] at lp|-;refine⟨[.row [.int .i64 0,.int .i64 t.bj,.str t.az,t.bh]],min md nx,.inl ⟨rfl,?_⟩⟩;rcases hr with⟨rfl,rfl⟩|⟨id,bX,rfl,eR,mg⟩
  .simp at hm
  .have h1:(id<nx+1)=True:=eq_true (by omega);have h2:id<=nx:=by omega
   have h3:(nx+1<=id)=False:=eq_false (by omega);simp[eA,-jo,-set_mk,fT,gF,gY,gX,FL,c93,pR,aw,nt,lp,hw,h1,h2,h3,kg]
 .rw[if_neg hm] at lp|-;rcases hr with⟨rfl,rfl⟩|⟨id,bX,rfl,eR,mg⟩
  .refine⟨[.row [.int .i64 t.bj],.row [.int .i64 0,.int .i64 t.bj,.str t.az,t.bh]],min md nx,.inr ⟨by simp,?_⟩⟩;have e1:ints ([]++[t.bj])=[.int .i64 t.bj]:=rfl;simp[eA,-jo,-set_mk,fT,gF,gY,gX,FL,c93,pR,aw,nt,lp,hw,aG,e1,pU,kg,NG]
  .have h1:(id<nx+1)=True:=eq_true (by omega);have h2:id<=nx:=by omega
   have h3:(nx+1<=id)=False:=eq_false (by omega);have qo:(ints l).length=l.length:=by simp[ints]
   have h4:(ints l).take l.length=ints l:=List.take_of_length_le (by omega);have h6:(l.length+1)*8<=140737488355328:=by omega
   have h7:l.length+1<9223372036854775808:=by omega
   have e1:ints (l++[t.bj])=ints l++[.int .i64 t.bj]:=by simp[ints]
   have hks:∀a b,(af.set ⟨nx,os,a,b⟩ id .dead).gm=os.set (nx-1-id) .dead:=λa b=>by unfold af.set;rw[if_pos bX]
   refine⟨[.row [.int .i64 t.bj],.row [.int .i64 0,.int .i64 t.bj,.str t.az,t.bh]],min md id,.inr ⟨by simp,?_⟩⟩;simp[eA,-jo,-set_mk,fT,gF,gY,gX,FL,c93,pR,aw,nt,lp,hw,aG,e1,pU,h1,h2,h3,kg,qo,h4,h6,h7,mg,hks,bX]
theorem WE{nx:Nat}{os:List aT}{v:AV}{l:List Int}(o:aT)(h:Rep nx os v l):Rep (nx+1) (o::os) v l:=by
 rcases h with h|⟨id,bX,e,eR,hg⟩
 .exact .inl h
 .exact .inr ⟨id,by omega,e,eR,λa b=>by rw[gF o os a b bX];exact hg a b⟩
theorem abf(nx:Nat)(os:List aT){l:List Int}(eR:l≠[]):Rep (nx+1) (.row (ints l)::os) (.vec nx 0 l.length 1 l.length) l:=.inr ⟨nx,by omega,rfl,eR,λa b=>fT nx _ os a b⟩
theorem Ta{nx:Nat}{os:List aT}{v:AV}{l:List Int}(o:aT)(h:Rep nx os v l):pU (nx+1) (o::os) v=o::pU nx os v:=by
 rcases h with⟨_,rfl⟩|⟨id,bX,rfl,eR,hg⟩
 .rfl
 .show (o::os).set (nx+1-1-id) .dead=o::os.set (nx-1-id) .dead;rw[show nx+1-1-id=(nx-1-id)+1 by omega,List.set_cons_succ]
theorem Zw(nx:Nat)(os:List aT)(o:aT)(a b c d:Nat):pU (nx+1) (o::os) (.vec nx a b c d)=.dead::os:=by show (o::os).set (nx+1-1-nx) .dead=_;rw[show nx+1-1-nx=0 by omega,List.set_cons_zero]
theorem al2{nx k:Nat}{os ax:List aT}{v:AV}{l:List Int}(hr:Rep nx os v l)(i:Int)(X:List aT)(hX:X.length=k)(md:Nat):
 gc (nx+1) (FM 44 [(1,v),(2,.ptr nx 0),(6,.int .i64 i)]) ⟨nx+1+k,X++ax,nx+1,md⟩=(FM 44 [(1,v),(2,.ptr nx 0),(6,.int .i64 i)],⟨nx+1,ax,nx+1,md⟩):=by
 rw[Nv (nx+1) _ _ _ _ rfl];have hd:(X++ax).drop k=ax:=by rw[<-hX,List.drop_left]
 rcases hr with⟨_,rfl⟩|⟨id,bX,rfl,eR,hg⟩
 .simp[aE,zk,lT,AV.top,F3,dm,allM,hd,AV.aJ,oD]
 .have h1:(nx+1<=id)=False:=eq_false (by omega);have h2:(id<nx+1)=True:=eq_true (by omega);simp[aE,zk,lT,AV.top,F3,dm,allM,hd,AV.aJ,oD,h1,h2]
theorem aeL{nx nxx j:Nat}{gm ax:List aT}(l:List Int)(a b:Nat)(i:Int)(md:Nat)(hj:nx+1<=j)(hle:nx+1<=nxx)(hg:af.get ⟨nxx,gm,nx+1,md⟩ j=some (.row (ints l)))(hd:gm.drop (nxx-(nx+1))=ax):
 gc (nx+1) (FM 44 [(1,.vec j 0 a 1 b),(2,.ptr nx 0),(6,.int .i64 i)]) ⟨nxx,gm,nx+1,md⟩=(FM 44 [(1,.vec (nx+1) 0 a 1 b),(2,.ptr nx 0),(6,.int .i64 i)],⟨nx+2,.row (ints l)::ax,nx+1,md⟩):=by
 rw[Nv (nx+1) _ _ _ _ rfl];have h1:(j<nx+1)=False:=eq_false (by omega);simp[aE,zk,lT,AV.top,F3,dm,allM,hd,hg,hj,hle,AV.aJ,oD,h1,cF]
theorem MP(n:Int)(l:List Int):(jY n l).length<=l.length+1:=by unfold jY;split<;>simp
theorem RD(n:Int)(l:List Int):jY n l≠[]:=by
 unfold jY;split
 .rename_i h;intro e;rw[e] at h;simp at h
 .simp
mutual
theorem Bb:∀(t:Tm) (l:List Int),(fF t l).length<=l.length+t.size
 |.nl k n s,l=>by have:=MP n l;show (if k=0 then jY n l else l).length<=l.length+1;split<;>omega
 |.mk k n s us,l=>by have:=MP n l;have h2:=Fg us l;show (if k=0 then jY n l else cN us l).length<=l.length+(1+Tm.br us);split<;>omega
theorem Fg:∀(us:List Tm) (l:List Int),(cN us l).length<=l.length+Tm.br us
 |[],l=>by simp[cN]
 |t::r,l=>by have h1:=Bb t l;have h2:=Fg r (fF t l);simp only[cN,Tm.br];omega
end
mutual
theorem WY:∀(t:Tm) (l:List Int),l≠[]->fF t l≠[]
 |.nl k n s,l,h=>by
   show (if k=0 then jY n l else l)≠[];split
   .exact RD n l
   .exact h
 |.mk k n s us,l,h=>by
   show (if k=0 then jY n l else cN us l)≠[];split
   .exact RD n l
   .exact BK us l h
theorem BK:∀(us:List Tm) (l:List Int),l≠[]->cN us l≠[]
 |[],l,h=>h
 |t::r,l,h=>BK r _ (WY t l h)
end
def VOK(n:Nat)(x:Tm)(B:Nat):Prop:=∀(nx:Nat) (os:List aT) (wl md:Nat) (v:AV) (l:List Int),Rep nx os v l->wl<=nx->l.length+x.size<=B->ahV nx os wl v l (fF x l) (aH (cD [nM]) (n+1) 93 [x.aL,v] ⟨nx,os,wl,md⟩)
theorem R3{t:Tm}{i:Nat}{x:Tm}(h:t.aa[i]? =some x):t.bh=.sl (t.aa.map Tm.aL):=by
 cases t with
 |nl k n s=>simp[Tm.aa] at h
 |mk k n s us=>rfl
theorem A7(n nx B:Nat)(os:List aT)(t:Tm)(H:∀x∈t.aa,VOK n x B)(hB:t.aa.length<100000):∀(post pre:List Tm) (m md:Nat) (l:List Int),t.aa=pre++post->post.length<m->l≠[]->l.length+Tm.br post<=B->
 ∃cH,il (nx+1) nx (bP (aC (aH (cD [nM]) (n+1)) (n+1) oO) ie (nx+1) m (tu (.vec (nx+1) 0 l.length 1 l.length) (.ptr nx 0) (.int .i64 pre.length)) ⟨nx+2,.row (ints l)::.row t.cells::os,nx+1,md⟩)=
   some (.exit 2,FM 44 [(1,.vec (nx+1) 0 (cN post l).length 1 (cN post l).length)],⟨nx+2,.row (ints (cN post l))::.row t.cells::os,nx,cH⟩)
 |_,_,0,_,_,_,h,_,_=>by omega
 |[],pre,m+1,md,l,hs,_,eR,_=>by
   rw[ag];rw[List.append_nil] at hs;have eF:=pE t;have dq:=Tm.aY t;have nt:=ar t;have hir:=cF l;rw[dq];have DP:pre.length=t.aa.length:=by rw[hs]
   have h6:((pre.length:Int)<(t.aa.length:Int))=False:=eq_false (by omega);exact⟨md,by simp[eA,-jo,-set_mk,fT,gF,gY,gX,oO,ie,eF,h6,hir,nt,cN]⟩
 |x::r,pre,m+1,md,l,hs,hm,eR,hlB=>by
   rw[ag];simp only[Tm.br] at hlB;have AL:pre.length+r.length+1=t.aa.length:=by rw[hs];simp;omega
   have hc:t.aa[pre.length]? =some x:=by rw[hs];simp
   have hxm:x∈t.aa:=by rw[hs];simp
   have QW:=R3 hc;have h3:IntKind.i64.wrap ((pre.length:Int)+1)=(pre.length:Int)+1:=wrap_i64 (by omega) (by omega);have h6:((pre.length:Int)<(t.aa.length:Int))=True:=eq_true (by omega);have dJ:x.aL=.agg [.int .i64 x.aj,.int .i64 x.bj,.str x.az,x.bh]:=by rw[Tm.bm];rfl
   have cI:=ar x;have KK:=bw t.aa;have hir:=cF l;have dq:t.cells=[.int .i64 t.aj,.int .i64 t.bj,.str t.az,.sl (t.aa.map Tm.aL)]:=by rw[<-QW];rfl
   have hvl:=Bb x l;have q:=H x hxm (nx+2) (.row (ints l)::.row t.cells::os) (nx+1) md (.vec (nx+1) 0 l.length 1 l.length) l (abf (nx+1) _ eR) (by omega) (by omega);rw[show cN (x::r) l=cN r (fF x l) from rfl];have hcU:(t.aa.map Tm.aL)[pre.length]? =some (.agg [.int .i64 x.aj,.int .i64 x.bj,.str x.az,x.bh]):=by rw[List.getElem?_map,hc];exact congrArg some dJ
   have QV:(t.aa.map Tm.aL).length=t.aa.length:=List.length_map _;rw[dJ] at q;have kt:pU (nx+2) (.row (ints l)::.row t.cells::os) (.vec (nx+1) 0 l.length 1 l.length)=.dead::.row t.cells::os:=Zw (nx+1) _ _ _ _ _ _;obtain⟨X,VU,⟨q1,q2⟩|⟨q1,q2⟩⟩:=q
   .obtain⟨cH,ih⟩:=A7 n nx B os t H hB r (pre++[x]) m VU l (by rw[hs];simp) (by simp at hm;omega) eR (by omega);rw[q1];refine⟨cH,?_⟩
    have gg:af.get ⟨nx+2+X.length,X++.row (ints l)::.row t.cells::os,nx+1,VU⟩ (nx+1)=some (.row (ints l)):=by unfold af.get;dsimp only;rw[if_pos (by omega),show nx+2+X.length-1-(nx+1)=X.length by omega,List.getElem?_append_right (Nat.le_refl _),Nat.sub_self];rfl
    have gd:(X++.row (ints l)::.row t.cells::os).drop (nx+2+X.length-(nx+1))=.row t.cells::os:=by rw[show nx+2+X.length-(nx+1)=X.length+1 by omega,<-List.drop_drop,List.drop_left];rfl
    have VP:=aeL (nx:=nx) l l.length l.length ((pre.length:Int)+1) VU (Nat.le_refl _) (by omega) gg gd;simp only[List.length_append,List.length_cons,List.length_nil,Nat.zero_add,Int.natCast_add,Int.natCast_one] at ih;rw[dq] at q2 VP ih|-;simp only[ie,tu] at ih;generalize t.aa.map Tm.aL=U at *;simp[eA,-jo,-set_mk,fT,gF,gY,gX,oO,ie,hcU,QV,h3,h6,cI,KK,q2,VP];exact ih
   .rw[kt] at q2;obtain⟨cH,ih⟩:=A7 n nx B os t H hB r (pre++[x]) m VU (fF x l) (by rw[hs];simp) (by simp at hm;omega) q1 (by omega);refine⟨cH,?_⟩;generalize fF x l=l' at *;have gg:af.get ⟨nx+2+X.length+1,.row (ints l')::(X++.dead::.row t.cells::os),nx+1,VU⟩ (nx+2+X.length)=some (.row (ints l')):=fT _ _ _ _ _
    have gd:(aT.row (ints l')::(X++.dead::.row t.cells::os)).drop (nx+2+X.length+1-(nx+1))=.row t.cells::os:=by rw[show nx+2+X.length+1-(nx+1)=(X.length+1)+1 by omega,List.drop_succ_cons,<-List.drop_drop,List.drop_left];rfl
    have VP:=aeL (nx:=nx) l' l'.length l'.length ((pre.length:Int)+1) VU (by omega) (by omega) gg gd;simp only[List.length_append,List.length_cons,List.length_nil,Nat.zero_add,Int.natCast_add,Int.natCast_one] at ih;rw[dq] at q2 VP ih|-;simp only[ie,tu] at ih;generalize t.aa.map Tm.aL=U at *;simp[eA,-jo,-set_mk,fT,gF,gY,gX,oO,ie,hcU,QV,h3,h6,cI,KK,q2,VP];exact ih
theorem HH(n nx B:Nat)(os:List aT)(t:Tm)(H:∀x∈t.aa,VOK n x B)(hB:t.aa.length<100000)(v:AV)(l:List Int)(hr:Rep nx os v l):∀(post pre:List Tm) (m md:Nat),t.aa=pre++post->post.length<m->l.length+Tm.br post<=B->
 ∃cH,(cN post l=l/\il (nx+1) nx (bP (aC (aH (cD [nM]) (n+1)) (n+1) oO) ie (nx+1) m (tu v (.ptr nx 0) (.int .i64 pre.length)) ⟨nx+1,.row t.cells::os,nx+1,md⟩)=
   some (.exit 2,FM 44 [(1,v)],⟨nx+1,.row t.cells::os,nx,cH⟩))\/
   (cN post l≠[]/\il (nx+1) nx (bP (aC (aH (cD [nM]) (n+1)) (n+1) oO) ie (nx+1) m (tu v (.ptr nx 0) (.int .i64 pre.length)) ⟨nx+1,.row t.cells::os,nx+1,md⟩)=
   some (.exit 2,FM 44 [(1,.vec (nx+1) 0 (cN post l).length 1 (cN post l).length)],⟨nx+2,.row (ints (cN post l))::.row t.cells::pU nx os v,nx,cH⟩))
 |_,_,0,_,_,h,_=>by omega
 |[],pre,m+1,md,hs,_,_=>by
   rw[ag];rw[List.append_nil] at hs;have eF:=pE t;have dq:=Tm.aY t;have nt:=ar t;have DP:pre.length=t.aa.length:=by rw[hs]
   have h6:((pre.length:Int)<(t.aa.length:Int))=False:=eq_false (by omega);refine⟨md,.inl ⟨rfl,?_⟩⟩;rw[dq];rcases hr with⟨_,rfl⟩|⟨id,bX,rfl,eR,hg⟩
   .simp[eA,-jo,-set_mk,fT,gF,gY,gX,oO,ie,eF,h6,nt]
   .have h1:(nx+1<=id)=False:=eq_false (by omega);have h2:(id<nx+1)=True:=eq_true (by omega);simp[eA,-jo,-set_mk,fT,gF,gY,gX,oO,ie,eF,h6,nt,h1,h2]
 |x::r,pre,m+1,md,hs,hm,hlB=>by
   rw[ag];simp only[Tm.br] at hlB;have AL:pre.length+r.length+1=t.aa.length:=by rw[hs];simp;omega
   have hc:t.aa[pre.length]? =some x:=by rw[hs];simp
   have hxm:x∈t.aa:=by rw[hs];simp
   have QW:=R3 hc;have h3:IntKind.i64.wrap ((pre.length:Int)+1)=(pre.length:Int)+1:=wrap_i64 (by omega) (by omega);have h6:((pre.length:Int)<(t.aa.length:Int))=True:=eq_true (by omega);have dJ:x.aL=.agg [.int .i64 x.aj,.int .i64 x.bj,.str x.az,x.bh]:=by rw[Tm.bm];rfl
   have cI:=ar x;have KK:=bw t.aa;have dq:t.cells=[.int .i64 t.aj,.int .i64 t.bj,.str t.az,.sl (t.aa.map Tm.aL)]:=by rw[<-QW];rfl
   have hvl:=Bb x l;have q:=H x hxm (nx+1) (.row t.cells::os) (nx+1) md v l (WE _ hr) (Nat.le_refl _) (by omega);rw[show cN (x::r) l=cN r (fF x l) from rfl];have hcU:(t.aa.map Tm.aL)[pre.length]? =some (.agg [.int .i64 x.aj,.int .i64 x.bj,.str x.az,x.bh]):=by rw[List.getElem?_map,hc];exact congrArg some dJ
   have QV:(t.aa.map Tm.aL).length=t.aa.length:=List.length_map _
   have hvr:∀id a b c d,v=.vec id a b c d->id<nx:=λid a b c d e=>by
    rcases hr with⟨_,rfl⟩|⟨VC,bX,rfl,_,_⟩
    .cases e
    .cases e;exact bX
   rw[dJ] at q;have kt:=Ta (.row t.cells) hr;obtain⟨X,VU,⟨q1,q2⟩|⟨q1,q2⟩⟩:=q
   .rw[q1];have VP:=al2 (k:=X.length) (ax:=.row t.cells::os) hr ((pre.length:Int)+1) X rfl VU;obtain⟨cH,⟨i1,ih⟩|⟨i1,ih⟩⟩:=HH n nx B os t H hB v l hr r (pre++[x]) m VU (by rw[hs];simp) (by simp at hm;omega) (by omega)
    .refine⟨cH,.inl ⟨i1,?_⟩⟩;simp only[List.length_append,List.length_cons,List.length_nil,Nat.zero_add,Int.natCast_add,Int.natCast_one] at ih;rw[dq] at q2 VP ih|-;simp only[ie,tu] at ih;generalize t.aa.map Tm.aL=U at *;simp[eA,-jo,-set_mk,fT,gF,gY,gX,oO,ie,hcU,QV,h3,h6,cI,KK,q2,VP];exact ih
    .refine⟨cH,.inr ⟨i1,?_⟩⟩;simp only[List.length_append,List.length_cons,List.length_nil,Nat.zero_add,Int.natCast_add,Int.natCast_one] at ih;rw[dq] at q2 VP ih|-;simp only[ie,tu] at ih;generalize t.aa.map Tm.aL=U at *;simp[eA,-jo,-set_mk,fT,gF,gY,gX,oO,ie,hcU,QV,h3,h6,cI,KK,q2,VP];exact ih
   .rw[kt] at q2;obtain⟨cH,ih⟩:=A7 n nx B (pU nx os v) t H hB r (pre++[x]) m VU (fF x l) (by rw[hs];simp) (by simp at hm;omega) q1 (by omega);refine⟨cH,.inr ⟨BK r _ q1,?_⟩⟩;generalize fF x l=l' at *;have gg:af.get ⟨nx+1+X.length+1,.row (ints l')::(X++.row t.cells::pU nx os v),nx+1,VU⟩ (nx+1+X.length)=some (.row (ints l')):=fT _ _ _ _ _
    have gd:(aT.row (ints l')::(X++.row t.cells::pU nx os v)).drop (nx+1+X.length+1-(nx+1))=.row t.cells::pU nx os v:=by rw[show nx+1+X.length+1-(nx+1)=X.length+1 by omega,List.drop_succ_cons,List.drop_left]
    have VP:=aeL (nx:=nx) l' l'.length l'.length ((pre.length:Int)+1) VU (by omega) (by omega) gg gd;simp only[List.length_append,List.length_cons,List.length_nil,Nat.zero_add,Int.natCast_add,Int.natCast_one] at ih;rw[dq] at q2 VP ih|-;simp only[ie,tu] at ih;generalize t.aa.map Tm.aL=U at *;simp[eA,-jo,-set_mk,fT,gF,gY,gX,oO,ie,hcU,QV,h3,h6,cI,KK,q2,VP];exact ih
theorem SD(B:Nat)(hB:B<100000):∀(k:Nat) (t:Tm) (n:Nat),t.size<=k->B+t.size<n->VOK n t B
 |0,t,n,hk,_=>by have:=bJ t;omega
 |k+1,t,n,hk,hn=>λnx os wl md v l hr hwl hl=>by
   have hs:=bJ t;obtain⟨n,rfl⟩:∃n',n=n'+1:=⟨n-1,by omega⟩
   by_cases h0:t.aj=0
   .exact aaz n nx os wl md t v l hr (by omega) (by omega) hwl h0
   .have ZO:=dE t.aa
    have H:∀x∈t.aa,VOK n x B:=λx hx=>by have:=oy hx;exact SD B hB k x n (by omega) (by omega)
    have e:fF t l=cN t.aa l:=by rw[r9,if_neg h0]
    rw[e];have lp:=HH n nx B os t H (by omega) v l hr t.aa [] (n+1) nx rfl (by omega) (by omega);have dq:=Tm.aY t;have Dd:=Tm.bm t;have nt:=ar t;have hw:min wl nx=wl:=Nat.min_eq_left hwl;rw[dq] at lp;simp only[ie,tu,List.length_nil,Int.natCast_zero] at lp;rw[Dd,dq];obtain⟨cH,⟨i1,i2⟩|⟨i1,i2⟩⟩:=lp
    .rw[i1];refine⟨[.row [.int .i64 t.aj,.int .i64 t.bj,.str t.az,t.bh]],min md cH,.inl ⟨rfl,?_⟩⟩;rcases hr with⟨_,rfl⟩|⟨id,bX,rfl,eR,hg⟩
     .simp[eA,-jo,-set_mk,fT,gF,gY,gX,FL,c93,ie,aw,nt,h0,i2,hw,kg]
     .have h1:(nx+1<=id)=False:=eq_false (by omega);have h2:(id<nx+1)=True:=eq_true (by omega);have h4:id<=nx:=by omega
      simp[eA,-jo,-set_mk,fT,gF,gY,gX,FL,c93,ie,aw,nt,h0,i2,hw,kg,h1,h2,h4]
    .refine⟨[.row [.int .i64 t.aj,.int .i64 t.bj,.str t.az,t.bh]],min md cH,.inr ⟨i1,?_⟩⟩;rcases hr with⟨_,rfl⟩|⟨id,bX,rfl,eR,hg⟩
     .simp[eA,-jo,-set_mk,fT,gF,gY,gX,FL,c93,ie,aw,nt,h0,i2,hw,kg]
     .have h1:(nx+1<=id)=False:=eq_false (by omega);have h2:(id<nx+1)=True:=eq_true (by omega);have h4:id<=nx:=by omega
      simp[eA,-jo,-set_mk,fT,gF,gY,gX,FL,c93,ie,aw,nt,h0,i2,hw,kg,h1,h2,h4]
theorem Fz:∀(a b:List Tm) (l:List Int),cN (a++b) l=cN b (cN a l)
 |[],b,l=>rfl
 |t::a,b,l=>Fz a b (fF t l)
theorem NB:∀(d:Nat) (rs:List Tm) (vs:List Int),Tm.br rs<d->(∀x∈rs,x.gu eT=true)->eS d rs vs=cN rs vs
 |0,rs,vs,h,_=>by omega
 |d+1,[],vs,_,_=>rfl
 |d+1,x::rs,vs,h,GC=>by
   have hs:=bJ x;simp only[Tm.br] at h;have hs2:Tm.br (x.aa++rs)=Tm.br x.aa+Tm.br rs:=mm _ _;have hx:=GC x (by simp)
   have uU:∀y∈x.aa++rs,y.gu eT=true:=λy hy=>by
    rcases List.mem_append.1 hy with hy|hy
    .have h2:=hx;rw[gq,Bool.and_eq_true] at h2;exact Ea h2.2 y hy
    .exact GC y (by simp[hy])
   show eS d (x.aa++rs) (wg x vs)=cN rs (fF x vs);rw[NB d _ _ (by omega) uU,Fz,r9];by_cases h0:x.aj=0
   .rw[if_pos h0,kV x hx h0];show cN rs (wg x vs)=_;congr 1;unfold wg jY;by_cases hm:x.bj∈vs
    .rw[if_neg (λh=>h.2 hm),if_pos hm]
    .rw[if_pos ⟨h0,hm⟩,if_neg hm]
   .rw[if_neg h0];congr 2;unfold wg;rw[if_neg (λh=>h0 h.1)]
theorem tf(t:Tm):bO t=if dp t then fF t [] else []:=by
 unfold bO
 cases hg:dp t with
 |false=>rfl
 |true=>simp only[dp,Bool.and_eq_true,decide_eq_true_eq] at hg;rw[if_pos rfl,if_pos rfl,NB _ _ _ (by simp[Tm.br]) (λx hx=>by simp at hx;subst hx;exact hg.2)];rfl
noncomputable def BF:aW:=⟨54,λ|[v]=>(match fK v with|some t=>if t.eO<1000000000 then some (oB (bO t)) else none|none=>none)|_=>none⟩
theorem XU:BF.f=54:=(rfl)
theorem UY(t:Tm)(h:t.eO<1000000000):BF.S [t.aL]=some (oB (bO t)):=by simp only[BF,cd,if_pos h]
theorem Ut:aX Tryz.prog BF:=λaa v hv=>by
 unfold BF at hv|-;dsimp only at hv|-;split at hv
 .rename_i x;split at hv
  .rename_i t ht;split at hv
   .rename_i hl;cases hv;rw[cf ht];refine bL (n:=60000) (h':=h0) (bK (ss:=[nM]) (by simp[IG])) ?_ (yq _) (by simp[AV.ah,Tm.bC]);have c1:=HZ t hl;have Dd:t.aL=.agg [.int .i64 t.aj,.int .i64 t.bj,.str t.az,t.bh]:=by rw[Tm.bm];rfl
    have nt:=ar t;rw[tf]
    cases hg:dp t with
    |false=>rw[hg] at c1;rw[Dd] at c1|-;simp[ZB,c54,nt,aw,c1,eA,oB]
    |true=>
      rw[hg] at c1;have B4:=hg;simp only[dp,Bool.and_eq_true,decide_eq_true_eq] at B4;rw[if_pos rfl];have q:=SD 10000 (by omega) t.size t 59998 (Nat.le_refl _) (by omega) 1 [.row [.int .i64 t.aj,.int .i64 t.bj,.str t.az,t.bh]] 0 0 .aF [] (.inl ⟨rfl,rfl⟩) (by omega) (by simp;omega);obtain⟨X,cH,⟨q1,q2⟩|⟨q1,q2⟩⟩:=q
      .rw[q1];rw[Dd] at c1 q2|-;simp[ZB,c54,nt,aw,c1,eA,oB,q2];omega
      .generalize fF t []=vs at *
       cases vs with
       |nil=>exact absurd rfl q1
       |cons v r=>
         have fk:∀d,jL ⟨1+X.length+1,.row (ints (v::r))::(X++pU 1 [.row [.int .i64 t.aj,.int .i64 t.bj,.str t.az,t.bh]] .aF),0,cH⟩ 0 (d+2) (.vec (1+X.length) 0 (r.length+1) 1 (r.length+1))=some (.sl (ints (v::r)),[1+X.length]):=λd=>ac8 v r (Nat.zero_le _) (fT _ _ _ _ _)
         have rf:=cF (v::r);rw[Dd] at c1 q2|-;simp only[List.length_cons] at q2;have hK:(pU 1 [.row [.int .i64 t.aj,.int .i64 t.bj,.str t.az,t.bh]] .aF).length=1:=rfl;generalize pU 1 [.row [.int .i64 t.aj,.int .i64 t.bj,.str t.az,t.bh]] .aF=K at *;simp[ZB,c54,nt,aw,c1,eA,oB,q2,fk,rf,-kh];omega
   .cases hv
  .cases hv
 .cases hv
theorem YZ{a b:List UInt8}{l:Int}(h:rO a b l=true):kH b=!mR b:=by
 have hx:kH b=true->mR b=false:=λhb=>by
  unfold kH at hb;simp only[Bool.or_eq_true] at hb;rcases hb with (hb|hb)|hb
  .have e:b=[120,102,120]:=by simpa using hb
   subst e;rfl
  .have e:b=[120,102,121]:=by simpa using hb
   subst e;rfl
  .have e:b=[121,102,120]:=by simpa using hb
   subst e;rfl
 cases hb:kH b with
 |true=>rw[hx hb];rfl
 |false=>
   cases ha:mR b with
   |true=>rfl
   |false=>
     exfalso;unfold rO at h;rw[hb,ha] at h;split at h
     .simp only[Bool.and_eq_true] at h;have e:b=[120,102,121]:=by simpa using h.1
      subst e;cases hb
     .simp at h
theorem FN{α:Type}{p:α->Bool}:∀{l:List α} {i:Nat} {x:α},mw p l=some i->l[i]? =some x->p x=true
 |[],i,x,h,_=>by simp[mw] at h
 |y::r,i,x,h,hx=>by
   unfold mw at h
   cases hp:p y with
   |true=>rw[hp,if_pos rfl] at h;cases h;simp at hx;rw[<-hx];exact hp
   |false=>rw[hp,if_neg (by simp)] at h;rw[Option.map_eq_some_iff] at h;obtain⟨j,h1,rfl⟩:=h;exact FN h1 (by simpa using hx)
theorem AY{l:List a7}{s:List UInt8}{b:Bool}(h:(aS l s b).2=true):(aS l s b).1∈l/\(aS l s b).1.n=s/\mR (aS l s b).1.k=b:=by
 unfold aS at h|-;split at h
 .cases h
 .rename_i i hi;split at h
  .rename_i hg;rw[if_pos hg];have cY:=zX hi;have hp:=FN hi (List.getElem?_eq_getElem cY);simp only[Bool.and_eq_true,beq_iff_eq] at hp;have e:l.getD i fL=l[i]:=by simp[List.getD,List.getElem?_eq_getElem cY]
   dsimp only;rw[e];exact⟨List.getElem_mem cY,hp.1,hp.2⟩
  .cases h
def P3:AV->Option Int
 |.int .i64 n=>some n
 |_=>none
def tX:List AV->Option (List Int)
 |[]=>some []
 |v::r=>match P3 v,tX r with
   |some n,some l=>some (n::l)
   |_,_=>none
def zP:AV->Option (List Int)
 |.aF=>some []
 |.sl xs=>tX xs
 |_=>none
theorem Ae:∀l:List Int,tX (ints l)=some l
 |[]=>rfl
 |n::r=>by have:=Ae r;unfold ints at this|-;simp[tX,P3,this]
theorem CB:∀{xs:List AV} {l:List Int},tX xs=some l->xs=ints l
 |[],l,h=>by simp[tX] at h;subst h;rfl
 |v::r,l,h=>by
   unfold tX at h;split at h
   .rename_i n q h1 h2;cases h
    have e:v=.int .i64 n:=by
     unfold P3 at h1;split at h1
     .cases h1;rfl
     .cases h1
    rw[e,CB h2];rfl
   .cases h
structure Dw where
 T:List a7
 vs:List Int
def Y3(n:Int):List Int->Nat->Option Nat
 |[],_=>none
 |v::r,k=>if v=n then some k else Y3 n r (k+1)
mutual
def dQ(vs:List Int):Tm->Tm
 |.nl k n s=>if k=0 then (match Y3 n vs 0 with|some i=>.nl 0 i []|none=>.nl k n s) else .nl k n s
 |.mk k n s us=>if k=0 then (match Y3 n vs 0 with|some i=>.nl 0 i []|none=>.mk k n s us) else match us with|[]=>.mk k n s []|x::r=>.mk 2 0 s (dQ vs x::Rt vs r)
def Rt(vs:List Int):List Tm->List Tm
 |[]=>[]
 |t::r=>dQ vs t::Rt vs r
end
theorem Io(vs:List Int):∀us,Rt vs us=us.map (dQ vs)
 |[]=>rfl
 |t::r=>by rw[Rt,Io vs r];rfl
theorem OL{vs:List Int}{t:Tm}(h:t.aj=0):dQ vs t=match Y3 t.bj vs 0 with|some i=>.nl 0 i []|none=>t:=by
 cases t with
 |nl k n s=>exact if_pos h
 |mk k n s us=>cases us<;>exact if_pos h
theorem Qz{vs:List Int}{t:Tm}(h:¬t.aj=0)(ha:t.aa=[]):dQ vs t=t:=by
 cases t with
 |nl k n s=>exact if_neg h
 |mk k n s us=>have ha:us=[]:=ha;subst ha;exact if_neg h
theorem Wz{vs:List Int}{t:Tm}(h:¬t.aj=0)(ha:t.aa≠[]):dQ vs t=.mk 2 0 t.az (t.aa.map (dQ vs)):=by
 cases t with
 |nl k n s=>exact absurd rfl ha
 |mk k n s us=>
   cases us with
   |nil=>exact absurd rfl ha
   |cons x r=>refine (if_neg h).trans ?_;rw[Io];rfl
def gO(N:Nat):aW:=⟨100,λ|[v,y,.int .i64 f]=>(match fK v,zP y with|some t,some vs=>if (f=0/\t.size<N)/\vs.length<1000000 then some (dQ vs t).aL else none|_,_=>none)|_=>none⟩
theorem l8(N:Nat):(gO N).f=100:=(rfl)
theorem vC(N:Nat){y:AV}{vs:List Int}(hy:zP y=some vs)(hv:vs.length<1000000)(x:Tm)(h:x.size<N):(gO N).S [x.aL,y,.int .i64 0]=some (dQ vs x).aL:=by simp only[gO,cd,hy];exact if_pos ⟨⟨trivial,h⟩,hv⟩
theorem Mn(N:Nat){y:AV}{vs:List Int}(hy:zP y=some vs)(x:Tm)(h:N<=x.size):(gO N).S [x.aL,y,.int .i64 0]=none:=by simp only[gO,cd,hy];exact if_neg (λe=>by have:=e.1.2;omega)
theorem mK{y:AV}{vs:List Int}(h:zP y=some vs):(y=.aF/\vs=[])\/y=.sl (ints vs):=by
 unfold zP at h;split at h
 .cases h;exact .inl ⟨rfl,rfl⟩
 .exact .inr (by rw[CB h])
 .cases h
theorem Kn{y:AV}{vs:List Int}(h:zP y=some vs):∀(fr:List AV) (hp:af) (o:dY),o.ev fr=y->bG fr hp (.vj o)=some (.int .i64 vs.length,hp):=λfr hp o ho=>by
 rw[dZ,ho];rcases mK h with⟨rfl,rfl⟩|rfl
 .rfl
 .simp[ints]
theorem Ft(C:Nat->List AV->af->Option (AV×af))(n:Nat){y:AV}{vs:List Int}(hy:zP y=some vs)(hv:vs.length<1000000)(K M:Int)(s:List UInt8)(A:AV)(hA:A.aJ=0):∀(post pre:List Int) (k md:Nat),vs=pre++post->post.length<k->
 ∃cH,il 2 0 (bP (aC C n wW) o5 2 k (Sj y (.int .i64 0) (.ptr 0 0) (.ptr 1 0) (.int .i64 pre.length)) ⟨2,[.row zT,.row [.int .i64 K,.int .i64 M,.str s,A]],2,md⟩)=
   match Y3 M post pre.length with
   |some i=>some (.ret,FM 62 [(6,.ptr 1 0)],⟨2,[.row [.int .i64 0,.int .i64 i,.str [],.aF],.row [.int .i64 K,.int .i64 M,.str s,A]],0,cH⟩)
   |none=>some (.exit 0,FM 62 [(3,.ptr 0 0),(6,.ptr 1 0)],⟨2,[.row zT,.row [.int .i64 K,.int .i64 M,.str s,A]],0,cH⟩)
 |[],pre,k+1,md,e,_=>by
   rw[List.append_nil] at e;subst e;have ln:=Kn hy;refine⟨md,?_⟩;rw[ag];simp only[Y3];rcases mK hy with⟨rfl,e2⟩|rfl
   .simp[-dZ,wW,o5,ln,hA,zT]
   .have hr:AV.ah (ints vs)=0:=cF vs;simp[-dZ,wW,o5,ln,hA,zT,hr]
 |v::post,pre,k+1,md,e,hk=>by
   have hyl:y=.sl (ints vs):=by
    rcases mK hy with⟨_,e2⟩|h
    .rw[e2] at e;simp at e
    .exact h
   have hr:AV.ah (ints vs)=0:=cF vs;have ln:=Kn hy;have dI:vs.length=pre.length+post.length+1:=by rw[e];simp;omega
   have cY:(pre.length:Int)<(vs.length:Int):=by omega
   have uY:(ints vs)[pre.length]? =some (.int .i64 v):=by rw[e];simp[ints]
   have h3:=wrap_i64 (n:=(pre.length:Int)+1) (by omega) (by omega);have h4:=wrap_i64 (n:=(pre.length:Int)) (by omega) (by omega);obtain⟨cH,ih⟩:=Ft C n hy hv K M s A hA post (pre++[v]) k md (by rw[e];simp) (by simp at hk;omega);rw[List.length_append,List.length_cons,List.length_nil] at ih;unfold Y3;rw[ag];subst hyl;generalize ints vs=W at *;by_cases hvm:v=M
   .subst hvm;rw[if_pos rfl];exact⟨_,by simp[-dZ,wW,o5,ln,hA,zT,hr,cY,uY,h3,h4];with_reducible rfl⟩
   .rw[if_neg hvm];refine⟨cH,Eq.trans ?_ ih⟩;simp[-dZ,wW,o5,ln,hA,zT,hr,cY,uY,h3,h4,hvm]
theorem x9:∀{a b:List AV},AV.ah a=0->AV.ah b=0->AV.ah (a++b)=0
 |[],_,_,h=>h
 |x::r,b,h,g=>by rw[List.cons_append];simp only[AV.ah] at h|-;have:=x9 (a:=r) (b:=b) (by omega) g;omega
def zz(m:Nat):List AV:=(List.replicate m zT).flatten
theorem DM:∀m,AV.ah (zz m)=0
 |0=>rfl
 |m+1=>by have:=DM m;unfold zz at this|-;rw[List.replicate_succ,List.flatten_cons];show AV.ah (zT++(List.replicate m zT).flatten)=0;simp only[zT,List.cons_append,List.nil_append,AV.ah,AV.aJ] at this|-;simp[this]
theorem Sx(m:Nat):zz (m+1)=.int .i64 0::.int .i64 0::.str []::.aF::zz m:=by unfold zz;rw[List.replicate_succ,List.flatten_cons];rfl
theorem Qm:∀m,(zz m).length=m*4
 |0=>rfl
 |m+1=>by rw[Sx];simp[Qm m];omega
theorem afh(A:List AV)(m:Nat)(a b c d:AV):putAt (A++zz (m+1)) A.length [a,b,c,d]=(A++[a,b,c,d])++zz m:=by rw[mT _ _ _ (by simp[Qm];omega),Sx];simp
theorem ET(n N:Nat){y:AV}{vs:List Int}(hy:zP y=some vs)(hv:vs.length<1000000)(us:List Tm)(hN:N<=1000000000)(h1:Tm.br us<N)(K M:Int)(s:List UInt8):∀(post pre aM:List Tm) (k md:Nat),us=pre++post->aM.length=pre.length->post.length<k->
 ∃cH,il 3 0 (bP (aC (aH (cD [gO N,vM]) (n+1)) (n+1) DG) xd 3 k (Rk y (.int .i64 0) (.ptr 0 0) (.ptr 1 0) (.vec 2 0 us.length 4 us.length) (.int .i64 pre.length)) ⟨3,[.row (ay aM++zz post.length),.row zT,.row [.int .i64 K,.int .i64 M,.str s,.sl (us.map Tm.aL)]],3,md⟩)=
   some (.exit 2,FM 62 [(3,.ptr 0 0),(6,.ptr 1 0),(8,.vec 2 0 us.length 4 us.length)],⟨3,[.row (ay (aM++post.map (dQ vs))),.row zT,.row [.int .i64 K,.int .i64 M,.str s,.sl (us.map Tm.aL)]],0,cH⟩)
 |[],pre,aM,k+1,md,e,ea,_=>by
   simp at e;subst e;have h5:AV.ah (us.map Tm.aL)=0:=bw _;have hf:=aU aM
   have qj:y.aJ=0:=by
    rcases mK hy with⟨rfl,_⟩|rfl
    .rfl
    .exact (show (AV.sl (ints vs)).aJ=0 from by simp[AV.aJ,cF])
   have hz:zz ([]:List Tm).length=[]:=rfl;rw[hz,List.append_nil,List.map_nil,List.append_nil];have hyb:=mK hy;rw[ag];rcases hyb with⟨rfl,_⟩|rfl<;>exact⟨_,by simp[DG,xd,h5,hf,zT,cF];with_reducible rfl⟩
 |x::post,pre,aM,k+1,md,e,ea,hk=>by
   have hlu:=dE us;have g1:us[pre.length]? =some x:=by rw[e];simp
   have g2:(us.map Tm.aL)[pre.length]? =some (.agg [.int .i64 x.aj,.int .i64 x.bj,.str x.az,x.bh]):=by rw[List.getElem?_map,g1,Option.map_some,Tm.bm x];rfl
   have h5:AV.ah (us.map Tm.aL)=0:=bw _;have DP:pre.length<us.length:=by rw[e];simp
   have h6:((pre.length:Int)<(us.length:Int))=True:=eq_true (by omega);have h3:IntKind.i64.wrap ((pre.length:Int)+1)=(pre.length:Int)+1:=wrap_i64 (by omega) (by omega);have cI:=ar x;have hx:x∈us:=by rw[e];simp
   have hs:=vC N hy hv x (by have:=mq hx;omega);rw[an x] at hs;obtain⟨cH,ih⟩:=ET n N hy hv us hN h1 K M s post (pre++[x]) (aM++[dQ vs x]) k (min md 2) (by simp[e]) (by simp[ea]) (by rw[List.length_cons] at hk;omega);refine⟨cH,?_⟩;have em:(x::post).map (dQ vs)=dQ vs x::post.map (dQ vs):=rfl;have DV:(dQ vs x).aL=.agg [.int .i64 (dQ vs x).aj,.int .i64 (dQ vs x).bj,.str (dQ vs x).az,(dQ vs x).bh]:=by rw[Tm.bm];rfl
   have qj:=ar (dQ vs x);have rH:=cM (dQ vs x);rw[DV] at hs;have hz1:=afh (ay aM) post.length (.int .i64 (dQ vs x).aj) (.int .i64 (dQ vs x).bj) (.str (dQ vs x).az) (dQ vs x).bh
   have hll:(ay aM++zz (post.length+1)).length=us.length*4:=by rw[List.length_append,cG,Qm,ea,e];simp;omega
   have hrr:AV.ah (ay aM++zz (post.length+1))=0:=x9 (aU aM) (DM _)
   have aoo:AV.ah ((ay aM++[.int .i64 (dQ vs x).aj,.int .i64 (dQ vs x).bj,.str (dQ vs x).az,(dQ vs x).bh])++zz post.length)=0:=x9 (by have:=aU (aM++[dQ vs x]);rw[me] at this;exact this) (DM _)
   rw[cG,ea] at hz1;have e7:ay (aM++[dQ vs x])++zz post.length=(ay aM++[.int .i64 (dQ vs x).aj,.int .i64 (dQ vs x).bj,.str (dQ vs x).az,(dQ vs x).bh])++zz post.length:=by rw[me];rfl
   rw[e7,List.append_assoc aM,List.length_append,List.length_cons,List.length_nil] at ih;have e8:[dQ vs x]++post.map (dQ vs)=(x::post).map (dQ vs):=rfl;rw[e8] at ih;rw[show ((pre.length+(0+1):Nat):Int)=(pre.length:Int)+1 by omega] at ih;refine Eq.trans ?_ ih;have hyv:(y=.aF/\vs=[])\/y=.sl (ints vs):=mK hy;have hbound:pre.length*4+4<=us.length*4:=by omega
   rw[show (x::post).length=post.length+1 from rfl,ag];generalize dQ vs x=w at *;generalize (ay aM++[.int .i64 w.aj,.int .i64 w.bj,.str w.az,w.bh])++zz post.length=R2 at *;generalize ay aM++zz (post.length+1)=R1 at *;have QV:(us.map Tm.aL).length=us.length:=List.length_map _;generalize us.map Tm.aL=U at *;have hb2:pre.length*4+4<=R1.length:=by omega
   obtain⟨hUp,g3⟩:=List.getElem?_eq_some_iff.1 g2;rcases hyv with⟨rfl,_⟩|rfl<;>simp[DG,xd,g1,g2,g3,h3,h5,h6,QV,DP,cI,qj,rH,hs,hz1,hll,hrr,aoo,hb2,hbound,aw,l8,vN,aG,zT,cF]
theorem GF(N:Nat)(hN:N<=1000000000)(hp:aX Tryz.prog (gO N)):aX Tryz.prog (gO (N+1)):=λaa v hv=>by
 unfold gO at hv;dsimp only at hv;split at hv
 .rename_i a y f;split at hv
  .rename_i x vs ha hy;split at hv
   .rename_i hc;obtain⟨⟨rfl,iE⟩,hvl⟩:=hc;rcases Nat.lt_or_ge x.size N with cY|hge
    .refine hp _ _ ?_;rw[cf ha,vC N hy hvl x cY];exact hv
    cases hv;rw[l8,cf ha];have fW:=Mn N hy x hge;have s1:=bJ x;have ZO:=dE x.aa
    have qj:y.aJ=0:=by
     rcases mK hy with⟨rfl,_⟩|rfl
     .rfl
     .exact (show (AV.sl (ints vs)).aJ=0 from by simp[AV.aJ,cF])
    refine bL (n:=2000000000) (h':=h0) (bK (ss:=[gO N,vM]) (by simp[hp,Vc])) ?_ (Tm.bC _) (by simp[AV.ah,AV.aJ,Tm.bC,qj]);have cI:=ar x;rw[an x] at fW|-;have hyo:=mK hy;have eF:=pE x;by_cases k0:x.aj=0
    .rw[OL k0];obtain⟨cH,lp⟩:=Ft (aH (cD [gO N,vM]) 1999999999) 1999999999 hy hvl x.aj x.bj x.az x.bh cI vs [] 1999999999 0 rfl (by omega);simp only[o5,Sj,List.length_nil,Int.natCast_zero,zT] at lp
     cases hx:Y3 x.bj vs 0 with
     |some i=>rw[hx] at lp;have ez:(Tm.nl 0 (i:Int) []).aL=.agg [.int .i64 0,.int .i64 i,.str [],.aF]:=rfl;rw[ez];rw[k0] at fW lp|-;rcases hyo with⟨rfl,_⟩|rfl<;>simp[Jl,PN,o5,fW,l8,vN,lp,aw,cI]
     |none=>rw[hx] at lp;rw[an x];rw[k0] at fW lp|-;rcases hyo with⟨rfl,_⟩|rfl<;>simp[Jl,PN,o5,fW,l8,vN,lp,aw,cI]
    .by_cases eR:x.aa=[]
     .rw[Qz k0 eR,an x];rw[eR] at eF;rcases hyo with⟨rfl,_⟩|rfl<;>simp[-dZ,Jl,PN,fW,l8,vN,aw,cI,eF,k0]
     .rw[Wz k0 eR]
      have a1:x.bh=.sl (x.aa.map Tm.aL):=by
       cases x with
       |nl k n s=>exact absurd rfl eR
       |mk k n s us=>rfl
      have h5:=bw x.aa
      have hl0:(x.aa.length:Int)≠0:=by have:=List.length_pos_iff.2 eR;omega
      have hz0:=ET 1999999998 N hy hvl x.aa hN (by omega) x.aj x.bj x.az x.aa [] [] 1999999999 0 rfl rfl (by omega);obtain⟨cH,lp⟩:=hz0;simp only[xd,Rk,List.length_nil,Int.natCast_zero,zT] at lp;have e0:ay []=[]:=rfl;rw[e0,List.nil_append,List.nil_append] at lp;have hb1:(x.aa.length:Int)*56<=140737488355328:=by omega
      have hb2:(x.aa.length:Int)<9223372036854775808:=by omega
      have qc:=TV x.az (x.aa.map (dQ vs));have hw:x.aa.map (dQ vs)≠[]:=by simpa using eR
      have hfk:∀(A B:aT) (wl md d:Nat),jL ⟨3,[.row (ay (x.aa.map (dQ vs))),A,B],wl,md⟩ 0 (d+2) (.vec 2 0 x.aa.length 4 x.aa.length)=some (.sl ((x.aa.map (dQ vs)).map Tm.aL),[2]):=λA B wl md d=>by have:=J0 (h:=⟨3,[.row (ay (x.aa.map (dQ vs))),A,B],wl,md⟩) (n0:=0) (d:=d) (id:=2) hw (by omega) rfl;simpa using this
      have hr5:=bw (x.aa.map (dQ vs));rw[an (.mk 2 0 x.az (x.aa.map (dQ vs)))] at qc|-;have e3:(Tm.mk 2 0 x.az (x.aa.map (dQ vs))).bh=.sl ((x.aa.map (dQ vs)).map Tm.aL):=rfl;rw[e3] at qc|-;have e4:(Tm.mk 2 0 x.az (x.aa.map (dQ vs))).aj=2:=rfl;have e5:(Tm.mk 2 0 x.az (x.aa.map (dQ vs))).bj=0:=rfl;have e6:(Tm.mk 2 0 x.az (x.aa.map (dQ vs))).az=x.az:=rfl;rw[e4,e5,e6] at qc|-;have zl:(List.replicate x.aa.length [AV.int .i64 0,.int .i64 0,.str [],.aF]).flatten=zz x.aa.length:=rfl;rw[a1] at fW eF cI|-;have QV:(x.aa.map Tm.aL).length=x.aa.length:=List.length_map _;have KN:x.aa.length≠0:=by omega
      generalize (x.aa.map (dQ vs)).map Tm.aL=E2 at *;generalize ay (x.aa.map (dQ vs))=F2 at *;generalize x.aa.map Tm.aL=U at *;rcases hyo with⟨rfl,_⟩|rfl<;>simp[Jl,PN,xd,fW,l8,vN,lp,hfk,hr5,h5,QV,hl0,KN,hb1,hb2,zl,zT,qc,k0,DM,-kh]
   .cases hv
  .cases hv
 .cases hv
section
variable {b:UInt8}(hb:iV b=true)
include hb
theorem Lu:b.toNat=32\/b.toNat=9\/b.toNat=10\/b.toNat=13:=by unfold iV at hb;simpa[or_assoc] using hb
end
theorem Ml(p:UInt8->Bool){b:UInt8}(hp:p b=false)(v:List UInt8):∀u,runN p (u++b::v)=runN p u
 |[]=>by show (if p b then _ else 0)=0;rw[hp];rfl
 |c::r=>by
   show (if p c then runN p (r++b::v)+1 else 0)=if p c then runN p r+1 else 0
   rw[Ml p hp v r]
section
variable {b:UInt8}(hb:iV b=true)(v:List UInt8)
include hb
end
theorem pO:∀(n m:Nat) (l:List UInt8),l.length<n->l.length<m->dW n l=dW m l
 |0,_,_,h,_=>by omega
 |_+1,0,_,_,h=>by omega
 |n+1,m+1,[],_,_=>rfl
 |n+1,m+1,c::r,h1,h2=>by
   simp only[List.length_cons] at h1 h2;unfold dW;by_cases hb:iV c=true
   .rw[if_pos hb,if_pos hb,pO n m r (by omega) (by omega)]
   rw[if_neg hb,if_neg hb];by_cases hc:c.toNat=37
   .have hp:1<=runN lS (c::r):=pX (by unfold lS;rw[hc];rfl);have hl:((c::r).drop (runN lS (c::r))).length<=r.length:=by rw[List.length_drop];simp;omega
    rw[if_pos hc,if_pos hc,pO n m _ (by omega) (by omega)]
   .rw[if_neg hc,if_neg hc]
def fp(x:List UInt8):List UInt8:=x.drop (dW (x.length+1) x)
theorem kR(x:List UInt8):(fp x).length<=x.length:=by unfold fp;rw[List.length_drop];omega
theorem qG{c:UInt8}{r:List UInt8}(h:iV c=true):fp (c::r)=fp r:=by
 unfold fp
 conv=>lhs;rw[show dW ((c::r).length+1) (c::r)=dW (r.length+1) r+1 from by
  conv=>lhs;unfold dW
  rw[if_pos h];rfl]
 rfl
theorem S6{c:UInt8}{r:List UInt8}(h:c.toNat=37):fp (c::r)=fp ((c::r).drop (runN lS (c::r))):=by
 have hb:¬iV c=true:=λe=>by have:=Lu e;omega
 have hp:1<=runN lS (c::r):=pX (by unfold lS;rw[h];rfl);have hl:((c::r).drop (runN lS (c::r))).length<=r.length:=by rw[List.length_drop];simp;omega
 have e:dW ((c::r).length+1) (c::r)=runN lS (c::r)+dW (((c::r).drop (runN lS (c::r))).length+1) ((c::r).drop (runN lS (c::r))):=by
  conv=>lhs;unfold dW
  rw[if_neg hb,if_pos h,pO (c::r).length (((c::r).drop (runN lS (c::r))).length+1) _ (by simp only[List.length_cons];omega) (by omega)]
 unfold fp;rw[e,List.drop_drop]
theorem rN{c:UInt8}{r:List UInt8}(h1:¬iV c=true)(h2:¬c.toNat=37):fp (c::r)=c::r:=by unfold fp dW;rw[if_neg h1,if_neg h2];rfl
def so(u:List UInt8):List UInt8:=u.drop (cC u).2.1
def ny(u:List UInt8):List UInt8:=fp (so u)
def Mx(u:List UInt8):dc:=⟨(cC u).1.aj,(cC u).1.aI,(cC u).1.bj,decide ((so u).head?.map UInt8.toNat=some 40),decide (u.length-(ny u).length=1/\ny u≠[])⟩
theorem NH{u:List UInt8}(h:(cC u).2.2=0):(so u).length<u.length/\(ny u).length<u.length:=by
 have h1:=j5 u;have h2:=h1.2 h;have h3:=kR (so u);have h4:(so u).length=u.length-(cC u).2.1:=by unfold so;rw[List.length_drop]
 unfold ny;omega
def EH:Nat->List UInt8->Option (List dc)
 |0,_=>none
 |_+1,[]=>some []
 |n+1,c::r=>if (cC (c::r)).2.2=0 then (EH n (ny (c::r))).map (Mx (c::r)::·) else none
def ago(x:List UInt8):Option (List dc):=EH (x.length+1) (fp x)
section
variable {b:UInt8}(hb:b.toNat=10)(v:List UInt8)
include hb
end
theorem SE:∀(f:Nat) (s:List UInt8) (j:Nat) (aM:List Tok),j<=s.length->s.length-j<f->(rE f s j aM).2.2=0->∃M,(rE f s j aM).1=aM++M/\EH f (s.drop j)=some (mZ M)/\M.head?.map Tok.bQ=if j<s.length then some (j:Int) else none
 |0,_,_,_,_,h,_=>by omega
 |f+1,s,j,aM,hj,hf,h=>by
   unfold rE at h|-;by_cases h1:s.length<=j
   .rw[if_pos h1];refine⟨[],by simp,?_,?_⟩
    .rw[List.drop_of_length_le h1];rfl
    .rw[if_neg (by omega)];rfl
   rw[if_neg h1] at h|-;by_cases h2:(cC (s.drop j)).2.2=0
   .rw[if_neg (λg=>g h2)] at h|-;by_cases h3:(((cC (s.drop j)).1.aj=1\/(cC (s.drop j)).1.aj=2)/\64<(cC (s.drop j)).1.aI.length)\/aM.length=1024
    .rw[if_pos h3] at h;cases h
    rw[if_neg h3] at h|-;have hu:s.drop j≠[]:=λe=>by have:=congrArg List.length e;simp at this;omega
    have l1:=NH h2;have l2:=j5 (s.drop j);have l3:=l2.2 h2;have ld:(s.drop j).length=s.length-j:=List.length_drop;have en:so (s.drop j)=s.drop (j+(cC (s.drop j)).2.1):=by unfold so;rw[List.drop_drop]
    have ek:dW (s.length+1) (s.drop (j+(cC (s.drop j)).2.1))=dW ((so (s.drop j)).length+1) (so (s.drop j)):=by rw[en];exact pO _ _ _ (by rw[List.length_drop];omega) (Nat.lt_succ_self _)
    have er:ny (s.drop j)=s.drop (j+(cC (s.drop j)).2.1+dW (s.length+1) (s.drop (j+(cC (s.drop j)).2.1))):=by unfold ny fp;rw[<-ek,en,List.drop_drop]
    have lk:=nc (s.length+1) (s.drop (j+(cC (s.drop j)).2.1));rw[List.length_drop] at lk;have lr:=congrArg List.length er;rw[List.length_drop] at lr;obtain⟨M,a1,a2,a3⟩:=SE f s _ _ (by omega) (by omega) h;rw[<-er] at a2;refine⟨⟨(cC (s.drop j)).1.aj,(cC (s.drop j)).1.aI,(cC (s.drop j)).1.bj,decide ((s[j+(cC (s.drop j)).2.1]?.map UInt8.toNat)=some 40),j⟩::M,by rw[a1];simp,?_,by rw[if_pos (by omega)];rfl⟩
    cases hd:s.drop j with
    |nil=>exact absurd hd hu
    |cons c r=>
      rw[<-hd];have:EH (f+1) (s.drop j)=if (cC (s.drop j)).2.2=0 then (EH f (ny (s.drop j))).map (Mx (s.drop j)::·) else none:=by rw[hd];rfl
      rw[this,if_pos h2,a2];show some _=some (_::mZ M);refine congrArg some (congrArg (·::mZ M) ?_);unfold Mx;congr 1
      .rw[en,List.head?_drop]
      .cases M with
       |nil=>
         have hz:¬(j+(cC (s.drop j)).2.1+dW (s.length+1) (s.drop (j+(cC (s.drop j)).2.1)))<s.length:=λg=>by rw[if_pos g] at a3;cases a3
         show decide _=false;refine decide_eq_false λg=>g.2 ?_
         rw[er];exact List.drop_of_length_le (by omega)
       |cons t M=>
         have hz:(j+(cC (s.drop j)).2.1+dW (s.length+1) (s.drop (j+(cC (s.drop j)).2.1)))<s.length:=by
          refine Decidable.byContradiction λg=>?_
          rw[if_neg g] at a3;cases a3
         rw[if_pos hz] at a3;have ht:t.bQ=((j+(cC (s.drop j)).2.1+dW (s.length+1) (s.drop (j+(cC (s.drop j)).2.1)):Nat):Int):=Option.some.inj a3;show decide _=decide (t.bQ=(j:Int)+1);refine decide_eq_decide.2 ⟨λg=>by rw[ht];omega,λg=>⟨by rw[ht] at g;omega,λe=>by rw[e] at lr;simp at lr;omega⟩⟩
   .rw[if_pos h2] at h;exact absurd h h2
theorem K6{s:List UInt8}(h:(fw s).2.2=0):ago s=some (mZ (fw s).1):=by
 unfold fw at h|-;by_cases hl:4096<s.length
 .rw[if_pos hl] at h;cases h
 rw[if_neg hl] at h|-;have hk:=nc (s.length+1) s;obtain⟨M,a1,a2,_⟩:=SE (s.length+1) s (dW (s.length+1) s) [] hk (by omega) h;rw[a1,List.nil_append];exact a2
def adl(e:dc):Prop:=e.aj=6\/(e.aj=5/\e.aI=[41])
def Sw(Q Q':List dc)(d:Nat)(s s':St):Prop:=∃R,s.ax=R++Q/\s'.ax=R++Q'/\s'.bQ=s.bQ+d/\s'.next=s.next/\s'.ae=s.ae
section
variable {Q1 Q1':List dc}{e e':dc}{d:Nat}(he:adl e)(Oj:adl e')
section
variable {s s':St}(h:Sw (e::Q1) (e'::Q1') d s s')
include h
end
def SwR(Q1 Q1':List dc)(e e':dc)(d:Nat)(rec:Int->St->PR×St):Prop:=∀n s s',Sw (e::Q1) (e'::Q1') d s s'->(rec n s).1.2.2=true->Q1.length+1<=(rec n s).2.ax.length->(rec n s').1=(rec n s).1/\Sw (e::Q1) (e'::Q1') d (rec n s).2 (rec n s').2
variable {rec:Int->St->PR×St}(H:CO rec)(W:SwR Q1 Q1' e e' d rec)
include H W Oj
end
def af7:dc:=⟨6,[],0,false,false⟩
def Mf:List UInt8:=[120,102,120]
def xfy:List UInt8:=[120,102,121]
def WD:List UInt8:=[121,102,120]
def fyK:List UInt8:=[102,121]
def np:List a7:=[⟨[58,45],Mf,1200⟩,⟨[59],xfy,1100⟩,⟨[45,62],xfy,1050⟩,⟨[44],xfy,1000⟩,⟨[92,43],fyK,900⟩,
 ⟨[61],Mf,700⟩,⟨[92,61],Mf,700⟩,⟨[61,61],Mf,700⟩,⟨[92,61,61],Mf,700⟩,⟨[64,60],Mf,700⟩,⟨[64,62],Mf,700⟩,⟨[64,61,60],Mf,700⟩,⟨[64,62,61],Mf,700⟩,
 ⟨[61,46,46],Mf,700⟩,⟨[105,115],Mf,700⟩,⟨[61,58,61],Mf,700⟩,⟨[61,92,61],Mf,700⟩,⟨[60],Mf,700⟩,⟨[62],Mf,700⟩,⟨[61,60],Mf,700⟩,⟨[62,61],Mf,700⟩,
 ⟨[43],WD,500⟩,⟨[45],WD,500⟩,⟨[47,92],WD,500⟩,⟨[92,47],WD,500⟩,⟨[120,111,114],WD,500⟩,
 ⟨[42],WD,400⟩,⟨[47,47],WD,400⟩,⟨[109,111,100],WD,400⟩,⟨[114,101,109],WD,400⟩,⟨[62,62],WD,400⟩,⟨[60,60],WD,400⟩,
 ⟨[94],xfy,200⟩,⟨[45],fyK,200⟩,⟨[92],fyK,200⟩]
def rQ:aW:=⟨12,λ|[]=>some (.agg [.sl (np.map a7.aL)])|_=>none⟩
theorem En:rQ.f=12:=(rfl)
theorem B9:rQ.S []=some (.agg [.sl (np.map a7.aL)]):=(rfl)
theorem Nu:(aH (cD []) 60 12 [] h0).map (·.1)=some (.agg [.sl (np.map a7.aL)]):=by kernel_rfl
theorem Cf:aX Tryz.prog rQ:=λaa v hv=>by
 unfold rQ at hv|-;dsimp only at hv|-;split at hv
 .cases hv;obtain⟨p,h1,h2⟩:=Option.map_eq_some_iff.1 Nu;obtain⟨a,h'⟩:=p;dsimp only at h2;subst h2;exact bL (n:=60) (h':=h') (bK (ss:=[]) (by simp)) h1 (by decide+kernel) rfl
 .cases hv
theorem Tryz.own:ownKnob Tryz.prog.godebug=none:=by kernel_rfl
theorem Tryz.laidOut:laidOutB Tryz.prog=true:=by kernel_rfl
theorem R5{l:List (String×DataW Unit)}{W:World}(hL:laidMetH Tryz.prog l W)
 (h:(l.filter λx=>x.1== "internal/strconv.uint64pow10")=[("internal/strconv.uint64pow10",Lib.tabData .u64 Lib.pow10Tab)]/\(l.filter λx=>x.1== "strconv.ErrRange")=[("strconv.ErrRange",Rows.laid_strconv_ErrRange)]):bV W:=by
 have h1:=hL.filter λx=>x.1== "internal/strconv.uint64pow10"
 rw[h.1,MakeChecks.laidMetH_plain _ _ _ (by kernel_rfl)] at h1;have h2:=hL.filter λx=>x.1== "strconv.ErrRange"
 rw[h.2,MakeChecks.laidMetH_plain _ _ _ (by kernel_rfl)] at h2;refine⟨Lib.tabIs_of_head (g:=5) (by kernel_rfl) (t:=251) (by kernel_rfl) (e:=213) (n:=20) (by kernel_rfl) (by kernel_rfl) (by kernel_rfl) (by kernel_rfl) h1,?_⟩;exact GK (g:=2) (t:=170) (ms:=#[("Error",139)]) (by kernel_rfl) (by kernel_rfl) (by kernel_rfl) h2
end
section
open Go.ChangeShapes Go.WideShapes Go.ChangeAt Go.RowKit
theorem O2:∀(n:Nat) (v:AV),SizeOf.sizeOf v<=n->lH Tryz.prog 31 v->∃t:Tm,v=t.aL/\(∃k n s us,t=.mk k n s us)/\t.gu qm=true
 |0,v,h,_=>by cases v<;>simp at h
 |n+1,v,hn,h=>by
   obtain⟨vs,rfl,hv⟩:=XF Tryz.underlying31 h
   cases hv with
   |cons h1 r1=>cases r1 with
     |cons h2 r2=>cases r2 with
       |cons h3 r3=>cases r3 with
         |cons h4 r4=>
           cases r4;obtain⟨k,rfl,_⟩:=Qs Tryz.underlying3 h1;obtain⟨q,rfl,hq1,hq2⟩:=Qs Tryz.underlying2 h2;obtain⟨s,rfl,_⟩:=Oz Tryz.underlying9 h3;obtain⟨xs,rfl,_,hx⟩:=adB Tryz.underlying29 h4
           have iE:SizeOf.sizeOf xs<=n:=by simp only[List.flatMap_cons,List.flatMap_nil,AV.cells,List.cons_append,List.nil_append,List.append_nil,AV.agg.sizeOf_spec,List.cons.sizeOf_spec,AV.sl.sizeOf_spec] at hn;omega
           obtain⟨us,rfl⟩:=O6 (f:=Tm.aL) λx hm=>by obtain⟨t,e,_⟩:=O2 n x (by have:=List.sizeOf_lt_of_mem hm;omega) (hx x hm);exact⟨t,e⟩
           refine⟨.mk k q s us,by simp[Tm.aL,AV.cells,jb],⟨k,q,s,us,rfl⟩,?_⟩
           have iF:∀u∈us,u.gu qm=true:=λu hu=>by
            have hm:u.aL∈us.map Tm.aL:=List.mem_map_of_mem hu;obtain⟨t,e,_,ht⟩:=O2 n u.aL (by have:=List.sizeOf_lt_of_mem hm;omega) (hx _ hm);have e2:some u=some t:=by rw[<-cd u,e,cd]
            cases e2;exact ht
           have hL:∀us:List Tm,(∀u∈us,u.gu qm=true)->Tm.ft qm us=true:=λus=>by
            induction us with
            |nil=>intro _;rfl
            |cons y r ih=>intro h;simp only[Tm.ft,Bool.and_eq_true];exact⟨h y (by simp),ih λu hu=>h u (List.mem_cons_of_mem _ hu)⟩
           rw[gq,Bool.and_eq_true];refine⟨?_,hL us iF⟩;show (decide (-9223372036854775808<=q)&&decide (q<9223372036854775808))=true;rw[decide_eq_true hq1,decide_eq_true hq2];rfl
theorem ady{v:AV}(h:lH Tryz.prog 31 v):∃t:Tm,v=t.aL/\(∃k n s us,t=.mk k n s us)/\t.gu qm=true:=O2 _ v (Nat.le_refl _) h
theorem ad5{v:AV}(h:lH Tryz.prog 65 v):∃o:a7,v=o.aL:=by
 obtain⟨vs,rfl,hv⟩:=XF Tryz.underlying65 h
 cases hv with
 |cons h1 r1=>cases r1 with
   |cons h2 r2=>cases r2 with
     |cons h3 r3=>cases r3;obtain⟨a,rfl,_⟩:=Oz Tryz.underlying9 h1;obtain⟨b,rfl,_⟩:=Oz Tryz.underlying9 h2;obtain⟨l,rfl,_⟩:=Qs Tryz.underlying3 h3;exact⟨⟨a,b,l⟩,rfl⟩
theorem aaE{v:AV}(h:lH Tryz.prog 23 v):∃l:List a7,v=.sl (l.map a7.aL):=by
 obtain⟨xs,rfl,_,hx⟩:=adB Tryz.underlying23 h;obtain⟨l,rfl⟩:=O6 (f:=a7.aL) λx hm=>ad5 (hx x hm)
 exact⟨l,rfl⟩
mutual
def vb:AV->Nat
 |.bool _=>1
 |.int ..=>1
 |.str s=>s.length+1
 |.sl xs=>Ef xs+1
 |.agg cs=>Ef cs
 |_=>0
def Ef:List AV->Nat
 |[]=>0
 |v::r=>vb v+Ef r
end
theorem O4(a b:List AV):Ef (a++b)=Ef a+Ef b:=by
 induction a with
 |nil=>simp[Ef]
 |cons v r ih=>simp[Ef,ih];omega
theorem Th(v:AV):Ef v.cells=vb v:=by cases v<;>simp[AV.cells,Ef,vb]
mutual
theorem adg{H:Type}:∀d:DataW H,vb (jv d)<=Rows.uptoBulk d
 |.lit l=>by cases l<;>simp[jv,vb,Rows.uptoBulk,String.length,ByteArray.size]
 |.nil=>by simp[jv,vb,Ef,Rows.uptoBulk]
 |.ptr d=>by simp[jv,vb]
 |.slice es sp=>by have:=Qg es;simp[jv,vb,Rows.uptoBulk];omega
 |.agg ps=>by have:=Yf ps;simp[jv,vb,Rows.uptoBulk];omega
 |.iface _ d=>by simp[jv,vb]
 |.map _=>by simp[jv,vb]
 |.held _=>by simp[jv,vb]
theorem Qg{H:Type}:∀l:List (DataW H),Ef (qx l)<=Rows.uptoBulkAll l
 |[]=>by simp[qx,Ef]
 |d::r=>by have:=adg d;have:=Qg r;simp[qx,Ef,Rows.uptoBulkAll];omega
theorem Yf{H:Type}:∀l:List (DataW H),Ef (pG l)<=Rows.uptoBulkAll l
 |[]=>by simp[pG,Ef]
 |d::r=>by have:=adg d;have:=Yf r;simp[pG,O4,Th,Rows.uptoBulkAll];omega
end
theorem Sh{H:Type}{ds:List (DataW H)}(h:Rows.uptoSmall H ds=true):Ef (ds.map jv)<=1048576:=by have h1:=Qg ds;rw[nK] at h1;have h2:Rows.uptoBulkAll ds<=1048576:=of_decide_eq_true h;omega
mutual
theorem I3:∀t:Tm,t.eO<=vb t.aL
 |.nl k n s=>by simp[Tm.eO,Tm.aL,vb,Ef];omega
 |.mk k n s us=>by have:=NW us;simp[Tm.eO,Tm.aL,vb,Ef];omega
theorem NW:∀l:List Tm,Tm.fv l<=Ef (Tm.uR l)
 |[]=>by simp[Tm.fv]
 |t::r=>by have:=I3 t;have:=NW r;simp[Tm.fv,Tm.uR,Ef];omega
end
end
section
def Aw(T:List a7)(t:Tm):List UInt8×Int:=GW T true (ff (bO t)) t
def AX(t:Tm):List UInt8×Int:=GW [] false (ff (bO t)) t
theorem zY(t:Tm):qe (ff (bO t))=true:=RJ _ _ (by have:=sb t;omega)
theorem Hu(t:Tm):oB (bO t)=.aF/\bO t=[]\/oB (bO t)=.sl (ints (bO t)):=by
 unfold oB;split
 .rename_i h;exact .inl ⟨rfl,h⟩
 .exact .inr rfl
noncomputable def wN:aW:=⟨24,λ
 |[v]=>(match fK v with
   |some t=>if JH t then some (.tuple [.str (AX t).1,.int .i64 (AX t).2]) else none
   |none=>none)
 |_=>none⟩
theorem UI:wN.f=24:=(rfl)
theorem O8(t:Tm)(h:JH t):wN.S [t.aL]=some (.tuple [.str (AX t).1,.int .i64 (AX t).2]):=by simp only[wN,cd];rw[if_pos h]
theorem O9:dU Tryz.prog bV wN:=λaa v hv=>by
 unfold wN at hv|-;dsimp only at hv|-;split at hv
 .rename_i v0;split at hv
  .rename_i t ht;split at hv
   .rename_i hc;cases hv;rw[cf ht];have hE:cb Tryz.prog bV (cm [y0] [yS]):=ey (by simp[K8.lift]) (by simp[Nr]);refine bL (n:=3000) (h':=h0) hE ?_ (by simp[AV.aJ,AV.ah]) (by simp[AV.ah,Tm.bC]);have q1:=Lo t hc.1;have q2:=M9 (x:=.aF) (T:=[]) rfl false (ff (bO t)) (by simp) (zY t) t hc;have hl:=sb t;have N9:=Cn t;unfold AX;generalize GW [] false (ff (bO t)) t=R at *;obtain⟨r1,r2⟩:=R;have nt:=ar t;have dq:=Tm.aY t;simp only[ly] at q2;rw[Tm.bm,dq] at q1 q2|-;rcases Hu t with⟨e1,e2⟩|e1
    .rw[e1] at q1;rw[e2] at q2;have e3:gZ (ff [])=[]:=rfl;rw[e3] at q2;simp[Zi,c24,Ji,c50,nF,tv,ag,Dh,Ao,q1,q2,nt,aw]
    .rw[e1] at q1;have qo:(ints (bO t)).length=(bO t).length:=by simp[ints]
     have hir:=cF (bO t);generalize bO t=vs at *;have lp:=λC n w hw os=>HV C n w hw vs (by omega) N9 os vs [] 2998 1 (by omega) rfl (by omega)
     have e3:gZ (ff [])=[]:=rfl;simp only[nF,Jc,e3,List.length_nil,Int.natCast_zero] at lp;replace lp:=lp (aH (cm [y0] [yS]) 2998) 2998 1 rfl [.row [.int .i64 t.aj,.int .i64 t.bj,.str t.az,t.bh],.row [.int .i64 t.aj,.int .i64 t.bj,.str t.az,t.bh]];generalize ints vs=I at *;simp[Zi,c24,Ji,c50,nF,Dh,Ao,dj,cJ,-cV,-cA,q1,q2,nt,qo,hir,aw,lp]
   .cases hv
  .cases hv
 .cases hv
noncomputable def uz:aW:=⟨20,λ
 |[.agg [x],v]=>(match aZ x,fK v with
   |some T,some t=>if JH t/\T.length<1000000 then some (.tuple [.str (Aw T t).1,.int .i64 (Aw T t).2]) else none
   |_,_=>none)
 |_=>none⟩
theorem nD:uz.f=20:=(rfl)
theorem FC{x:AV}{T:List a7}(hx:aZ x=some T)(t:Tm)(h:JH t)(hT:T.length<1000000):uz.S [.agg [x],t.aL]=some (.tuple [.str (Aw T t).1,.int .i64 (Aw T t).2]):=by simp only[uz,hx,cd];rw[if_pos ⟨h,hT⟩]
theorem Ga:dU Tryz.prog bV uz:=λaa v hv=>by
 unfold uz at hv|-;dsimp only at hv|-;split at hv
 .rename_i x v0;split at hv
  .rename_i T t hx ht;split at hv
   .rename_i hc;cases hv;rw[cf ht];have cI:=fb hx;have hE:cb Tryz.prog bV (cm [y0] [yS]):=ey (by simp[K8.lift]) (by simp[Nr]);refine bL (n:=3000) (h':=h0) hE ?_ (by simp[AV.aJ,AV.ah]) (by simp[AV.ah,Tm.bC,AV.aJ,cI]);obtain⟨hc,hT⟩:=hc;have q1:=Lo t hc.1;have q2:=M9 hx true (ff (bO t)) hT (zY t) t hc;have hl:=sb t;have N9:=Cn t;unfold Aw;generalize GW T true (ff (bO t)) t=R at *;obtain⟨r1,r2⟩:=R;have nt:=ar t;have mF:=ee T;have dq:=Tm.aY t;simp only[ly] at q2;rw[Tm.bm,dq] at q1 q2|-;rcases Hu t with⟨e1,e2⟩|e1
    .rw[e1] at q1;rw[e2] at q2;have e3:gZ (ff [])=[]:=rfl;rw[e3] at q2;rcases bb hx with⟨rfl,rfl⟩|rfl<;>
     simp[VX,c20,Wy,c49,Ji,c50,nF,tv,ag,Dh,Ao,q1,q2,nt,mF,aw]
    .rw[e1] at q1;have qo:(ints (bO t)).length=(bO t).length:=by simp[ints]
     have hir:=cF (bO t);generalize bO t=vs at *;have lp:=λC n w hw os=>Ie C n w hw vs (by omega) N9 os vs [] 2998 2 (by omega) rfl (by omega)
     have e3:gZ (ff [])=[]:=rfl;simp only[nF,Jc,e3,List.length_nil,Int.natCast_zero] at lp;replace lp:=lp (aH (cm [y0] [yS]) 2998) 2998 2 rfl [.row [.int .i64 t.aj,.int .i64 t.bj,.str t.az,t.bh],.row [.int .i64 t.aj,.int .i64 t.bj,.str t.az,t.bh],.row [x]];generalize ints vs=I at *;rcases bb hx with⟨rfl,rfl⟩|rfl<;>
     simp[VX,c20,Wy,c49,Ji,c50,nF,Dh,Ao,dj,cJ,-cV,-cA,q1,q2,nt,mF,qo,hir,aw,lp]
   .cases hv
  .cases hv
 .cases hv
def ndB(c:UInt8):Bool:=!ml c&&!tM c&&!decide (c.toNat=39)
def Nd(v:List UInt8):Prop:=∃c r,v=c::r/\ndB c=true
def bdL:List UInt8:=[32,44,41,93,125,124]
def Bd(v:List UInt8):Prop:=∃c r,v=c::r/\c∈bdL
theorem Bd.nd{v:List UInt8}(h:Bd v):Nd v:=by obtain⟨c,r,e,hc⟩:=h;refine⟨c,r,e,?_⟩;simp only[bdL,List.mem_cons,List.not_mem_nil,or_false] at hc;rcases hc with rfl|rfl|rfl|rfl|rfl|rfl<;>decide
theorem Bd.open{v:List UInt8}(h:Bd v):decide (v.head?.map UInt8.toNat=some 40)=false:=by obtain⟨c,r,rfl,hc⟩:=h;simp only[bdL,List.mem_cons,List.not_mem_nil,or_false] at hc;rcases hc with rfl|rfl|rfl|rfl|rfl|rfl<;>simp
theorem I2{c:UInt8}(h:ndB c=true):ml c=false/\tM c=false/\¬c.toNat=39:=by unfold ndB at h;simpa[Bool.and_eq_true,and_assoc] using h
theorem Y2{c:UInt8}(h:ml c=false):dN c=false:=by unfold ml at h;simp only[Bool.or_eq_false_iff] at h;exact h.2
theorem Nw{s:List UInt8}(v:List UInt8)(hs:s≠[])(h:iY s=false):iY (s++v)=false:=by
 cases s with
 |nil=>exact absurd rfl hs
 |cons d r=>
   cases r with
   |nil=>
     have h2:¬d.toNat=46:=by simpa[iY] using h
     cases v<;>simp[iY,h2]
   |cons e r'=>exact h
theorem L7{c:UInt8}(hc:tM c=false)(v:List UInt8):∀u,kA u=u.length->kA (u++c::v)=u.length
 |[],_=>by show kA (c::v)=0;unfold kA;rw[hc];rfl
 |d::r,h=>by
   have h1:tM d=true/\iY (d::r)=false/\kA r=r.length:=by
    unfold kA at h;by_cases hb:(tM d&&!iY (d::r))=true
    .rw[if_pos hb] at h;simp only[Bool.and_eq_true,Bool.not_eq_true'] at hb;exact⟨hb.1,hb.2,by simpa using h⟩
    .rw[if_neg hb] at h;simp at h
   have h2:=Nw (c::v) (by simp) h1.2.1;rw[List.cons_append] at h2|-;unfold kA;rw[h1.1,h2];show kA (r++c::v)+1=_;rw[L7 hc v r h1.2.2];rfl
theorem adZ{u:List UInt8}(h0:(cC u).2.2=0)(h1:(cC u).1.aj=1):cC u=(⟨1,u.take (cC u).2.1,0,false,0⟩,(cC u).2.1,0):=by
 cases u with
 |nil=>simp[cC] at h0
 |cons c r=>
   revert h0 h1
   unfold cC;dsimp only;by_cases k1:ll c=true
   .rw[if_pos k1];exact λ_ _=>rfl
   rw[if_neg k1];by_cases k2:lB c=true
   .rw[if_pos k2];exact λ_ h=>absurd h (by simp)
   rw[if_neg k2];by_cases k3:dN c=true
   .rw[if_pos k3];exact λ_ h=>absurd h (by simp)
   rw[if_neg k3];by_cases k4:c.toNat=39
   .rw[if_pos k4];generalize jl (r.length+1) r [] 1=q;obtain⟨a,k⟩:=q
    cases a with
    |none=>exact λh _=>absurd h (by simp)
    |some t=>exact λ_ h=>absurd h (by simp)
   rw[if_neg k4];by_cases k5:iY (c::r)=true
   .rw[if_pos k5];exact λ_ h=>absurd h (by simp)
   rw[if_neg k5];by_cases k6:tM c=true
   .rw[if_pos k6];exact λ_ _=>rfl
   rw[if_neg k6];by_cases k7:c.toNat=59\/c.toNat=33
   .rw[if_pos k7];exact λ_ _=>rfl
   rw[if_neg k7]
   cases r with
   |nil=>
     dsimp only;split
     .exact λ_ h=>absurd h (by simp)
     .exact λh _=>absurd h (by simp)
   |cons d r'=>
     dsimp only;split
     .exact λ_ _=>rfl
     .split
      .exact λ_ h=>absurd h (by simp)
      .exact λh _=>absurd h (by simp)
theorem NF{x:List UInt8}(h:x.length<=(fp x).length):fp x=x:=by
 unfold fp at h|-;rw[List.length_drop] at h
 cases x with
 |nil=>rfl
 |cons c r=>
   have:dW ((c::r).length+1) (c::r)=0:=by simp only[List.length_cons] at h|-;omega
   rw[this];rfl
theorem Im{s:List UInt8}(h:ja s=true):cC s=(⟨1,s,0,false,0⟩,s.length,0)/\s≠[]/\fp s=s:=by
 unfold ja at h;split at h
 .rename_i t a e hc;simp only[Bool.and_eq_true,decide_eq_true_eq] at h;obtain⟨⟨he,hk⟩,ht⟩:=h;have hl:=K6 (s:=s) (by rw[hc];exact he);rw[hc] at hl;have oG:=kR s
  cases hs:fp s with
  |nil=>unfold ago at hl;rw[hs] at hl;simp[EH,mZ] at hl
  |cons c r=>
    unfold ago at hl;rw[hs] at hl oG;unfold EH at hl;by_cases h0:(cC (c::r)).2.2=0
    .rw[if_pos h0] at hl
     cases hr:EH s.length (ny (c::r)) with
     |none=>rw[hr] at hl;cases hl
     |some M=>
       rw[hr] at hl;simp only[Option.map_some,Option.some.injEq,mZ,List.cons.injEq] at hl;have e1:(cC (c::r)).1.aj=t.aj:=congrArg dc.aj hl.1;have e2:(cC (c::r)).1.aI=t.aI:=congrArg dc.aI hl.1;have k:=adZ h0 (e1.trans hk);rw[k] at e2;dsimp only at e2;rw[ht] at e2;have e3:=congrArg List.length e2;rw[List.length_take] at e3;have es:fp s=s:=NF (by rw[hs];omega);have ecs:c::r=s:=hs.symm.trans es;rw[ecs] at k e2 e3 oG;have hb:=(j5 s).1;have e4:(cC s).2.1=s.length:=by omega
       rw[e4,List.take_length] at k;exact⟨k,by rw[<-ecs];simp,ecs⟩
    .rw[if_neg h0] at hl;cases hl
 .cases h
theorem wx{α:Type}{s:List α}(w:List α):(s++w).take s.length=s:=by rw[List.take_append_of_le_length (Nat.le_refl _),List.take_length]
theorem XZ{s v:List UInt8}(h:ja s=true)(hv:Nd v):cC (s++v)=(⟨1,s,0,false,0⟩,s.length,0):=by
 obtain⟨k,hs,_⟩:=Im h;obtain⟨b,w,rfl,hb⟩:=hv;obtain⟨b1,b2,b3⟩:=I2 hb
 cases s with
 |nil=>exact absurd rfl hs
 |cons c r=>
   have hec:iY (c::r)=false->iY (c::(r++b::w))=false:=λe=>Nw (s:=c::r) (b::w) (by simp) e
   revert k
   rw[List.cons_append];unfold cC;dsimp only;by_cases k1:ll c=true
   .rw[if_pos k1,if_pos k1];intro k;have e:=Ml ml b1 w (c::r);rw[List.cons_append] at e;have e2:runN ml (c::r)=(c::r).length:=congrArg (λp=>p.2.1) k;rw[e,e2,<-List.cons_append,wx]
   rw[if_neg k1,if_neg k1];by_cases k2:lB c=true
   .rw[if_pos k2];exact λk=>absurd (congrArg (λp=>p.1.aj) k) (by simp)
   rw[if_neg k2,if_neg k2];by_cases k3:dN c=true
   .rw[if_pos k3];exact λk=>absurd (congrArg (λp=>p.1.aj) k) (by simp)
   rw[if_neg k3,if_neg k3];by_cases k4:c.toNat=39
   .rw[if_pos k4];generalize jl (r.length+1) r [] 1=q;obtain⟨a,j⟩:=q
    cases a with
    |none=>exact λk=>absurd (congrArg (λp=>p.2.2) k) (by simp)
    |some t=>exact λk=>absurd (congrArg (λp=>p.1.aj) k) (by simp)
   rw[if_neg k4,if_neg k4];by_cases k5:iY (c::r)=true
   .rw[if_pos k5];exact λk=>absurd (congrArg (λp=>p.1.aj) k) (by simp)
   rw[if_neg k5,if_neg (show ¬iY (c::(r++b::w))=true by rw[hec (by simpa using k5)];simp)];by_cases k6:tM c=true
   .rw[if_pos k6,if_pos k6];intro k;have e2:kA (c::r)=(c::r).length:=congrArg (λp=>p.2.1) k;have e:=L7 b2 w (c::r) e2;rw[List.cons_append] at e;rw[e,<-List.cons_append,wx]
   rw[if_neg k6,if_neg k6];by_cases k7:c.toNat=59\/c.toNat=33
   .rw[if_pos k7,if_pos k7];intro k;exact k
   rw[if_neg k7,if_neg k7]
   cases r with
   |nil=>
     dsimp only;split
     .exact λk=>absurd (congrArg (λp=>p.1.aj) k) (by simp)
     .exact λk=>absurd (congrArg (λp=>p.2.2) k) (by simp)
   |cons d r'=>
     rw[List.cons_append];dsimp only;split
     .exact id
     .split
      .exact λk=>absurd (congrArg (λp=>p.1.aj) k) (by simp)
      .exact λk=>absurd (congrArg (λp=>p.2.2) k) (by simp)
theorem Ce{c d:UInt8}(h:c.toNat=d.toNat):c=d:=UInt8.toNat_inj.1 h
theorem W5{c d:UInt8}(h:yj c=some d):GQ d=some c:=by
 unfold yj at h;split at h
 .rename_i hc;cases h;exact congrArg some (Ce (show (10:UInt8).toNat=c.toNat from hc.symm))
 .split at h
  .rename_i hc;cases h;exact congrArg some (Ce (show (9:UInt8).toNat=c.toNat from hc.symm))
  .split at h
   .rename_i hc;cases h;exact congrArg some (Ce (show (92:UInt8).toNat=c.toNat from hc.symm))
   .split at h
    .rename_i hc;cases h;exact congrArg some (Ce (show (39:UInt8).toNat=c.toNat from hc.symm))
    .cases h
theorem Mg{c:UInt8}(h:yj c=none):¬c.toNat=39/\¬c.toNat=92/\¬c.toNat=10/\¬c.toNat=9:=by
 unfold yj at h;split at h
 .cases h
 .split at h
  .cases h
  .split at h
   .cases h
   .split at h
    .cases h
    .exact⟨by assumption,by assumption,by assumption,by assumption⟩
theorem wO{v:List UInt8}(hv:∀d w,v=d::w->¬d.toNat=39):∀(s aM t:List UInt8),uN s aM=some t->∃e,t=aM++e/\∀n ZX k,e.length<n->jl n (e++39::v) ZX k=(some (ZX++s),k+e.length+1)
 |[],aM,t,h=>by
   cases h;refine⟨[],by simp,λn ZX k hn=>?_⟩
   cases n with
   |zero=>simp at hn
   |succ n=>
     cases v with
     |nil=>simp[I4 (show (39:UInt8).toNat=39 from rfl)]
     |cons d w=>simp[J1 (show (39:UInt8).toNat=39 from rfl) (hv d w rfl)]
 |c::r,aM,t,h=>by
   cases he:yj c with
   |some d=>
     rw[Je he] at h;obtain⟨e,rfl,g⟩:=wO hv r _ t h;refine⟨92::d::e,by simp,λn ZX k hn=>?_⟩
     cases n with
     |zero=>simp at hn
     |succ n=>simp only[List.length_cons,List.cons_append] at hn|-;rw[Kl (show (92:UInt8).toNat=92 from rfl) (W5 he),g n _ _ (by omega)];simp only[List.append_assoc,List.cons_append,List.nil_append,Prod.mk.injEq,true_and];omega
   |none=>
     by_cases h2:c.toNat<32\/126<c.toNat
     .rw[Ox he h2] at h;cases h
     .rw[Jy he h2] at h;obtain⟨e,rfl,g⟩:=wO hv r _ t h;obtain⟨n1,n2,_⟩:=Mg he;refine⟨c::e,by simp,λn ZX k hn=>?_⟩
      cases n with
      |zero=>simp at hn
      |succ n=>simp only[List.length_cons,List.cons_append] at hn|-;rw[RP n1 h2 n2,g n _ _ (by omega)];simp only[List.append_assoc,List.cons_append,List.nil_append,Prod.mk.injEq,true_and];omega
theorem JO:∀(s aM:List UInt8),jx s=true->∃t,uN s aM=some t
 |[],aM,_=>⟨aM,rfl⟩
 |c::r,aM,h=>by
   unfold jx at h;rw[Bool.and_eq_true] at h
   cases he:yj c with
   |some d=>rw[Je he];exact JO r _ h.2
   |none=>
     have hn:=Mg he
     have:¬(c.toNat<32\/126<c.toNat):=by intro g;have h1:=h.1;unfold Ou at h1;rw[decide_eq_true hn.2.2.1,decide_eq_true hn.2.2.2] at h1;rcases g with g|g<;>simp[g] at h1
     rw[Jy he this];exact JO r _ h.2
theorem FX{s:List UInt8}(h:iR s=true)(hp:¬ja s=true):∃e,da s=39::e/\∀v,(∀d w,v=d::w->¬d.toNat=39)->cC (39::e++v)=(⟨2,s,0,false,0⟩,e.length+1,0):=by
 unfold iR at h;rw[Bool.and_eq_true,decide_eq_true_eq] at h;obtain⟨t,ht⟩:=JO s [39] h.1;obtain⟨e0,he0,_⟩:=wO (v:=[]) (λd w hd=>by cases hd) s [39] t ht;refine⟨e0++[39],?_,λv hv=>?_⟩
 .unfold da;rw[if_neg hp,if_neg (by omega),ht];dsimp only;rw[he0];rfl
 .obtain⟨e,he,g⟩:=wO hv s [39] t ht
  have:e=e0:=by rw[he0] at he;exact (List.append_cancel_left he).symm
  subst this;show cC (39::((e++[39])++v))=_;rw[List.append_assoc];show cC (39::(e++39::v))=_;unfold cC;dsimp only;rw[if_neg (show ¬ll 39=true by decide),if_neg (show ¬lB 39=true by decide),if_neg (show ¬dN 39=true by decide),if_pos (show (39:UInt8).toNat=39 from rfl),g _ [] 1 (by simp;omega)];simp;omega
theorem Tf{s v:List UInt8}(h:iR s=true)(hv:Nd v):∃k,(k=1\/k=2)/\(k=1↔ja s=true)/\cC (da s++v)=(⟨k,s,0,false,0⟩,(da s).length,0):=by
 by_cases hp:ja s=true
 .have e:da s=s:=by unfold da;exact if_pos hp
  rw[e];exact⟨1,.inl rfl,by simp[hp],XZ hp hv⟩
 .obtain⟨e,he,g⟩:=FX h hp;rw[he];refine⟨2,.inr rfl,⟨λx=>absurd x (by decide),λx=>absurd x hp⟩,?_⟩;rw[g v ?_]
  .rfl
  .obtain⟨c,r,rfl,hc⟩:=hv;intro d w hd;cases hd;exact (I2 hc).2.2
theorem FE{p:UInt8->Bool}{c:UInt8}(hc:p c=false)(v:List UInt8):∀u:List UInt8,(∀x∈u,p x=true)->runN p (u++c::v)=u.length
 |[],_=>by show runN p (c::v)=0;unfold runN;rw[hc];rfl
 |d::r,h=>by rw[List.cons_append];unfold runN;rw[if_pos (h d (by simp)),FE hc v r (λx hx=>h x (by simp[hx]))];rfl
theorem w8:∀{u:List UInt8},cZ u=true->∀x∈u,dN x=true
 |[],_,x,hx=>by simp at hx
 |c::r,h,x,hx=>by
   unfold cZ at h;rw[Bool.and_eq_true] at h;rcases List.mem_cons.1 hx with rfl|hx
   .exact h.1
   .exact w8 h.2 x hx
theorem Jr{c:UInt8}(h:dN c=true):ll c=false/\lB c=false/\iV c=false/\¬c.toNat=37/\¬c.toNat=39:=by
 unfold dN at h;simp only[Bool.and_eq_true,decide_eq_true_eq] at h;unfold ll lB iV;refine⟨?_,?_,?_,by omega,by omega⟩
 .rw[decide_eq_false (by omega)];rfl
 .rw[decide_eq_false (show ¬65<=c.toNat by omega),decide_eq_false (show ¬c.toNat=95 by omega)];rfl
 .rw[decide_eq_false (show ¬c.toNat=32 by omega),decide_eq_false (show ¬c.toNat=9 by omega),decide_eq_false (show ¬c.toNat=10 by omega),decide_eq_false (show ¬c.toNat=13 by omega)];rfl
theorem Mu{u v:List UInt8}(hu:u≠[])(hd:cZ u=true)(hv:Nd v):cC (u++v)=(⟨4,[],(gv u).1,false,0⟩,u.length,(gv u).2):=by
 obtain⟨b,w,rfl,hb⟩:=hv;obtain⟨b1,b2,b3⟩:=I2 hb;have iF:=w8 hd
 cases u with
 |nil=>exact absurd rfl hu
 |cons c r=>have hc:=iF c (by simp);obtain⟨n1,n2,_⟩:=Jr hc;have e:=FE (Y2 b1) w (c::r) iF;rw[List.cons_append] at e|-;unfold cC;dsimp only;rw[n1,n2,hc,if_neg (by simp),if_neg (by simp),if_pos rfl,e,<-List.cons_append,wx]
theorem aau{u v:List UInt8}(hd:cZ u=true)(hv:Nd v):cC (95::u++v)=(⟨3,95::u,0,false,0⟩,u.length+1,0):=by
 obtain⟨b,w,rfl,hb⟩:=hv;obtain⟨b1,b2,b3⟩:=I2 hb;have iF:=w8 hd
 have e:=FE (p:=ml) b1 w (95::u) (λx hx=>by
  rcases List.mem_cons.1 hx with rfl|hx
  .decide
  .unfold ml;rw[iF x hx];simp)
 rw[List.cons_append] at e|-;unfold cC;dsimp only;rw[if_neg (show ¬ll 95=true by decide),if_pos (show lB 95=true by decide),e,<-List.cons_append,wx];rfl
theorem pY{n:Int}(h1:0<=n)(h2:n<9223372036854775808):cZ (cn n)=true/\cn n≠[]/\oC 0 (cn n)=n.toNat/\gv (cn n)=(n,0):=by
 have e:cn n=Lib.decDigits n.toNat:=by rw[sj n (by omega) h2];unfold Lib.itoa;rw[if_neg (by omega)]
 have:=xu n.toNat n.toNat (Nat.le_refl _);rw[<-e] at this;refine⟨this.1,this.2.1,this.2.2,?_⟩;rw[sj n (by omega) h2];exact PO n (by omega) h2
theorem itoa_neg{n:Int}(h1:-9223372036854775808<=n)(h2:n<0):∃u,cn n=45::u/\cZ u=true/\u≠[]/\((gv u=(-n,0)/\n≠-9223372036854775808)\/(gv u=(0,3)/\n=-9223372036854775808)):=by
 have e:cn n=45::Lib.decDigits n.natAbs:=by rw[sj n h1 (by omega)];unfold Lib.itoa;rw[if_pos h2]
 obtain⟨d1,d2,d3⟩:=xu n.natAbs n.natAbs (Nat.le_refl _);refine⟨_,e,d1,d2,?_⟩;by_cases hm:n=-9223372036854775808
 .refine .inr ⟨?_,hm⟩;have hr:=vx _ d2 d1 (by rw[d3];omega);unfold gv
  cases hs:Lib.decDigits n.natAbs with
  |nil=>exact absurd hs d2
  |cons c r=>
    rw[hs] at d1 d2 hr;have hc:c≠45:=λe=>by subst e;simp[cZ,ac5] at d1
    rw[tJ c r hc];dsimp only;rw[if_neg d2,d1,hr];rfl
 .refine .inl ⟨?_,hm⟩;have:=(pY (n:=-n) (by omega) (by omega)).2.2.2
  have e2:cn (-n)=Lib.decDigits n.natAbs:=by rw[sj (-n) (by omega) (by omega)];unfold Lib.itoa;rw[if_neg (by omega)];congr 1;omega
  rw[<-e2];exact this
theorem UN{u v:List UInt8}(hu:u≠[])(hd:cZ u=true):cC (45::(u++v))=(⟨1,[45],0,false,0⟩,1,0):=by
 cases u with
 |nil=>exact absurd rfl hu
 |cons c r=>
   have hc:=w8 hd c (by simp);obtain⟨n1,n2,n3,n4,n5⟩:=Jr hc
   have hs:tM c=false:=by unfold dN at hc;simp only[Bool.and_eq_true,decide_eq_true_eq] at hc;unfold tM U8;simp;omega
   have he:iY (45::(c::r++v))=false:=by simp[iY]
   have hn:kA (45::(c::r++v))=1:=by unfold kA;rw[he];show kA (c::(r++v))+1=1;unfold kA;rw[hs];rfl
   unfold cC;dsimp only;rw[if_neg (show ¬ll 45=true by decide),if_neg (show ¬lB 45=true by decide),if_neg (show ¬dN 45=true by decide),if_neg (show ¬(45:UInt8).toNat=39 by decide),if_neg (show ¬iY (45::(c::r++v))=true by rw[he];simp),if_pos (show tM 45=true by decide),hn];rfl
theorem A2{c:UInt8}(hc:nk c=true){v:List UInt8}(h1:c.toNat=91->∀d w,v=d::w->¬d.toNat=93)(h2:c.toNat=123->∀d w,v=d::w->¬d.toNat=125):cC (c::v)=(⟨5,[c],0,false,0⟩,1,0):=by
 have hm:c∈rk:=by unfold nk at hc;rw[List.any_eq_true] at hc;obtain⟨d,hd,e⟩:=hc;rw[<-Ce (of_decide_eq_true e)];exact hd
 have fW:ll c=false/\lB c=false/\dN c=false/\¬c.toNat=39/\¬c.toNat=46/\tM c=false/\¬(c.toNat=59\/c.toNat=33):=by simp only[rk,List.mem_cons,List.not_mem_nil,or_false] at hm;rcases hm with rfl|rfl|rfl|rfl|rfl|rfl|rfl|rfl<;>decide
 obtain⟨n1,n2,n3,n4,n5,n6,n7⟩:=fW;have n8:iY (c::v)=false:=by simp[iY,n5]
 unfold cC;dsimp only;rw[n1,n2,n3,if_neg (by simp),if_neg (by simp),if_neg (by simp),if_neg n4,n8,if_neg (by simp),n6,if_neg (by simp),if_neg n7]
 cases v with
 |nil=>dsimp only;rw[if_pos hc]
 |cons d w=>dsimp only;rw[if_neg (by rintro (⟨a,b⟩|⟨a,b⟩);exact h1 a d w rfl b;exact h2 a d w rfl b),if_pos hc]
def SZ(u:List UInt8):dc:=if (cC u).2.2=0 then Mx u else⟨(cC u).1.aj,(cC u).1.aI,-1,(Mx u).js,(Mx u).Z6⟩
def BU:Nat->List UInt8->Option (List dc)
 |0,_=>none
 |_+1,[]=>some []
 |n+1,c::r=>if ((cC (c::r)).2.2=0\/(cC (c::r)).2.2=3)/\1<=(cC (c::r)).2.1 then (BU n (ny (c::r))).map (SZ (c::r)::·) else none
theorem Ya{u:List UInt8}(h:1<=(cC u).2.1):(so u).length<u.length/\(ny u).length<u.length:=by
 have h1:=j5 u;have h3:=kR (so u);have h4:(so u).length=u.length-(cC u).2.1:=by unfold so;rw[List.length_drop]
 unfold ny;omega
theorem HY:∀(n m:Nat) (u:List UInt8),u.length<n->u.length<m->BU n u=BU m u
 |0,_,_,h,_=>by omega
 |_+1,0,_,_,h=>by omega
 |n+1,m+1,[],_,_=>rfl
 |n+1,m+1,c::r,h1,h2=>by
   unfold BU;by_cases h:((cC (c::r)).2.2=0\/(cC (c::r)).2.2=3)/\1<=(cC (c::r)).2.1
   .have:=(Ya h.2).2;simp only[List.length_cons] at h1 h2 this;rw[if_pos h,if_pos h,HY n m _ (by omega) (by omega)]
   .rw[if_neg h,if_neg h]
def vS(x:List UInt8):Option (List dc):=BU (x.length+1) (fp x)
theorem EJ{x:List UInt8}{n:Nat}(h:(fp x).length<n):vS x=BU n (fp x):=HY _ _ _ (by have:=kR x;omega) h
theorem L6:∀(n:Nat) (u:List UInt8) (L:List dc),EH n u=some L->BU n u=some L
 |0,_,_,h=>by cases h
 |_+1,[],_,h=>h
 |n+1,c::r,L,h=>by
   unfold EH at h;unfold BU;by_cases h0:(cC (c::r)).2.2=0
   .rw[if_pos h0] at h;rw[if_pos ⟨.inl h0,(j5 (c::r)).2 h0⟩]
    cases hr:EH n (ny (c::r)) with
    |none=>rw[hr] at h;cases h
    |some M=>
      rw[hr] at h;rw[L6 n _ M hr];have e:SZ (c::r)=Mx (c::r):=by unfold SZ;exact if_pos h0
      rw[e];exact h
   .rw[if_neg h0] at h;cases h
theorem KO:∀(f:Nat) (s:List UInt8) (j:Nat) (aM:List Tok) (L:List dc),j<=s.length->s.length-j<f->BU f (s.drop j)=some L->(rE f s j aM).2.2=0\/(rE f s j aM).2.2=3
 |0,_,_,_,_,_,h,_=>by omega
 |f+1,s,j,aM,L,hj,hf,h=>by
   unfold rE;by_cases h1:s.length<=j
   .rw[if_pos h1];exact .inl rfl
   rw[if_neg h1]
   cases hd:s.drop j with
   |nil=>exact absurd (congrArg List.length hd) (by simp;omega)
   |cons c r=>
     rw[<-hd];have e:BU (f+1) (s.drop j)=if ((cC (s.drop j)).2.2=0\/(cC (s.drop j)).2.2=3)/\1<=(cC (s.drop j)).2.1 then (BU f (ny (s.drop j))).map (SZ (s.drop j)::·) else none:=by rw[hd];rfl
     rw[e] at h;by_cases h2:(cC (s.drop j)).2.2=0
     .rw[if_neg (λg=>g h2)];by_cases h3:(((cC (s.drop j)).1.aj=1\/(cC (s.drop j)).1.aj=2)/\64<(cC (s.drop j)).1.aI.length)\/aM.length=1024
      .rw[if_pos h3];exact .inr rfl
      rw[if_neg h3];have l2:=j5 (s.drop j);have l3:=l2.2 h2;rw[if_pos ⟨.inl h2,l3⟩,Option.map_eq_some_iff] at h;obtain⟨K,h4,_⟩:=h;have l1:=NH h2;have ld:(s.drop j).length=s.length-j:=List.length_drop;have en:so (s.drop j)=s.drop (j+(cC (s.drop j)).2.1):=by unfold so;rw[List.drop_drop]
      have ek:dW (s.length+1) (s.drop (j+(cC (s.drop j)).2.1))=dW ((so (s.drop j)).length+1) (so (s.drop j)):=by rw[en];exact pO _ _ _ (by rw[List.length_drop];omega) (Nat.lt_succ_self _)
      have er:ny (s.drop j)=s.drop (j+(cC (s.drop j)).2.1+dW (s.length+1) (s.drop (j+(cC (s.drop j)).2.1))):=by unfold ny fp;rw[<-ek,en,List.drop_drop]
      have lk:=nc (s.length+1) (s.drop (j+(cC (s.drop j)).2.1));rw[List.length_drop] at lk;rw[er] at h4;exact KO f s _ _ K (by omega) (by omega) h4
     .rw[if_pos h2];by_cases h3:(cC (s.drop j)).2.2=3
      .exact .inr h3
      .rw[if_neg (λg=>g.1.elim h2 h3)] at h;cases h
theorem Up{s:List UInt8}{L:List dc}(h:vS s=some L):(fw s).2.2=0\/(fw s).2.2=3:=by
 unfold fw;by_cases hl:4096<s.length
 .rw[if_pos hl];exact .inr rfl
 rw[if_neg hl];exact KO (s.length+1) s _ [] L (nc (s.length+1) s) (by omega) h
theorem UM{s:List UInt8}{L:List dc}(h:vS s=some L)(h0:(fw s).2.2=0):mZ (fw s).1=L:=by have:=L6 _ _ _ (K6 h0);unfold vS at h;rw[this] at h;exact Option.some.inj h
theorem wu{s v:List UInt8}{t:Tok}{e:Int}{M:List dc}(hs:s≠[])(hk:fp (s++v)=s++v)(ho:cC (s++v)=(t,s.length,e))(he:e=0\/e=3)(hm:vS v=some M):
 vS (s++v)=some (⟨t.aj,t.aI,if e=0 then t.bj else -1,decide (v.head?.map UInt8.toNat=some 40),decide ((s++v).length-(fp v).length=1/\fp v≠[])⟩::M):=by
 have en:so (s++v)=v:=by unfold so;rw[ho];exact List.drop_left
 have er:ny (s++v)=fp v:=by unfold ny;rw[en]
 have hp:0<s.length:=List.length_pos_iff.2 hs
 have et:SZ (s++v)=⟨t.aj,t.aI,if e=0 then t.bj else -1,decide (v.head?.map UInt8.toNat=some 40),decide ((s++v).length-(fp v).length=1/\fp v≠[])⟩:=by
  unfold SZ Mx;rw[ho,en,er];dsimp only;by_cases h0:e=0
  .rw[if_pos h0,if_pos h0]
  .rw[if_neg h0,if_neg h0]
 rw[EJ (n:=(s++v).length+1) (by rw[hk];omega),hk]
 cases hsv:s++v with
 |nil=>rw[List.append_eq_nil_iff] at hsv;exact absurd hsv.1 hs
 |cons c r=>
   rw[hsv] at ho er et;unfold BU;rw[if_pos ⟨by rw[ho];exact he,by rw[ho];exact hp⟩,er]
   have e2:BU (c::r).length (fp v)=some M:=by rw[<-hm,<-EJ];have h1:=kR v;have h2:=congrArg List.length hsv;rw[List.length_append] at h2;omega
   rw[e2,<-hsv];simp only[Option.map_some];rw[hsv,et,<-hsv]
theorem BT{c:UInt8}{v:List UInt8}(hc:iV c=true):vS (c::v)=vS v:=by have h:=kR v;rw[EJ (x:=c::v) (n:=v.length+1) (by rw[qG hc];omega),qG hc];rfl
theorem Wd{T:List a7}{b:Bool}{t:Tm}(h:(fc T b t).2=true):t.aa.length=2/\t.az≠[46]/\b=true/\fc T b t=aS T t.az false:=by
 unfold fc at h|-;split at h
 .cases h
 .rename_i hc;rw[if_neg hc];simp only[Bool.or_eq_true,Bool.not_eq_true',decide_eq_true_eq,decide_eq_false_iff_not,not_or,Bool.not_eq_false] at hc;exact⟨Classical.not_not.1 hc.1.2,hc.2,hc.1.1,rfl⟩
theorem X1{T:List a7}{b:Bool}{t:Tm}(h:(jh T b t).2=true):t.aa.length=1/\b=true/\jh T b t=aS T t.az true/\ja t.az=true/\¬(t.az=[45]/\(rP t).aj=1):=by
 unfold jh at h|-;split at h
 .cases h
 .rename_i hc;rw[if_neg hc];simp only[Bool.or_eq_true,Bool.not_eq_true',decide_eq_true_eq,decide_eq_false_iff_not,not_or,Bool.not_eq_false,Bool.and_eq_true] at hc;exact⟨Classical.not_not.1 hc.1.1.2,hc.1.1.1,rfl,hc.2,hc.1.2⟩
theorem PJ{T:List a7}(hg:eN T=true){s:List UInt8}{b:Bool}(h:(aS T s b).2=true):1<=(aS T s b).1.l/\(aS T s b).1.l<=1200:=by have:=Q8 (y7 hg _ (AY h).1);omega
def U9:Nat->List (List UInt8×Int)
 |0=>[]
 |k+1=>U9 k++[(95::cn (k:Int),(k:Int))]
def Wv(k:Nat)(st:St):Prop:=st.next=k/\st.ae=U9 k
theorem Ip(s:List UInt8):∀a b,mz s (a++b)=match mz s a with|some n=>some n|none=>mz s b
 |[],b=>rfl
 |p::r,b=>by
   show (if p.1=s then some p.2 else mz s (r++b))=match (if p.1=s then some p.2 else mz s r) with|some n=>some n|none=>mz s b
   by_cases h:p.1=s
   .rw[if_pos h,if_pos h]
   .rw[if_neg h,if_neg h];exact Ip s r b
theorem Zs{i j:Nat}(hi:i<1000000000)(hj:j<1000000000)(h:cn (i:Int)=cn (j:Int)):i=j:=by have h1:=(pY (n:=(i:Int)) (by omega) (by omega)).2.2.1;have h2:=(pY (n:=(j:Int)) (by omega) (by omega)).2.2.1;rw[h,h2] at h1;omega
theorem Q6:∀(k i:Nat),k<1000000000->i<1000000000->mz (95::cn (i:Int)) (U9 k)=if i<k then some (i:Int) else none
 |0,i,_,_=>rfl
 |k+1,i,hk,hi=>by
   show mz _ (U9 k++_)=_;rw[Ip,Q6 k i (by omega) hi];by_cases h:i<k
   .rw[if_pos h,if_pos (by omega)]
   .rw[if_neg h];unfold mz;by_cases h2:i=k
    .subst h2;rw[if_pos rfl,if_pos (by omega)]
    .rw[if_neg (λe=>h2 (Zs hi (by omega) (List.cons.inj e).2.symm)),if_neg (by omega)];rfl
theorem ad1{k i:Nat}{st:St}(hv:Wv k st)(hi:i<=k)(hb:k<100000000):
 (l6 (95::cn (i:Int)) st).1=.nl 0 (i:Int) []/\(l6 (95::cn (i:Int)) st).2.bQ=st.bQ/\(l6 (95::cn (i:Int)) st).2.ax=st.ax/\Wv (if i<k then k else k+1) (l6 (95::cn (i:Int)) st).2:=by
 obtain⟨h1,h2⟩:=hv;have hf:=Q6 k i (by omega) (by omega);unfold l6;rw[h2,hf];by_cases h:i<k
 .rw[if_pos h,if_pos h];exact⟨rfl,rfl,rfl,h1,h2⟩
 .rw[if_neg h,if_neg h];obtain rfl:i=k:=by omega
  have eR:¬(95::cn (i:Int))=[95]:=λe=>(pY (n:=(i:Int)) (by omega) (by omega)).2.1 (List.cons.inj e).2
  rw[if_neg eR];refine⟨by rw[h1],rfl,rfl,by show st.next+1=i+1;rw[h1],?_⟩;show U9 i++[(95::cn (i:Int),(st.next:Int))]=U9 i++[(95::cn (i:Int),(i:Int))];rw[h1]
def Stp(T:List a7)(r:Int)(x:dc):Prop:=(x.aj=1\/x.aj=2\/x.aj=5\/x.aj=6)/\((cX T x).2=true->r<(cX T x).1.l)
def uP(x:dc):Prop:=x.aj=6\/(x.aj=5/\(x.aI=[41]\/x.aI=[93]\/x.aI=[125]\/x.aI=[124]\/x.aI=[44]))
theorem Ve{T:List a7}(hg:eN T=true)(h:(aS T [44] false).2=true):(aS T [44] false).1.l=1000:=by obtain⟨h1,h2,_⟩:=AY h;have:=y7 hg _ h1;rw[h2] at this;unfold rO at this;simp only[beq_self_eq_true,if_true,Bool.and_eq_true,decide_eq_true_eq] at this;exact this.2
theorem Gd{T:List a7}{x:dc}(h5:x.aj=5)(h:¬x.aI=[44]):(cX T x).2=false:=by unfold cX eC;rw[h5,decide_eq_false h];rfl
theorem zZ{T:List a7}{x:dc}(h6:x.aj=6):(cX T x).2=false:=by unfold cX eC;rw[h6];rfl
theorem M8{T:List a7}{x:dc}(h5:x.aj=5)(h:x.aI=[44]):cX T x=aS T [44] false:=by unfold cX eC;rw[h5,h];rfl
theorem uP.lvl{T:List a7}(hg:eN T=true){x:dc}(h:uP x):(cX T x).2=true->(cX T x).1.l=1000/\x.aI=[44]:=λhb=>by
 rcases h with h|⟨h,ht⟩
 .rw[zZ h] at hb;cases hb
 .by_cases hc:x.aI=[44]
  .rw[M8 h hc] at hb|-;exact⟨Ve hg hb,hc⟩
  .rw[Gd h hc] at hb;cases hb
theorem uP.stp{T:List a7}(hg:eN T=true){x:dc}(h:uP x){r:Int}(hr:r<1000):Stp T r x:=by
 refine⟨?_,λhb=>by rw[(h.lvl hg hb).1];exact hr⟩;rcases h with h|⟨h,_⟩
 .exact .inr (.inr (.inr h))
 .exact .inr (.inr (.inl h))
theorem uP.XT{T:List a7}{x:dc}(h:uP x)(hc:¬x.aI=[44])(r:Int):Stp T r x/\(cX T x).2=false:=by
 rcases h with h|⟨h,_⟩
 .exact⟨⟨.inr (.inr (.inr h)),λhb=>by rw[zZ h] at hb;cases hb⟩,zZ h⟩
 .exact⟨⟨.inr (.inr (.inl h)),λhb=>by rw[Gd h hc] at hb;cases hb⟩,Gd h hc⟩
def HC(T:List a7)(m:Int)(u:Tm)(lv:Int)(st:St):PR×St:=gp (ai T) T (st.ax.length+1) m (u,lv,true) st
section
variable {T:List a7}{m lv:Int}{u:Tm}{st dH:St}{x:dc}{Q:List dc}
theorem oj(h:st.ax=x::Q):aP st=x:=by unfold aP;rw[h];rfl
theorem gr(h:st.ax=x::Q):(aA st).ax=Q/\(aA st).bQ=st.bQ+1:=⟨by show st.ax.tail=Q;rw[h];rfl,rfl⟩
theorem H9{k:Nat}(h:Wv k st):Wv k (aA st):=h
theorem Vd(h:st.ax=x::Q)(hb:(cX T x).2=true->m<(cX T x).1.l):HC T m u lv st=((u,lv,true),st):=by
 refine fG (by rw[oj h]) ?_
 cases hx:(cX T x).2 with
 |false=>simp
 |true=>simp[hb hx]
theorem jE(h:bu T m st=((u,lv,true),dH))(hl:dH.ax.length<=st.ax.length):ai T m st=HC T m u lv dH:=by rw[K3,h];exact Aj (bY T) (z8 (st.ax.length+1) (ai T)) T _ _ m _ dH (by omega) (by omega) (by omega)
theorem aca{o:a7}{w:Tm}{lw:Int}(h:st.ax=x::Q)(hb:cX T x=(o,true))(h1:o.l<=m)(h2:lv<=(aB o).1)(hr:ai T (aB o).2 (aA st)=((w,lw,true),dH))(hl:dH.ax.length<=Q.length):
 HC T m u lv st=HC T m (cE x.aI [u,w]) o.l dH:=by
 have hs:=oj h;unfold HC;rw[uh (by rw[hs];exact hb) (by omega) (by omega),hr,hs,h];exact Aj (bY T) (z8 (Q.length+1) (ai T)) T _ _ m _ dH (by omega) (by simp;omega) (by omega)
theorem pT{c:List UInt8}(h:st.ax=x::Q)(h5:x.aj=5)(ht:x.aI=c):ba c st=(true,aA st):=by unfold ba;rw[oj h,if_pos ⟨h5,ht⟩]
theorem G7{c:List UInt8}(h:st.ax=x::Q)(hn:¬(x.aj=5/\x.aI=c)):ba c st=(false,st):=by unfold ba;rw[oj h,if_neg hn]
theorem KY(h:st.ax=x::Q):iH T st=if x.aj=0\/x.aj=6 then false else if x.aj=5 then decide (x.aI=[40])||decide (x.aI=[91])||decide (x.aI=[123]) else if !eC x||x.js then true else !(aS T x.aI false).2||(aS T x.aI true).2:=by unfold iH;rw[oj h]
theorem P9(h:st.ax=x::Q)(hc:uP x):iH T st=false:=by
 rw[KY h];rcases hc with hc|⟨hc,ht⟩
 .rw[if_pos (.inr hc)]
 .rw[if_neg (by omega),if_pos hc];rcases ht with e|e|e|e|e<;>rw[e]<;>decide
end
mutual
def fE(ix:Int->Int):Tm->Tm
 |.nl k n s=>.nl k (if k=0 then ix n else n) s
 |.mk k n s us=>GM k (if k=0 then ix n else n) s (vW ix us)
def vW(ix:Int->Int):List Tm->List Tm
 |[]=>[]
 |t::r=>fE ix t::vW ix r
end
theorem sB(ix:Int->Int):∀us,vW ix us=us.map (fE ix)
 |[]=>rfl
 |t::r=>by rw[vW,sB ix r];rfl
theorem nW(ix:Int->Int)(t:Tm):fE ix t=GM t.aj (if t.aj=0 then ix t.bj else t.bj) t.az (t.aa.map (fE ix)):=by
 cases t with
 |nl k n s=>rfl
 |mk k n s us=>rw[fE,sB];rfl
mutual
def mc(ix:Int->Int):Tm->Nat->Option Nat
 |.nl k n _,j=>if k=0 then (if ix n<j then some j else if ix n=j then some (j+1) else none) else some j
 |.mk k n _ us,j=>if k=0 then (if ix n<j then some j else if ix n=j then some (j+1) else none) else oS ix us j
def oS(ix:Int->Int):List Tm->Nat->Option Nat
 |[],j=>some j
 |t::r,j=>(mc ix t j).bind (oS ix r)
end
theorem nU(ix:Int->Int)(t:Tm)(j:Nat):mc ix t j=if t.aj=0 then (if ix t.bj<j then some j else if ix t.bj=j then some (j+1) else none) else oS ix t.aa j:=by
 cases t with
 |nl k n s=>rfl
 |mk k n s us=>rfl
mutual
theorem JT(ix:Int->Int):∀(t:Tm) (j i:Nat),mc ix t j=some i->j<=i
 |.nl k n s,j,i,h=>by
   unfold mc at h;split at h
   .split at h
    .cases h;exact Nat.le_refl _
    .split at h
     .cases h;omega
     .cases h
   .cases h;exact Nat.le_refl _
 |.mk k n s us,j,i,h=>by
   unfold mc at h;split at h
   .split at h
    .cases h;exact Nat.le_refl _
    .split at h
     .cases h;omega
     .cases h
   .exact Du ix us j i h
theorem Du(ix:Int->Int):∀(us:List Tm) (j i:Nat),oS ix us j=some i->j<=i
 |[],j,i,h=>by cases h;exact Nat.le_refl _
 |t::r,j,i,h=>by unfold oS at h;obtain⟨a,h1,h2⟩:=Option.bind_eq_some_iff.1 h;have:=JT ix t j a h1;have:=Du ix r a i h2;omega
end
def De(T:List a7)(ix:Int->Int)(t:Tm)(L:List dc)(lv r:Int)(bs:Bool):Prop:=
 ∀(m:Int) (st:St) (x:dc) (Q:List dc) (k k':Nat),lv<=m->st.ax=L++x::Q->Wv k st->mc ix t k=some k'->k'<=100000->Stp T r x->(bs=false->uP x)->
   ∃dH,dH.ax=x::Q/\dH.bQ=st.bQ+L.length/\Wv k' dH/\ai T m st=HC T m (fE ix t) lv dH
def tN(T:List a7)(ix:Int->Int)(us:List Tm)(L:List dc):Prop:=
 ∀(M:Nat) (aM:List Tm) (st:St) (x:dc) (Q:List dc) (k k':Nat),st.ax=L++x::Q->st.ax.length<M->Wv k st->oS ix us k=some k'->k'<=100000->uP x->¬x.aI=[44]->
   ∃dH,dH.ax=x::Q/\dH.bQ=st.bQ+L.length/\Wv k' dH/\bN (ai T) M aM st=((aM++us.map (fE ix),true),dH)
section
variable {T:List a7}{ix:Int->Int}{t:Tm}{L:List dc}{lv r:Int}{bs:Bool}
theorem De.stop(h:De T ix t L lv r bs){m:Int}{st:St}{x:dc}{Q:List dc}{k k':Nat}(hm:lv<=m)(hr:st.ax=L++x::Q)(hv:Wv k st)(ho:mc ix t k=some k')(hk:k'<=100000)(hs:Stp T r x)(hc:bs=false->uP x)(hx:(cX T x).2=true->m<(cX T x).1.l):
 ∃dH,dH.ax=x::Q/\dH.bQ=st.bQ+L.length/\Wv k' dH/\ai T m st=((fE ix t,lv,true),dH):=by
 obtain⟨dH,h1,h2,h3,h4⟩:=h m st x Q k k' hm hr hv ho hk hs hc;exact⟨dH,h1,h2,h3,by rw[h4,Vd h1 hx]⟩
theorem ng(m:Int)(st:St):bu T m st=fm (ai T) T (st.ax.length+1) m st:=rfl
theorem MG{t:Tm}(h:t.aa=[]):fE ix t=.nl t.aj (if t.aj=0 then ix t.bj else t.bj) t.az:=by rw[nW,h];rfl
theorem afx(hk:t.aj=0)(ha:t.aa=[])(hn:t.az=[]){i:Nat}(hi:ix t.bj=(i:Int)){y:dc}(y3:y.aj=3)(yt:y.aI=95::cn (i:Int)):De T ix t [y] 0 0 bs:=by
 intro m st x Q k k' hm hr hv ho CR hs hc;have tq:=oj hr;have jD:=gr hr;rw[nU,if_pos hk,hi] at ho
 have IW:i<=k/\k'=(if i<k then k else k+1):=by
  by_cases h1:i<k
  .rw[if_pos (by omega)] at ho;rw[if_pos h1];cases ho;exact⟨by omega,rfl⟩
  .rw[if_neg (by omega)] at ho;by_cases h2:(i:Int)=k
   .rw[if_pos h2] at ho;rw[if_neg h1];cases ho;exact⟨by omega,rfl⟩
   .rw[if_neg h2] at ho;cases ho
 have hkb:k<100000000:=by have:=IW.2;split at this<;>omega
 obtain⟨v1,v2,v3,v4⟩:=ad1 (H9 hv) IW.1 hkb;rw[<-IW.2] at v4;refine⟨(l6 (95::cn (i:Int)) (aA st)).2,by rw[v3];exact jD.1,by rw[v2];exact jD.2,v4,?_⟩;rw[MG ha,if_pos hk,hi,hk,hn]
 refine jE (by rw[ng];unfold fm;rw[tq,if_neg (by rw[y3];decide),if_pos y3,yt,v1]) ?_
 rw[v3,jD.1,hr];simp
theorem afL(hk:t.aj=1)(ha:t.aa=[])(hn:t.az=[]){y:dc}(y4:y.aj=4)(yn:y.bj=t.bj):De T ix t [y] 0 0 bs:=by
 intro m st x Q k k' hm hr hv ho CR hs hc;have tq:=oj hr;have jD:=gr hr;rw[nU,if_neg (by omega),ha] at ho;cases ho;refine⟨aA st,jD.1,jD.2,hv,?_⟩;rw[MG ha,if_neg (by omega),hk,hn]
 refine jE (by rw[ng];unfold fm;rw[tq,if_pos y4,yn]) ?_
 rw[jD.1,hr];simp
theorem afA(hk:t.aj=1)(ha:t.aa=[])(hn:t.az=[]){y z:dc}(y1:y.aj=1)(yt:y.aI=[45])(yo:y.js=false)(ya:y.Z6=true)(z4:z.aj=4)(zn:z.bj=-t.bj):De T ix t [y,z] 0 0 bs:=by
 intro m st x Q k k' hm hr hv ho CR hs hc;have tq:=oj hr;have jD:=gr hr;have ZY:=oj jD.1;have Gv:=gr jD.1;rw[nU,if_neg (by omega),ha] at ho;cases ho;refine⟨aA (aA st),Gv.1,by rw[Gv.2,jD.2];rfl,hv,?_⟩;rw[MG ha,if_neg (by omega),hk,hn];have hnb:eC y=true:=by unfold eC;rw[y1];rfl
 refine jE (by rw[ng];unfold fm;rw[tq,if_neg (by rw[y1];decide),if_neg (by rw[y1];decide),if_neg (λh=>by rw[y1] at h;exact absurd h.1 (by decide)),if_neg (λh=>by rw[y1] at h;exact absurd h.1 (by decide)),if_neg (λh=>by rw[y1] at h;exact absurd h.1 (by decide)),if_neg (by rw[hnb];decide),if_neg (by rw[yo];simp),ZY,if_pos ⟨y1,yt,z4,ya⟩,zn,Int.neg_neg]) ?_
 rw[Gv.1,hr];simp
theorem Iu{m:Int}{st:St}{y:dc}{R:List dc}(hr:st.ax=y::R)(hk:y.aj=1\/y.aj=2)(yo:y.js=false)(hn:¬(y.aj=1/\y.aI=[45]/\(aP (aA st)).aj=4/\y.Z6=true)):bu T m st=cr (ai T) T y m (aA st):=by
 have tq:=oj hr;have hnb:eC y=true:=by unfold eC;rcases hk with h|h<;>rw[h]<;>rfl
 rw[ng];unfold fm;rw[tq,if_neg (by omega),if_neg (by omega),if_neg (by omega),if_neg (by omega),if_neg (by omega),if_neg (by rw[hnb];decide),if_neg (by rw[yo];simp),if_neg hn]
theorem aaK(hk:t.aj=2)(ha:t.aa=[])(h0:t.bj=0){y:dc}(yk:y.aj=1\/y.aj=2)(yt:y.aI=t.az)(yo:y.js=false)(hb:bs=true->(aS T t.az true).2=false):De T ix t [y] (if y.aj=2 then 0 else BI T t.az) 0 bs:=by
 intro m st x Q k k' hm hr hv ho CR hs hc;have jD:=gr hr;have ZY:=oj jD.1;rw[nU,if_neg (by omega),ha] at ho;cases ho;refine⟨aA st,jD.1,jD.2,hv,?_⟩;rw[MG ha,if_neg (by omega),hk,h0];refine jE ?_ (by rw[jD.1,hr];simp);rw[Iu hr yk yo (by rw[ZY];have:=hs.1;omega)];unfold cr;by_cases y2:y.aj=2
 .rw[if_pos y2,if_pos y2,yt];rfl
 .rw[if_neg y2] at hm|-;rw[if_neg y2,yt]
  have hp:((aS T t.az true).2&&decide ((aS T t.az true).1.l<=m)&&iH T (aA st))=false:=by
   cases xw:bs with
   |true=>rw[hb xw];simp
   |false=>rw[P9 jD.1 (hc xw)];simp
  rw[hp,if_neg (by simp),decide_eq_true hm];rfl
theorem Xy(hg:eN T=true)(h:De T ix t L lv r false)(hl:lv<=1200){y z:dc}(y5:y.aj=5)(yt:y.aI=[40])(z5:z.aj=5)(zt:z.aI=[41]):De T ix t (y::(L++[z])) 0 0 bs:=by
 intro m st x Q k k' hm hr hv ho CR hs hc;have AO:st.ax=y::(L++z::x::Q):=by rw[hr];simp
 have tq:=oj AO;have jD:=gr AO;have hz:uP z:=.inr ⟨z5,.inl zt⟩;have IV:=hz.XT (T:=T) (by rw[zt];decide) r;obtain⟨s1,a1,a2,a3,a4⟩:=h.stop (m:=1200) (by omega) jD.1 (H9 hv) ho CR IV.1 (λ_=>hz) (λe=>by rw[IV.2] at e;cases e);have ht:=pT (c:=[41]) a1 z5 zt;refine⟨aA s1,(gr a1).1,by rw[(gr a1).2,a2,jD.2];simp;omega,a3,?_⟩;refine jE ?_ (by rw[(gr a1).1,hr];simp;omega);rw[ng];unfold fm;rw[tq,if_neg (by omega),if_neg (by omega),if_pos ⟨y5,yt⟩];unfold jq;rw[a4,if_pos rfl,ht]
theorem ab2(hg:eN T=true){u:Tm}(ha:t.aa=[u])(hk:t.aj=2)(h0:t.bj=0)(hn:t.az=[123,125])(h:De T ix u L lv r false)(hl:lv<=1200){y z:dc}(y5:y.aj=5)(yt:y.aI=[123])(z5:z.aj=5)(zt:z.aI=[125]):De T ix t (y::(L++[z])) 0 0 bs:=by
 intro m st x Q k k' hm hr hv ho CR hs hc;have AO:st.ax=y::(L++z::x::Q):=by rw[hr];simp
 have tq:=oj AO;have jD:=gr AO;have hz:uP z:=.inr ⟨z5,.inr (.inr (.inl zt))⟩;have IV:=hz.XT (T:=T) (by rw[zt];decide) r;rw[nU,if_neg (by omega),ha] at ho
 have ho:mc ix u k=some k':=by unfold oS at ho;obtain⟨a,h1,h2⟩:=Option.bind_eq_some_iff.1 ho;cases h2;exact h1
 obtain⟨s1,a1,a2,a3,a4⟩:=h.stop (m:=1200) (by omega) jD.1 (H9 hv) ho CR IV.1 (λ_=>hz) (λe=>by rw[IV.2] at e;cases e);have ht:=pT (c:=[125]) a1 z5 zt;refine⟨aA s1,(gr a1).1,by rw[(gr a1).2,a2,jD.2];simp;omega,a3,?_⟩;rw[nW,hk,if_neg (by omega),h0,hn,ha];refine jE ?_ (by rw[(gr a1).1,hr];simp;omega);rw[ng];unfold fm;rw[tq,if_neg (by omega),if_neg (by omega),if_neg (λe=>by rw[yt] at e;exact absurd e.2 (by decide)),if_neg (λe=>by rw[yt] at e;exact absurd e.2 (by decide)),if_pos ⟨y5,yt⟩];unfold jq;rw[a4,if_pos rfl,ht];rfl
theorem MA(hg:eN T=true)(h:De T ix t L lv r false)(hl:lv<=999)(C5:r<1000):tN T ix [t] L:=by
 intro M aM st x Q k k' hr hM hv ho CR hc hn;have hs:=hc.XT (T:=T) hn r
 have ho:mc ix t k=some k':=by unfold oS at ho;obtain⟨a,h1,h2⟩:=Option.bind_eq_some_iff.1 ho;cases h2;exact h1
 obtain⟨s1,a1,a2,a3,a4⟩:=h.stop (m:=999) hl hr hv ho CR hs.1 (λ_=>hc) (λe=>by rw[hs.2] at e;cases e);obtain⟨M,rfl⟩:∃j,M=j+1:=⟨M-1,by omega⟩
 refine⟨s1,a1,a2,a3,?_⟩;rw[kE (by rw[a4]) (by rw[a4,G7 a1 (λe=>hn e.2)]),a4];rfl
theorem Jw(hg:eN T=true){us:List Tm}{L':List dc}(h:De T ix t L lv r false)(hl:lv<=999)(C5:r<1000){y:dc}(y5:y.aj=5)(yt:y.aI=[44])(h':tN T ix us L'):tN T ix (t::us) (L++y::L'):=by
 intro M aM st x Q k k' hr hM hv ho CR hc hn;have hy:uP y:=.inr ⟨y5,.inr (.inr (.inr (.inr yt)))⟩
 obtain⟨a,ho1,xx⟩:∃a,mc ix t k=some a/\oS ix us a=some k':=by unfold oS at ho;exact Option.bind_eq_some_iff.1 ho
 have hle:=Du ix us a k' xx;have AO:st.ax=L++y::(L'++x::Q):=by rw[hr];simp
 obtain⟨s1,a1,a2,a3,a4⟩:=h.stop (m:=999) hl AO hv ho1 (by omega) (hy.stp hg C5) (λ_=>hy) (λe=>by rw[(hy.lvl hg e).1];decide);obtain⟨M,rfl⟩:∃j,M=j+1:=⟨M-1,by omega⟩
 have ht:=pT (c:=[44]) a1 y5 yt
 have qh:(aA s1).ax.length<M:=by rw[(gr a1).1];rw[hr] at hM;simp at hM|-;omega
 obtain⟨s2,b1,b2,b3,b4⟩:=h' M (aM++[fE ix t]) (aA s1) x Q a k' (gr a1).1 qh a3 xx CR hc hn;refine⟨s2,b1,by rw[b2,(gr a1).2,a2];simp;omega,b3,?_⟩;rw[mr (by rw[a4]) (by rw[a4,ht]),a4,ht,b4];simp
theorem abT(hg:eN T=true)(hk:t.aj=2)(h0:t.bj=0)(eR:t.aa≠[])(h:tN T ix t.aa L){y p z:dc}(yk:y.aj=1\/y.aj=2)(yt:y.aI=t.az)(yo:y.js=true)(z5:z.aj=5)(zt:z.aI=[41]):De T ix t (y::p::(L++[z])) 0 0 bs:=by
 intro m st x Q k k' hm hr hv ho CR hs hc;have AO:st.ax=y::p::(L++z::x::Q):=by rw[hr];simp
 have tq:=oj AO;have jD:=gr AO;have Gv:=gr jD.1;have hz:uP z:=.inr ⟨z5,.inl zt⟩;rw[nU,if_neg (by omega)] at ho;obtain⟨s1,a1,a2,a3,a4⟩:=h (st.ax.length+1) [] (aA (aA st)) z (x::Q) k k' Gv.1 (by rw[Gv.1,AO];simp;omega) hv ho CR hz (by rw[zt];decide);have ht:=pT (c:=[41]) a1 z5 zt;refine⟨aA s1,(gr a1).1,by rw[(gr a1).2,a2,Gv.2,jD.2];simp;omega,a3,?_⟩;have hnb:eC y=true:=by unfold eC;rcases yk with h|h<;>rw[h]<;>rfl
 have e1:fE ix t=cE t.az (t.aa.map (fE ix)):=by
  rw[nW,hk,if_neg (by omega),h0]
  cases ha:t.aa with
  |nil=>exact absurd ha eR
  |cons u us=>rfl
 rw[e1];refine jE ?_ (by rw[(gr a1).1,hr];simp;omega);rw[ng];unfold fm;rw[tq,if_neg (by omega),if_neg (by omega),if_neg (by omega),if_neg (by omega),if_neg (by omega),if_neg (by rw[hnb];decide),if_pos yo];unfold pL;rw[a4,if_pos rfl,ht,yt];rfl
theorem aeG{a b:Tm}{o:a7}{La Lb:List dc}{la ra lb rb:Int}(ha:t.aa=[a,b])(hk:t.aj=2)(h0:t.bj=0){y:dc}(yk:y.aj=1\/y.aj=2\/y.aj=5)(yt:y.aI=t.az)(hb:cX T y=(o,true))
 (h1:De T ix a La la ra true) (h2:De T ix b Lb lb rb true) (pg:la<=(aB o).1) (mH:ra<o.l) (qh:lb<=(aB o).2) (AO:rb<=(aB o).2) (lP:(aB o).1<=o.l):De T ix t (La++y::Lb) o.l (aB o).2 bs:=by
 intro m st x Q k k' hm hr hv ho CR hs hc;have aos:st.ax=La++y::(Lb++x::Q):=by rw[hr];simp
 rw[nU,if_neg (by omega),ha] at ho
 obtain⟨j,ho1,xx⟩:∃j,mc ix a k=some j/\mc ix b j=some k':=by unfold oS at ho;obtain⟨j,e1,e2⟩:=Option.bind_eq_some_iff.1 ho;unfold oS at e2;obtain⟨i,e3,e4⟩:=Option.bind_eq_some_iff.1 e2;cases e4;exact⟨j,e1,e3⟩
 have hle:=JT ix b j k' xx;have hys:Stp T ra y:=⟨by omega,λ_=>by rw[hb];exact mH⟩
 obtain⟨s1,a1,a2,a3,a4⟩:=h1 m st y (Lb++x::Q) k j (by omega) aos hv ho1 (by omega) hys (λe=>by cases e);have QL:Stp T rb x:=⟨hs.1,λe=>by have:=hs.2 e;omega⟩
 obtain⟨s2,b1,b2,b3,b4⟩:=h2.stop (m:=(aB o).2) qh (gr a1).1 (H9 a3) xx CR QL (λe=>by cases e) hs.2;refine⟨s2,b1,by rw[b2,(gr a1).2,a2];simp;omega,b3,?_⟩;rw[a4,aca a1 hb hm pg b4 (by rw[b1];simp),nW ix t,hk,if_neg (by omega),h0,ha,yt];rfl
def C4(T:List a7)(x:dc):Bool:=if x.aj=0\/x.aj=6 then false else if x.aj=5 then decide (x.aI=[40])||decide (x.aI=[91])||decide (x.aI=[123]) else if !eC x||x.js then true else !(aS T x.aI false).2||(aS T x.aI true).2
theorem ael{a:Tm}{z:dc}{La:List dc}{la ra:Int}(ha:t.aa=[a])(hk:t.aj=2)(h0:t.bj=0){y:dc}(y1:y.aj=1)(yt:y.aI=t.az)(yo:y.js=false)(ya:y.Z6=false)(hf:(aS T t.az true).2=true)
 (h1:De T ix a (z::La) la ra true) (hz:C4 T z=true) (pg:la<=(aB (aS T t.az true).1).2) (mH:ra<=(aB (aS T t.az true).1).2):De T ix t (y::z::La) (aS T t.az true).1.l (aB (aS T t.az true).1).2 bs:=by
 intro m st x Q k k' hm hr hv ho CR hs hc;have AO:st.ax=y::(z::La++x::Q):=hr;have jD:=gr AO;rw[nU,if_neg (by omega),ha] at ho
 have ho:mc ix a k=some k':=by unfold oS at ho;obtain⟨j,e1,e2⟩:=Option.bind_eq_some_iff.1 ho;cases e2;exact e1
 have QL:Stp T ra x:=⟨hs.1,λe=>by have:=hs.2 e;omega⟩
 obtain⟨s1,b1,b2,b3,b4⟩:=h1.stop (m:=(aB (aS T t.az true).1).2) pg jD.1 (H9 hv) ho CR QL (λe=>by cases e) hs.2;refine⟨s1,b1,by rw[b2,jD.2];simp;omega,b3,?_⟩;rw[nW ix t,hk,if_neg (by omega),h0,ha];refine jE ?_ (by rw[b1,hr];simp;omega);rw[Iu AO (.inl y1) yo (λe=>by rw[ya] at e;exact absurd e.2.2.2 (by decide))];unfold cr
 have hbg:iH T (aA st)=true:=by rw[KY (x:=z) (Q:=La++x::Q) (by rw[jD.1];rfl)];exact hz
 rw[if_neg (by omega),yt,hf,hbg,decide_eq_true hm,if_pos (by rfl),b4];rfl
theorem sv{p:Tm->Bool}{t:Tm}(h:t.gu p=true):p t=true/\Tm.ft p t.aa=true:=by rw[gq,Bool.and_eq_true] at h;exact h
theorem yQ{t:Tm}(h:eT t=true)(hk:t.aj=2):t.bj=0:=by unfold eT at h;rw[if_neg (by omega),if_neg (by omega),if_pos hk] at h;simp only[Bool.and_eq_true,decide_eq_true_eq] at h;exact h.1.1
theorem Fa(ix:Int->Int):∀(k:Nat) (t:Tm),t.size<=k->t.gu eT=true->fE ix t=eW ((a8 t).1.map (fE ix)) (fE ix (a8 t).2)/\∀j,mc ix t j=(oS ix (a8 t).1 j).bind (mc ix (a8 t).2)
 |0,t,hk,_=>by have:=bJ t;omega
 |k+1,t,hk,hg=>by
   cases hd:hO t with
   |false=>rw[pn hd];exact⟨rfl,λj=>rfl⟩
   |true=>
     obtain⟨x,r,e1,e2⟩:=kf hd;have hs:=bJ t;rw[e1] at hs;simp only[Tm.br] at hs;obtain⟨g1,g2⟩:=sv hg;rw[e1] at g2;simp only[Tm.ft,Bool.and_eq_true] at g2;obtain⟨i1,i2⟩:=Fa ix k r (by omega) g2.2.1
     have CR:t.aj=2:=by unfold hO at hd;simp only[Bool.and_eq_true,decide_eq_true_eq] at hd;exact hd.1.1
     have hn:t.az=[46]:=by unfold hO at hd;simp only[Bool.and_eq_true,decide_eq_true_eq] at hd;exact hd.1.2
     rw[e2];refine⟨?_,λj=>?_⟩
     .rw[nW,CR,if_neg (by omega),yQ g1 CR,hn,e1];show Tm.mk 2 0 [46] [fE ix x,fE ix r]=_;rw[i1];rfl
     .rw[nU,if_neg (by omega),e1];show (mc ix x j).bind (λa=>(mc ix r a).bind (oS ix []))=((mc ix x j).bind (oS ix (a8 r).1)).bind _
      cases mc ix x j with
      |none=>rfl
      |some a=>show (mc ix r a).bind (oS ix [])=(oS ix (a8 r).1 a).bind (mc ix (a8 r).2);rw[<-i2 a];cases mc ix r a<;>rfl
theorem abd{u:Tm}(h:u4 u=true)(hg:eT u=true):fE ix u=kC [91,93]/\∀j,mc ix u j=some j:=by
 unfold u4 at h;simp only[Bool.and_eq_true,Bool.not_eq_true',decide_eq_false_iff_not,decide_eq_true_eq] at h
 have hk:u.aj=2:=by
  have:=hg;unfold eT at this;by_cases h2:u.aj=2
  .exact h2
  .rw[if_neg (by omega),if_neg (by omega),if_neg h2] at this;cases this
 have ha:u.aa=[]:=List.length_eq_zero_iff.1 h.2;refine⟨by rw[MG ha,if_neg (by omega),hk,yQ hg hk,h.1.2];rfl,λj=>?_⟩;rw[nU,if_neg (by omega),ha];rfl
theorem WB(hg:eN T=true)(ht:t.gu eT=true)(hn:u4 (a8 t).2=true)(ht2:(a8 t).2.gu eT=true)(h:tN T ix (a8 t).1 L){y z:dc}(y5:y.aj=5)(yt:y.aI=[91])(z5:z.aj=5)(zt:z.aI=[93]):De T ix t (y::(L++[z])) 0 0 bs:=by
 intro m st x Q k k' hm hr hv ho CR hs hc;have AO:st.ax=y::(L++z::x::Q):=by rw[hr];simp
 have tq:=oj AO;have jD:=gr AO;have hz:uP z:=.inr ⟨z5,.inr (.inl zt)⟩;obtain⟨l1,l2⟩:=Fa ix t.size t (Nat.le_refl _) ht;obtain⟨n1,n2⟩:=abd (ix:=ix) hn (sv ht2).1;rw[l2] at ho;obtain⟨j,e1,e2⟩:=Option.bind_eq_some_iff.1 ho;rw[n2] at e2;cases e2;obtain⟨s1,a1,a2,a3,a4⟩:=h (st.ax.length+1) [] (aA st) z (x::Q) k k' jD.1 (by rw[jD.1,AO];simp;omega) hv e1 CR hz (by rw[zt];decide);have hb:=G7 (c:=[124]) a1 (λe=>by rw[zt] at e;exact absurd e.2 (by decide));have dq:=pT (c:=[93]) a1 z5 zt;refine⟨aA s1,(gr a1).1,by rw[(gr a1).2,a2,jD.2];simp;omega,a3,?_⟩;rw[l1,n1];refine jE ?_ (by rw[(gr a1).1,hr];simp;omega);rw[ng];unfold fm;rw[tq,if_neg (by omega),if_neg (by omega),if_neg (λe=>by rw[yt] at e;exact absurd e.2 (by decide)),if_pos ⟨y5,yt⟩];unfold my;rw[a4,if_pos rfl];unfold mU;rw[hb,if_neg (by simp),dq];rfl
theorem Zb(hg:eN T=true)(ht:t.gu eT=true)(h:tN T ix (a8 t).1 L){Le:List dc}{le re:Int}(h2:De T ix (a8 t).2 Le le re false)(hl:le<=999){y b z:dc}(y5:y.aj=5)(yt:y.aI=[91])(b5:b.aj=5)(bt:b.aI=[124])(z5:z.aj=5)(zt:z.aI=[93]):De T ix t (y::(L++b::(Le++[z]))) 0 0 bs:=by
 intro m st x Q k k' hm hr hv ho CR hs hc;have AO:st.ax=y::(L++b::(Le++z::x::Q)):=by rw[hr];simp
 have tq:=oj AO;have jD:=gr AO;have hz:uP z:=.inr ⟨z5,.inr (.inl zt)⟩;have hbr:uP b:=.inr ⟨b5,.inr (.inr (.inr (.inl bt)))⟩;obtain⟨l1,l2⟩:=Fa ix t.size t (Nat.le_refl _) ht;rw[l2] at ho;obtain⟨j,e1,e2⟩:=Option.bind_eq_some_iff.1 ho;have hle:=JT ix _ _ _ e2;obtain⟨s1,a1,a2,a3,a4⟩:=h (st.ax.length+1) [] (aA st) b (Le++z::x::Q) k j jD.1 (by rw[jD.1,AO];simp;omega) hv e1 (by omega) hbr (by rw[bt];decide);have hb:=pT (c:=[124]) a1 b5 bt;have IV:=hz.XT (T:=T) (by rw[zt];decide) re;obtain⟨s2,b1,b2,b3,b4⟩:=h2.stop (m:=999) hl (gr a1).1 (H9 a3) e2 CR IV.1 (λ_=>hz) (λe=>by rw[IV.2] at e;cases e);have dq:=pT (c:=[93]) b1 z5 zt;refine⟨aA s2,(gr b1).1,by rw[(gr b1).2,b2,(gr a1).2,a2,jD.2];simp;omega,b3,?_⟩;rw[l1];refine jE ?_ (by rw[(gr b1).1,hr];simp;omega);rw[ng];unfold fm;rw[tq,if_neg (by omega),if_neg (by omega),if_neg (λe=>by rw[yt] at e;exact absurd e.2 (by decide)),if_pos ⟨y5,yt⟩];unfold my;rw[a4,if_pos rfl];unfold mU;rw[hb,if_pos rfl,b4,if_pos rfl,dq];rfl
end
def Hd(s:List UInt8):Prop:=∃c r,s=c::r/\¬iV c=true/\¬c.toNat=37/\¬c.toNat=93/\¬c.toNat=125
theorem Hd.skip{s:List UInt8}(h:Hd s)(w:List UInt8):fp (s++w)=s++w:=by obtain⟨c,r,rfl,h1,h2,_⟩:=h;exact rN h1 h2
theorem Hd.app{s:List UInt8}(h:Hd s)(w:List UInt8):Hd (s++w):=by obtain⟨c,r,rfl,h1⟩:=h;exact⟨c,r++w,rfl,h1⟩
theorem Hd.ne{s:List UInt8}(h:Hd s):s≠[]:=by obtain⟨c,r,rfl,_⟩:=h;simp
theorem vQ{c:UInt8}{r:List UInt8}(h:(!iV c&&!decide (c.toNat=37)&&!decide (c.toNat=93)&&!decide (c.toNat=125))=true):Hd (c::r):=by simp only[Bool.and_eq_true,Bool.not_eq_true',decide_eq_false_iff_not] at h;exact⟨c,r,rfl,by rw[h.1.1.1];simp,h.1.1.2,h.1.2,h.2⟩
theorem AE{s:List UInt8}(h:iR s=true):Hd (da s):=by
 by_cases hp:ja s=true
 .have e:da s=s:=by unfold da;exact if_pos hp
  rw[e];obtain⟨k,h1,h2⟩:=Im hp
  cases s with
  |nil=>exact absurd rfl h1
  |cons c r=>
    refine⟨c,r,rfl,λg=>?_,λg=>?_,λg=>?_,λg=>?_⟩
    .rw[qG g] at h2;have:=kR r;rw[h2] at this;simp only[List.length_cons] at this;omega
    .rw[S6 g] at h2;have h3:=kR ((c::r).drop (runN lS (c::r)));have h4:1<=runN lS (c::r):=pX (by unfold lS;rw[g];rfl);rw[h2,List.length_drop] at h3;simp at h3;omega
    .have hc:c=93:=Ce g;subst hc;have:=A2 (c:=93) (by decide) (v:=r) (λe=>absurd e (by decide)) (λe=>absurd e (by decide));rw[this] at k;exact absurd (show (5:Int)=1 from congrArg (λp=>p.1.aj) k) (by decide)
    .have hc:c=125:=Ce g;subst hc;have:=A2 (c:=125) (by decide) (v:=r) (λe=>absurd e (by decide)) (λe=>absurd e (by decide));rw[this] at k;exact absurd (show (5:Int)=1 from congrArg (λp=>p.1.aj) k) (by decide)
 .obtain⟨e,he,_⟩:=FX h hp;rw[he];exact vQ (by decide)
theorem Kt{u:List UInt8}(hu:u≠[])(hd:cZ u=true):Hd u:=by
 cases u with
 |nil=>exact absurd rfl hu
 |cons c r=>have hc:=w8 hd c (by simp);obtain⟨_,_,n3,n4,_⟩:=Jr hc;unfold dN at hc;simp only[Bool.and_eq_true,decide_eq_true_eq] at hc;exact⟨c,r,rfl,by rw[n3];simp,n4,by omega,by omega⟩
def eL(s:List UInt8)(L:List dc)(v:List UInt8):Prop:=∀M,vS v=some M->vS (s++v)=some (L++M)
theorem eL.cat{a b v:List UInt8}{A B:List dc}(ha:eL a A (b++v))(hb:eL b B v):eL (a++b) (A++B) v:=λM h=>by rw[List.append_assoc,List.append_assoc];exact ha _ (hb _ h)
theorem gI{c:UInt8}(hc:nk c=true){v:List UInt8}(h1:c.toNat=91->∀d w,v=d::w->¬d.toNat=93)(h2:c.toNat=123->∀d w,v=d::w->¬d.toNat=125):∃x:dc,x.aj=5/\x.aI=[c]/\eL [c] [x] v:=by
 have hn:¬iV c=true/\¬c.toNat=37:=by
  have hm:c∈rk:=by unfold nk at hc;rw[List.any_eq_true] at hc;obtain⟨d,hd,e⟩:=hc;rw[<-Ce (of_decide_eq_true e)];exact hd
  simp only[rk,List.mem_cons,List.not_mem_nil,or_false] at hm;rcases hm with rfl|rfl|rfl|rfl|rfl|rfl|rfl|rfl<;>decide
 exact⟨_,rfl,rfl,λM h=>wu (s:=[c]) (by simp) (rN hn.1 hn.2) (A2 hc h1 h2) (.inl rfl) h⟩
theorem TE{s w:List UInt8}(hs:s≠[]):decide ((s++32::w).length-(fp (32::w)).length=1/\fp (32::w)≠[])=false:=by refine decide_eq_false (λh=>?_);have h1:=h.1;rw[qG (by decide)] at h1;have h2:=kR w;have h3:=List.length_pos_iff.2 hs;rw[List.length_append,List.length_cons] at h1;omega
theorem zM{s v:List UInt8}(h:iR s=true)(hv:Nd v):∃x:dc,(x.aj=1\/x.aj=2)/\(x.aj=1↔ja s=true)/\x.aI=s/\x.js=decide (v.head?.map UInt8.toNat=some 40)/\(∀w,v=32::w->x.Z6=false)/\eL (da s) [x] v:=by
 obtain⟨k,h1,h2,h3⟩:=Tf h hv;have hh:=AE h;refine⟨⟨k,s,0,decide (v.head?.map UInt8.toNat=some 40),decide ((da s++v).length-(fp v).length=1/\fp v≠[])⟩,h1,h2,rfl,rfl,λw hw=>?_,λM hM=>?_⟩
 .subst hw;exact TE hh.ne
 .exact wu hh.ne (hh.skip v) h3 (.inl rfl) hM
theorem ach{n:Int}(h1:0<=n)(h2:n<9223372036854775808){v:List UInt8}(hv:Nd v):∃x:dc,x.aj=4/\x.bj=n/\eL (cn n) [x] v:=by obtain⟨d1,d2,_,d3⟩:=pY h1 h2;have hh:=Kt d2 d1;have ho:=Mu d2 d1 hv;rw[d3] at ho;exact⟨_,rfl,rfl,λM hM=>wu hh.ne (hh.skip v) ho (.inl rfl) hM⟩
theorem ace{i:Int}(h1:0<=i)(h2:i<9223372036854775808){v:List UInt8}(hv:Nd v):∃x:dc,x.aj=3/\x.aI=95::cn i/\eL (95::cn i) [x] v:=by obtain⟨d1,d2,_,_⟩:=pY h1 h2;have hh:Hd (95::cn i):=vQ (by decide);exact⟨_,rfl,rfl,λM hM=>wu hh.ne (hh.skip v) (aau d1 hv) (.inl rfl) hM⟩
theorem abO{n:Int}(h1:-9223372036854775808<=n)(h2:n<0){v:List UInt8}(hv:Nd v):∃x y:dc,x.aj=1/\x.aI=[45]/\x.js=false/\x.Z6=true/\y.aj=4/\(0<=y.bj->y.bj=-n)/\eL (cn n) [x,y] v:=by
 obtain⟨u,e,d1,d2,d3⟩:=itoa_neg h1 h2;rw[e];have hh:=Kt d2 d1;have ho:=Mu d2 d1 hv;have hm:=UN (v:=v) d2 d1;have hsk:fp (45::(u++v))=45::(u++v):=rN (by decide) (by decide);obtain⟨c,r,hu,hb⟩:=hh
 have xx:∃e:Int,(e=0\/e=3)/\(gv u).2=e/\(0<=(if e=0 then (gv u).1 else -1)->(if e=0 then (gv u).1 else -1)=-n):=by
  rcases d3 with⟨d3,_⟩|⟨d3,_⟩
  .exact⟨0,.inl rfl,by rw[d3],λ_=>by rw[d3];rfl⟩
  .refine⟨3,.inr rfl,by rw[d3],λhh=>?_⟩;rw[if_neg (by decide)] at hh;omega
 obtain⟨e0,he0,he1,he2⟩:=xx;rw[he1] at ho;refine⟨⟨1,[45],0,decide ((u++v).head?.map UInt8.toNat=some 40),decide ((45::(u++v)).length-(fp (u++v)).length=1/\fp (u++v)≠[])⟩,⟨4,[],if e0=0 then (gv u).1 else -1,decide (v.head?.map UInt8.toNat=some 40),decide ((u++v).length-(fp v).length=1/\fp v≠[])⟩,rfl,rfl,?_,?_,rfl,he2,λM hM=>?_⟩
 .have hc:=w8 d1 c (by rw[hu];simp);unfold dN at hc;simp only[Bool.and_eq_true,decide_eq_true_eq] at hc;rw[hu];refine decide_eq_false (λh=>?_);have h':some c.toNat=some 40:=h;have:=Option.some.inj h';omega
 .have hk:fp (u++v)=u++v:=by
   rw[hu];exact rN hb.1 hb.2.1
  rw[hk];refine decide_eq_true ⟨by simp,by rw[hu];simp⟩
 .have l2:=wu (s:=u) (v:=v) d2 (by rw[hu];exact rN hb.1 hb.2.1) ho he0 hM;exact wu (s:=[45]) (v:=u++v) (by simp) hsk hm (.inl rfl) l2
def jk(L:List dc):Prop:=∀x∈L,0<=x.bj
theorem jk.app{A B:List dc}(h:jk (A++B)):jk A/\jk B:=⟨λx hx=>h x (List.mem_append.2 (.inl hx)),λx hx=>h x (List.mem_append.2 (.inr hx))⟩
def Wrs(T:List a7)(ix:Int->Int)(t:Tm)(s:List UInt8)(n:Int)(bs:Bool)(v:List UInt8):Prop:=
 Hd s/\∃(y:dc) (L:List dc),eL s (y::L) v/\(bs=true->C4 T y=true)/\
  (jk (y::L)->∃lv r,lv<=n/\0<=r/\r<=lv/\((fc T true t).2=true->isLeft (fc T true t).1=true->r<1\/r<lv)/\De T ix t (y::L) lv r bs)
theorem oT{c:UInt8}{r:List UInt8}(h:bdL.contains c=true):Bd (c::r):=⟨c,r,rfl,by simpa using h⟩
section
variable {T:List a7}{ix:Int->Int}{t:Tm}{s v:List UInt8}{n n':Int}{bs:Bool}
theorem yZ{y:dc}(h5:y.aj=5)(ht:y.aI=[40]\/y.aI=[91]\/y.aI=[123]):C4 T y=true:=by unfold C4;rw[if_neg (by omega),if_pos h5];rcases ht with e|e|e<;>rw[e]<;>decide
theorem zf(hg:eN T=true)(h:Wrs T ix t s n' false (41::v))(hn':n'<=1200)(h0:0<=n):Wrs T ix t (40::(s++[41])) n bs v:=by
 obtain⟨hs,y,L,hc,_,hr⟩:=h;obtain⟨p,p5,pt,pc⟩:=gI (c:=40) (by decide) (v:=s++([41]++v)) (λe=>absurd e (by decide)) (λe=>absurd e (by decide));obtain⟨z,z5,zt,zc⟩:=gI (c:=41) (by decide) (v:=v) (λe=>absurd e (by decide)) (λe=>absurd e (by decide));refine⟨vQ (by decide),p,(y::L)++[z],?_,λ_=>yZ p5 (.inl pt),λhn=>?_⟩
 .have:=eL.cat (a:=[40]) (b:=s++[41]) (v:=v) (by rw[List.append_assoc];exact pc) (eL.cat (a:=s) (b:=[41]) hc zc);exact this
 .have gH:=(jk.app (A:=[p]) hn).2;obtain⟨lv,r,h1,h2,h3,h4,h5⟩:=hr (jk.app gH).1;exact⟨0,0,h0,Int.le_refl _,Int.le_refl _,λ_ _=>.inl (by decide),Xy hg h5 (by omega) p5 pt z5 zt⟩
theorem Dp(s:List UInt8):JI s true=40::(s++[41]):=by unfold JI;rw[if_pos rfl];simp
theorem EW(s:List UInt8):JI s false=s:=by unfold JI;exact if_neg (by simp)
theorem Xi{y:dc}(hk:y.aj=1\/y.aj=2)(hf:(aS T y.aI false).2=false):C4 T y=true:=by
 unfold C4;rw[if_neg (by omega),if_neg (by omega)];split
 .rfl
 .rw[hf];rfl
theorem EE(VJ:iR t.az=true)(hk:t.aj=2)(ha:t.aa=[])(h0:t.bj=0)(hv:Bd v)(h:BI T t.az<=n)(h00:0<=n)(hb:bs=true->(aS T t.az false).2=false/\(aS T t.az true).2=false):Wrs T ix t (da t.az) n bs v:=by
 obtain⟨y,yk,_,yt,yo,_,yc⟩:=zM VJ hv.nd;have yo':y.js=false:=by rw[yo];exact hv.open
 have hl0:0<=BI T t.az:=by have:=kK T t.az false;have:=kK T t.az true;unfold BI;omega
 refine⟨AE VJ,y,[],yc,λe=>Xi yk (by rw[yt];exact (hb e).1),λ_=>⟨if y.aj=2 then 0 else BI T t.az,0,?_,Int.le_refl _,?_,λ_ _=>.inl (by decide),aaK hk ha h0 yk yt yo' (λe=>(hb e).2)⟩⟩
 .split<;>omega
 .split<;>omega
theorem Nb{s:List UInt8}{b:Bool}(h:(aS T s b).2=false):(aS T s b).1.l=0:=by
 unfold aS at h|-;split
 .rfl
 .split
  .rename_i hi hgd;rw[hi] at h;simp only[hgd,if_true] at h;cases h
  .rfl
theorem D9(f:Tm->List UInt8)(hg:eN T=true):∀(us:List Tm),us≠[]->(∀u∈us,∀v,Bd v->Wrs T ix u (f u) 999 false v)->∀v,Bd v->∃(y:dc) (L:List dc),eL (Lib.join (us.map f) [44]) (y::L) v/\Hd (Lib.join (us.map f) [44])/\(jk (y::L)->tN T ix us (y::L))
 |[],h,_,_,_=>absurd rfl h
 |[u],_,h,v,hv=>by
   obtain⟨hs,y,L,hc,_,hr⟩:=h u (by simp) v hv;have e:Lib.join ([u].map f) [44]=f u:=by simp[Lib.join]
   rw[e];refine⟨y,L,hc,hs,λhn=>?_⟩;obtain⟨lv,r,h1,h2,h3,_,h5⟩:=hr hn;exact MA hg h5 h1 (by omega)
 |u::w::us,_,h,v,hv=>by
   have e:Lib.join ((u::w::us).map f) [44]=f u++([44]++Lib.join ((w::us).map f) [44]):=by simp[Lib.join,List.intercalate,List.intersperse]
   rw[e];obtain⟨y2,L2,N0,hs2,AO⟩:=D9 f hg (w::us) (by simp) (λx hx=>h x (by simp at hx|-;exact .inr hx)) v hv;obtain⟨p,p5,pt,pc⟩:=gI (c:=44) (by decide) (v:=Lib.join ((w::us).map f) [44]++v) (λe=>absurd e (by decide)) (λe=>absurd e (by decide));obtain⟨hs,y,L,hc,_,hr⟩:=h u (by simp) (([44]++Lib.join ((w::us).map f) [44])++v) (oT (by decide));refine⟨y,L++(p::(y2::L2)),?_,hs.app _,λhn=>?_⟩
   .exact eL.cat (A:=y::L) (B:=[p]++(y2::L2)) hc (eL.cat pc N0)
   .have n1:=jk.app (A:=y::L) (B:=p::(y2::L2)) hn;have n2:=jk.app (A:=[p]) (B:=y2::L2) n1.2;obtain⟨lv,r,h1,h2,h3,_,h5⟩:=hr n1.1;exact Jw hg h5 h1 (by omega) p5 pt (AO n2.2)
end
theorem Tk{T:List a7}(hg:eN T=true){s:List UInt8}(h:(aS T s false).2=true):
 1<=(aS T s false).1.l/\(aS T s false).1.l<=1200/\0<=(aB (aS T s false).1).1/\(aB (aS T s false).1).1<=(aS T s false).1.l/\0<=(aB (aS T s false).1).2/\(aB (aS T s false).1).2<=(aS T s false).1.l/\
 (isLeft (aS T s false).1=true->(aB (aS T s false).1).1=(aS T s false).1.l/\(aB (aS T s false).1).2=(aS T s false).1.l-1)/\
 (isLeft (aS T s false).1=false->(aB (aS T s false).1).1=(aS T s false).1.l-1):=by
 obtain⟨l1,l2⟩:=PJ hg h;obtain⟨m1,_,m3⟩:=AY h;have hm:=y7 hg _ m1;have hb:kH (aS T s false).1.k=true:=by rw[YZ hm,m3];rfl
 generalize (aS T s false).1=o at *;obtain⟨on,ok,ol⟩:=o;dsimp only at *;unfold kH at hb;simp only[Bool.or_eq_true,beq_iff_eq] at hb;unfold isLeft aB;dsimp only;rcases hb with (rfl|rfl)|rfl
 .rw[if_pos rfl];refine⟨l1,l2,by dsimp only;omega,by dsimp only;omega,by dsimp only;omega,by dsimp only;omega,λh=>absurd h (by simp),λ_=>rfl⟩
 .rw[if_neg (by decide),if_pos rfl];refine⟨l1,l2,by dsimp only;omega,by dsimp only;omega,by dsimp only;omega,by dsimp only;omega,λh=>absurd h (by simp),λ_=>rfl⟩
 .rw[if_neg (by decide),if_neg (by decide),if_pos rfl];refine⟨l1,l2,by dsimp only;omega,by dsimp only;omega,by dsimp only;omega,by dsimp only;omega,λ_=>⟨rfl,rfl⟩,λh=>absurd h (by simp)⟩
theorem Yv{T:List a7}(hg:eN T=true){s:List UInt8}{b:Bool}(h:(aS T s b).2=true):0<=(aB (aS T s b).1).2:=by
 have:=PJ hg h;unfold aB;split
 .show 0<=_-1;omega
 .split
  .show 0<=_;omega
  .split
   .show 0<=_-1;omega
   .split
    .show 0<=_;omega
    .split
     .show 0<=_-1;omega
     .exact Int.le_refl 0
theorem UL{T:List a7}(hg:eN T=true){s:List UInt8}(h:(aS T s true).2=true):
 1<=(aS T s true).1.l/\(aS T s true).1.l<=1200/\0<=(aB (aS T s true).1).2/\(aB (aS T s true).1).2<=(aS T s true).1.l:=by
 obtain⟨l1,l2⟩:=PJ hg h;have h2:=Yv hg h;refine⟨l1,l2,h2,?_⟩;unfold aB;split
 .show _-1<=_;omega
 .split
  .exact Int.le_refl _
  .split
   .show _-1<=_;omega
   .split
    .exact Int.le_refl _
    .split
     .show _-1<=_;omega
     .show 0<=_;omega
theorem abS{t:Tm}(h:xB t):eT t=true:=by have:=h.1;unfold dp at this;rw[Bool.and_eq_true] at this;exact (sv this.2).1
theorem Jz{t:Tm}(h:xB t):t.gu eT=true:=by have:=h.1;unfold dp at this;rw[Bool.and_eq_true] at this;exact this.2
theorem sC{t:Tm}(h:eT t=true)(hk:¬t.aj=2):t.az=[]/\t.aa=[]:=by
 unfold eT at h;by_cases k0:t.aj=0
 .rw[if_pos k0] at h;simp only[Bool.and_eq_true,decide_eq_true_eq] at h;exact⟨h.1.2,List.length_eq_zero_iff.1 h.2⟩
 .rw[if_neg k0] at h;by_cases k1:t.aj=1
  .rw[if_pos k1] at h;simp only[Bool.and_eq_true,decide_eq_true_eq] at h;exact⟨h.1,List.length_eq_zero_iff.1 h.2⟩
  .rw[if_neg k1,if_neg hk] at h;cases h
theorem ad7{t:Tm}(h:eT t=true)(hk:t.aj=2):iR t.az=true:=by unfold eT at h;rw[if_neg (by omega),if_neg (by omega),if_pos hk] at h;simp only[Bool.and_eq_true,decide_eq_true_eq] at h;exact h.1.2
theorem ov{t:Tm}(h:t.aa.length=2):t.aa=[rP t,H5 t]:=by
 unfold rP H5
 match ha:t.aa,h with
 |[a,b],_=>rfl
theorem EV{t:Tm}(h:t.aa.length=1):t.aa=[rP t]:=by
 unfold rP
 match ha:t.aa,h with
 |[a],_=>rfl
theorem abt{w:List UInt8}:Nd (40::w):=⟨40,w,rfl,by decide⟩
theorem NS{w:List UInt8}:Nd (32::w):=⟨32,w,rfl,by decide⟩
section
variable {T:List a7}{ix:Int->Int}
theorem W6(hg:eN T=true)(uF:∀a,0<=ix a/\ix a<1000000000):∀(N:Nat) (t:Tm) (n:Int) (bs:Bool) (v:List UInt8),t.size<=N->xB t->0<=n->n<=1200->Bd v->Wrs T ix t (wT T true (λa=>95::cn (ix a)) N t n bs) n bs v
 |0,t,_,_,_,h,_,_,_,_=>by have:=bJ t;omega
 |N+1,t,n,bs,v,iE,cT,KL,hn1,hv=>by
   have h1K:=abS cT;have aqL:=bJ t;have IH:=λ(u:Tm) (m:Int) (b:Bool) (w:List UInt8) (hs:u.size<=N) (ho:xB u) (h0:0<=m) (h1:m<=1200) (hw:Bd w)=>W6 hg uF N u m b w hs ho h0 h1 hw
   have VQ:=λ(u:Tm) (hu:u∈t.aa)=>And.intro (iu cT hu) (show u.size<=N from by have:=oy hu;omega)
   unfold wT;by_cases k0:t.aj=0
   .rw[if_pos k0];obtain⟨e1,e2⟩:=sC h1K (by omega);obtain⟨x1,x2⟩:=uF t.bj;obtain⟨i,hi⟩:∃i:Nat,ix t.bj=(i:Int):=⟨(ix t.bj).toNat,by omega⟩
    obtain⟨y,y3,yt,yc⟩:=ace x1 (by omega) hv.nd;rw[hi] at yt;refine⟨vQ (by decide),y,[],yc,λ_=>?_,λ_=>⟨0,0,KL,Int.le_refl _,Int.le_refl _,λ_ _=>.inl (by decide),afx k0 e2 e1 hi y3 yt⟩⟩;unfold C4 eC;rw[y3];rfl
   rw[if_neg k0];by_cases k1:t.aj=1
   .rw[if_pos k1];obtain⟨e1,e2⟩:=sC h1K (by omega);obtain⟨r1,r2⟩:=I6 cT;by_cases ac1:t.bj<0
    .have neg:∀w,Bd w->Wrs T ix t (cn t.bj) 0 false w:=λw hw=>by
      obtain⟨x,y,x1,xt,xo,xa,y4,yn,yc⟩:=abO r1 ac1 hw.nd
      have hh:Hd (cn t.bj):=by obtain⟨u,e,_⟩:=itoa_neg r1 ac1;rw[e];exact vQ (by decide)
      refine⟨hh,x,[y],yc,(λe=>by cases e),λhn=>⟨0,0,Int.le_refl _,Int.le_refl _,Int.le_refl _,λ_ _=>.inl (by decide),afA k1 e2 e1 x1 xt xo xa y4 (yn (hn y (by simp)))⟩⟩
     rw[decide_eq_true ac1,Bool.and_true]
     cases bs with
     |true=>rw[Dp];exact zf hg (neg _ (oT (by decide))) (by decide) KL
     |false=>rw[EW];obtain⟨a1,y,L,a2,a3,a4⟩:=neg v hv;refine⟨a1,y,L,a2,a3,λhn=>?_⟩;obtain⟨lv,r,b1,b2⟩:=a4 hn;exact⟨lv,r,by omega,b2⟩
    .rw[decide_eq_false ac1,Bool.and_false,EW];obtain⟨y,y4,yn,yc⟩:=ach (by omega) r2 hv.nd;obtain⟨d1,d2,_⟩:=pY (n:=t.bj) (by omega) r2;refine⟨Kt d2 d1,y,[],yc,λ_=>?_,λ_=>⟨0,0,KL,Int.le_refl _,Int.le_refl _,λ_ _=>.inl (by decide),afL k1 e2 e1 y4 yn⟩⟩;unfold C4 eC;rw[y4];rfl
   rw[if_neg k1];have k2:t.aj=2:=by have:=vJ cT;omega
   have qU:=ad7 h1K k2;have h0:=yQ h1K k2;by_cases ka:t.aa.length=0
   .rw[if_pos ka];have ha:=List.length_eq_zero_iff.1 ka;unfold EO
    cases hc:((true&&((aS T t.az false).2||(aS T t.az true).2))&&(bs||decide (n<max (aS T t.az false).1.l (aS T t.az true).1.l))) with
    |true=>rw[Dp];refine zf (n':=1200) hg (EE qU k2 ha h0 (oT (by decide)) ?_ (by decide) (λe=>by cases e)) (by decide) KL;have:=(kK T t.az false).2;have:=(kK T t.az true).2;unfold BI;omega
    |false=>
      rw[EW];rw[Bool.true_and] at hc
      cases dT:((aS T t.az false).2||(aS T t.az true).2) with
      |false=>rw[Bool.or_eq_false_iff] at dT;refine EE qU k2 ha h0 hv ?_ KL (λ_=>dT);unfold BI;rw[Nb dT.1,Nb dT.2];omega
      |true=>rw[dT,Bool.true_and,Bool.or_eq_false_iff,decide_eq_false_iff_not] at hc;refine EE qU k2 ha h0 hv ?_ KL (λe=>by rw[hc.1] at e;cases e);unfold BI;omega
   rw[if_neg ka];have akp:t.aa≠[]:=λe=>ka (by rw[e];rfl)
   by_cases kd:((true&&decide (t.az=[46]))&&decide (t.aa.length=2))=true
   .rw[if_pos kd];simp only[Bool.true_and,Bool.and_eq_true,decide_eq_true_eq] at kd
    have AR:hO t=true:=by unfold hO;simp[k2,kd.1,kd.2]
    obtain⟨i1,i2,i3⟩:=px t.size t (Nat.le_refl _) cT;have i3:=i3 AR
    have aot:(a8 t).1≠[]:=by obtain⟨x,r,_,e2⟩:=kf AR;rw[e2];simp
    have ZZ:=D9 (T:=T) (ix:=ix) (λx=>wT T true (λa=>95::cn (ix a)) N x 999 false) hg (a8 t).1 aot (λu hu w hw=>IH u 999 false w (by have:=(i1 u hu).2;omega) (i1 u hu).1 (by decide) (by decide) hw)
    have aou:(fc T true t).2=false:=by unfold fc;rw[if_pos (by simp[kd.1])]
    cases acx:u4 (a8 t).2 with
    |true=>
      rw[if_pos rfl];obtain⟨y,L,c1,c2,c3⟩:=ZZ (93::v) (oT (by decide));obtain⟨z,z5,zt,zc⟩:=gI (c:=93) (by decide) (v:=v) (λe=>absurd e (by decide)) (λe=>absurd e (by decide));obtain⟨d,w,hdw,_,_,g3,_⟩:=c2
      obtain⟨p,p5,pt,pc⟩:=gI (c:=91) (by decide) (v:=(Lib.join ((a8 t).1.map λx=>wT T true (λa=>95::cn (ix a)) N x 999 false) [44]++[93])++v) (λ_ d' w' e=>by rw[hdw] at e;cases e;exact g3) (λe=>absurd e (by decide))
      refine⟨vQ (by decide),p,(y::L)++[z],?_,λ_=>yZ p5 (.inr (.inl pt)),λhn=>?_⟩
      .rw[List.append_nil,List.append_assoc];exact eL.cat (A:=[p]) pc (eL.cat c1 zc)
      .have n1:=jk.app (A:=[p]) (B:=(y::L)++[z]) hn;have n2:=jk.app n1.2;refine⟨0,0,KL,Int.le_refl _,Int.le_refl _,λ_ _=>.inl (by decide),WB hg (Jz cT) acx (Jz i2) (c3 n2.1) p5 pt z5 zt⟩
    |false=>
      rw[if_neg (by simp)];obtain⟨y,L,c1,c2,c3⟩:=ZZ (124::(wT T true (λa=>95::cn (ix a)) N (a8 t).2 999 false++93::v)) (oT (by decide));obtain⟨t1,ty,tL,t2,_,t3⟩:=IH (a8 t).2 999 false (93::v) (by omega) i2 (by decide) (by decide) (oT (by decide));obtain⟨z,z5,zt,zc⟩:=gI (c:=93) (by decide) (v:=v) (λe=>absurd e (by decide)) (λe=>absurd e (by decide));obtain⟨b,b5,bt,bc⟩:=gI (c:=124) (by decide) (v:=wT T true (λa=>95::cn (ix a)) N (a8 t).2 999 false++93::v) (λe=>absurd e (by decide)) (λe=>absurd e (by decide));obtain⟨d,w,hdw,_,_,g3,_⟩:=c2
      obtain⟨p,p5,pt,pc⟩:=gI (c:=91) (by decide) (v:=(Lib.join ((a8 t).1.map λx=>wT T true (λa=>95::cn (ix a)) N x 999 false) [44]++([124]++(wT T true (λa=>95::cn (ix a)) N (a8 t).2 999 false++[93])))++v) (λ_ d' w' e=>by rw[hdw] at e;cases e;exact g3) (λe=>absurd e (by decide))
      refine⟨vQ (by decide),p,(y::L)++b::((ty::tL)++[z]),?_,λ_=>yZ p5 (.inr (.inl pt)),λhn=>?_⟩
      .have q1:eL (Lib.join ((a8 t).1.map λx=>wT T true (λa=>95::cn (ix a)) N x 999 false) [44]) (y::L) (([124]++(wT T true (λa=>95::cn (ix a)) N (a8 t).2 999 false++[93]))++v):=by
        have e:([124]++(wT T true (λa=>95::cn (ix a)) N (a8 t).2 999 false++[93]))++v=124::(wT T true (λa=>95::cn (ix a)) N (a8 t).2 999 false++93::v):=by simp
        rw[e];exact c1
       have q2:eL [124] [b] ((wT T true (λa=>95::cn (ix a)) N (a8 t).2 999 false++[93])++v):=by
        have e:(wT T true (λa=>95::cn (ix a)) N (a8 t).2 999 false++[93])++v=wT T true (λa=>95::cn (ix a)) N (a8 t).2 999 false++93::v:=by simp
        rw[e];exact bc
       have q3:=eL.cat (A:=[p]) pc (eL.cat q1 (eL.cat q2 (eL.cat t2 zc)));have e:[91]++Lib.join ((a8 t).1.map λx=>wT T true (λa=>95::cn (ix a)) N x 999 false) [44]++([124]++wT T true (λa=>95::cn (ix a)) N (a8 t).2 999 false)++[93]=[91]++(Lib.join ((a8 t).1.map λx=>wT T true (λa=>95::cn (ix a)) N x 999 false) [44]++([124]++(wT T true (λa=>95::cn (ix a)) N (a8 t).2 999 false++[93]))):=by simp
       rw[e];exact q3
      .have n1:=jk.app (A:=[p]) (B:=(y::L)++b::((ty::tL)++[z])) hn;have n2:=jk.app n1.2;have n3:=jk.app (A:=[b]) (B:=(ty::tL)++[z]) n2.2;have n4:=jk.app n3.2;obtain⟨lv,r,q1,q2,q3,_,q5⟩:=t3 n4.1;exact⟨0,0,KL,Int.le_refl _,Int.le_refl _,λ_ _=>.inl (by decide),Zb hg (Jz cT) (c3 n2.1) q5 q1 p5 pt b5 bt z5 zt⟩
   rw[if_neg kd];by_cases kc:((true&&decide (t.az=[123,125]))&&decide (t.aa.length=1))=true
   .rw[if_pos kc];simp only[Bool.true_and,Bool.and_eq_true,decide_eq_true_eq] at kc;have h1:=EV kc.2;obtain⟨o1,o2⟩:=VQ (rP t) (by rw[h1];simp);obtain⟨t1,ty,tL,t2,_,t3⟩:=IH (rP t) 1200 false (125::v) o2 o1 (by decide) (by decide) (oT (by decide));obtain⟨z,z5,zt,zc⟩:=gI (c:=125) (by decide) (v:=v) (λe=>absurd e (by decide)) (λe=>absurd e (by decide));obtain⟨d,w,hdw,_,_,_,g4⟩:=t1
    obtain⟨p,p5,pt,pc⟩:=gI (c:=123) (by decide) (v:=(wT T true (λa=>95::cn (ix a)) N (rP t) 1200 false++[125])++v) (λe=>absurd e (by decide)) (λ_ d' w' e=>by rw[hdw] at e;cases e;exact g4)
    refine⟨vQ (by decide),p,(ty::tL)++[z],?_,λ_=>yZ p5 (.inr (.inr pt)),λhn=>?_⟩
    .rw[List.append_assoc];exact eL.cat (A:=[p]) pc (eL.cat t2 zc)
    .have n1:=jk.app (A:=[p]) (B:=(ty::tL)++[z]) hn;obtain⟨lv,r,q1,q2,q3,_,q5⟩:=t3 (jk.app n1.2).1;exact⟨0,0,KL,Int.le_refl _,Int.le_refl _,λ_ _=>.inl (by decide),ab2 hg h1 k2 h0 kc.1 q5 q1 p5 pt z5 zt⟩
   rw[if_neg kc];by_cases ki:(fc T true t).2=true
   .rw[if_pos ki];obtain⟨l2,_,_,e2⟩:=Wd ki;have hf:(aS T t.az false).2=true:=by rw[<-e2];exact ki
    obtain⟨s1,s2,s3,s4,s5,s6,s7,s8⟩:=Tk hg hf;have h2:=ov l2;obtain⟨oa,za⟩:=VQ (rP t) (by rw[h2];simp);obtain⟨ob,zb⟩:=VQ (H5 t) (by rw[h2];simp)
    have hlw:0<=oW T true (fc T true t).1 t/\oW T true (fc T true t).1 t<=(aB (aS T t.az false).1).1/\(oW T true (fc T true t).1 t<(aS T t.az false).1.l\/((fc T true (rP t)).2=true/\isLeft (fc T true (rP t)).1=true)):=by
     rw[e2];unfold oW
     cases hL:isLeft (aS T t.az false).1 with
     |false=>rw[Bool.false_and,if_neg (by simp),s8 hL];exact⟨by omega,by omega,.inl (by omega)⟩
     |true=>
       rw[Bool.true_and,(s7 hL).1]
       cases hA:((fc T true (rP t)).2&&isLeft (fc T true (rP t)).1) with
       |false=>simp only[Bool.not_false,if_true];exact⟨by omega,by omega,.inl (by omega)⟩
       |true=>simp only[Bool.not_true,Bool.false_eq_true,if_false];rw[Bool.and_eq_true] at hA;exact⟨by omega,by omega,.inr hA⟩
    -- the text without brackets
    have core:∀w,Bd w->∃(y:dc) (L:List dc),eL (wT T true (λa=>95::cn (ix a)) N (rP t) (oW T true (fc T true t).1 t) true++u0 t.az++wT T true (λa=>95::cn (ix a)) N (H5 t) (aB (fc T true t).1).2 true) (y::L) w/\C4 T y=true/\Hd (wT T true (λa=>95::cn (ix a)) N (rP t) (oW T true (fc T true t).1 t) true++u0 t.az++wT T true (λa=>95::cn (ix a)) N (H5 t) (aB (fc T true t).1).2 true)/\(jk (y::L)->∀b,De T ix t (y::L) (aS T t.az false).1.l (aB (aS T t.az false).1).2 b):=λw hw=>by
     obtain⟨b1,yb,Lb,b2,_,b4⟩:=IH (H5 t) (aB (fc T true t).1).2 true w zb ob (by rw[e2];exact s5) (by rw[e2];omega) hw
     -- the sign
     have sg:∃(y:dc) (pre:List UInt8),(y.aj=1\/y.aj=2\/y.aj=5)/\y.aI=t.az/\cX T y=((aS T t.az false).1,true)/\(∃c r,u0 t.az=c::r/\bdL.contains c=true)/\eL (u0 t.az) [y] (wT T true (λa=>95::cn (ix a)) N (H5 t) (aB (fc T true t).1).2 true++w):=by
      unfold u0;by_cases hcm:t.az=[44]
      .rw[if_pos hcm];obtain⟨p,p5,pt,pc⟩:=gI (c:=44) (by decide) (v:=wT T true (λa=>95::cn (ix a)) N (H5 t) (aB (fc T true t).1).2 true++w) (λe=>absurd e (by decide)) (λe=>absurd e (by decide));refine⟨p,[],.inr (.inr p5),pt.trans hcm.symm,?_,⟨44,[],rfl,by decide⟩,pc⟩;rw[M8 p5 pt,<-hcm];exact Prod.ext rfl hf
      .rw[if_neg hcm];obtain⟨y,yk,_,yt,_,_,yc⟩:=zM qU (v:=32::(wT T true (λa=>95::cn (ix a)) N (H5 t) (aB (fc T true t).1).2 true++w)) NS;refine⟨y,[],by omega,yt,?_,⟨32,da t.az++[32],rfl,by decide⟩,λM hM=>?_⟩
       .have hnb:eC y=true:=by unfold eC;rcases yk with h|h<;>rw[h]<;>rfl
        unfold cX;rw[hnb,yt];show aS T t.az false=_;exact Prod.ext rfl hf
       .have e3:([32]++da t.az++[32])++(wT T true (λa=>95::cn (ix a)) N (H5 t) (aB (fc T true t).1).2 true++w)=32::(da t.az++32::(wT T true (λa=>95::cn (ix a)) N (H5 t) (aB (fc T true t).1).2 true++w)):=by simp
        rw[e3,BT (by decide)];exact yc M (by rw[BT (by decide)];exact hM)
     obtain⟨y,_,yk,yt,yb2,⟨c,r,hsg,hcb⟩,aov⟩:=sg;obtain⟨a1,ya,La,a2,a3,a4⟩:=IH (rP t) (oW T true (fc T true t).1 t) true (u0 t.az++(wT T true (λa=>95::cn (ix a)) N (H5 t) (aB (fc T true t).1).2 true++w)) za oa hlw.1 (by have:=hlw.2.1;omega) (by rw[hsg];exact oT hcb);refine⟨ya,La++y::(yb::Lb),?_,a3 rfl,by rw[List.append_assoc];exact a1.app _,λhn b=>?_⟩
     .rw[List.append_assoc];exact eL.cat (A:=ya::La) (B:=[y]++(yb::Lb)) (by rw[List.append_assoc];exact a2) (eL.cat aov b2)
     .have n1:=jk.app (A:=ya::La) (B:=y::(yb::Lb)) hn;have n2:=jk.app (A:=[y]) (B:=yb::Lb) n1.2;obtain⟨la,ra,p1,p2,p3,p4,p5⟩:=a4 n1.1;obtain⟨lb,rb,q1,q2,q3,_,q5⟩:=b4 n2.2;rw[e2] at q1;have hl:=hlw.2;refine aeG h2 k2 h0 yk yt yb2 p5 q5 (by omega) ?_ q1 (by omega) s4;rcases hl.2 with h|⟨h,h'⟩
      .omega
      .rcases p4 h h' with h|h<;>omega
    cases hbr:decide (n<(fc T true t).1.l) with
    |true=>rw[Dp];obtain⟨y,L,c1,c2,c3,c4⟩:=core (41::v) (oT (by decide));refine zf (n':=1200) hg ⟨c3,y,L,c1,λ_=>c2,λhn=>⟨_,_,s2,s5,s6,λ_ hL=>.inr ?_,c4 hn false⟩⟩ (by decide) KL;rw[e2] at hL;have:=(s7 hL).2;omega
    |false=>rw[EW];rw[decide_eq_false_iff_not,e2] at hbr;obtain⟨y,L,c1,c2,c3,c4⟩:=core v hv;refine⟨c3,y,L,c1,λ_=>c2,λhn=>⟨_,_,by omega,s5,s6,λ_ hL=>.inr ?_,c4 hn bs⟩⟩;rw[e2] at hL;have:=(s7 hL).2;omega
   rw[if_neg ki];by_cases kp:(jh T true t).2=true
   .rw[if_pos kp];obtain⟨l1,_,e2,DP,_⟩:=X1 kp;have hf:(aS T t.az true).2=true:=by rw[<-e2];exact kp
    obtain⟨s1,s2,s3,s4⟩:=UL hg hf;have h1:=EV l1;obtain⟨oa,za⟩:=VQ (rP t) (by rw[h1];simp)
    have core:∀w,Bd w->∃(y:dc) (L:List dc),eL (da t.az++[32]++wT T true (λa=>95::cn (ix a)) N (rP t) (aB (jh T true t).1).2 true) (y::L) w/\C4 T y=true/\Hd (da t.az++[32]++wT T true (λa=>95::cn (ix a)) N (rP t) (aB (jh T true t).1).2 true)/\(jk (y::L)->∀b,De T ix t (y::L) (aS T t.az true).1.l (aB (aS T t.az true).1).2 b):=λw hw=>by
     obtain⟨a1,ya,La,a2,a3,a4⟩:=IH (rP t) (aB (jh T true t).1).2 true w za oa (by rw[e2];exact s3) (by rw[e2];omega) hw;obtain⟨y,yk,yp,yt,yo,aow,yc⟩:=zM qU (v:=32::(wT T true (λa=>95::cn (ix a)) N (rP t) (aB (jh T true t).1).2 true++w)) NS;have y1:=yp.2 DP;have yo':y.js=false:=by rw[yo];simp
     refine⟨y,ya::La,?_,?_,by rw[List.append_assoc];exact (AE qU).app _,λhn b=>?_⟩
     .rw[List.append_assoc];intro M hM;have e3:(da t.az++([32]++wT T true (λa=>95::cn (ix a)) N (rP t) (aB (jh T true t).1).2 true))++w=da t.az++32::(wT T true (λa=>95::cn (ix a)) N (rP t) (aB (jh T true t).1).2 true++w):=by simp
      rw[e3];exact yc _ (by rw[BT (by decide)];exact a2 M hM)
     .unfold C4;rw[if_neg (by omega),if_neg (by omega),yt,hf,Bool.or_true];split<;>rfl
     .have n1:=jk.app (A:=[y]) (B:=ya::La) hn;obtain⟨la,ra,p1,p2,p3,p4,p5⟩:=a4 n1.2;rw[e2] at p1;exact ael h1 k2 h0 y1 yt yo' (aow _ rfl) hf p5 (a3 rfl) p1 (by omega)
    have aou:(fc T true t).2=true->False:=ki
    cases hbr:decide (n<(jh T true t).1.l) with
    |true=>rw[Dp];obtain⟨y,L,c1,c2,c3,c4⟩:=core (41::v) (oT (by decide));exact zf (n':=1200) hg ⟨c3,y,L,c1,λ_=>c2,λhn=>⟨_,_,s2,s3,s4,λh=>(ki h).elim,c4 hn false⟩⟩ (by decide) KL
    |false=>rw[EW];rw[decide_eq_false_iff_not,e2] at hbr;obtain⟨y,L,c1,c2,c3,c4⟩:=core v hv;exact⟨c3,y,L,c1,λ_=>c2,λhn=>⟨_,_,by omega,s3,s4,λh=>(ki h).elim,c4 hn bs⟩⟩
   rw[if_neg kp]
   -- a call
   obtain⟨y2,L2,c1,c2,c3⟩:=D9 (T:=T) (ix:=ix) (λx=>wT T true (λa=>95::cn (ix a)) N x 999 false) hg t.aa akp (λu hu w hw=>IH u 999 false w (VQ u hu).2 (VQ u hu).1 (by decide) (by decide) hw) (41::v) (oT (by decide));obtain⟨z,z5,zt,zc⟩:=gI (c:=41) (by decide) (v:=v) (λe=>absurd e (by decide)) (λe=>absurd e (by decide));obtain⟨p,p5,pt,pc⟩:=gI (c:=40) (by decide) (v:=(Lib.join (t.aa.map λx=>wT T true (λa=>95::cn (ix a)) N x 999 false) [44]++[41])++v) (λe=>absurd e (by decide)) (λe=>absurd e (by decide));obtain⟨y,yk,_,yt,yo,_,yc⟩:=zM qU (v:=40::((Lib.join (t.aa.map λx=>wT T true (λa=>95::cn (ix a)) N x 999 false) [44]++[41])++v)) abt;have yo':y.js=true:=by rw[yo];simp
   refine⟨by rw[List.append_assoc,List.append_assoc];exact (AE qU).app _,y,p::((y2::L2)++[z]),?_,λ_=>?_,λhn=>?_⟩
   .rw[List.append_assoc,List.append_assoc];exact eL.cat (A:=[y]) (B:=[p]++((y2::L2)++[z])) (by rw[List.append_assoc];exact yc) (eL.cat pc (eL.cat c1 zc))
   .unfold C4;rw[if_neg (by omega),if_neg (by omega),yo',Bool.or_true,if_pos rfl]
   .have n1:=jk.app (A:=[y,p]) (B:=(y2::L2)++[z]) hn;have n2:=jk.app n1.2;exact⟨0,0,KL,Int.le_refl _,Int.le_refl _,λh=>(ki h).elim,abT hg k2 h0 akp (c3 n2.1) yk yt yo' z5 zt⟩
end
end
end Go.Proofs.YtjmeonoabiliiaaGreatDoor
