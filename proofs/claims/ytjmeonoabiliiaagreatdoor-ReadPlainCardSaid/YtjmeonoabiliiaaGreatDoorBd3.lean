import Derived.Test.YtjmeonoabiliiaaGreatDoorAt
import Derived.Test.YtjmeonoabiliiaaGreatDoorBd2
import Derived.Test.YtjmeonoabiliiaaGreatDoorBd1
set_option linter.all false
set_option maxHeartbeats 16000000
set_option maxRecDepth 100000
namespace Go.Proofs.YtjmeonoabiliiaaGreatDoor
open Go Sz
section
def sb(T:List bj)(t:Tok):Bool:=
 if t.au=0\/t.au=6 then false
 else if t.au=5 then decide (t.aD=[40])||decide (t.aD=[91])||decide (t.aD=[123])
 else if !(decide (t.au=1)||decide (t.au=2))||t.jq then true
 else !(bd T t.aD false).2||(bd T t.aD true).2
theorem D8{T:List bj}{L:List Tok}{st:St}(h:RC T L st):iB T st=sb T (aM L st):=by unfold iB;rw[bm h];rfl
noncomputable def vC:cr:=⟨181,λ
 |[.ptr 0 0],os=>(match wU os with|some R=>some (.bool (iB R.T R.st),none)|none=>none)
 |_,_=>none⟩
theorem Gv:vC.f=181:=(rfl)
theorem DA{x y:AV}{T:List bj}{L:List Tok}{st:St}(hx:ba x=some T)(hy:bx y=some L)(h:RC T L st):vC.S [.ptr 0 0] (fq x y st)=some (.bool (iB T st),none):=by simp only[vC,lU hx hy h]
noncomputable def ssB:List aX:=[qM,Ox,tM]
theorem acg:∀s∈ssB,fi Tryz.prog cX s:=by simp[ssB,Dv.lift,N8.lift,Pe.lift]
theorem NM{x y:AV}{T:List bj}{L:List Tok}{st:St}(hx:ba x=some T)(hy:bx y=some L)(hc:RC T L st):
 (st.aa=[]->(aF (b9 ssB [wc]) 6 181 [.ptr 0 0] ⟨1,[.row [x,y,.int .i64 st.aZ,.int .i64 st.next,.aJ]],1,1⟩).map (λp=>(p.1,p.2.get 0))=some (.bool (sb T (aM L st)),some (.row [x,y,.int .i64 st.aZ,.int .i64 st.next,.aJ])))/\
 (st.aa≠[]->(aF (b9 ssB [wc]) 6 181 [.ptr 0 0] ⟨2,[.row (aQ st.aa),.row [x,y,.int .i64 st.aZ,.int .i64 st.next,.vec 1 0 st.aa.length 2 st.aa.length]],2,2⟩).map (λp=>(p.1,p.2.get 0,p.2.get 1))=
  some (.bool (sb T (aM L st)),some (.row [x,y,.int .i64 st.aZ,.int .i64 st.next,.vec 1 0 st.aa.length 2 st.aa.length]),some (.row (aQ st.aa)))):=by
 have aN:=aR hx;have aP:=aI hy;have q:=dY hx hy hc;rw[bK] at q;have x1:=aN.aK;have y1:=aP.aK;have g1:=lg aN aP;have g2:=kZ aN aP;have g3:=lr aN aP;have g4:=k9 aN aP;have g5:=kX aN aP;have g6:=kW aN aP;have fx:=λh=>aN.fr h 0 6
 have f1:=db st.aa;have f2:=dc st.aa;have f3:=bf st.aa;have q1:=gi (aM L st);have q2:=H9 hx (aM L st).aD (by have:=hc.tb;omega);have q3:=IK hx (aM L st).aD (by have:=hc.tb;omega);simp only[bj.aV,bj.cells] at q2 q3;unfold sb;simp only[ssB];have main:∀(h0:List bp) (nx:Nat),True:=λ_ _=>trivial
 by_cases k0:(aM L st).au=0
 .rw[if_pos (.inl k0)];rw[k0] at q;refine⟨λh0=>?_,λh0=>?_⟩
  .rw[bz h0] at q;simp[iU,rZ,fv,kH,kN,fV,q,x1,y1,g1,g2,g3,g4,g5,g6,-af,-aj,-ah]
  .rw[bw h0] at q;generalize aQ st.aa=F at *;generalize st.aa.length=n at *;simp[iU,rZ,fv,kH,kN,fV,q,x1,y1,g1,g2,g3,g4,g5,g6,-af,-aj,-ah,f1,f2,f3]
 by_cases k6:(aM L st).au=6
 .rw[if_pos (.inr k6)];rw[k6] at q;refine⟨λh0=>?_,λh0=>?_⟩
  .rw[bz h0] at q;simp[iU,rZ,fv,kH,kN,fV,q,x1,y1,g1,g2,g3,g4,g5,g6,-af,-aj,-ah]
  .rw[bw h0] at q;generalize aQ st.aa=F at *;generalize st.aa.length=n at *;simp[iU,rZ,fv,kH,kN,fV,q,x1,y1,g1,g2,g3,g4,g5,g6,-af,-aj,-ah,f1,f2,f3]
 rw[if_neg (by rintro (h|h);exact k0 h;exact k6 h)];by_cases k5:(aM L st).au=5
 .rw[if_pos k5];rw[k5] at q
  have fin:∀s,(aM L st).aD=s->∀e1 e2 e3:Bool,(s==[40])=e1->(s==[91])=e2->(s==[123])=e3->
   (st.aa=[]->(aF (b9 [qM,Ox,tM] [wc]) 6 181 [.ptr 0 0] ⟨1,[.row [x,y,.int .i64 st.aZ,.int .i64 st.next,.aJ]],1,1⟩).map (λp=>(p.1,p.2.get 0))=some (.bool (decide (s=[40])||decide (s=[91])||decide (s=[123])),some (.row [x,y,.int .i64 st.aZ,.int .i64 st.next,.aJ])))/\
   (st.aa≠[]->(aF (b9 [qM,Ox,tM] [wc]) 6 181 [.ptr 0 0] ⟨2,[.row (aQ st.aa),.row [x,y,.int .i64 st.aZ,.int .i64 st.next,.vec 1 0 st.aa.length 2 st.aa.length]],2,2⟩).map (λp=>(p.1,p.2.get 0,p.2.get 1))=
    some (.bool (decide (s=[40])||decide (s=[91])||decide (s=[123])),some (.row [x,y,.int .i64 st.aZ,.int .i64 st.next,.vec 1 0 st.aa.length 2 st.aa.length]),some (.row (aQ st.aa)))):=λs hs e1 e2 e3 h1 h2 h3=>by
   rw[hs] at q;clear q1 q2 q3
   cases e1 with
   |true=>
     have:s=[40]:=by simpa using h1
     subst this;refine⟨λh0=>?_,λh0=>?_⟩
     .rw[bz h0] at q;simp[iU,rZ,fv,kH,kN,fV,q,x1,y1,g1,g2,g3,g4,g5,g6,-af,-aj,-ah]
     .rw[bw h0] at q;generalize aQ st.aa=F at *;generalize st.aa.length=n at *;simp[iU,rZ,fv,kH,kN,fV,q,x1,y1,g1,g2,g3,g4,g5,g6,-af,-aj,-ah,f1,f2,f3]
   |false=>
     have n1:¬s=[40]:=by simpa using h1
     cases e2 with
     |true=>
       have:s=[91]:=by simpa using h2
       subst this;refine⟨λh0=>?_,λh0=>?_⟩
       .rw[bz h0] at q;simp[iU,rZ,fv,kH,kN,fV,q,x1,y1,g1,g2,g3,g4,g5,g6,-af,-aj,-ah]
       .rw[bw h0] at q;generalize aQ st.aa=F at *;generalize st.aa.length=n at *;simp[iU,rZ,fv,kH,kN,fV,q,x1,y1,g1,g2,g3,g4,g5,g6,-af,-aj,-ah,f1,f2,f3]
     |false=>
       have n2:¬s=[91]:=by simpa using h2
       have n3:(s==[123])=decide (s=[123]):=O9 _ _;refine⟨λh0=>?_,λh0=>?_⟩
       .rw[bz h0] at q;simp[iU,rZ,fv,kH,kN,fV,q,x1,y1,g1,g2,g3,g4,g5,g6,-af,-aj,-ah,h1,h2,n1,n2,n3]
       .rw[bw h0] at q;generalize aQ st.aa=F at *;generalize st.aa.length=n at *;simp[iU,rZ,fv,kH,kN,fV,q,x1,y1,g1,g2,g3,g4,g5,g6,-af,-aj,-ah,f1,f2,f3,h1,h2,n1,n2,n3]
  exact fin _ rfl _ _ _ rfl rfl rfl
 rw[if_neg k5];generalize aM L st=t at *;by_cases kn:(decide (t.au=1)||decide (t.au=2))=true
 .rw[kn] at q1|-
  cases ho:t.jq with
  |true=>
    rw[ho] at q q1;refine⟨λh0=>?_,λh0=>?_⟩
    .rw[bz h0] at q;simp[iU,rZ,fv,kH,kN,fV,q,q1,x1,y1,g1,g2,g3,g4,g5,g6,-af,-aj,-ah,k0,k5,k6]
    .rw[bw h0] at q;generalize aQ st.aa=F at *;generalize st.aa.length=n at *;simp[iU,rZ,fv,kH,kN,fV,q,q1,x1,y1,g1,g2,g3,g4,g5,g6,-af,-aj,-ah,f1,f2,f3,k0,k5,k6]
  |false=>
    rw[ho] at q q1;generalize bd T t.aD false=I at *;obtain⟨⟨i1,i2,i3⟩,i4⟩:=I;generalize bd T t.aD true=J at *;obtain⟨⟨j1,j2,j3⟩,j4⟩:=J;dsimp only at q2 q3|-;refine⟨λh0=>?_,λh0=>?_⟩
    .rw[bz h0] at q;cases i4<;>simp[iU,rZ,fv,kH,kN,fV,fx,q,q1,q2,q3,x1,y1,g1,g2,g3,g4,g5,g6,-af,-aj,-ah,k0,k5,k6]
    .rw[bw h0] at q;generalize aQ st.aa=F at *;generalize st.aa.length=n at *;cases i4<;>simp[iU,rZ,fv,kH,kN,fV,fx,q,q1,q2,q3,x1,y1,g1,g2,g3,g4,g5,g6,-af,-aj,-ah,f1,f2,f3,k0,k5,k6]
 .rw[Bool.not_eq_true] at kn;rw[kn] at q1|-;refine⟨λh0=>?_,λh0=>?_⟩
  .rw[bz h0] at q;simp[iU,rZ,fv,kH,kN,fV,q,q1,x1,y1,g1,g2,g3,g4,g5,g6,-af,-aj,-ah,k0,k5,k6]
  .rw[bw h0] at q;generalize aQ st.aa=F at *;generalize st.aa.length=n at *;simp[iU,rZ,fv,kH,kN,fV,q,q1,x1,y1,g1,g2,g3,g4,g5,g6,-af,-aj,-ah,f1,f2,f3,k0,k5,k6]
theorem M5:cC Tryz.prog cX vC:=λag os v r hv=>by
 unfold vC at hv;dsimp only at hv;split at hv
 .rename_i os;split at hv
  .rename_i R hR;cases hv;obtain⟨hx,hy,rfl,hc⟩:=kM hR;rw[Gv,D8 hc];have hE:cT Tryz.prog cX (b9 ssB [wc]):=dK acg (by simp[y8]);obtain⟨r1,r2⟩:=NM hx hy hc;exact zr (n:=6) hE (aR hx) (aI hy) r1 r2 rfl rfl
  .cases hv
 .cases hv
section
variable (n0:Nat)(ks aB:List Nat)(r:List AV)
theorem fX:az n0 [] aB=aB:=by simp[az]
theorem fU(id o l s b:Nat):az n0 (.vec id o l s b::r) aB=if n0<=id/\aB.contains id=false then az n0 r (aB++[id]) else az n0 r aB:=by simp[az,AV.top]
theorem fY(id o:Nat):az n0 (.ptr id o::r) aB=if n0<=id/\aB.contains id=false then az n0 r (aB++[id]) else az n0 r aB:=by simp[az,AV.top]
theorem fR(k:IntKind)(n:Int):az n0 (.int k n::r) aB=az n0 r aB:=by simp[az,AV.top]
theorem eO(b:Bool):az n0 (.bool b::r) aB=az n0 r aB:=by simp[az,AV.top]
theorem eN:az n0 (.aJ::r) aB=az n0 r aB:=by simp[az,AV.top]
theorem fc{x:AV}(h:Laid x):az n0 (x::r) aB=az n0 r aB:=by
 conv=>lhs;unfold az
 rw[h.top]
theorem fP(id o l s b:Nat):ck n0 ks (.vec id o l s b)=.vec (p8 n0 ks id) o l s b:=rfl
theorem fS(id o:Nat):ck n0 ks (.ptr id o)=.ptr (p8 n0 ks id) o:=rfl
theorem fT(k:IntKind)(n:Int):ck n0 ks (.int k n)=.int k n:=rfl
theorem eQ(b:Bool):ck n0 ks (.bool b)=.bool b:=rfl
theorem eR:ck n0 ks .aJ=.aJ:=rfl
theorem fe{x:AV}(h:Laid x):ck n0 ks x=x:=by have:=h.sg (p8 n0 ks);cases x<;>exact this
end
theorem fQ(n:Nat)(cs:List AV):gV n (.row cs)=decide (AV.aw cs<=n):=yd n cs
noncomputable def iZ(N:Nat):cr:=⟨71,λ
 |[.ptr 0 0,.int .i64 n],os=>(match wU os with
   |some R=>if R.st.aC.length<N then some (.tuple [(ae R.T n R.st).1.1.aV,.int .i64 (ae R.T n R.st).1.2.1,.bool (ae R.T n R.st).1.2.2],some (gF R.x R.y R.st.aa (ae R.T n R.st).2)) else none
   |none=>none)
 |_,_=>none⟩
theorem fa(N:Nat):(iZ N).f=71:=(rfl)
section
variable (N:Nat){x y:AV}{T:List bj}{L:List Tok}{st:St}(hx:ba x=some T)(hy:bx y=some L)(h:RC T L st)(n:Int)
include N hx hy h n
theorem dV(hn:st.aC.length<N):
 (iZ N).S [.ptr 0 0,.int .i64 n] (fq x y st)=some (.tuple [(ae T n st).1.1.aV,.int .i64 (ae T n st).1.2.1,.bool (ae T n st).1.2.2],some (gF x y st.aa (ae T n st).2)):=by
 simp only[iZ,lU hx hy h];rw[if_pos hn]
theorem Ro(hn:N<=st.aC.length):
 (iZ N).S [.ptr 0 0,.int .i64 n] (fq x y st)=none:=by
 simp only[iZ,lU hx hy h];rw[if_neg (by omega)]
end
theorem a6(T:List bj):uV (ae T):=⟨λn st=>(vd T _).lv n st,λn st h=>(vd T _).ok n st h⟩
theorem an(t:Tm):t.aV=.agg [.int .i64 t.au,.int .i64 t.cF,.str t.bH,t.ca]:=by rw[Tm.dj];rfl
theorem bB(aB:List Tm)(t:Tm):aG aB++[.int .i64 t.au,.int .i64 t.cF,.str t.bH,t.ca]=aG (aB++[t]):=by rw[xA];rfl
noncomputable def xV(N:Nat):List cr:=[iZ N,BB]
section
variable {rec:Int->St->PR×St}{M:Nat}{aB:List Tm}{st:St}
theorem oZ(h:(rec 999 st).1.2.2=false):bQ rec (M+1) aB st=((aB,false),(rec 999 st).2):=by unfold bQ;rw[h,if_neg (by simp)]
theorem kJ(h:(rec 999 st).1.2.2=true)(h2:(ax [44] (rec 999 st).2).1=false):bQ rec (M+1) aB st=((aB++[(rec 999 st).1.1],true),(rec 999 st).2):=by unfold bQ;rw[h,if_pos rfl,h2,if_neg (by simp)]
theorem mg(h:(rec 999 st).1.2.2=true)(h2:(ax [44] (rec 999 st).2).1=true):bQ rec (M+1) aB st=bQ rec M (aB++[(rec 999 st).1.1]) (ax [44] (rec 999 st).2).2:=by
 conv=>lhs;unfold bQ
 rw[h,if_pos rfl,h2,if_pos rfl]
end
theorem Bf{rec:Int->St->PR×St}(H:uV rec){M:Nat}{aB:List Tm}{st:St}(h:st.aa≠[]):(bQ rec M aB st).2.aa≠[]:=(mA H M aB st).1.aa h
theorem Pa(n N w:Nat){x y:AV}{T:List bj}{L:List Tok}(hx:ba x=some T)(hy:bx y=some L):∀(M:Nat) (aB:List Tm) (st:St) (m md:Nat),RC T L st->st.aa≠[]->aB≠[]->aB.length+st.aC.length<=200000->st.aC.length<N->st.aC.length<M->M<=m->
 ∃cq,gu 1 w (bL (aH (aF (b9 [] (xV N)) (n+1)) (n+1) hZ) eM 1 m (kT (.ptr 0 0) (.vec 1 0 aB.length 4 aB.length)) ⟨3,[.row (aQ st.aa),.row (aG aB),.row [x,y,.int .i64 st.aZ,.int .i64 st.next,.vec 2 0 st.aa.length 2 st.aa.length]],0,md⟩)=
   (match bQ (ae T) M aB st with
    |((l,true),dn)=>some (.ret,FM 24 [(2,.vec 1 0 l.length 4 l.length),(3,.bool true)],⟨3,[.row (aQ dn.aa),.row (aG l),.row [x,y,.int .i64 dn.aZ,.int .i64 dn.next,.vec 2 0 dn.aa.length 2 dn.aa.length]],0,cq⟩)
    |((_,false),dn)=>some (.ret,FM 24 [(2,.aJ),(3,.bool false)],⟨2,[.row (aQ dn.aa),.row [x,y,.int .i64 dn.aZ,.int .i64 dn.next,.vec 1 0 dn.aa.length 2 dn.aa.length]],0,cq⟩))
 |0,_,_,_,_,_,_,_,_,_,h,_=>by omega
 |M+1,aB,st,0,_,_,_,_,_,_,_,h=>by omega
 |M+1,aB,st,m+1,md,hc,h0,fy,LO,hN,hM,hm=>by
   have aN:=aR hx;have aP:=aI hy;have x1:=aN.aK;have y1:=aP.aK;have g1:=lg aN aP;have g2:=kZ aN aP;have g3:=lr aN aP;have g4:=k9 aN aP;have g5:=kX aN aP;have g6:=kW aN aP;have kx:=λn0 aB r=>fc n0 aB r aN;have ky:=λn0 aB r=>fc n0 aB r aP;have rx:=λn0 ks=>fe n0 ks aN;have ry:=λn0 ks=>fe n0 ks aP
   rw[ak];have H:=a6 T;have q:=dV N hx hy hc 999 hN;have dF:=H.lv 999 st;have h1:=dF.aa h0;rw[bw h0,dW h0 h1,an] at q;have f1:=db st.aa;have f2:=dc st.aa;have f3:=bf st.aa;have e1:=db (ae T 999 st).2.aa;have e2:=dc (ae T 999 st).2.aa;have e3:=bf (ae T 999 st).2.aa;have hf:=bh aB
   cases bV:(ae T 999 st).1.2.2 with
   |false=>rw[oZ bV];rw[bV] at q;dsimp only;have tr:=ay (ae T 999 st).1.1;generalize (ae T 999 st).1.1=t at *;generalize (ae T 999 st).2=s1 at *;generalize aQ st.aa=F at *;generalize aQ s1.aa=G at *;generalize st.aa.length=fl at *;generalize s1.aa.length=gl at *;generalize aG aB=A at *;refine⟨min md 0,?_⟩;simp[hZ,eM,xV,fa,ic,q,x1,y1,g1,g2,g3,g4,g5,g6,kx,ky,rx,ry,-af,-aj,-ah,-az,-ck,fX,fU,fY,fR,eO,eN,fP,fS,fT,eQ,eR,fQ,f1,f2,f3,e1,e2,e3,hf,tr]
   |true=>
     have ho:=H.ok 999 st bV;obtain⟨c1,l1⟩:=hc.ok ho;have nH:=ho.pos;have qt:=jh hx hy c1 [44];have cO:=b8 [44] (ae T 999 st).2;rw[bw h1,bw (by rw[cO.1];exact h1),cO.1,cO.2] at qt;rw[bV] at q;have gr:=bh (aB++[(ae T 999 st).1.1]);have h8:(aB.length+1)*56<=140737488355328:=by omega
     have h9:aB.length+1<9223372036854775808:=by omega
     have gG:(aG aB).take (aB.length*4)=aG aB:=by rw[List.take_of_length_le];rw[bP];exact Nat.le_refl _
     have iH:=bP aB;have tr:=ay (ae T 999 st).1.1
     cases hb:(ax [44] (ae T 999 st).2).1 with
     |false=>have hs:=fF hb;rw[kJ bV hb];rw[hb,hs] at qt;dsimp only;rw[<-bB] at gr|-;rw[List.length_append,List.length_cons,List.length_nil];generalize (ae T 999 st).1.1=t at *;generalize (ae T 999 st).2=s1 at *;generalize aQ st.aa=F at *;generalize aQ s1.aa=G at *;generalize st.aa.length=fl at *;generalize s1.aa.length=gl at *;generalize aG aB=A at *;refine⟨min md 0,?_⟩;simp[hZ,eM,xV,fa,ic,q,qt,x1,y1,g1,g2,g3,g4,g5,g6,kx,ky,rx,ry,-af,-aj,-ah,-az,-ck,fX,fU,fY,fR,eO,eN,fP,fS,fT,eQ,eR,fQ,f1,f2,f3,e1,e2,e3,hf,gr,h8,h9,gG,iH,tr,aT]
     |true=>have nj:=dQ hb;obtain⟨c2,l2⟩:=c1.ok nj;have G9:=nj.pos;rw[mg bV hb];obtain⟨cq,ih⟩:=Pa n N w hx hy M (aB++[(ae T 999 st).1.1]) (ax [44] (ae T 999 st).2).2 m 0 c2 (by rw[cO.1];exact h1) (by simp) (by simp;omega) (by omega) (by omega) (by omega);rw[hb] at qt;rw[cO.1,cO.2,<-bB,List.length_append,List.length_cons,List.length_nil] at ih;rw[<-bB] at gr;refine⟨cq,?_⟩;refine Eq.trans ?_ ih;generalize (ax [44] (ae T 999 st).2).2=s2 at *;generalize (ae T 999 st).1.1=t at *;generalize (ae T 999 st).2=s1 at *;generalize aQ st.aa=F at *;generalize aQ s1.aa=G at *;generalize st.aa.length=fl at *;generalize s1.aa.length=gl at *;generalize aG aB=A at *;simp[hZ,eM,xV,fa,ic,q,qt,x1,y1,g1,g2,g3,g4,g5,g6,kx,ky,rx,ry,-af,-aj,-ah,-az,-ck,fX,fU,fY,fR,eO,eN,fP,fS,fT,eQ,eR,fQ,f1,f2,f3,e1,e2,e3,hf,gr,h8,h9,gG,iH,tr,aT]
theorem Oy(n N w:Nat){x y:AV}{T:List bj}{L:List Tok}(hx:ba x=some T)(hy:bx y=some L):∀(M:Nat) (aB:List Tm) (st:St) (m md:Nat),RC T L st->st.aa≠[]->aB≠[]->aB.length+st.aC.length<=200000->st.aC.length<N->st.aC.length<M->M<=m->
 ∃cq,gu 2 w (bL (aH (aF (b9 [] (xV N)) (n+1)) (n+1) hZ) eM 2 m (kT (.ptr 0 0) (.vec 2 0 aB.length 4 aB.length)) ⟨4,[.row (aQ st.aa),.row (aG aB),.dead,.row [x,y,.int .i64 st.aZ,.int .i64 st.next,.vec 3 0 st.aa.length 2 st.aa.length]],0,md⟩)=
   (match bQ (ae T) M aB st with
    |((l,true),dn)=>some (.ret,FM 24 [(2,.vec 2 0 l.length 4 l.length),(3,.bool true)],⟨4,[.row (aQ dn.aa),.row (aG l),.dead,.row [x,y,.int .i64 dn.aZ,.int .i64 dn.next,.vec 3 0 dn.aa.length 2 dn.aa.length]],0,cq⟩)
    |((_,false),dn)=>some (.ret,FM 24 [(2,.aJ),(3,.bool false)],⟨3,[.row (aQ dn.aa),.dead,.row [x,y,.int .i64 dn.aZ,.int .i64 dn.next,.vec 2 0 dn.aa.length 2 dn.aa.length]],0,cq⟩))
 |0,_,_,_,_,_,_,_,_,_,h,_=>by omega
 |M+1,aB,st,0,_,_,_,_,_,_,_,h=>by omega
 |M+1,aB,st,m+1,md,hc,h0,fy,LO,hN,hM,hm=>by
   have aN:=aR hx;have aP:=aI hy;have x1:=aN.aK;have y1:=aP.aK;have g1:=lg aN aP;have g2:=kZ aN aP;have g3:=lr aN aP;have g4:=k9 aN aP;have g5:=kX aN aP;have g6:=kW aN aP;have kx:=λn0 aB r=>fc n0 aB r aN;have ky:=λn0 aB r=>fc n0 aB r aP;have rx:=λn0 ks=>fe n0 ks aN;have ry:=λn0 ks=>fe n0 ks aP
   rw[ak];have H:=a6 T;have q:=dV N hx hy hc 999 hN;have dF:=H.lv 999 st;have h1:=dF.aa h0;rw[bw h0,dW h0 h1,an] at q;have f1:=db st.aa;have f2:=dc st.aa;have f3:=bf st.aa;have e1:=db (ae T 999 st).2.aa;have e2:=dc (ae T 999 st).2.aa;have e3:=bf (ae T 999 st).2.aa;have hf:=bh aB
   cases bV:(ae T 999 st).1.2.2 with
   |false=>rw[oZ bV];rw[bV] at q;dsimp only;have tr:=ay (ae T 999 st).1.1;generalize (ae T 999 st).1.1=t at *;generalize (ae T 999 st).2=s1 at *;generalize aQ st.aa=F at *;generalize aQ s1.aa=G at *;generalize st.aa.length=fl at *;generalize s1.aa.length=gl at *;generalize aG aB=A at *;refine⟨min md 0,?_⟩;simp[hZ,eM,xV,fa,ic,q,x1,y1,g1,g2,g3,g4,g5,g6,kx,ky,rx,ry,-af,-aj,-ah,-az,-ck,fX,fU,fY,fR,eO,eN,fP,fS,fT,eQ,eR,fQ,f1,f2,f3,e1,e2,e3,hf,tr]
   |true=>
     have ho:=H.ok 999 st bV;obtain⟨c1,l1⟩:=hc.ok ho;have nH:=ho.pos;have qt:=jh hx hy c1 [44];have cO:=b8 [44] (ae T 999 st).2;rw[bw h1,bw (by rw[cO.1];exact h1),cO.1,cO.2] at qt;rw[bV] at q;have gr:=bh (aB++[(ae T 999 st).1.1]);have h8:(aB.length+1)*56<=140737488355328:=by omega
     have h9:aB.length+1<9223372036854775808:=by omega
     have gG:(aG aB).take (aB.length*4)=aG aB:=by rw[List.take_of_length_le];rw[bP];exact Nat.le_refl _
     have iH:=bP aB;have tr:=ay (ae T 999 st).1.1
     cases hb:(ax [44] (ae T 999 st).2).1 with
     |false=>have hs:=fF hb;rw[kJ bV hb];rw[hb,hs] at qt;dsimp only;rw[<-bB] at gr|-;rw[List.length_append,List.length_cons,List.length_nil];generalize (ae T 999 st).1.1=t at *;generalize (ae T 999 st).2=s1 at *;generalize aQ st.aa=F at *;generalize aQ s1.aa=G at *;generalize st.aa.length=fl at *;generalize s1.aa.length=gl at *;generalize aG aB=A at *;refine⟨min md 0,?_⟩;simp[hZ,eM,xV,fa,ic,q,qt,x1,y1,g1,g2,g3,g4,g5,g6,kx,ky,rx,ry,-af,-aj,-ah,-az,-ck,fX,fU,fY,fR,eO,eN,fP,fS,fT,eQ,eR,fQ,f1,f2,f3,e1,e2,e3,hf,gr,h8,h9,gG,iH,tr,aT]
     |true=>have nj:=dQ hb;obtain⟨c2,l2⟩:=c1.ok nj;have G9:=nj.pos;rw[mg bV hb];obtain⟨cq,ih⟩:=Oy n N w hx hy M (aB++[(ae T 999 st).1.1]) (ax [44] (ae T 999 st).2).2 m 0 c2 (by rw[cO.1];exact h1) (by simp) (by simp;omega) (by omega) (by omega) (by omega);rw[hb] at qt;rw[cO.1,cO.2,<-bB,List.length_append,List.length_cons,List.length_nil] at ih;rw[<-bB] at gr;refine⟨cq,?_⟩;refine Eq.trans ?_ ih;generalize (ax [44] (ae T 999 st).2).2=s2 at *;generalize (ae T 999 st).1.1=t at *;generalize (ae T 999 st).2=s1 at *;generalize aQ st.aa=F at *;generalize aQ s1.aa=G at *;generalize st.aa.length=fl at *;generalize s1.aa.length=gl at *;generalize aG aB=A at *;simp[hZ,eM,xV,fa,ic,q,qt,x1,y1,g1,g2,g3,g4,g5,g6,kx,ky,rx,ry,-af,-aj,-ah,-az,-ck,fX,fU,fY,fR,eO,eN,fP,fS,fT,eQ,eR,fQ,f1,f2,f3,e1,e2,e3,hf,gr,h8,h9,gG,iH,tr,aT]
end
section
def BO(x y:AV)(l:List Tm)(ok:Bool)(st:St)(md:Nat):Option (Ex×List AV×ai):=
 match st.aa,ok with
 |[],true=>some (.ret,FM 24 [(2,.vec 1 0 l.length 4 l.length),(3,.bool true)],⟨2,[.row (aG l),.row [x,y,.int .i64 st.aZ,.int .i64 st.next,.aJ]],1,md⟩)
 |[],false=>some (.ret,FM 24 [(2,.aJ),(3,.bool false)],⟨1,[.row [x,y,.int .i64 st.aZ,.int .i64 st.next,.aJ]],1,md⟩)
 |q::r,true=>some (.ret,FM 24 [(2,.vec 1 0 l.length 4 l.length),(3,.bool true)],⟨3,[.row (aQ (q::r)),.row (aG l),.row [x,y,.int .i64 st.aZ,.int .i64 st.next,.vec 2 0 (q::r).length 2 (q::r).length]],0,md⟩)
 |q::r,false=>some (.ret,FM 24 [(2,.aJ),(3,.bool false)],⟨2,[.row (aQ (q::r)),.row [x,y,.int .i64 st.aZ,.int .i64 st.next,.vec 1 0 (q::r).length 2 (q::r).length]],0,md⟩)
section
variable {x y:AV}{l:List Tm}{st:St}{md:Nat}
theorem HE(h:st.aa=[]):BO x y l true st md=some (.ret,FM 24 [(2,.vec 1 0 l.length 4 l.length),(3,.bool true)],⟨2,[.row (aG l),.row [x,y,.int .i64 st.aZ,.int .i64 st.next,.aJ]],1,md⟩):=by unfold BO;rw[h]
theorem IA(h:st.aa=[]):BO x y l false st md=some (.ret,FM 24 [(2,.aJ),(3,.bool false)],⟨1,[.row [x,y,.int .i64 st.aZ,.int .i64 st.next,.aJ]],1,md⟩):=by unfold BO;rw[h]
theorem B2(h:st.aa≠[]):BO x y l true st md=some (.ret,FM 24 [(2,.vec 1 0 l.length 4 l.length),(3,.bool true)],⟨3,[.row (aQ st.aa),.row (aG l),.row [x,y,.int .i64 st.aZ,.int .i64 st.next,.vec 2 0 st.aa.length 2 st.aa.length]],0,md⟩):=by
 unfold BO
 cases hn:st.aa with
 |nil=>exact absurd hn h
 |cons q r=>rfl
theorem BW(h:st.aa≠[]):BO x y l false st md=some (.ret,FM 24 [(2,.aJ),(3,.bool false)],⟨2,[.row (aQ st.aa),.row [x,y,.int .i64 st.aZ,.int .i64 st.next,.vec 1 0 st.aa.length 2 st.aa.length]],0,md⟩):=by
 unfold BO
 cases hn:st.aa with
 |nil=>exact absurd hn h
 |cons q r=>rfl
end
theorem Ky(n N w:Nat){x y:AV}{T:List bj}{L:List Tok}(hx:ba x=some T)(hy:bx y=some L)(M:Nat)(aB:List Tm)(st:St)(m md:Nat)(hc:RC T L st)(h0:st.aa≠[])(fy:aB≠[])(h1:aB.length+st.aC.length<=200000)(h2:st.aC.length<N)(h3:st.aC.length<M)(h4:M<=m):
 ∃cq,gu 1 w (bL (aH (aF (b9 [] (xV N)) (n+1)) (n+1) hZ) eM 1 m (kT (.ptr 0 0) (.vec 1 0 aB.length 4 aB.length)) ⟨3,[.row (aQ st.aa),.row (aG aB),.row [x,y,.int .i64 st.aZ,.int .i64 st.next,.vec 2 0 st.aa.length 2 st.aa.length]],0,md⟩)=
   BO x y (bQ (ae T) M aB st).1.1 (bQ (ae T) M aB st).1.2 (bQ (ae T) M aB st).2 cq:=by
 obtain⟨cq,e⟩:=Pa n N w hx hy M aB st m md hc h0 fy h1 h2 h3 h4;have hn:=Bf (a6 T) (M:=M) (aB:=aB) h0;refine⟨cq,e.trans ?_⟩;generalize bQ (ae T) M aB st=I at *;obtain⟨⟨l,ok⟩,s⟩:=I
 cases ok with
 |true=>exact (B2 hn).symm
 |false=>exact (BW hn).symm
attribute [local simp] fX fU fY fR eO eN fP fS fT eQ eR fQ lg kZ lr k9 kX kW fc fe Laid.aK db dc bf hZ eM xV fa ic
theorem U0(n N:Nat){x y:AV}{T:List bj}{L:List Tok}(hx:ba x=some T)(hy:bx y=some L):∀(M:Nat) (aB:List Tm) (st:St) (m md:Nat),RC T L st->st.aa=[]->aB≠[]->aB.length+st.aC.length<=200000->st.aC.length<N->st.aC.length<M->M<=m->
 ∃cq,gu 1 1 (bL (aH (aF (b9 [] (xV N)) (n+1)) (n+1) hZ) eM 1 m (kT (.ptr 0 0) (.vec 1 0 aB.length 4 aB.length)) ⟨2,[.row (aG aB),.row [x,y,.int .i64 st.aZ,.int .i64 st.next,.aJ]],1,md⟩)=
   BO x y (bQ (ae T) M aB st).1.1 (bQ (ae T) M aB st).1.2 (bQ (ae T) M aB st).2 cq
 |0,_,_,_,_,_,_,_,_,_,h,_=>by omega
 |M+1,aB,st,0,_,_,_,_,_,_,_,h=>by omega
 |M+1,aB,st,m+1,md,hc,h0,fy,LO,hN,hM,hm=>by
   have aN:=aR hx;have aP:=aI hy;rw[ak];have H:=a6 T;have q:=dV N hx hy hc 999 hN;have dF:=H.lv 999 st;rw[bz h0,h0,an] at q;have e1:=db (ae T 999 st).2.aa;have e2:=dc (ae T 999 st).2.aa;have e3:=bf (ae T 999 st).2.aa;have hf:=bh aB
   cases bV:(ae T 999 st).1.2.2 with
   |false=>
     rw[oZ bV];rw[bV] at q;dsimp only;have tr:=ay (ae T 999 st).1.1;by_cases h1:(ae T 999 st).2.aa=[]
     .rw[cW h1] at q;simp only[IA h1];generalize (ae T 999 st).1.1=t at *;generalize (ae T 999 st).2=s1 at *;generalize aG aB=A at *;exact⟨min md 0,by simp[q,-af,-aj,-ah,-az,-ck,tr,hf,aN,aP]⟩
     .rw[cH h1] at q;simp only[BW h1];generalize (ae T 999 st).1.1=t at *;generalize (ae T 999 st).2=s1 at *;generalize aG aB=A at *;exact⟨min md 0,by simp[q,-af,-aj,-ah,-az,-ck,e1,e2,e3,tr,hf,aN,aP]⟩
   |true=>
     have ho:=H.ok 999 st bV;obtain⟨c1,l1⟩:=hc.ok ho;have nH:=ho.pos;have qt:=jh hx hy c1 [44];have cO:=b8 [44] (ae T 999 st).2;rw[bV] at q;have gr:=bh (aB++[(ae T 999 st).1.1]);have h8:(aB.length+1)*56<=140737488355328:=by omega
     have h9:aB.length+1<9223372036854775808:=by omega
     have gG:(aG aB).take (aB.length*4)=aG aB:=by rw[List.take_of_length_le];rw[bP];exact Nat.le_refl _
     have iH:=bP aB;have tr:=ay (ae T 999 st).1.1;by_cases h1:(ae T 999 st).2.aa=[]
     .rw[cW h1] at q;rw[bz h1,bz (by rw[cO.1];exact h1),cO.2] at qt
      cases hb:(ax [44] (ae T 999 st).2).1 with
      |false=>have hs:=fF hb;rw[kJ bV hb];rw[hb,hs] at qt;dsimp only;simp only[HE h1];rw[<-bB] at gr|-;rw[List.length_append,List.length_cons,List.length_nil];generalize (ae T 999 st).1.1=t at *;generalize (ae T 999 st).2=s1 at *;generalize aG aB=A at *;exact⟨min md 0,by simp[q,qt,-af,-aj,-ah,-az,-ck,gr,tr,aT,hf,h8,h9,gG,iH,aN,aP]⟩
      |true=>have nj:=dQ hb;obtain⟨c2,l2⟩:=c1.ok nj;have G9:=nj.pos;rw[mg bV hb];obtain⟨cq,ih⟩:=U0 n N hx hy M (aB++[(ae T 999 st).1.1]) (ax [44] (ae T 999 st).2).2 m 0 c2 (by rw[cO.1];exact h1) (by simp) (by simp;omega) (by omega) (by omega) (by omega);rw[hb] at qt;rw[cO.2,<-bB,List.length_append,List.length_cons,List.length_nil] at ih;rw[<-bB] at gr;refine⟨cq,?_⟩;refine Eq.trans ?_ ih;generalize (ax [44] (ae T 999 st).2).2=s2 at *;generalize (ae T 999 st).1.1=t at *;generalize (ae T 999 st).2=s1 at *;generalize aG aB=A at *;simp[q,qt,-af,-aj,-ah,-az,-ck,gr,tr,aT,hf,h8,h9,gG,iH,aN,aP]
     .rw[cH h1] at q;rw[bw h1,bw (by rw[cO.1];exact h1),cO.1,cO.2] at qt
      cases hb:(ax [44] (ae T 999 st).2).1 with
      |false=>have hs:=fF hb;rw[kJ bV hb];rw[hb,hs] at qt;dsimp only;simp only[B2 h1];rw[<-bB] at gr|-;rw[List.length_append,List.length_cons,List.length_nil];generalize (ae T 999 st).1.1=t at *;generalize (ae T 999 st).2=s1 at *;generalize aG aB=A at *;exact⟨min md 0,by simp[q,qt,-af,-aj,-ah,-az,-ck,e1,e2,e3,gr,tr,aT,hf,h8,h9,gG,iH,aN,aP]⟩
      |true=>have nj:=dQ hb;obtain⟨c2,l2⟩:=c1.ok nj;have G9:=nj.pos;rw[mg bV hb];obtain⟨cq,ih⟩:=Ky n N 1 hx hy M (aB++[(ae T 999 st).1.1]) (ax [44] (ae T 999 st).2).2 m 0 c2 (by rw[cO.1];exact h1) (by simp) (by simp;omega) (by omega) (by omega) (by omega);rw[hb] at qt;rw[cO.1,cO.2,<-bB,List.length_append,List.length_cons,List.length_nil] at ih;rw[<-bB] at gr;refine⟨cq,?_⟩;refine Eq.trans ?_ ih;generalize (ax [44] (ae T 999 st).2).2=s2 at *;generalize (ae T 999 st).1.1=t at *;generalize (ae T 999 st).2=s1 at *;generalize aG aB=A at *;simp[q,qt,-af,-aj,-ah,-az,-ck,e1,e2,e3,gr,tr,aT,hf,h8,h9,gG,iH,aN,aP]
theorem adu(n N:Nat){x y:AV}{T:List bj}{L:List Tok}(hx:ba x=some T)(hy:bx y=some L):∀(M:Nat) (st:St) (m md:Nat),RC T L st->st.aa=[]->0+st.aC.length<=200000->st.aC.length<N->st.aC.length<M->M<=m->
 ∃cq,gu 1 1 (bL (aH (aF (b9 [] (xV N)) (n+1)) (n+1) hZ) eM 1 m (kT (.ptr 0 0) .aJ) ⟨1,[.row [x,y,.int .i64 st.aZ,.int .i64 st.next,.aJ]],1,md⟩)=
   BO x y (bQ (ae T) M [] st).1.1 (bQ (ae T) M [] st).1.2 (bQ (ae T) M [] st).2 cq
 |0,_,_,_,_,_,_,_,h,_=>by omega
 |M+1,st,0,_,_,_,_,_,_,h=>by omega
 |M+1,st,m+1,md,hc,h0,LO,hN,hM,hm=>by
   have aN:=aR hx;have aP:=aI hy;rw[ak];have H:=a6 T;have q:=dV N hx hy hc 999 hN;have dF:=H.lv 999 st;rw[bz h0,h0,an] at q;have e1:=db (ae T 999 st).2.aa;have e2:=dc (ae T 999 st).2.aa;have e3:=bf (ae T 999 st).2.aa
   cases bV:(ae T 999 st).1.2.2 with
   |false=>
     rw[oZ bV];rw[bV] at q;dsimp only;have tr:=ay (ae T 999 st).1.1;by_cases h1:(ae T 999 st).2.aa=[]
     .rw[cW h1] at q;simp only[IA h1];generalize (ae T 999 st).1.1=t at *;generalize (ae T 999 st).2=s1 at *;exact⟨min md 0,by simp[q,-af,-aj,-ah,-az,-ck,tr,aN,aP]⟩
     .rw[cH h1] at q;simp only[BW h1];generalize (ae T 999 st).1.1=t at *;generalize (ae T 999 st).2=s1 at *;exact⟨min md 0,by simp[q,-af,-aj,-ah,-az,-ck,e1,e2,e3,tr,aN,aP]⟩
   |true=>
     have ho:=H.ok 999 st bV;obtain⟨c1,l1⟩:=hc.ok ho;have nH:=ho.pos;have qt:=jh hx hy c1 [44];have cO:=b8 [44] (ae T 999 st).2;rw[bV] at q;have gr:=bh ([]++[(ae T 999 st).1.1]);have tr:=ay (ae T 999 st).1.1;by_cases h1:(ae T 999 st).2.aa=[]
     .rw[cW h1] at q;rw[bz h1,bz (by rw[cO.1];exact h1),cO.2] at qt
      cases hb:(ax [44] (ae T 999 st).2).1 with
      |false=>have hs:=fF hb;rw[kJ bV hb];rw[hb,hs] at qt;dsimp only;simp only[HE h1];rw[<-bB] at gr|-;rw[List.length_append,List.length_cons,List.length_nil];generalize (ae T 999 st).1.1=t at *;generalize (ae T 999 st).2=s1 at *;exact⟨min md 0,by simp[q,qt,-af,-aj,-ah,-az,-ck,gr,tr,aT,aG,aN,aP]⟩
      |true=>have nj:=dQ hb;obtain⟨c2,l2⟩:=c1.ok nj;have G9:=nj.pos;rw[mg bV hb];obtain⟨cq,ih⟩:=U0 n N hx hy M ([]++[(ae T 999 st).1.1]) (ax [44] (ae T 999 st).2).2 m 0 c2 (by rw[cO.1];exact h1) (by simp) (by simp;omega) (by omega) (by omega) (by omega);rw[hb] at qt;rw[cO.2,<-bB,List.length_append,List.length_cons,List.length_nil] at ih;rw[<-bB] at gr;refine⟨cq,?_⟩;refine Eq.trans ?_ ih;generalize (ax [44] (ae T 999 st).2).2=s2 at *;generalize (ae T 999 st).1.1=t at *;generalize (ae T 999 st).2=s1 at *;simp[q,qt,-af,-aj,-ah,-az,-ck,gr,tr,aT,aG,aN,aP]
     .rw[cH h1] at q;rw[bw h1,bw (by rw[cO.1];exact h1),cO.1,cO.2] at qt
      cases hb:(ax [44] (ae T 999 st).2).1 with
      |false=>have hs:=fF hb;rw[kJ bV hb];rw[hb,hs] at qt;dsimp only;simp only[B2 h1];rw[<-bB] at gr|-;rw[List.length_append,List.length_cons,List.length_nil];generalize (ae T 999 st).1.1=t at *;generalize (ae T 999 st).2=s1 at *;exact⟨min md 0,by simp[q,qt,-af,-aj,-ah,-az,-ck,e1,e2,e3,gr,tr,aT,aG,aN,aP]⟩
      |true=>have nj:=dQ hb;obtain⟨c2,l2⟩:=c1.ok nj;have G9:=nj.pos;rw[mg bV hb];obtain⟨cq,ih⟩:=Ky n N 1 hx hy M ([]++[(ae T 999 st).1.1]) (ax [44] (ae T 999 st).2).2 m 0 c2 (by rw[cO.1];exact h1) (by simp) (by simp;omega) (by omega) (by omega) (by omega);rw[hb] at qt;rw[cO.1,cO.2,<-bB,List.length_append,List.length_cons,List.length_nil] at ih;rw[<-bB] at gr;refine⟨cq,?_⟩;refine Eq.trans ?_ ih;generalize (ax [44] (ae T 999 st).2).2=s2 at *;generalize (ae T 999 st).1.1=t at *;generalize (ae T 999 st).2=s1 at *;simp[q,qt,-af,-aj,-ah,-az,-ck,e1,e2,e3,gr,tr,aT,aG,aN,aP]
end
section
theorem lD{rec:Int->St->PR×St}:∀(M:Nat) (aB:List Tm) (st:St),(bQ rec M aB st).1.2=true->(bQ rec M aB st).1.1≠[]/\(bQ rec M aB st).1.1.length<=aB.length+M
 |0,aB,st,h=>by cases h
 |M+1,aB,st,h=>by
   unfold bQ at h|-;by_cases d1:(rec 999 st).1.2.2=true
   .rw[if_pos d1] at h|-;by_cases d2:(ax [44] (rec 999 st).2).1=true
    .rw[if_pos d2] at h|-;have:=lD M _ _ h;simp only[List.length_append,List.length_cons,List.length_nil] at this;exact⟨this.1,by omega⟩
    .rw[if_neg d2];exact⟨by simp,by simp⟩
   .rw[if_neg d1] at h;cases h
def Mo(x y:AV)(l:List Tm)(ok:Bool)(st:St)(md:Nat):Option (Ex×List AV×ai):=
 if ok then some (.ret,FM 24 [(2,.vec 2 0 l.length 4 l.length),(3,.bool true)],⟨4,[.row (aQ st.aa),.row (aG l),.dead,.row [x,y,.int .i64 st.aZ,.int .i64 st.next,.vec 3 0 st.aa.length 2 st.aa.length]],0,md⟩)
 else some (.ret,FM 24 [(2,.aJ),(3,.bool false)],⟨3,[.row (aQ st.aa),.dead,.row [x,y,.int .i64 st.aZ,.int .i64 st.next,.vec 2 0 st.aa.length 2 st.aa.length]],0,md⟩)
theorem Tc(n N w:Nat){x y:AV}{T:List bj}{L:List Tok}(hx:ba x=some T)(hy:bx y=some L)(M:Nat)(aB:List Tm)(st:St)(m md:Nat)(hc:RC T L st)(h0:st.aa≠[])(fy:aB≠[])(h1:aB.length+st.aC.length<=200000)(h2:st.aC.length<N)(h3:st.aC.length<M)(h4:M<=m):
 ∃cq,gu 2 w (bL (aH (aF (b9 [] (xV N)) (n+1)) (n+1) hZ) eM 2 m (kT (.ptr 0 0) (.vec 2 0 aB.length 4 aB.length)) ⟨4,[.row (aQ st.aa),.row (aG aB),.dead,.row [x,y,.int .i64 st.aZ,.int .i64 st.next,.vec 3 0 st.aa.length 2 st.aa.length]],0,md⟩)=
   Mo x y (bQ (ae T) M aB st).1.1 (bQ (ae T) M aB st).1.2 (bQ (ae T) M aB st).2 cq:=by
 obtain⟨cq,e⟩:=Oy n N w hx hy M aB st m md hc h0 fy h1 h2 h3 h4;refine⟨cq,e.trans ?_⟩;generalize bQ (ae T) M aB st=I at *;obtain⟨⟨l,ok⟩,s⟩:=I;cases ok<;>rfl
attribute [local simp] fX fU fY fR eO eN fP fS fT eQ eR fQ lg kZ lr k9 kX kW fc fe Laid.aK db dc bf eM xV fa ic
theorem acX(n N:Nat){x y:AV}{T:List bj}{L:List Tok}(hx:ba x=some T)(hy:bx y=some L)(M:Nat)(st:St)(m md:Nat)(hc:RC T L st)(h0:st.aa≠[])(LO:st.aC.length<=190000)(hN:st.aC.length<N)(hM:st.aC.length<M+1)(hm:M<=m):
 ∃cq,gu 2 2 (bL (aH (aF (b9 [] (xV N)) (n+1)) (n+1) hZ) eM 2 (m+1) (kT (.ptr 0 0) .aJ) ⟨2,[.row (aQ st.aa),.row [x,y,.int .i64 st.aZ,.int .i64 st.next,.vec 1 0 st.aa.length 2 st.aa.length]],2,md⟩)=
   Mo x y (bQ (ae T) (M+1) [] st).1.1 (bQ (ae T) (M+1) [] st).1.2 (bQ (ae T) (M+1) [] st).2 cq:=by
 have aN:=aR hx;have aP:=aI hy;rw[ak];have H:=a6 T;have q:=dV N hx hy hc 999 hN;have dF:=H.lv 999 st;have h1:=dF.aa h0;rw[bw h0,dW h0 h1,an] at q;have e1:=db (ae T 999 st).2.aa;have e2:=dc (ae T 999 st).2.aa;have e3:=bf (ae T 999 st).2.aa;have tr:=ay (ae T 999 st).1.1
 cases bV:(ae T 999 st).1.2.2 with
 |false=>rw[oZ bV];rw[bV] at q;simp only[Mo,if_false,Bool.false_eq_true];generalize (ae T 999 st).1.1=t at *;generalize (ae T 999 st).2=s1 at *;exact⟨min md 0,by simp[hZ,q,-af,-aj,-ah,-az,-ck,e1,e2,e3,tr,aN,aP]⟩
 |true=>
   have ho:=H.ok 999 st bV;obtain⟨c1,l1⟩:=hc.ok ho;have nH:=ho.pos;have qt:=jh hx hy c1 [44];have cO:=b8 [44] (ae T 999 st).2;rw[bw h1,bw (by rw[cO.1];exact h1),cO.1,cO.2] at qt;rw[bV] at q;have gr:=bh ([]++[(ae T 999 st).1.1])
   cases hb:(ax [44] (ae T 999 st).2).1 with
   |false=>have hs:=fF hb;rw[kJ bV hb];rw[hb,hs] at qt;simp only[Mo,if_true];rw[<-bB] at gr|-;rw[List.length_append,List.length_cons,List.length_nil];generalize (ae T 999 st).1.1=t at *;generalize (ae T 999 st).2=s1 at *;exact⟨min md 0,by simp[hZ,q,qt,-af,-aj,-ah,-az,-ck,e1,e2,e3,gr,tr,aT,aG,aN,aP]⟩
   |true=>have nj:=dQ hb;obtain⟨c2,l2⟩:=c1.ok nj;have G9:=nj.pos;rw[mg bV hb];obtain⟨cq,ih⟩:=Tc n N 2 hx hy M ([]++[(ae T 999 st).1.1]) (ax [44] (ae T 999 st).2).2 m 0 c2 (by rw[cO.1];exact h1) (by simp) (by simp;omega) (by omega) (by omega) (by omega);rw[hb] at qt;rw[cO.1,cO.2,<-bB,List.length_append,List.length_cons,List.length_nil] at ih;rw[<-bB] at gr;refine⟨cq,?_⟩;refine Eq.trans ?_ ih;generalize (ax [44] (ae T 999 st).2).2=s2 at *;generalize (ae T 999 st).1.1=t at *;generalize (ae T 999 st).2=s1 at *;simp[hZ,q,qt,-af,-aj,-ah,-az,-ck,e1,e2,e3,gr,tr,aT,aG,aN,aP]
def ar(T:List bj)(st:St):(List Tm×Bool)×St:=bQ (ae T) (st.aC.length+1) [] st
noncomputable def pc(N:Nat):cr:=⟨163,λ
 |[.ptr 0 0],os=>(match wU os with
   |some R=>if R.st.aC.length<N then some (.tuple [wx (if (ar R.T R.st).1.2 then (ar R.T R.st).1.1 else []),.bool (ar R.T R.st).1.2],some (gF R.x R.y R.st.aa (ar R.T R.st).2)) else none
   |none=>none)
 |_,_=>none⟩
theorem sG(N:Nat):(pc N).f=163:=(rfl)
theorem mu(N:Nat){x y:AV}{T:List bj}{L:List Tok}{st:St}(hx:ba x=some T)(hy:bx y=some L)(h:RC T L st)(hn:st.aC.length<N):
 (pc N).S [.ptr 0 0] (fq x y st)=some (.tuple [wx (if (ar T st).1.2 then (ar T st).1.1 else []),.bool (ar T st).1.2],some (gF x y st.aa (ar T st).2)):=by
 simp only[pc,lU hx hy h];rw[if_pos hn]
theorem sh{l:List Tm}(h:l≠[]):wx l=.sl (l.map Tm.aV):=by
 cases l with
 |nil=>exact absurd rfl h
 |cons a r=>rfl
theorem sA{h:ai}{n0 d id:Nat}{l:List Tm}(hl:l≠[])(cG:n0<=id)(hg:h.get id=some (.row (aG l))):jF h n0 (d+2) (.vec id 0 l.length 4 l.length)=some (.sl (l.map Tm.aV),[id]):=by
 cases l with
 |nil=>exact absurd rfl hl
 |cons a r=>exact aaQ a r cG hg
theorem N0(N:Nat){x y:AV}{T:List bj}{L:List Tok}{st:St}(hx:ba x=some T)(hy:bx y=some L)(hc:RC T L st)(hN:st.aC.length<N)(hE:cT Tryz.prog cX (b9 [] (xV N))):
 dA Tryz.prog cX 163 [.ptr 0 0] (fq x y st) (.tuple [wx (if (ar T st).1.2 then (ar T st).1.1 else []),.bool (ar T st).1.2]) (some (gF x y st.aa (ar T st).2)):=by
 have aN:=aR hx;have aP:=aI hy;have x1:=aN.aK;have y1:=aP.aK;have qm:st.aC.length<=100000:=by rw[hc.aC,List.length_drop,eZ];have:=hc.lb;omega
 have hv:∀(l:List Tm) (b:Bool),(AV.tuple [wx l,.bool b]).aK=0:=λl b=>by simp[AV.aK,AV.aw,Lm]
 have fy:=lD (rec:=ae T) (st.aC.length+1) [] st;by_cases h0:st.aa=[]
 .obtain⟨cq,lp⟩:=adu 199998 N hx hy (st.aC.length+1) st 199999 1 hc h0 (by omega) hN (by omega) (by omega);change _=BO x y (ar T st).1.1 (ar T st).1.2 (ar T st).2 cq at lp;change (ar T st).1.2=true->(ar T st).1.1≠[]/\_ at fy;by_cases h1:(ar T st).2.aa=[]
  .cases bV:(ar T st).1.2 with
   |true=>
     have hl:=(fy bV).1;rw[bV,HE h1] at lp;rw[if_pos rfl];refine dP (n:=200000) hE aN aP h0 h1 ?_ (hv _ _) rfl;rw[sh hl];have fk:∀(A:bp) (wl md d:Nat),jF ⟨2,[.row (aG (ar T st).1.1),A],wl,md⟩ 1 (d+2) (.vec 1 0 (ar T st).1.1.length 4 (ar T st).1.1.length)=some (.sl ((ar T st).1.1.map Tm.aV),[1]):=λA wl md d=>sA hl (by omega) rfl
     have hr:=bF (ar T st).1.1;simp only[eM,kT,xV] at lp;generalize (ar T st).1.1.map Tm.aV=U at *;generalize aG (ar T st).1.1=A at *;generalize (ar T st).1.1.length=k at *;generalize (ar T st).2=s1 at *;simp[u7,Hv,eM,xV,fa,ic,lp,fk,x1,y1,hr,-iA]
   |false=>rw[bV,IA h1] at lp;rw[if_neg (by simp)];refine dP (n:=200000) hE aN aP h0 h1 ?_ (hv _ _) rfl;simp only[eM,kT,xV] at lp;generalize (ar T st).2=s1 at *;simp[u7,Hv,eM,xV,fa,ic,lp,x1,y1,wx]
  .have e3:=bf (ar T st).2.aa
   cases bV:(ar T st).1.2 with
   |true=>
     have hl:=(fy bV).1;rw[bV,B2 h1] at lp;rw[if_pos rfl];refine eJ (n:=200000) hE aN aP 2 (by decide) h0 h1 ?_ (hv _ _) rfl;rw[sh hl];have fk:∀(A B:bp) (wl md d:Nat),jF ⟨3,[B,.row (aG (ar T st).1.1),A],wl,md⟩ 1 (d+2) (.vec 1 0 (ar T st).1.1.length 4 (ar T st).1.1.length)=some (.sl ((ar T st).1.1.map Tm.aV),[1]):=λA B wl md d=>sA hl (by omega) rfl
     have hr:=bF (ar T st).1.1;simp only[eM,kT,xV] at lp;generalize (ar T st).1.1.map Tm.aV=U at *;generalize aG (ar T st).1.1=A at *;generalize (ar T st).1.1.length=k at *;generalize (ar T st).2=s1 at *;simp[u7,Hv,eM,xV,fa,ic,lp,fk,x1,y1,hr,e3,-iA]
   |false=>rw[bV,BW h1] at lp;rw[if_neg (by simp)];refine eJ (n:=200000) hE aN aP 1 (by decide) h0 h1 ?_ (hv _ _) rfl;simp only[eM,kT,xV] at lp;generalize (ar T st).2=s1 at *;simp[u7,Hv,eM,xV,fa,ic,lp,x1,y1,e3,wx]
 .obtain⟨cq,lp⟩:=acX 199998 N hx hy st.aC.length st 199998 2 hc h0 (by omega) hN (by omega) (by omega);change _=Mo x y (ar T st).1.1 (ar T st).1.2 (ar T st).2 cq at lp;change (ar T st).1.2=true->(ar T st).1.1≠[]/\_ at fy;have h1:(ar T st).2.aa≠[]:=Bf (a6 T) h0;have e3:=bf (ar T st).2.aa;have f3:=bf st.aa
  cases bV:(ar T st).1.2 with
  |true=>
    have hl:=(fy bV).1;rw[bV] at lp;simp only[Mo,if_true] at lp;rw[if_pos rfl];refine dB (n:=200000) hE aN aP 3 (by decide) h0 h1 ?_ (hv _ _) rfl;rw[sh hl];have fk:∀(A B C:bp) (wl md d:Nat),jF ⟨4,[B,.row (aG (ar T st).1.1),C,A],wl,md⟩ 2 (d+2) (.vec 2 0 (ar T st).1.1.length 4 (ar T st).1.1.length)=some (.sl ((ar T st).1.1.map Tm.aV),[2]):=λA B C wl md d=>sA hl (by omega) rfl
    have hr:=bF (ar T st).1.1;simp only[eM,kT,xV] at lp;generalize (ar T st).1.1.map Tm.aV=U at *;generalize aG (ar T st).1.1=A at *;generalize (ar T st).1.1.length=k at *;generalize (ar T st).2=s1 at *;simp[u7,Hv,eM,xV,fa,ic,lp,fk,x1,y1,hr,e3,f3,-iA]
  |false=>rw[bV] at lp;simp only[Mo,if_false,Bool.false_eq_true] at lp;rw[if_neg (by simp)];refine dB (n:=200000) hE aN aP 2 (by decide) h0 h1 ?_ (hv _ _) rfl;simp only[eM,kT,xV] at lp;generalize (ar T st).2=s1 at *;simp[u7,Hv,eM,xV,fa,ic,lp,x1,y1,e3,f3,wx]
theorem Bq(N:Nat)(hN:cC Tryz.prog cX (iZ N)):cC Tryz.prog cX (pc N):=λag os v r hv=>by
 unfold pc at hv;dsimp only at hv;split at hv
 .rename_i os;split at hv
  .rename_i R hR;split at hv
   .rename_i hc;cases hv;obtain⟨hx,hy,rfl,h⟩:=kM hR;rw[sG];exact N0 N hx hy h hc (dK (by simp) (by simp[xV,hN,Ed]))
   .cases hv
  .cases hv
 .cases hv
end
section
def jO(T:List bj)(st:St):(Tm×Bool)×St:=nc (ae T) (st.aC.length+1) st
theorem FL{T:List bj}{st:St}(h:(ar T st).1.2=false):jO T st=((gk [91,93],false),(ar T st).2):=by unfold jO nc;change (if (ar T st).1.2=true then _ else ((gk [91,93],false),(ar T st).2))=_;rw[h,if_neg (by simp)]
theorem p7{T:List bj}{st:St}(h:(ar T st).1.2=true):jO T st=nR (ae T) (ar T st).1.1 (ar T st).2:=by unfold jO nc;change (if (ar T st).1.2=true then nR (ae T) (ar T st).1.1 (ar T st).2 else _)=_;rw[h,if_pos rfl]
theorem Hy{rec:Int->St->PR×St}{l:List Tm}{st:St}(h:(ax [124] st).1=false):nR rec l st=((dm l (gk [91,93]),(ax [93] st).1),(ax [93] st).2):=by unfold nR;rw[h,if_neg (by simp)]
section
variable {rec:Int->St->PR×St}{l:List Tm}{st:St}(h:(ax [124] st).1=true)
include h
theorem JN(h2:(rec 999 (ax [124] st).2).1.2.2=false):nR rec l st=((dm l (rec 999 (ax [124] st).2).1.1,false),(rec 999 (ax [124] st).2).2):=by unfold nR;rw[h,if_pos rfl,h2,if_neg (by simp)]
theorem AY(h2:(rec 999 (ax [124] st).2).1.2.2=true):nR rec l st=((dm l (rec 999 (ax [124] st).2).1.1,(ax [93] (rec 999 (ax [124] st).2).2).1),(ax [93] (rec 999 (ax [124] st).2).2).2):=by unfold nR;rw[h,if_pos rfl,h2,if_pos rfl]
end
theorem cU(T:List bj)(st:St):Lv st (ar T st).2/\((ar T st).1.2=true->Ok st (ar T st).2):=mA (a6 T) _ [] st
noncomputable def Yt:List aX:=[F6,D5]
noncomputable def Ys(N:Nat):List cr:=[pc N,BB,iZ N]
theorem jZ(t:Tm)(b:Bool):(AV.tuple [t.aV,.bool b]).aK=0:=by simp[AV.aK,AV.aw,Tm.cm]
attribute [local simp] fX fU fY fR eO eN fP fS fT eQ eR fQ lg kZ lr k9 kX kW fc fe Laid.aK db dc bf XU Xy bc Yt Ys PU YS sG ic fa
abbrev uE(x:AV)(y:AV)(T:List bj)(st:St):Prop:=dA Tryz.prog cX 161 [.ptr 0 0] (fq x y st) (.tuple [(jO T st).1.1.aV,.bool (jO T st).1.2]) (some (gF x y st.aa (jO T st).2))
section
variable (N:Nat){x y:AV}{T:List bj}{L:List Tok}{st:St}(hx:ba x=some T)(hy:bx y=some L)(hc:RC T L st)(hN:st.aC.length<N)(hE:cT Tryz.prog cX (b9 Yt (Ys N)))
include N hx hy hc hN hE
theorem abK(bV:(ar T st).1.2=false):
 uE x y T st:=by
 unfold uE;rw[FL bV];have aN:=aR hx;have aP:=aI hy;have q1:=mu N hx hy hc hN;rw[bV,if_neg (by simp)] at q1;simp only[wx] at q1;have qa:=pA [91,93];have ql:D5.S [.aJ,.agg [.int .i64 2,.int .i64 0,.str [91,93],.aJ]]=some (.agg [.int .i64 2,.int .i64 0,.str [91,93],.aJ]):=rfl;have dF:=(cU T st).1;dsimp only;generalize (ar T st).2=s1 at *;by_cases h0:st.aa=[];by_cases h1:s1.aa=[];rw[bz h0,h0,cW h1] at q1;refine dP (n:=8) hE aN aP h0 h1 ?_ (jZ _ _) rfl
 rotate_left
 rw[bz h0,h0,cH h1] at q1;refine eJ (n:=8) hE aN aP 2 (by decide) h0 h1 ?_ (jZ _ _) rfl
 rotate_left
 have h1:s1.aa≠[]:=dF.aa h0;rw[bw h0,dW h0 h1] at q1;refine dB (n:=8) hE aN aP 3 (by decide) h0 h1 ?_ (jZ _ _) rfl
 rotate_left
 all_goals
  rw[show (gk [91,93]).aV=.agg [.int .i64 2,.int .i64 0,.str [91,93],.aJ] from rfl];simp[q1,qa,ql,-af,-aj,-ah,-az,-ck,aN,aP]
theorem adT(bV:(ar T st).1.2=true)(hb:(ax [124] (ar T st).2).1=false):
 uE x y T st:=by
 unfold uE;rw[p7 bV,Hy hb];have aN:=aR hx;have aP:=aI hy;have dF:=(cU T st).1;have ho:=(cU T st).2 bV;obtain⟨c1,l1⟩:=hc.ok ho;have hl:=lD (rec:=ae T) (st.aC.length+1) [] st bV;change (ar T st).1.1≠[]/\(ar T st).1.1.length<=_ at hl;have qm:st.aC.length<=100000:=by rw[hc.aC,List.length_drop,eZ];have:=hc.lb;omega
 have q1:=mu N hx hy hc hN;rw[bV,if_pos rfl,sh hl.1] at q1;have qa:=pA [91,93];have q2:=jh hx hy c1 [124];have Ot:=ho.pos;have q4:=jh hx hy c1 [93];have ff:=b8 [93] (ar T st).2;rw[hb,fF hb] at q2;have ql:=Dr (ar T st).1.1 (gk [91,93]) (by simp at hl;omega);rw[show (gk [91,93]).aV=.agg [.int .i64 2,.int .i64 0,.str [91,93],.aJ] from rfl,an] at ql;have ur:=bF (ar T st).1.1;dsimp only;generalize (ar T st).2=s1 at *;generalize (ar T st).1.1=l at *;have rr:=ay (dm l (gk [91,93]));clear hl;generalize l.map Tm.aV=U at *;by_cases h0:st.aa=[];by_cases h1:s1.aa=[];rw[bz h0,h0,cW h1] at q1;rw[bz h1] at q2;rw[bz h1,bz (by rw[ff.1];exact h1),ff.2] at q4;refine dP (n:=8) hE aN aP h0 (by rw[ff.1];exact h1) ?_ (jZ _ _) rfl;rw[an,ff.2]
 rotate_left
 rw[bz h0,h0,cH h1] at q1;rw[bw h1] at q2;rw[bw h1,bw (by rw[ff.1];exact h1),ff.1,ff.2] at q4;refine eJ (n:=8) hE aN aP 2 (by decide) h0 (by rw[ff.1];exact h1) ?_ (jZ _ _) rfl;rw[an,ff.1,ff.2]
 rotate_left
 have h1:s1.aa≠[]:=dF.aa h0;rw[bw h0,dW h0 h1] at q1;rw[bw h1] at q2;rw[bw h1,bw (by rw[ff.1];exact h1),ff.1,ff.2] at q4;refine dB (n:=8) hE aN aP 3 (by decide) h0 (by rw[ff.1];exact h1) ?_ (jZ _ _) rfl;rw[an,ff.1,ff.2]
 rotate_left
 all_goals
  generalize dm l (gk [91,93])=r at *;generalize ax [93] s1=b4 at *;obtain⟨b4,s4⟩:=b4;simp[q1,q2,q4,qa,ql,rr,ur,-af,-aj,-ah,-az,-ck,aN,aP]
theorem abX(bV:(ar T st).1.2=true)(hb:(ax [124] (ar T st).2).1=true)(hr:(ae T 999 (ax [124] (ar T st).2).2).1.2.2=false):
 uE x y T st:=by
 unfold uE;rw[p7 bV,JN hb hr];have aN:=aR hx;have aP:=aI hy;have dF:=(cU T st).1;have ho:=(cU T st).2 bV;obtain⟨c1,l1⟩:=hc.ok ho;have hl:=lD (rec:=ae T) (st.aC.length+1) [] st bV;change (ar T st).1.1≠[]/\(ar T st).1.1.length<=_ at hl;have qm:st.aC.length<=100000:=by rw[hc.aC,List.length_drop,eZ];have:=hc.lb;omega
 have q1:=mu N hx hy hc hN;rw[bV,if_pos rfl,sh hl.1] at q1;have qa:=pA [91,93];have q2:=jh hx hy c1 [124];have Ot:=ho.pos;have nj:=dQ hb;obtain⟨c2,l2⟩:=c1.ok nj;have ET:=nj.pos;have cO:=b8 [124] (ar T st).2;rw[hb] at q2;have q3:=dV N hx hy c2 999 (by omega);rw[hr,an] at q3;have zk:=(a6 T).lv 999 (ax [124] (ar T st).2).2;have Ql:(ar T st).2.aa≠[]->(ae T 999 (ax [124] (ar T st).2).2).2.aa≠[]:=λh=>zk.aa (by rw[cO.1];exact h)
 have ql:=Dr (ar T st).1.1 (ae T 999 (ax [124] (ar T st).2).2).1.1 (by simp at hl;omega);rw[an,an (dm _ _)] at ql;have ur:=bF (ar T st).1.1;dsimp only;clear zk;generalize (ae T 999 (ax [124] (ar T st).2).2).2=s3 at *;generalize (ae T 999 (ax [124] (ar T st).2).2).1.1=t2 at *;generalize (ax [124] (ar T st).2).2=s2 at *;generalize (ar T st).2=s1 at *;generalize (ar T st).1.1=l at *;have tr:=ay t2;have rr:=ay (dm l t2);clear hl;generalize l.map Tm.aV=U at *;by_cases h0:st.aa=[];by_cases h1:s1.aa=[];by_cases h2:s3.aa=[];rw[bz h0,h0,cW h1] at q1;rw[bz h1,bz (by rw[cO.1];exact h1),cO.2] at q2;rw[bz (by rw[cO.1];exact h1),cO.1,h1,cW h2,cO.2] at q3;refine dP (n:=8) hE aN aP h0 h2 ?_ (jZ _ _) rfl
 rotate_left
 rw[bz h0,h0,cW h1] at q1;rw[bz h1,bz (by rw[cO.1];exact h1),cO.2] at q2;rw[bz (by rw[cO.1];exact h1),cO.1,h1,cH h2,cO.2] at q3;refine eJ (n:=8) hE aN aP 3 (by decide) h0 h2 ?_ (jZ _ _) rfl
 rotate_left
 have h2:s3.aa≠[]:=Ql h1;rw[bz h0,h0,cH h1] at q1;rw[bw h1,bw (by rw[cO.1];exact h1),cO.1,cO.2] at q2;rw[bw (by rw[cO.1];exact h1),cO.1,dW h1 h2,cO.2] at q3;refine eJ (n:=8) hE aN aP 4 (by decide) h0 h2 ?_ (jZ _ _) rfl
 rotate_left
 have h1:s1.aa≠[]:=dF.aa h0;have h2:s3.aa≠[]:=Ql h1;rw[bw h0,dW h0 h1] at q1;rw[bw h1,bw (by rw[cO.1];exact h1),cO.1,cO.2] at q2;rw[bw (by rw[cO.1];exact h1),cO.1,dW h1 h2,cO.2] at q3;refine dB (n:=8) hE aN aP 5 (by decide) h0 h2 ?_ (jZ _ _) rfl
 rotate_left
 all_goals
  rw[an];generalize dm l t2=r at *;simp[q1,q2,q3,qa,ql,rr,tr,ur,-af,-aj,-ah,-az,-ck,aN,aP]
theorem acv(bV:(ar T st).1.2=true)(hb:(ax [124] (ar T st).2).1=true)(hr:(ae T 999 (ax [124] (ar T st).2).2).1.2.2=true):
 uE x y T st:=by
 unfold uE;rw[p7 bV,AY hb hr];have aN:=aR hx;have aP:=aI hy;have dF:=(cU T st).1;have ho:=(cU T st).2 bV;obtain⟨c1,l1⟩:=hc.ok ho;have hl:=lD (rec:=ae T) (st.aC.length+1) [] st bV;change (ar T st).1.1≠[]/\(ar T st).1.1.length<=_ at hl;have qm:st.aC.length<=100000:=by rw[hc.aC,List.length_drop,eZ];have:=hc.lb;omega
 have q1:=mu N hx hy hc hN;rw[bV,if_pos rfl,sh hl.1] at q1;have qa:=pA [91,93];have q2:=jh hx hy c1 [124];have Ot:=ho.pos;have nj:=dQ hb;obtain⟨c2,l2⟩:=c1.ok nj;have ET:=nj.pos;have cO:=b8 [124] (ar T st).2;rw[hb] at q2;have q3:=dV N hx hy c2 999 (by omega);rw[hr,an] at q3;have zk:=(a6 T).lv 999 (ax [124] (ar T st).2).2;have Ql:(ar T st).2.aa≠[]->(ae T 999 (ax [124] (ar T st).2).2).2.aa≠[]:=λh=>zk.aa (by rw[cO.1];exact h)
 have ql:=Dr (ar T st).1.1 (ae T 999 (ax [124] (ar T st).2).2).1.1 (by simp at hl;omega);rw[an,an (dm _ _)] at ql;obtain⟨c3,l3⟩:=c2.ok ((a6 T).ok 999 _ hr);have q4:=jh hx hy c3 [93];have ff:=b8 [93] (ae T 999 (ax [124] (ar T st).2).2).2;have ur:=bF (ar T st).1.1;dsimp only;clear zk;generalize (ae T 999 (ax [124] (ar T st).2).2).2=s3 at *;generalize (ae T 999 (ax [124] (ar T st).2).2).1.1=t2 at *;generalize (ax [124] (ar T st).2).2=s2 at *;generalize (ar T st).2=s1 at *;generalize (ar T st).1.1=l at *;have tr:=ay t2;have rr:=ay (dm l t2);clear hl;generalize l.map Tm.aV=U at *;by_cases h0:st.aa=[];by_cases h1:s1.aa=[];by_cases h2:s3.aa=[];rw[bz h0,h0,cW h1] at q1;rw[bz h1,bz (by rw[cO.1];exact h1),cO.2] at q2;rw[bz (by rw[cO.1];exact h1),cO.1,h1,cW h2,cO.2] at q3;rw[bz h2,bz (by rw[ff.1];exact h2),ff.2] at q4;refine dP (n:=8) hE aN aP h0 (by rw[ff.1];exact h2) ?_ (jZ _ _) rfl;rw[an,ff.2]
 rotate_left
 rw[bz h0,h0,cW h1] at q1;rw[bz h1,bz (by rw[cO.1];exact h1),cO.2] at q2;rw[bz (by rw[cO.1];exact h1),cO.1,h1,cH h2,cO.2] at q3;rw[bw h2,bw (by rw[ff.1];exact h2),ff.1,ff.2] at q4;refine eJ (n:=8) hE aN aP 3 (by decide) h0 (by rw[ff.1];exact h2) ?_ (jZ _ _) rfl;rw[an,ff.1,ff.2]
 rotate_left
 have h2:s3.aa≠[]:=Ql h1;rw[bz h0,h0,cH h1] at q1;rw[bw h1,bw (by rw[cO.1];exact h1),cO.1,cO.2] at q2;rw[bw (by rw[cO.1];exact h1),cO.1,dW h1 h2,cO.2] at q3;rw[bw h2,bw (by rw[ff.1];exact h2),ff.1,ff.2] at q4;refine eJ (n:=8) hE aN aP 4 (by decide) h0 (by rw[ff.1];exact h2) ?_ (jZ _ _) rfl;rw[an,ff.1,ff.2]
 rotate_left
 have h1:s1.aa≠[]:=dF.aa h0;have h2:s3.aa≠[]:=Ql h1;rw[bw h0,dW h0 h1] at q1;rw[bw h1,bw (by rw[cO.1];exact h1),cO.1,cO.2] at q2;rw[bw (by rw[cO.1];exact h1),cO.1,dW h1 h2,cO.2] at q3;rw[bw h2,bw (by rw[ff.1];exact h2),ff.1,ff.2] at q4;refine dB (n:=8) hE aN aP 5 (by decide) h0 (by rw[ff.1];exact h2) ?_ (jZ _ _) rfl;rw[an,ff.1,ff.2]
 rotate_left
 all_goals
  generalize dm l t2=r at *;generalize ax [93] s3=b4 at *;obtain⟨b4,s4⟩:=b4;simp[q1,q2,q3,qa,ql,rr,tr,ur,q4,-af,-aj,-ah,-az,-ck,aN,aP]
end
noncomputable def vR(N:Nat):cr:=⟨161,λ
 |[.ptr 0 0],os=>(match wU os with
   |some R=>if R.st.aC.length<N then some (.tuple [(jO R.T R.st).1.1.aV,.bool (jO R.T R.st).1.2],some (gF R.x R.y R.st.aa (jO R.T R.st).2)) else none
   |none=>none)
 |_,_=>none⟩
theorem zK(N:Nat):(vR N).f=161:=(rfl)
theorem ND(N:Nat){x y:AV}{T:List bj}{L:List Tok}{st:St}(hx:ba x=some T)(hy:bx y=some L)(h:RC T L st)(hn:st.aC.length<N):
 (vR N).S [.ptr 0 0] (fq x y st)=some (.tuple [(jO T st).1.1.aV,.bool (jO T st).1.2],some (gF x y st.aa (jO T st).2)):=by
 simp only[vR,lU hx hy h];rw[if_pos hn]
theorem Nz(N:Nat)(hN:cC Tryz.prog cX (iZ N)):cC Tryz.prog cX (vR N):=λag os v r hv=>by
 unfold vR at hv;dsimp only at hv;split at hv
 .rename_i os;split at hv
  .rename_i R hR;split at hv
   .rename_i hn;cases hv;obtain⟨hx,hy,rfl,h⟩:=kM hR;rw[zK];have hE:cT Tryz.prog cX (b9 Yt (Ys N)):=dK (by simp[Yt,JX.lift,Wy.lift]) (by simp[Ys,hN,Ed,Bq N hN])
    cases bV:(ar R.T R.st).1.2 with
    |false=>exact abK N hx hy h hn hE bV
    |true=>
      cases hb:(ax [124] (ar R.T R.st).2).1 with
      |false=>exact adT N hx hy h hn hE bV hb
      |true=>
        cases hr:(ae R.T 999 (ax [124] (ar R.T R.st).2).2).1.2.2 with
        |false=>exact abX N hx hy h hn hE bV hb hr
        |true=>exact acv N hx hy h hn hE bV hb hr
   .cases hv
  .cases hv
 .cases hv
end
section
def tQ(t:Tok):qQ:=⟨t.au,t.aD,t.cF,t.jq,false⟩
noncomputable def ZQ:List aX:=[F6,Ox,tM,An,ye]
noncomputable def Zn(N:Nat):List cr:=[vC,iZ N]
theorem bE(t:Tm)(n:Int)(b:Bool):(AV.tuple [t.aV,.int .i64 n,.bool b]).aK=0:=by simp[AV.aK,AV.aw,Tm.cm]
theorem cg(t:Tok)(n:Int):AV.aw [t.aV,.int .i64 n]=0:=rfl
theorem br(t:Tm):t.ca.cells? =some [t.ca]:=by cases t<;>rfl
theorem pT(s:List UInt8)(u:Tm):(bM s [u]).aV=.agg [.int .i64 2,.int .i64 0,.str s,.sl [.agg [.int .i64 u.au,.int .i64 u.cF,.str u.bH,u.ca]]]:=by rw[<-an];rfl
theorem Dx(s:List UInt8)(u v:Tm):(bM s [u,v]).aV=.agg [.int .i64 2,.int .i64 0,.str s,.sl [.agg [.int .i64 u.au,.int .i64 u.cF,.str u.bH,u.ca],.agg [.int .i64 v.au,.int .i64 v.cF,.str v.bH,v.ca]]]:=by rw[<-an,<-an];rfl
theorem gY(s:List UInt8):(gk s).aV=.agg [.int .i64 2,.int .i64 0,.str s,.aJ]:=rfl
attribute [local simp] fX fU fY fR eO eN fP fS fT eQ eR fQ lg kZ lr k9 kX kW fc fe Laid.aK db dc bf XF c164 bc ZQ Zn PU kH kN Dm sq Gv fa
abbrev Ac(x:AV)(y:AV)(T:List bj)(st:St)(n:Int)(t:Tok):Prop:=dA Tryz.prog cX 164 [.ptr 0 0,t.aV,.int .i64 n] (fq x y st) (.tuple [(dt (ae T) T (tQ t) n st).1.1.aV,.int .i64 (dt (ae T) T (tQ t) n st).1.2.1,.bool (dt (ae T) T (tQ t) n st).1.2.2]) (some (gF x y st.aa (dt (ae T) T (tQ t) n st).2))
section
variable (N:Nat){x y:AV}{T:List bj}{L:List Tok}{st:St}(hx:ba x=some T)(hy:bx y=some L)(hc:RC T L st)(hN:st.aC.length<N)(hE:cT Tryz.prog cX (b9 ZQ (Zn N)))(t:Tok)(n:Int)
include N hx hy hc hN hE t n
theorem Y3(hk:t.au=2):
 Ac x y T st n t:=by
 unfold Ac;have e:dt (ae T) T (tQ t) n st=((gk t.aD,0,true),st):=by unfold dt;exact if_pos hk
 rw[e];have aN:=aR hx;have aP:=aI hy;have fx:=λh=>aN.fr h 0 6
 have qa:=pA t.aD;dsimp only;by_cases h0:st.aa=[];refine dP (n:=8) hE aN aP h0 h0 ?_ (bE _ _ _) (cg _ _)
 rotate_left
 refine dB (n:=8) hE aN aP 1 (by decide) h0 h0 ?_ (bE _ _ _) (cg _ _)
 rotate_left
 all_goals
  rw[bK];rw[gY];simp[fx,qa,hk,-af,-aj,-ah,-az,-ck,aN,aP]
theorem Yj(hk:¬t.au=2)(hp:((bd T t.aD true).2&&decide ((bd T t.aD true).1.l<=n)&&iB T st)=false):
 Ac x y T st n t:=by
 unfold Ac
 have e:dt (ae T) T (tQ t) n st=((gk t.aD,KD T t.aD,decide (KD T t.aD<=n)),st):=by unfold dt;refine (if_neg hk).trans (if_neg ?_);rw[show (tQ t).aD=t.aD from rfl,hp];simp
 rw[e];have aN:=aR hx;have aP:=aI hy;have fx:=λh=>aN.fr h 0 6
 have qa:=pA t.aD;have q1:=H9 hx t.aD (by have:=hc.tb;omega);have q2:=IK hx t.aD (by have:=hc.tb;omega);have qb:=DA hx hy hc;simp only[bj.aV,bj.cells] at q1 q2;unfold KD;dsimp only;generalize bd T t.aD false=I at *;obtain⟨⟨i1,i2,i3⟩,i4⟩:=I;generalize bd T t.aD true=P at *;obtain⟨⟨p1,p2,p3⟩,p4⟩:=P;dsimp only at q1 q2 hp|-
 have LF:(if i3<p3 then p3 else i3)=max i3 p3:=by
  by_cases h:i3<p3
  .rw[if_pos h];omega
  .rw[if_neg h];omega
 generalize iB T st=bg at *
 cases p4 with
 |false=>
   by_cases h0:st.aa=[];refine dP (n:=8) hE aN aP h0 h0 ?_ (bE _ _ _) (cg _ _)
   rotate_left
   refine dB (n:=8) hE aN aP 1 (by decide) h0 h0 ?_ (bE _ _ _) (cg _ _)
   rotate_left
   all_goals
    rw[bK];rw[gY];simp[fx,qa,q1,q2,hk,BX,LF,-af,-aj,-ah,-az,-ck,aN,aP]
 |true=>
   by_cases LQ:p3<=n
   .have hbg:bg=false:=by simpa[LQ] using hp
    rw[hbg] at qb;by_cases h0:st.aa=[];rw[bz h0] at qb;refine dP (n:=8) hE aN aP h0 h0 ?_ (bE _ _ _) (cg _ _)
    rotate_left
    rw[bw h0] at qb;refine dB (n:=8) hE aN aP 1 (by decide) h0 h0 ?_ (bE _ _ _) (cg _ _)
    rotate_left
    all_goals
     rw[bK];rw[gY];simp[fx,qa,q1,q2,qb,hk,LQ,BX,LF,-af,-aj,-ah,-az,-ck,aN,aP]
   .skip;by_cases h0:st.aa=[];refine dP (n:=8) hE aN aP h0 h0 ?_ (bE _ _ _) (cg _ _)
    rotate_left
    refine dB (n:=8) hE aN aP 1 (by decide) h0 h0 ?_ (bE _ _ _) (cg _ _)
    rotate_left
    all_goals
     rw[bK];rw[gY];simp[fx,qa,q1,q2,hk,LQ,BX,LF,-af,-aj,-ah,-az,-ck,aN,aP]
theorem Yg(hk:¬t.au=2)(hp:((bd T t.aD true).2&&decide ((bd T t.aD true).1.l<=n)&&iB T st)=true):
 Ac x y T st n t:=by
 unfold Ac
 have e:dt (ae T) T (tQ t) n st=((bM t.aD [(ae T (aA (bd T t.aD true).1).2 st).1.1],(bd T t.aD true).1.l,(ae T (aA (bd T t.aD true).1).2 st).1.2.2),(ae T (aA (bd T t.aD true).1).2 st).2):=by unfold dt;exact (if_neg hk).trans (if_pos hp)
 rw[e];have aN:=aR hx;have aP:=aI hy;have fx:=λh=>aN.fr h 0 6
 have qa:=pA t.aD;have q1:=H9 hx t.aD (by have:=hc.tb;omega);have q2:=IK hx t.aD (by have:=hc.tb;omega);have qb:=DA hx hy hc;simp only[bj.aV,bj.cells] at q1 q2;have dF:=(a6 T).lv (aA (bd T t.aD true).1).2 st;have q3:=np (bd T t.aD true).1 ⟨(me T t.aD true).1,(me T t.aD true).2⟩;have q4:=dV N hx hy hc (aA (bd T t.aD true).1).2 hN;simp only[Bool.and_eq_true,decide_eq_true_eq] at hp;obtain⟨⟨Qe,Oc⟩,hp3⟩:=hp;rw[hp3] at qb;have zi:st.aa≠[]->(ae T (aA (bd T t.aD true).1).2 st).2.aa≠[]:=dF.aa;have qc:=lx t.aD [(ae T (aA (bd T t.aD true).1).2 st).1.1] (by simp);rw[pT,List.map_cons,List.map_nil,an] at qc;rw[an] at q4;dsimp only;clear dF;generalize (ae T (aA (bd T t.aD true).1).2 st).1.2.1=lv at *;generalize (ae T (aA (bd T t.aD true).1).2 st).1.2.2=ok at *;generalize (ae T (aA (bd T t.aD true).1).2 st).1.1=u at *;generalize (ae T (aA (bd T t.aD true).1).2 st).2=s1 at *;generalize bd T t.aD true=P at *;obtain⟨⟨p1,p2,p3⟩,p4⟩:=P;dsimp only at q2 q3 q4 Qe Oc|-;subst Qe;generalize aA ⟨p1,p2,p3⟩=sd at *;obtain⟨sd1,sd2⟩:=sd;dsimp only at q3 q4;have ur:=ay u;have uc:=br u;by_cases h0:st.aa=[];by_cases h1:s1.aa=[];rw[bz h0,h0,cW h1] at q4;rw[bz h0] at qb;refine dP (n:=8) hE aN aP h0 h1 ?_ (bE _ _ _) (cg _ _)
 rotate_left
 rw[bz h0,h0,cH h1] at q4;rw[bz h0] at qb;refine eJ (n:=8) hE aN aP 4 (by decide) h0 h1 ?_ (bE _ _ _) (cg _ _)
 rotate_left
 have h1:=zi h0;rw[bw h0,dW h0 h1] at q4;rw[bw h0] at qb;refine dB (n:=8) hE aN aP 5 (by decide) h0 h1 ?_ (bE _ _ _) (cg _ _)
 rotate_left
 all_goals
  rw[pT,bK];simp[fx,qa,q2,qb,q3,q4,qc,hk,Oc,ur,uc,aT,-af,-aj,-ah,-az,-ck,aN,aP]
end
noncomputable def vx(N:Nat):cr:=⟨164,λ
 |[.ptr 0 0,w,.int .i64 n],os=>(match wU os,tA w with
   |some R,some t=>if R.st.aC.length<N then some (.tuple [(dt (ae R.T) R.T (tQ t) n R.st).1.1.aV,.int .i64 (dt (ae R.T) R.T (tQ t) n R.st).1.2.1,.bool (dt (ae R.T) R.T (tQ t) n R.st).1.2.2],some (gF R.x R.y R.st.aa (dt (ae R.T) R.T (tQ t) n R.st).2)) else none
   |_,_=>none)
 |_,_=>none⟩
theorem z7(N:Nat):(vx N).f=164:=(rfl)
theorem th(N:Nat){x y:AV}{T:List bj}{L:List Tok}{st:St}(hx:ba x=some T)(hy:bx y=some L)(h:RC T L st)(hn:st.aC.length<N)(t:Tok)(n:Int):
 (vx N).S [.ptr 0 0,t.aV,.int .i64 n] (fq x y st)=some (.tuple [(dt (ae T) T (tQ t) n st).1.1.aV,.int .i64 (dt (ae T) T (tQ t) n st).1.2.1,.bool (dt (ae T) T (tQ t) n st).1.2.2],some (gF x y st.aa (dt (ae T) T (tQ t) n st).2)):=by
 simp only[vx,lU hx hy h,AL];rw[if_pos hn]
theorem Mj(N:Nat)(hN:cC Tryz.prog cX (iZ N)):cC Tryz.prog cX (vx N):=λag os v r hv=>by
 unfold vx at hv;dsimp only at hv;split at hv
 .rename_i os w n;split at hv
  .rename_i R t hR ht;split at hv
   .rename_i hn;cases hv;obtain⟨hx,hy,rfl,h⟩:=kM hR;rw[z7,qP ht];have hE:cT Tryz.prog cX (b9 ZQ (Zn N)):=dK (by simp[ZQ,JX.lift,N8.lift,Pe.lift,GQ.lift,yq.lift]) (by simp[Zn,hN,M5]);by_cases hk:t.au=2
    .exact Y3 N hx hy h hn hE t _ hk
    .cases hp:((bd R.T t.aD true).2&&decide ((bd R.T t.aD true).1.l<=_)&&iB R.T R.st) with
     |false=>exact Yj N hx hy h hn hE t _ hk hp
     |true=>exact Yg N hx hy h hn hE t _ hk hp
   .cases hv
  .cases hv
 .cases hv
end
section
theorem Kt(k:Nat)(rec:Int->St->PR×St):EqR k rec rec:=λ_ _ _=>rfl
theorem CS{T:List bj}{M:Nat}{st:St}(h:st.aC.length<M):bQ (ae T) M [] st=ar T st:=yC (a6 T) (Kt (st.aC.length+1) _) M _ [] st (by omega) h (by omega)
theorem OP{T:List bj}{M:Nat}{st:St}(h:st.aC.length<M):nc (ae T) M st=jO T st:=O6 (a6 T) (Kt (st.aC.length+1) _) M _ st (by omega) h (by omega)
def dp(T:List bj)(n:Int)(st:St):PR×St:=gI (ae T) T (st.aC.length+1) n st
theorem Te{st:St}:(aq st).aC.length<st.aC.length+1:=by rw[ct];omega
theorem fp{x y:AV}{st:St}(h:st.aa=[]):fq x y (aq st)=[.row [x,y,.int .i64 ((st.aZ:Int)+1),.int .i64 st.next,.aJ]]:=bz (st:=aq st) h
theorem iY{x y:AV}{st:St}(h:st.aa≠[]):fq x y (aq st)=[.row [x,y,.int .i64 ((st.aZ:Int)+1),.int .i64 st.next,.vec 1 0 st.aa.length 2 st.aa.length],.row (aQ st.aa)]:=bw (st:=aq st) h
theorem r8(st:St):((aq st).aZ:Int)=(st.aZ:Int)+1:=rfl
theorem rL(st:St):(aq st).next=st.next:=rfl
theorem sx(st:St):(aq st).aa=st.aa:=rfl
mutual
theorem T2:∀a:AV,a.I5 a=true
 |.undef=>rfl
 |.bool a=>by simp[AV.I5]
 |.int k n=>by simp[AV.I5]
 |.str a=>by simp[AV.I5]
 |.mV=>rfl
 |.ptr i o=>by simp[AV.I5]
 |.ip a=>by rw[AV.I5];exact sw a
 |.aJ=>rfl
 |.sl a=>by rw[AV.I5];exact sw a
 |.vec i o l s b=>by simp[AV.I5]
 |.om=>rfl
 |.map i=>by simp[AV.I5]
 |.jv=>rfl
 |.fn f a=>by simp[AV.I5,sw a]
 |.mR=>rfl
 |.iface t a=>by simp[AV.I5,T2 a]
 |.agg a=>by rw[AV.I5];exact sw a
 |.tuple a=>by rw[AV.I5];exact sw a
theorem sw:∀l:List AV,AV.Ap l l=true
 |[]=>rfl
 |a::r=>by simp[AV.Ap,T2 a,sw r]
end
theorem eH(l:List AV):Ps (some (.row l)) (some (.row l))=true:=sw l
noncomputable def NA:List aX:=[We,qM,ye]
noncomputable def Mt(N:Nat):List cr:=[wc,QQ,iZ N,BB,vR N,pc N,vx N]
theorem vk(n:Int):(Tm.nl 1 n []).aV=.agg [.int .i64 1,.int .i64 n,.str [],.aJ]:=rfl
theorem dJ:lh.aV=.agg [.int .i64 0,.int .i64 0,.str [],.aJ]:=rfl
attribute [local simp] fX fU fY fR eO eN fP fS fT eQ eR fQ lg kZ lr k9 kX kW fc fe Laid.aK db dc bf eH P3 TF bc NA Mt VF fv sq fV ME fa ic zK sG z7
abbrev eT(x:AV)(y:AV)(T:List bj)(st:St)(n:Int):Prop:=dA Tryz.prog cX 120 [.ptr 0 0,.int .i64 n] (fq x y st) (.tuple [(dp T n st).1.1.aV,.int .i64 (dp T n st).1.2.1,.bool (dp T n st).1.2.2]) (some (gF x y st.aa (dp T n st).2))
section
variable (N:Nat){x y:AV}{T:List bj}{L:List Tok}{st:St}(hx:ba x=some T)(hy:bx y=some L)(hc:RC T L st)(hN:st.aC.length<=N)(hE:cT Tryz.prog cX (b9 NA (Mt N)))(n:Int)
include N hx hy hc hN hE n
theorem Uc(k4:(aM L st).au=4):
 eT x y T st n:=by
 unfold eT;have ks:(aL st).au=(aM L st).au:=by rw[bm hc]
 have ts:(aL st).aD=(aM L st).aD:=by rw[bm hc]
 have us:(aL st).cF=(aM L st).cF:=by rw[bm hc]
 have os:(aL st).jq=(aM L st).jq:=by rw[bm hc]
 have e:dp T n st=((.nl 1 (aM L st).cF [],0,true),aq st):=by unfold dp gI;rw[if_pos (ks.trans k4),us]
 rw[e];have aN:=aR hx;have aP:=aI hy;have q0:=dY hx hy hc;rw[bK] at q0;have qn:=gi (aM L st);have w1:=wrap_i64 (n:=(st.aZ:Int)+1) (by omega) (by have:=hc.le;have:=hc.lb;omega);have qi:=P2 (aM L st).cF;rw[k4] at q0;dsimp only;by_cases h0:st.aa=[];rw[bz h0] at q0;refine dP (n:=8) hE aN aP h0 h0 ?_ (bE _ _ _) rfl
 rotate_left
 rw[bw h0] at q0;refine dB (n:=8) hE aN aP 1 (by decide) h0 h0 ?_ (bE _ _ _) rfl
 rotate_left
 all_goals
  rw[vk];simp only[r8,rL,sx];simp[w1,q0,qi,-af,-aj,-ah,-az,-ck,aN,aP]
theorem TM(k3:(aM L st).au=3):
 eT x y T st n:=by
 unfold eT;have ks:(aL st).au=(aM L st).au:=by rw[bm hc]
 have ts:(aL st).aD=(aM L st).aD:=by rw[bm hc]
 have us:(aL st).cF=(aM L st).cF:=by rw[bm hc]
 have os:(aL st).jq=(aM L st).jq:=by rw[bm hc]
 have e:dp T n st=(((jJ (aM L st).aD (aq st)).1,0,true),(jJ (aM L st).aD (aq st)).2):=by unfold dp gI;rw[if_neg (by rw[ks,k3];decide),if_pos (ks.trans k3),ts]
 rw[e];have aN:=aR hx;have aP:=aI hy;have q0:=dY hx hy hc;rw[bK] at q0;have qn:=gi (aM L st);have w1:=wrap_i64 (n:=(st.aZ:Int)+1) (by omega) (by have:=hc.le;have:=hc.lb;omega);have c1:=hc.rG (by have:=de hc (by rw[ks,k3];decide);omega);have qv:=X1 hx hy c1 (aM L st).aD;have dF:st.aa≠[]->(jJ (aM L st).aD (aq st)).2.aa≠[]:=(H8 (aM L st).aD (aq st)).aa;rw[show (aq st).aa=st.aa from rfl,an] at qv;rw[k3] at q0;dsimp only;have ur:=ay (jJ (aM L st).aD (aq st)).1;generalize (jJ (aM L st).aD (aq st)).2=s1 at *;generalize (jJ (aM L st).aD (aq st)).1=u at *;by_cases h0:st.aa=[];by_cases h1:s1.aa=[];rw[bz h0] at q0;rw[fp h0,h0,cW h1] at qv;refine dP (n:=8) hE aN aP h0 h1 ?_ (bE _ _ _) rfl
 rotate_left
 rw[bz h0] at q0;rw[fp h0,h0,cH h1] at qv;refine eJ (n:=8) hE aN aP 3 (by decide) h0 h1 ?_ (bE _ _ _) rfl
 rotate_left
 have h1:=dF h0;rw[bw h0] at q0;rw[iY h0,dW h0 h1] at qv;refine dB (n:=8) hE aN aP 4 (by decide) h0 h1 ?_ (bE _ _ _) rfl
 rotate_left
 all_goals
  rw[an];simp[w1,q0,qv,ur,-af,-aj,-ah,-az,-ck,aN,aP]
theorem N7(k5:(aM L st).au=5)(I0:(aM L st).aD=[40])(bV:(ae T 1200 (aq st)).1.2.2=false):
 eT x y T st n:=by
 unfold eT;have ks:(aL st).au=(aM L st).au:=by rw[bm hc]
 have ts:(aL st).aD=(aM L st).aD:=by rw[bm hc]
 have us:(aL st).cF=(aM L st).cF:=by rw[bm hc]
 have os:(aL st).jq=(aM L st).jq:=by rw[bm hc]
 have e:dp T n st=(((ae T 1200 (aq st)).1.1,0,false),(ae T 1200 (aq st)).2):=by unfold dp gI;rw[if_neg (by rw[ks,k5];decide),if_neg (by rw[ks,k5];decide)];rw[if_pos ⟨ks.trans k5,ts.trans I0⟩];unfold hO;rw[bV];exact if_neg (by simp)
 rw[e];have aN:=aR hx;have aP:=aI hy;have q0:=dY hx hy hc;rw[bK] at q0;have qn:=gi (aM L st);have w1:=wrap_i64 (n:=(st.aZ:Int)+1) (by omega) (by have:=hc.le;have:=hc.lb;omega);have mQ:=de hc (by rw[ks,k5];decide);have c1:=hc.rG (by omega);have hl:=ct st;have hp:=bN (st:=st) (by rw[ks,k5];decide);have qt:=dV N hx hy c1 1200 (by omega);rw[bV,show (aq st).aa=st.aa from rfl,an] at qt;have dF:st.aa≠[]->(ae T 1200 (aq st)).2.aa≠[]:=((a6 T).lv 1200 (aq st)).aa;have ur:=ay (ae T 1200 (aq st)).1.1;have uc:=br (ae T 1200 (aq st)).1.1;rw[k5,I0] at q0;dsimp only;generalize (ae T 1200 (aq st)).2=s1 at *;generalize (ae T 1200 (aq st)).1.1=u at *;generalize (ae T 1200 (aq st)).1.2.1=lv at *;by_cases h0:st.aa=[];by_cases h1:s1.aa=[];rw[bz h0] at q0;rw[fp h0,h0,cW h1] at qt;refine dP (n:=8) hE aN aP h0 h1 ?_ (bE _ _ _) rfl
 rotate_left
 rw[bz h0] at q0;rw[fp h0,h0,cH h1] at qt;refine eJ (n:=8) hE aN aP 3 (by decide) h0 h1 ?_ (bE _ _ _) rfl
 rotate_left
 have h1:=dF h0;rw[bw h0] at q0;rw[iY h0,dW h0 h1] at qt;refine dB (n:=8) hE aN aP 4 (by decide) h0 h1 ?_ (bE _ _ _) rfl
 rotate_left
 all_goals
  rw[an];simp[w1,q0,qt,ur,uc,aT,-af,-aj,-ah,-az,-ck,aN,aP]
theorem Mg(k5:(aM L st).au=5)(I0:(aM L st).aD=[40])(bV:(ae T 1200 (aq st)).1.2.2=true):
 eT x y T st n:=by
 unfold eT;have ks:(aL st).au=(aM L st).au:=by rw[bm hc]
 have ts:(aL st).aD=(aM L st).aD:=by rw[bm hc]
 have us:(aL st).cF=(aM L st).cF:=by rw[bm hc]
 have os:(aL st).jq=(aM L st).jq:=by rw[bm hc]
 have e:dp T n st=(((ae T 1200 (aq st)).1.1,0,(ax [41] (ae T 1200 (aq st)).2).1),(ax [41] (ae T 1200 (aq st)).2).2):=by unfold dp gI;rw[if_neg (by rw[ks,k5];decide),if_neg (by rw[ks,k5];decide)];rw[if_pos ⟨ks.trans k5,ts.trans I0⟩];unfold hO;rw[bV];exact if_pos rfl
 rw[e];have aN:=aR hx;have aP:=aI hy;have q0:=dY hx hy hc;rw[bK] at q0;have qn:=gi (aM L st);have w1:=wrap_i64 (n:=(st.aZ:Int)+1) (by omega) (by have:=hc.le;have:=hc.lb;omega);have mQ:=de hc (by rw[ks,k5];decide);have c1:=hc.rG (by omega);have hl:=ct st;have hp:=bN (st:=st) (by rw[ks,k5];decide);have qt:=dV N hx hy c1 1200 (by omega);rw[bV,show (aq st).aa=st.aa from rfl,an] at qt;have dF:st.aa≠[]->(ae T 1200 (aq st)).2.aa≠[]:=((a6 T).lv 1200 (aq st)).aa;have ur:=ay (ae T 1200 (aq st)).1.1;have uc:=br (ae T 1200 (aq st)).1.1;rw[k5,I0] at q0;obtain⟨c2,_⟩:=c1.ok ((a6 T).ok 1200 (aq st) bV);have qk:=jh hx hy c2 [41];have ff:=b8 [41] (ae T 1200 (aq st)).2;dsimp only;generalize (ae T 1200 (aq st)).2=s1 at *;generalize (ae T 1200 (aq st)).1.1=u at *;generalize (ae T 1200 (aq st)).1.2.1=lv at *;by_cases h0:st.aa=[];by_cases h1:s1.aa=[];rw[bz h0] at q0;rw[fp h0,h0,cW h1] at qt;rw[bz h1,bz (by rw[ff.1];exact h1),ff.2] at qk;refine dP (n:=8) hE aN aP h0 (by rw[ff.1];exact h1) ?_ (bE _ _ _) rfl;rw[an,ff.2]
 rotate_left
 rw[bz h0] at q0;rw[fp h0,h0,cH h1] at qt;rw[bw h1,bw (by rw[ff.1];exact h1),ff.1,ff.2] at qk;refine eJ (n:=8) hE aN aP 3 (by decide) h0 (by rw[ff.1];exact h1) ?_ (bE _ _ _) rfl;rw[an,ff.1,ff.2]
 rotate_left
 have h1:=dF h0;rw[bw h0] at q0;rw[iY h0,dW h0 h1] at qt;rw[bw h1,bw (by rw[ff.1];exact h1),ff.1,ff.2] at qk;refine dB (n:=8) hE aN aP 4 (by decide) h0 (by rw[ff.1];exact h1) ?_ (bE _ _ _) rfl;rw[an,ff.1,ff.2]
 rotate_left
 all_goals
  generalize ax [41] s1=b4 at *;obtain⟨b4,s4⟩:=b4;simp[w1,q0,qt,ur,uc,aT,qk,-af,-aj,-ah,-az,-ck,aN,aP]
theorem Lr(k5:(aM L st).au=5)(I0:(aM L st).aD=[123])(bV:(ae T 1200 (aq st)).1.2.2=false):
 eT x y T st n:=by
 unfold eT;have ks:(aL st).au=(aM L st).au:=by rw[bm hc]
 have ts:(aL st).aD=(aM L st).aD:=by rw[bm hc]
 have us:(aL st).cF=(aM L st).cF:=by rw[bm hc]
 have os:(aL st).jq=(aM L st).jq:=by rw[bm hc]
 have e:dp T n st=((bM [123,125] [(ae T 1200 (aq st)).1.1],0,false),(ae T 1200 (aq st)).2):=by unfold dp gI;rw[if_neg (by rw[ks,k5];decide),if_neg (by rw[ks,k5];decide)];rw[if_neg (λe=>by rw[ts,I0] at e;exact absurd e.2 (by decide)),if_neg (λe=>by rw[ts,I0] at e;exact absurd e.2 (by decide))];rw[if_pos ⟨ks.trans k5,ts.trans I0⟩];unfold hO;rw[bV];exact if_neg (by simp)
 rw[e];have aN:=aR hx;have aP:=aI hy;have q0:=dY hx hy hc;rw[bK] at q0;have qn:=gi (aM L st);have w1:=wrap_i64 (n:=(st.aZ:Int)+1) (by omega) (by have:=hc.le;have:=hc.lb;omega);have mQ:=de hc (by rw[ks,k5];decide);have c1:=hc.rG (by omega);have hl:=ct st;have hp:=bN (st:=st) (by rw[ks,k5];decide);have qt:=dV N hx hy c1 1200 (by omega);rw[bV,show (aq st).aa=st.aa from rfl,an] at qt;have dF:st.aa≠[]->(ae T 1200 (aq st)).2.aa≠[]:=((a6 T).lv 1200 (aq st)).aa;have ur:=ay (ae T 1200 (aq st)).1.1;have uc:=br (ae T 1200 (aq st)).1.1;rw[k5,I0] at q0;have qc:=lx [123,125] [(ae T 1200 (aq st)).1.1] (by simp);rw[pT,List.map_cons,List.map_nil,an] at qc;dsimp only;generalize (ae T 1200 (aq st)).2=s1 at *;generalize (ae T 1200 (aq st)).1.1=u at *;generalize (ae T 1200 (aq st)).1.2.1=lv at *;by_cases h0:st.aa=[];by_cases h1:s1.aa=[];rw[bz h0] at q0;rw[fp h0,h0,cW h1] at qt;refine dP (n:=8) hE aN aP h0 h1 ?_ (bE _ _ _) rfl
 rotate_left
 rw[bz h0] at q0;rw[fp h0,h0,cH h1] at qt;refine eJ (n:=8) hE aN aP 3 (by decide) h0 h1 ?_ (bE _ _ _) rfl
 rotate_left
 have h1:=dF h0;rw[bw h0] at q0;rw[iY h0,dW h0 h1] at qt;refine dB (n:=8) hE aN aP 4 (by decide) h0 h1 ?_ (bE _ _ _) rfl
 rotate_left
 all_goals
  rw[pT];simp[w1,q0,qt,ur,uc,aT,qc,-af,-aj,-ah,-az,-ck,aN,aP]
theorem K1(k5:(aM L st).au=5)(I0:(aM L st).aD=[123])(bV:(ae T 1200 (aq st)).1.2.2=true):
 eT x y T st n:=by
 unfold eT;have ks:(aL st).au=(aM L st).au:=by rw[bm hc]
 have ts:(aL st).aD=(aM L st).aD:=by rw[bm hc]
 have us:(aL st).cF=(aM L st).cF:=by rw[bm hc]
 have os:(aL st).jq=(aM L st).jq:=by rw[bm hc]
 have e:dp T n st=((bM [123,125] [(ae T 1200 (aq st)).1.1],0,(ax [125] (ae T 1200 (aq st)).2).1),(ax [125] (ae T 1200 (aq st)).2).2):=by unfold dp gI;rw[if_neg (by rw[ks,k5];decide),if_neg (by rw[ks,k5];decide)];rw[if_neg (λe=>by rw[ts,I0] at e;exact absurd e.2 (by decide)),if_neg (λe=>by rw[ts,I0] at e;exact absurd e.2 (by decide))];rw[if_pos ⟨ks.trans k5,ts.trans I0⟩];unfold hO;rw[bV];exact if_pos rfl
 rw[e];have aN:=aR hx;have aP:=aI hy;have q0:=dY hx hy hc;rw[bK] at q0;have qn:=gi (aM L st);have w1:=wrap_i64 (n:=(st.aZ:Int)+1) (by omega) (by have:=hc.le;have:=hc.lb;omega);have mQ:=de hc (by rw[ks,k5];decide);have c1:=hc.rG (by omega);have hl:=ct st;have hp:=bN (st:=st) (by rw[ks,k5];decide);have qt:=dV N hx hy c1 1200 (by omega);rw[bV,show (aq st).aa=st.aa from rfl,an] at qt;have dF:st.aa≠[]->(ae T 1200 (aq st)).2.aa≠[]:=((a6 T).lv 1200 (aq st)).aa;have ur:=ay (ae T 1200 (aq st)).1.1;have uc:=br (ae T 1200 (aq st)).1.1;rw[k5,I0] at q0;have qc:=lx [123,125] [(ae T 1200 (aq st)).1.1] (by simp);rw[pT,List.map_cons,List.map_nil,an] at qc;obtain⟨c2,_⟩:=c1.ok ((a6 T).ok 1200 (aq st) bV);have qk:=jh hx hy c2 [125];have ff:=b8 [125] (ae T 1200 (aq st)).2;dsimp only;generalize (ae T 1200 (aq st)).2=s1 at *;generalize (ae T 1200 (aq st)).1.1=u at *;generalize (ae T 1200 (aq st)).1.2.1=lv at *;by_cases h0:st.aa=[];by_cases h1:s1.aa=[];rw[bz h0] at q0;rw[fp h0,h0,cW h1] at qt;rw[bz h1,bz (by rw[ff.1];exact h1),ff.2] at qk;refine dP (n:=8) hE aN aP h0 (by rw[ff.1];exact h1) ?_ (bE _ _ _) rfl;rw[pT,ff.2]
 rotate_left
 rw[bz h0] at q0;rw[fp h0,h0,cH h1] at qt;rw[bw h1,bw (by rw[ff.1];exact h1),ff.1,ff.2] at qk;refine eJ (n:=8) hE aN aP 3 (by decide) h0 (by rw[ff.1];exact h1) ?_ (bE _ _ _) rfl;rw[pT,ff.1,ff.2]
 rotate_left
 have h1:=dF h0;rw[bw h0] at q0;rw[iY h0,dW h0 h1] at qt;rw[bw h1,bw (by rw[ff.1];exact h1),ff.1,ff.2] at qk;refine dB (n:=8) hE aN aP 4 (by decide) h0 (by rw[ff.1];exact h1) ?_ (bE _ _ _) rfl;rw[pT,ff.1,ff.2]
 rotate_left
 all_goals
  generalize ax [125] s1=b4 at *;obtain⟨b4,s4⟩:=b4;simp[w1,q0,qt,ur,uc,aT,qc,qk,-af,-aj,-ah,-az,-ck,aN,aP]
theorem Ss(k5:(aM L st).au=5)(I0:(aM L st).aD=[91]):
 eT x y T st n:=by
 unfold eT;have ks:(aL st).au=(aM L st).au:=by rw[bm hc]
 have ts:(aL st).aD=(aM L st).aD:=by rw[bm hc]
 have us:(aL st).cF=(aM L st).cF:=by rw[bm hc]
 have os:(aL st).jq=(aM L st).jq:=by rw[bm hc]
 have e:dp T n st=(((jO T (aq st)).1.1,0,(jO T (aq st)).1.2),(jO T (aq st)).2):=by unfold dp gI;rw[if_neg (by rw[ks,k5];decide),if_neg (by rw[ks,k5];decide),if_neg (λe=>by rw[ts,I0] at e;exact absurd e.2 (by decide)),if_pos ⟨ks.trans k5,ts.trans I0⟩,OP Te]
 rw[e];have aN:=aR hx;have aP:=aI hy;have q0:=dY hx hy hc;rw[bK] at q0;have qn:=gi (aM L st);have w1:=wrap_i64 (n:=(st.aZ:Int)+1) (by omega) (by have:=hc.le;have:=hc.lb;omega);have mQ:=de hc (by rw[ks,k5];decide);have c1:=hc.rG (by omega);have hl:=ct st;have hp:=bN (st:=st) (by rw[ks,k5];decide);have qt:=ND N hx hy c1 (by omega);rw[show (aq st).aa=st.aa from rfl,an] at qt;have dF:st.aa≠[]->(jO T (aq st)).2.aa≠[]:=(B6 (a6 T) _ (aq st)).1.aa;have ur:=ay (jO T (aq st)).1.1;rw[k5,I0] at q0;dsimp only;generalize (jO T (aq st)).2=s1 at *;generalize (jO T (aq st)).1.1=u at *;generalize (jO T (aq st)).1.2=ok at *;by_cases h0:st.aa=[];by_cases h1:s1.aa=[];rw[bz h0] at q0;rw[fp h0,h0,cW h1] at qt;refine dP (n:=8) hE aN aP h0 h1 ?_ (bE _ _ _) rfl
 rotate_left
 rw[bz h0] at q0;rw[fp h0,h0,cH h1] at qt;refine eJ (n:=8) hE aN aP 3 (by decide) h0 h1 ?_ (bE _ _ _) rfl
 rotate_left
 have h1:=dF h0;rw[bw h0] at q0;rw[iY h0,dW h0 h1] at qt;refine dB (n:=8) hE aN aP 4 (by decide) h0 h1 ?_ (bE _ _ _) rfl
 rotate_left
 all_goals
  rw[an];simp[w1,q0,qt,ur,-af,-aj,-ah,-az,-ck,aN,aP]
theorem VW(k5:(aM L st).au=5)(t1:¬(aM L st).aD=[40])(t2:¬(aM L st).aD=[91])(t3:¬(aM L st).aD=[123]):
 eT x y T st n:=by
 unfold eT;have ks:(aL st).au=(aM L st).au:=by rw[bm hc]
 have ts:(aL st).aD=(aM L st).aD:=by rw[bm hc]
 have us:(aL st).cF=(aM L st).cF:=by rw[bm hc]
 have os:(aL st).jq=(aM L st).jq:=by rw[bm hc]
 have e:dp T n st=((lh,0,false),aq st):=by unfold dp gI;rw[if_neg (by rw[ks,k5];decide),if_neg (by rw[ks,k5];decide),if_neg (λe=>t1 (ts.symm.trans e.2)),if_neg (λe=>t2 (ts.symm.trans e.2)),if_neg (λe=>t3 (ts.symm.trans e.2)),if_pos (by unfold fE;rw[ks,k5];rfl)]
 rw[e];have aN:=aR hx;have aP:=aI hy;have q0:=dY hx hy hc;rw[bK] at q0;have qn:=gi (aM L st);have w1:=wrap_i64 (n:=(st.aZ:Int)+1) (by omega) (by have:=hc.le;have:=hc.lb;omega);have b1:((aM L st).aD==[40])=false:=by simpa using t1
 have b2:((aM L st).aD==[91])=false:=by simpa using t2
 have b3:((aM L st).aD==[123])=false:=by simpa using t3
 rw[k5] at q0 qn;dsimp only;by_cases h0:st.aa=[];rw[bz h0] at q0;refine dP (n:=8) hE aN aP h0 h0 ?_ (bE _ _ _) rfl
 rotate_left
 rw[bw h0] at q0;refine dB (n:=8) hE aN aP 1 (by decide) h0 h0 ?_ (bE _ _ _) rfl
 rotate_left
 all_goals
  rw[dJ];simp only[r8,rL,sx];simp[w1,q0,qn,b1,b2,b3,t1,t2,t3,-af,-aj,-ah,-az,-ck,aN,aP]
theorem QJ(k1:¬(aM L st).au=1)(k2:¬(aM L st).au=2)(k3:¬(aM L st).au=3)(k4:¬(aM L st).au=4)(k5:¬(aM L st).au=5):
 eT x y T st n:=by
 unfold eT;have ks:(aL st).au=(aM L st).au:=by rw[bm hc]
 have ts:(aL st).aD=(aM L st).aD:=by rw[bm hc]
 have us:(aL st).cF=(aM L st).cF:=by rw[bm hc]
 have os:(aL st).jq=(aM L st).jq:=by rw[bm hc]
 have e:dp T n st=((lh,0,false),aq st):=by unfold dp gI;rw[if_neg (λe=>k4 (ks.symm.trans e)),if_neg (λe=>k3 (ks.symm.trans e)),if_neg (λe=>k5 (ks.symm.trans e.1)),if_neg (λe=>k5 (ks.symm.trans e.1)),if_neg (λe=>k5 (ks.symm.trans e.1)),if_pos (by unfold fE;rw[ks,decide_eq_false k1,decide_eq_false k2];rfl)]
 rw[e];have aN:=aR hx;have aP:=aI hy;have q0:=dY hx hy hc;rw[bK] at q0;have qn:=gi (aM L st);have w1:=wrap_i64 (n:=(st.aZ:Int)+1) (by omega) (by have:=hc.le;have:=hc.lb;omega);rw[decide_eq_false k1,decide_eq_false k2] at qn;dsimp only;by_cases h0:st.aa=[];rw[bz h0] at q0;refine dP (n:=8) hE aN aP h0 h0 ?_ (bE _ _ _) rfl
 rotate_left
 rw[bw h0] at q0;refine dB (n:=8) hE aN aP 1 (by decide) h0 h0 ?_ (bE _ _ _) rfl
 rotate_left
 all_goals
  rw[dJ];simp only[r8,rL,sx];simp[w1,q0,qn,k1,k2,k3,k4,k5,-af,-aj,-ah,-az,-ck,aN,aP]
end
end
section
theorem Yu(l:List Tm):wx l=(bM [] l).ca:=by cases l<;>rfl
theorem Qa(s:List UInt8)(l:List Tm):(bM s l).aV=.agg [.int .i64 2,.int .i64 0,.str s,(bM [] l).ca]:=by cases l<;>simp[bM,Tm.aV,Tm.ca,kF]
section
variable {T:List bj}{L:List Tok}{st:St}(h:RC T L st)
include h
theorem Ug(hk:(aL st).au≠0):0<=(aM L st).cF/\(aM L st).cF<9223372036854775808:=by
 have h1:st.aC.all wg=true:=by rw[h.aC];refine List.all_eq_true.mpr λx hx=>List.all_eq_true.mp h.tk x (List.mem_of_mem_drop hx)
 have:=Cd h1 (bN hk);rw[bm h] at this;exact this
theorem FQ:0<=(aM L st).aZ/\(aM L st).aZ<1000000:=by
 rcases Ks h with⟨h1,h2⟩|⟨_,h2⟩
 .have:=List.all_eq_true.mp h.I3 _ (List.mem_of_getElem? h2);simpa using this
 .rw[h2];exact⟨by decide,by decide⟩
theorem IH(hl:st.aZ+1<L.length):(aL st).adj=decide ((aM L (aq st)).aZ=(aM L st).aZ+1):=by rw[bm h];show YQ (aM L st) (L.drop (st.aZ+1))=_;rw[List.drop_eq_getElem_cons hl];show decide (_=_)=decide ((L.getD (st.aZ+1) kO).aZ=_);simp[List.getD,hl]
end
theorem Ig{x y:AV}{st:St}(h:st.aa=[]):fq x y (aq (aq st))=[.row [x,y,.int .i64 ((st.aZ:Int)+1+1),.int .i64 st.next,.aJ]]:=bz (st:=aq (aq st)) h
theorem Wl{x y:AV}{st:St}(h:st.aa≠[]):fq x y (aq (aq st))=[.row [x,y,.int .i64 ((st.aZ:Int)+1+1),.int .i64 st.next,.vec 1 0 st.aa.length 2 st.aa.length],.row (aQ st.aa)]:=bw (st:=aq (aq st)) h
theorem Ck{rec:Int->St->PR×St}{T:List bj}{x x':qQ}(n:Int)(st:St)(h1:x.au=x'.au)(h2:x.aD=x'.aD):dt rec T x n st=dt rec T x' n st:=by unfold dt;rw[h1,h2]
theorem pX{rec:Int->St->PR×St}(H:uV rec){T:List bj}{x:qQ}{n:Int}{st:St}(h:st.aa≠[]):(dt rec T x n st).2.aa≠[]:=by
 unfold dt;split
 .exact h
 .split
  .exact (H.lv _ st).aa h
  .exact h
attribute [local simp] fX fU fY fR eO eN fP fS fT eQ eR fQ lg kZ lr k9 kX kW fc fe Laid.aK db dc bf eH P3 TF bc NA Mt VF fv sq fV ME fa ic zK sG z7
section
variable (N:Nat){x y:AV}{T:List bj}{L:List Tok}{st:St}(hx:ba x=some T)(hy:bx y=some L)(hc:RC T L st)(hN:st.aC.length<=N)(hE:cT Tryz.prog cX (b9 NA (Mt N)))(n:Int)
include N hx hy hc hN hE n
theorem Lx(kn:(decide ((aM L st).au=1)||decide ((aM L st).au=2))=true)(ko:(aM L st).jq=true)(bV:(ar T (aq (aq st))).1.2=false):
 eT x y T st n:=by
 unfold eT;have ks:(aL st).au=(aM L st).au:=by rw[bm hc]
 have ts:(aL st).aD=(aM L st).aD:=by rw[bm hc]
 have us:(aL st).cF=(aM L st).cF:=by rw[bm hc]
 have os:(aL st).jq=(aM L st).jq:=by rw[bm hc]
 have kc:(aM L st).au=1\/(aM L st).au=2:=by rw[Bool.or_eq_true,decide_eq_true_eq,decide_eq_true_eq] at kn;exact kn
 have k3:¬(aM L st).au=3:=by omega
 have k4:¬(aM L st).au=4:=by omega
 have k5:¬(aM L st).au=5:=by omega
 have k0:(aL st).au≠0:=by rw[ks];omega
 have nb:fE (aL st)=true:=by unfold fE;rw[ks];exact kn
 have e:dp T n st=((bM (aM L st).aD [],0,false),(ar T (aq (aq st))).2):=by unfold dp gI;rw[if_neg (λe=>k4 (ks.symm.trans e)),if_neg (λe=>k3 (ks.symm.trans e)),if_neg (λe=>k5 (ks.symm.trans e.1)),if_neg (λe=>k5 (ks.symm.trans e.1)),if_neg (λe=>k5 (ks.symm.trans e.1)),if_neg (by rw[nb];decide)];rw[if_pos (os.trans ko),ts];unfold pb;rw[CS (by rw[ct,ct];omega),bV];exact if_neg (by simp)
 rw[e];have aN:=aR hx;have aP:=aI hy;have q0:=dY hx hy hc;rw[bK] at q0;have qn:=gi (aM L st);have w1:=wrap_i64 (n:=(st.aZ:Int)+1) (by omega) (by have:=hc.le;have:=hc.lb;omega);have mQ:=de hc k0;have c1:=hc.rG (by omega);have hl:=ct st;have hp:=bN (st:=st) k0;have xF:st.aZ+1<=L.length:=mQ;have c2:=c1.rG xF;have n6:=ct (aq st);have w2:=wrap_i64 (n:=(st.aZ:Int)+1+1) (by omega) (by have:=hc.lb;omega);have qt:=mu N hx hy c2 (by omega);rw[bV,if_neg (by simp),show (aq (aq st)).aa=st.aa from rfl] at qt;have dF:st.aa≠[]->(ar T (aq (aq st))).2.aa≠[]:=(cU T (aq (aq st))).1.aa;rw[ko] at q0 qn;dsimp only;rw[kn] at qn;generalize (ar T (aq (aq st))).2=s1 at *;by_cases h0:st.aa=[];by_cases h1:s1.aa=[];rw[bz h0] at q0;rw[Ig h0,h0,cW h1] at qt;refine dP (n:=8) hE aN aP h0 h1 ?_ (bE _ _ _) rfl
 rotate_left
 rw[bz h0] at q0;rw[Ig h0,h0,cH h1] at qt;refine eJ (n:=8) hE aN aP 3 (by decide) h0 h1 ?_ (bE _ _ _) rfl
 rotate_left
 have h1:=dF h0;rw[bw h0] at q0;rw[Wl h0,dW h0 h1] at qt;refine dB (n:=8) hE aN aP 4 (by decide) h0 h1 ?_ (bE _ _ _) rfl
 rotate_left
 all_goals
  rw[Qa];simp only[wx] at qt;rw[show (bM [] []).ca=.aJ from rfl];simp[w1,q0,qt,qn,k3,k4,k5,w2,-af,-aj,-ah,-az,-ck,aN,aP]
theorem Kz(kn:(decide ((aM L st).au=1)||decide ((aM L st).au=2))=true)(ko:(aM L st).jq=true)(bV:(ar T (aq (aq st))).1.2=true):
 eT x y T st n:=by
 unfold eT;have ks:(aL st).au=(aM L st).au:=by rw[bm hc]
 have ts:(aL st).aD=(aM L st).aD:=by rw[bm hc]
 have us:(aL st).cF=(aM L st).cF:=by rw[bm hc]
 have os:(aL st).jq=(aM L st).jq:=by rw[bm hc]
 have kc:(aM L st).au=1\/(aM L st).au=2:=by rw[Bool.or_eq_true,decide_eq_true_eq,decide_eq_true_eq] at kn;exact kn
 have k3:¬(aM L st).au=3:=by omega
 have k4:¬(aM L st).au=4:=by omega
 have k5:¬(aM L st).au=5:=by omega
 have k0:(aL st).au≠0:=by rw[ks];omega
 have nb:fE (aL st)=true:=by unfold fE;rw[ks];exact kn
 have e:dp T n st=((bM (aM L st).aD (ar T (aq (aq st))).1.1,0,(ax [41] (ar T (aq (aq st))).2).1),(ax [41] (ar T (aq (aq st))).2).2):=by unfold dp gI;rw[if_neg (λe=>k4 (ks.symm.trans e)),if_neg (λe=>k3 (ks.symm.trans e)),if_neg (λe=>k5 (ks.symm.trans e.1)),if_neg (λe=>k5 (ks.symm.trans e.1)),if_neg (λe=>k5 (ks.symm.trans e.1)),if_neg (by rw[nb];decide)];rw[if_pos (os.trans ko),ts];unfold pb;rw[CS (by rw[ct,ct];omega),bV];exact if_pos rfl
 rw[e];have aN:=aR hx;have aP:=aI hy;have q0:=dY hx hy hc;rw[bK] at q0;have qn:=gi (aM L st);have w1:=wrap_i64 (n:=(st.aZ:Int)+1) (by omega) (by have:=hc.le;have:=hc.lb;omega);have mQ:=de hc k0;have c1:=hc.rG (by omega);have hl:=ct st;have hp:=bN (st:=st) k0;have xF:st.aZ+1<=L.length:=mQ;have c2:=c1.rG xF;have n6:=ct (aq st);have w2:=wrap_i64 (n:=(st.aZ:Int)+1+1) (by omega) (by have:=hc.lb;omega);have qt:=mu N hx hy c2 (by omega);rw[bV,if_pos rfl,show (aq (aq st)).aa=st.aa from rfl] at qt;have dF:st.aa≠[]->(ar T (aq (aq st))).2.aa≠[]:=(cU T (aq (aq st))).1.aa;have ur:=ay (bM [] (ar T (aq (aq st))).1.1);have uc:=br (bM [] (ar T (aq (aq st))).1.1);obtain⟨c3,_⟩:=c2.ok ((cU T (aq (aq st))).2 bV);have qk:=jh hx hy c3 [41];have ff:=b8 [41] (ar T (aq (aq st))).2;rw[ko] at q0 qn;dsimp only;rw[kn] at qn;generalize (ar T (aq (aq st))).2=s1 at *;generalize (ar T (aq (aq st))).1.1=us at *;by_cases h0:st.aa=[];by_cases h1:s1.aa=[];rw[bz h0] at q0;rw[Ig h0,h0,cW h1] at qt;rw[bz h1,bz (by rw[ff.1];exact h1),ff.2] at qk;refine dP (n:=8) hE aN aP h0 (by rw[ff.1];exact h1) ?_ (bE _ _ _) rfl;rw[Qa,ff.2]
 rotate_left
 rw[bz h0] at q0;rw[Ig h0,h0,cH h1] at qt;rw[bw h1,bw (by rw[ff.1];exact h1),ff.1,ff.2] at qk;refine eJ (n:=8) hE aN aP 3 (by decide) h0 (by rw[ff.1];exact h1) ?_ (bE _ _ _) rfl;rw[Qa,ff.1,ff.2]
 rotate_left
 have h1:=dF h0;rw[bw h0] at q0;rw[Wl h0,dW h0 h1] at qt;rw[bw h1,bw (by rw[ff.1];exact h1),ff.1,ff.2] at qk;refine dB (n:=8) hE aN aP 4 (by decide) h0 (by rw[ff.1];exact h1) ?_ (bE _ _ _) rfl;rw[Qa,ff.1,ff.2]
 rotate_left
 all_goals
  rw[Yu] at qt;generalize bM [] us=cu at *;generalize ax [41] s1=b4 at *;obtain⟨b4,s4⟩:=b4;simp[w1,q0,qt,qn,k3,k4,k5,w2,ur,uc,qk,-af,-aj,-ah,-az,-ck,aN,aP]
theorem S7(k1:(aM L st).au=1)(kt:(aM L st).aD=[45])(ko:(aM L st).jq=false)(k4:(aM L (aq st)).au=4)(ka:(aM L (aq st)).aZ=(aM L st).aZ+1):
 eT x y T st n:=by
 unfold eT;have ks:(aL st).au=(aM L st).au:=by rw[bm hc]
 have ts:(aL st).aD=(aM L st).aD:=by rw[bm hc]
 have us:(aL st).cF=(aM L st).cF:=by rw[bm hc]
 have os:(aL st).jq=(aM L st).jq:=by rw[bm hc]
 have k0:(aL st).au≠0:=by rw[ks,k1];decide
 have mQ:=de hc k0;have c1:=hc.rG (by omega);have hl:=ct st;have hp:=bN (st:=st) k0;have SR:(aL (aq st)).au=(aM L (aq st)).au:=by rw[bm c1]
 have us1:(aL (aq st)).cF=(aM L (aq st)).cF:=by rw[bm c1]
 have k01:(aL (aq st)).au≠0:=by rw[SR,k4];decide
 have aak:=de c1 k01;have xF:st.aZ+1<L.length:=aak
 have e:dp T n st=((.nl 1 (-(aM L (aq st)).cF) [],0,true),aq (aq st)):=by unfold dp gI;rw[if_neg (by rw[ks,k1];decide),if_neg (by rw[ks,k1];decide),if_neg (λe=>absurd (k1.symm.trans (ks.symm.trans e.1)) (by decide)),if_neg (λe=>absurd (k1.symm.trans (ks.symm.trans e.1)) (by decide)),if_neg (λe=>absurd (k1.symm.trans (ks.symm.trans e.1)) (by decide)),if_neg (by unfold fE;rw[ks,k1];decide),if_neg (by rw[os,ko];simp),if_pos ⟨ks.trans k1,ts.trans kt,SR.trans k4,by rw[IH hc xF,ka];simp⟩,us1]
 rw[e];have aN:=aR hx;have aP:=aI hy;have q0:=dY hx hy hc;rw[bK] at q0;have qn:=gi (aM L st);have w1:=wrap_i64 (n:=(st.aZ:Int)+1) (by omega) (by have:=hc.le;have:=hc.lb;omega);have w2:=wrap_i64 (n:=(st.aZ:Int)+1+1) (by omega) (by have:=hc.lb;omega);have tn:=Ug c1 k01;have w3:=wrap_i64 (n:=-(aM L (aq st)).cF) (by omega) (by omega);have ta:=FQ hc;have w4:=wrap_i64 (n:=(aM L st).aZ+1) (by omega) (by omega);have q1:=dY hx hy c1;rw[bK,k4,ka] at q1;have qi:=P2 (-(aM L (aq st)).cF);rw[k1,kt,ko] at q0 qn;dsimp only;by_cases h0:st.aa=[];rw[bz h0] at q0;rw[fp h0] at q1;refine dP (n:=8) hE aN aP h0 h0 ?_ (bE _ _ _) rfl
 rotate_left
 rw[bw h0] at q0;rw[iY h0] at q1;refine dB (n:=8) hE aN aP 1 (by decide) h0 h0 ?_ (bE _ _ _) rfl
 rotate_left
 all_goals
  rw[vk];simp only[r8,rL,sx];simp[w1,q0,qi,qn,q1,w2,w3,w4,-af,-aj,-ah,-az,-ck,aN,aP]
theorem JU(kn:(decide ((aM L st).au=1)||decide ((aM L st).au=2))=true)(ko:(aM L st).jq=false)(kd:¬(aM L st).au=1):
 eT x y T st n:=by
 unfold eT;have ks:(aL st).au=(aM L st).au:=by rw[bm hc]
 have ts:(aL st).aD=(aM L st).aD:=by rw[bm hc]
 have us:(aL st).cF=(aM L st).cF:=by rw[bm hc]
 have os:(aL st).jq=(aM L st).jq:=by rw[bm hc]
 have kc:(aM L st).au=1\/(aM L st).au=2:=by rw[Bool.or_eq_true,decide_eq_true_eq,decide_eq_true_eq] at kn;exact kn
 have k3:¬(aM L st).au=3:=by omega
 have k4:¬(aM L st).au=4:=by omega
 have k5:¬(aM L st).au=5:=by omega
 have k0:(aL st).au≠0:=by rw[ks];omega
 have nb:fE (aL st)=true:=by unfold fE;rw[ks];exact kn
 have mQ:=de hc k0;have c1:=hc.rG (by omega);have hl:=ct st;have hp:=bN (st:=st) k0;have SR:(aL (aq st)).au=(aM L (aq st)).au:=by rw[bm c1]
 have e:dp T n st=dt (ae T) T (tQ (aM L st)) n (aq st):=by unfold dp gI;rw[if_neg (λe=>k4 (ks.symm.trans e)),if_neg (λe=>k3 (ks.symm.trans e)),if_neg (λe=>k5 (ks.symm.trans e.1)),if_neg (λe=>k5 (ks.symm.trans e.1)),if_neg (λe=>k5 (ks.symm.trans e.1)),if_neg (by rw[nb];decide)];rw[if_neg (by rw[os,ko];simp),if_neg (λe=>kd (ks.symm.trans e.1))];exact Ck _ _ ks ts
 rw[e];have aN:=aR hx;have aP:=aI hy;have q0:=dY hx hy hc;rw[bK] at q0;have qn:=gi (aM L st);have w1:=wrap_i64 (n:=(st.aZ:Int)+1) (by omega) (by have:=hc.le;have:=hc.lb;omega);have ta:=FQ hc;have w4:=wrap_i64 (n:=(aM L st).aZ+1) (by omega) (by omega);have q1:=dY hx hy c1;rw[bK] at q1;have qt:=th N hx hy c1 (by omega) (aM L st) n;rw[show (aq st).aa=st.aa from rfl,an,bK] at qt;have dF:st.aa≠[]->(dt (ae T) T (tQ (aM L st)) n (aq st)).2.aa≠[]:=λh=>pX (a6 T) (st:=aq st) h
 have ur:=ay (dt (ae T) T (tQ (aM L st)) n (aq st)).1.1;have uc:=br (dt (ae T) T (tQ (aM L st)) n (aq st)).1.1;rw[kn] at qn;rw[ko] at q0 qn qt;have k2:(aM L st).au=2:=by omega
 rw[k2] at q0 qn qt;generalize (dt (ae T) T (tQ (aM L st)) n (aq st))=r at *;obtain⟨⟨u,lv,ok⟩,s1⟩:=r;dsimp only at *;by_cases h0:st.aa=[];by_cases h1:s1.aa=[];rw[bz h0] at q0;rw[fp h0,h0,cW h1] at qt;rw[fp h0] at q1;refine dP (n:=8) hE aN aP h0 h1 ?_ (bE _ _ _) rfl
 rotate_left
 rw[bz h0] at q0;rw[fp h0,h0,cH h1] at qt;rw[fp h0] at q1;refine eJ (n:=8) hE aN aP 4 (by decide) h0 h1 ?_ (bE _ _ _) rfl
 rotate_left
 have h1:=dF h0;rw[bw h0] at q0;rw[iY h0,dW h0 h1] at qt;rw[iY h0] at q1;refine dB (n:=8) hE aN aP 5 (by decide) h0 h1 ?_ (bE _ _ _) rfl
 rotate_left
 all_goals
  rw[an];simp[w1,q0,qt,qn,q1,ur,uc,k3,k4,k5,kd,-af,-aj,-ah,-az,-ck,aN,aP]
theorem Jc(kn:(decide ((aM L st).au=1)||decide ((aM L st).au=2))=true)(ko:(aM L st).jq=false)(k1:(aM L st).au=1)(kd:¬(aM L st).aD=[45]):
 eT x y T st n:=by
 unfold eT;have ks:(aL st).au=(aM L st).au:=by rw[bm hc]
 have ts:(aL st).aD=(aM L st).aD:=by rw[bm hc]
 have us:(aL st).cF=(aM L st).cF:=by rw[bm hc]
 have os:(aL st).jq=(aM L st).jq:=by rw[bm hc]
 have kc:(aM L st).au=1\/(aM L st).au=2:=by rw[Bool.or_eq_true,decide_eq_true_eq,decide_eq_true_eq] at kn;exact kn
 have k3:¬(aM L st).au=3:=by omega
 have k4:¬(aM L st).au=4:=by omega
 have k5:¬(aM L st).au=5:=by omega
 have k0:(aL st).au≠0:=by rw[ks];omega
 have nb:fE (aL st)=true:=by unfold fE;rw[ks];exact kn
 have mQ:=de hc k0;have c1:=hc.rG (by omega);have hl:=ct st;have hp:=bN (st:=st) k0;have SR:(aL (aq st)).au=(aM L (aq st)).au:=by rw[bm c1]
 have e:dp T n st=dt (ae T) T (tQ (aM L st)) n (aq st):=by unfold dp gI;rw[if_neg (λe=>k4 (ks.symm.trans e)),if_neg (λe=>k3 (ks.symm.trans e)),if_neg (λe=>k5 (ks.symm.trans e.1)),if_neg (λe=>k5 (ks.symm.trans e.1)),if_neg (λe=>k5 (ks.symm.trans e.1)),if_neg (by rw[nb];decide)];rw[if_neg (by rw[os,ko];simp),if_neg (λe=>kd (ts.symm.trans e.2.1))];exact Ck _ _ ks ts
 rw[e];have aN:=aR hx;have aP:=aI hy;have q0:=dY hx hy hc;rw[bK] at q0;have qn:=gi (aM L st);have w1:=wrap_i64 (n:=(st.aZ:Int)+1) (by omega) (by have:=hc.le;have:=hc.lb;omega);have ta:=FQ hc;have w4:=wrap_i64 (n:=(aM L st).aZ+1) (by omega) (by omega);have q1:=dY hx hy c1;rw[bK] at q1;have qt:=th N hx hy c1 (by omega) (aM L st) n;rw[show (aq st).aa=st.aa from rfl,an,bK] at qt;have dF:st.aa≠[]->(dt (ae T) T (tQ (aM L st)) n (aq st)).2.aa≠[]:=λh=>pX (a6 T) (st:=aq st) h
 have ur:=ay (dt (ae T) T (tQ (aM L st)) n (aq st)).1.1;have uc:=br (dt (ae T) T (tQ (aM L st)) n (aq st)).1.1;have kd2:((aM L st).aD==[45])=false:=by simpa using kd
 rw[kn] at qn;rw[ko] at q0 qn qt;rw[k1] at q0 qn qt;generalize (dt (ae T) T (tQ (aM L st)) n (aq st))=r at *;obtain⟨⟨u,lv,ok⟩,s1⟩:=r;dsimp only at *;by_cases h0:st.aa=[];by_cases h1:s1.aa=[];rw[bz h0] at q0;rw[fp h0,h0,cW h1] at qt;rw[fp h0] at q1;refine dP (n:=8) hE aN aP h0 h1 ?_ (bE _ _ _) rfl
 rotate_left
 rw[bz h0] at q0;rw[fp h0,h0,cH h1] at qt;rw[fp h0] at q1;refine eJ (n:=8) hE aN aP 4 (by decide) h0 h1 ?_ (bE _ _ _) rfl
 rotate_left
 have h1:=dF h0;rw[bw h0] at q0;rw[iY h0,dW h0 h1] at qt;rw[iY h0] at q1;refine dB (n:=8) hE aN aP 5 (by decide) h0 h1 ?_ (bE _ _ _) rfl
 rotate_left
 all_goals
  rw[an];simp[w1,q0,qt,qn,q1,ur,uc,k3,k4,k5,k1,kd,kd2,-af,-aj,-ah,-az,-ck,aN,aP]
theorem K3(kn:(decide ((aM L st).au=1)||decide ((aM L st).au=2))=true)(ko:(aM L st).jq=false)(k1:(aM L st).au=1)(kt:(aM L st).aD=[45])(kd:¬(aM L (aq st)).au=4):
 eT x y T st n:=by
 unfold eT;have ks:(aL st).au=(aM L st).au:=by rw[bm hc]
 have ts:(aL st).aD=(aM L st).aD:=by rw[bm hc]
 have us:(aL st).cF=(aM L st).cF:=by rw[bm hc]
 have os:(aL st).jq=(aM L st).jq:=by rw[bm hc]
 have kc:(aM L st).au=1\/(aM L st).au=2:=by rw[Bool.or_eq_true,decide_eq_true_eq,decide_eq_true_eq] at kn;exact kn
 have k3:¬(aM L st).au=3:=by omega
 have k4:¬(aM L st).au=4:=by omega
 have k5:¬(aM L st).au=5:=by omega
 have k0:(aL st).au≠0:=by rw[ks];omega
 have nb:fE (aL st)=true:=by unfold fE;rw[ks];exact kn
 have mQ:=de hc k0;have c1:=hc.rG (by omega);have hl:=ct st;have hp:=bN (st:=st) k0;have SR:(aL (aq st)).au=(aM L (aq st)).au:=by rw[bm c1]
 have e:dp T n st=dt (ae T) T (tQ (aM L st)) n (aq st):=by unfold dp gI;rw[if_neg (λe=>k4 (ks.symm.trans e)),if_neg (λe=>k3 (ks.symm.trans e)),if_neg (λe=>k5 (ks.symm.trans e.1)),if_neg (λe=>k5 (ks.symm.trans e.1)),if_neg (λe=>k5 (ks.symm.trans e.1)),if_neg (by rw[nb];decide)];rw[if_neg (by rw[os,ko];simp),if_neg (λe=>kd (SR.symm.trans e.2.2.1))];exact Ck _ _ ks ts
 rw[e];have aN:=aR hx;have aP:=aI hy;have q0:=dY hx hy hc;rw[bK] at q0;have qn:=gi (aM L st);have w1:=wrap_i64 (n:=(st.aZ:Int)+1) (by omega) (by have:=hc.le;have:=hc.lb;omega);have ta:=FQ hc;have w4:=wrap_i64 (n:=(aM L st).aZ+1) (by omega) (by omega);have q1:=dY hx hy c1;rw[bK] at q1;have qt:=th N hx hy c1 (by omega) (aM L st) n;rw[show (aq st).aa=st.aa from rfl,an,bK] at qt;have dF:st.aa≠[]->(dt (ae T) T (tQ (aM L st)) n (aq st)).2.aa≠[]:=λh=>pX (a6 T) (st:=aq st) h
 have ur:=ay (dt (ae T) T (tQ (aM L st)) n (aq st)).1.1;have uc:=br (dt (ae T) T (tQ (aM L st)) n (aq st)).1.1;rw[kn] at qn;rw[ko] at q0 qn qt;rw[k1] at q0 qn qt;rw[kt] at q0 qn qt;generalize (dt (ae T) T (tQ (aM L st)) n (aq st))=r at *;obtain⟨⟨u,lv,ok⟩,s1⟩:=r;dsimp only at *;by_cases h0:st.aa=[];by_cases h1:s1.aa=[];rw[bz h0] at q0;rw[fp h0,h0,cW h1] at qt;rw[fp h0] at q1;refine dP (n:=8) hE aN aP h0 h1 ?_ (bE _ _ _) rfl
 rotate_left
 rw[bz h0] at q0;rw[fp h0,h0,cH h1] at qt;rw[fp h0] at q1;refine eJ (n:=8) hE aN aP 4 (by decide) h0 h1 ?_ (bE _ _ _) rfl
 rotate_left
 have h1:=dF h0;rw[bw h0] at q0;rw[iY h0,dW h0 h1] at qt;rw[iY h0] at q1;refine dB (n:=8) hE aN aP 5 (by decide) h0 h1 ?_ (bE _ _ _) rfl
 rotate_left
 all_goals
  rw[an];simp[w1,q0,qt,qn,q1,ur,uc,k3,k4,k5,k1,kt,kd,-af,-aj,-ah,-az,-ck,aN,aP]
theorem JP(kn:(decide ((aM L st).au=1)||decide ((aM L st).au=2))=true)(ko:(aM L st).jq=false)(k1:(aM L st).au=1)(kt:(aM L st).aD=[45])(k44:(aM L (aq st)).au=4)(kd:¬(aM L (aq st)).aZ=(aM L st).aZ+1):
 eT x y T st n:=by
 unfold eT;have ks:(aL st).au=(aM L st).au:=by rw[bm hc]
 have ts:(aL st).aD=(aM L st).aD:=by rw[bm hc]
 have us:(aL st).cF=(aM L st).cF:=by rw[bm hc]
 have os:(aL st).jq=(aM L st).jq:=by rw[bm hc]
 have kc:(aM L st).au=1\/(aM L st).au=2:=by rw[Bool.or_eq_true,decide_eq_true_eq,decide_eq_true_eq] at kn;exact kn
 have k3:¬(aM L st).au=3:=by omega
 have k4:¬(aM L st).au=4:=by omega
 have k5:¬(aM L st).au=5:=by omega
 have k0:(aL st).au≠0:=by rw[ks];omega
 have nb:fE (aL st)=true:=by unfold fE;rw[ks];exact kn
 have mQ:=de hc k0;have c1:=hc.rG (by omega);have hl:=ct st;have hp:=bN (st:=st) k0;have SR:(aL (aq st)).au=(aM L (aq st)).au:=by rw[bm c1]
 have e:dp T n st=dt (ae T) T (tQ (aM L st)) n (aq st):=by unfold dp gI;rw[if_neg (λe=>k4 (ks.symm.trans e)),if_neg (λe=>k3 (ks.symm.trans e)),if_neg (λe=>k5 (ks.symm.trans e.1)),if_neg (λe=>k5 (ks.symm.trans e.1)),if_neg (λe=>k5 (ks.symm.trans e.1)),if_neg (by rw[nb];decide)];rw[if_neg (by rw[os,ko];simp),if_neg (λe=>kd (of_decide_eq_true ((IH hc (de c1 (by rw[SR,k44];decide))).symm.trans e.2.2.2)))];exact Ck _ _ ks ts
 rw[e];have aN:=aR hx;have aP:=aI hy;have q0:=dY hx hy hc;rw[bK] at q0;have qn:=gi (aM L st);have w1:=wrap_i64 (n:=(st.aZ:Int)+1) (by omega) (by have:=hc.le;have:=hc.lb;omega);have ta:=FQ hc;have w4:=wrap_i64 (n:=(aM L st).aZ+1) (by omega) (by omega);have q1:=dY hx hy c1;rw[bK] at q1;have qt:=th N hx hy c1 (by omega) (aM L st) n;rw[show (aq st).aa=st.aa from rfl,an,bK] at qt;have dF:st.aa≠[]->(dt (ae T) T (tQ (aM L st)) n (aq st)).2.aa≠[]:=λh=>pX (a6 T) (st:=aq st) h
 have ur:=ay (dt (ae T) T (tQ (aM L st)) n (aq st)).1.1;have uc:=br (dt (ae T) T (tQ (aM L st)) n (aq st)).1.1;rw[k44] at q1;rw[kn] at qn;rw[ko] at q0 qn qt;rw[k1] at q0 qn qt;rw[kt] at q0 qn qt;generalize (dt (ae T) T (tQ (aM L st)) n (aq st))=r at *;obtain⟨⟨u,lv,ok⟩,s1⟩:=r;dsimp only at *;by_cases h0:st.aa=[];by_cases h1:s1.aa=[];rw[bz h0] at q0;rw[fp h0,h0,cW h1] at qt;rw[fp h0] at q1;refine dP (n:=8) hE aN aP h0 h1 ?_ (bE _ _ _) rfl
 rotate_left
 rw[bz h0] at q0;rw[fp h0,h0,cH h1] at qt;rw[fp h0] at q1;refine eJ (n:=8) hE aN aP 4 (by decide) h0 h1 ?_ (bE _ _ _) rfl
 rotate_left
 have h1:=dF h0;rw[bw h0] at q0;rw[iY h0,dW h0 h1] at qt;rw[iY h0] at q1;refine dB (n:=8) hE aN aP 5 (by decide) h0 h1 ?_ (bE _ _ _) rfl
 rotate_left
 all_goals
  rw[an];simp[w1,q0,qt,qn,q1,ur,uc,k3,k4,k5,k1,kt,kd,w4,-af,-aj,-ah,-az,-ck,aN,aP]
end
end
section
noncomputable def zU(N:Nat):cr:=⟨120,λ
 |[.ptr 0 0,.int .i64 n],os=>(match wU os with
   |some R=>if R.st.aC.length<=N then some (.tuple [(dp R.T n R.st).1.1.aV,.int .i64 (dp R.T n R.st).1.2.1,.bool (dp R.T n R.st).1.2.2],some (gF R.x R.y R.st.aa (dp R.T n R.st).2)) else none
   |none=>none)
 |_,_=>none⟩
theorem Ds(N:Nat):(zU N).f=120:=(rfl)
section
variable (N:Nat){x y:AV}{T:List bj}{L:List Tok}{st:St}(hx:ba x=some T)(hy:bx y=some L)(h:RC T L st)
include N hx hy h
theorem Se(n:Int)(hn:st.aC.length<=N):
 (zU N).S [.ptr 0 0,.int .i64 n] (fq x y st)=some (.tuple [(dp T n st).1.1.aV,.int .i64 (dp T n st).1.2.1,.bool (dp T n st).1.2.2],some (gF x y st.aa (dp T n st).2)):=by
 simp only[zU,lU hx hy h];rw[if_pos hn]
theorem VJ(hN:st.aC.length<=N)(hE:cT Tryz.prog cX (b9 NA (Mt N)))(n:Int):
 eT x y T st n:=by
 unfold eT;by_cases k4:(aM L st).au=4
 .exact Uc N hx hy h hN hE n k4
 by_cases k3:(aM L st).au=3
 .exact TM N hx hy h hN hE n k3
 by_cases k5:(aM L st).au=5
 .by_cases t1:(aM L st).aD=[40]
  .cases bV:(ae T 1200 (aq st)).1.2.2 with
   |true=>exact Mg N hx hy h hN hE n k5 t1 bV
   |false=>exact N7 N hx hy h hN hE n k5 t1 bV
  by_cases t2:(aM L st).aD=[91]
  .exact Ss N hx hy h hN hE n k5 t2
  by_cases t3:(aM L st).aD=[123]
  .cases bV:(ae T 1200 (aq st)).1.2.2 with
   |true=>exact K1 N hx hy h hN hE n k5 t3 bV
   |false=>exact Lr N hx hy h hN hE n k5 t3 bV
  exact VW N hx hy h hN hE n k5 t1 t2 t3
 cases kn:(decide ((aM L st).au=1)||decide ((aM L st).au=2)) with
 |false=>rw[Bool.or_eq_false_iff,decide_eq_false_iff_not,decide_eq_false_iff_not] at kn;exact QJ N hx hy h hN hE n kn.1 kn.2 k3 k4 k5
 |true=>
   cases ko:(aM L st).jq with
   |true=>
     cases bV:(ar T (aq (aq st))).1.2 with
     |true=>exact Kz N hx hy h hN hE n kn ko bV
     |false=>exact Lx N hx hy h hN hE n kn ko bV
   |false=>
     by_cases k1:(aM L st).au=1
     .by_cases kt:(aM L st).aD=[45]
      .by_cases k44:(aM L (aq st)).au=4
       .by_cases ka:(aM L (aq st)).aZ=(aM L st).aZ+1
        .exact S7 N hx hy h hN hE n k1 kt ko k44 ka
        .exact JP N hx hy h hN hE n kn ko k1 kt k44 ka
       .exact K3 N hx hy h hN hE n kn ko k1 kt k44
      .exact Jc N hx hy h hN hE n kn ko k1 kt
     .exact JU N hx hy h hN hE n kn ko k1
end
theorem RX(N:Nat)(hN:cC Tryz.prog cX (iZ N)):cC Tryz.prog cX (zU N):=λag os v r hv=>by
 unfold zU at hv;dsimp only at hv;split at hv
 .rename_i os n;split at hv
  .rename_i R hR;split at hv
   .rename_i hn;cases hv;obtain⟨hx,hy,rfl,h⟩:=kM hR;rw[Ds];have hE:cT Tryz.prog cX (b9 NA (Mt N)):=dK (by simp[NA,Yq.lift,Dv.lift,yq.lift]) (by simp[Mt,hN,y8,XV,Ed,Nz N hN,Bq N hN,Mj N hN]);exact VJ N hx hy h hn hE n
   .cases hv
  .cases hv
 .cases hv
section
variable {rec:Int->St->PR×St}{T:List bj}
theorem hU(M:Nat)(n:Int)(t:Tm)(lv:Int)(st:St):dZ rec T M n (t,lv,false) st=((t,lv,false),st):=by
 cases M with
 |zero=>rfl
 |succ M=>rfl
theorem cN{M:Nat}{n:Int}{t:Tm}{lv:Int}{st:St}{B:bj×Bool}(hb:dM T (aL st)=B)(h:(!B.2||decide (n<B.1.l)||decide ((aA B.1).1<lv))=true):dZ rec T M n (t,lv,true) st=((t,lv,true),st):=by
 cases M with
 |zero=>rfl
 |succ M=>unfold dZ;rw[hb,if_neg (by simp),if_pos h]
theorem kf{M:Nat}{n:Int}{t:Tm}{lv:Int}{st:St}{o:bj}(hb:dM T (aL st)=(o,true))(h1:¬n<o.l)(h2:¬(aA o).1<lv):dZ rec T (M+1) n (t,lv,true) st=dZ rec T M n (bM (aL st).aD [t,(rec (aA o).2 (aq st)).1.1],o.l,(rec (aA o).2 (aq st)).1.2.2) (rec (aA o).2 (aq st)).2:=by
 conv=>lhs;unfold dZ
 rw[hb,if_neg (by simp),if_neg (by simp[h1,h2])]
end
theorem jL(T:List bj)(x:qQ):0<=(dM T x).1.l/\(dM T x).1.l<=1200:=by
 unfold dM;split
 .exact⟨by decide,by decide⟩
 .exact me T x.aD false
theorem iu{T:List bj}{x:qQ}(h:(dM T x).2=true):x.au≠0:=λe=>by unfold dM fE at h;rw[e] at h;cases h
theorem gD(s:List UInt8)(u v:Tm):(bM s [u,v]).ca=.sl [.agg [.int .i64 u.au,.int .i64 u.cF,.str u.bH,u.ca],.agg [.int .i64 v.au,.int .i64 v.cF,.str v.bH,v.ca]]:=by rw[<-an,<-an];rfl
noncomputable def rR:List aX:=[An,ye]
noncomputable def rS(N:Nat):List cr:=[wc,F8,zU N,iZ N]
def wa(x y:AV)(r:PR×St)(md:Nat):Option (Ex×List AV×ai):=some (.exit 0,FM 75 [(4,.ptr 1 0),(7,.ptr 2 0),(8,.int .i64 r.1.2.1),(9,.bool r.1.2.2)],⟨3,[.row [.int .i64 r.1.1.au,.int .i64 r.1.1.cF,.str r.1.1.bH,r.1.1.ca],.row [.int .i64 0,.int .i64 0,.str [],.aJ],.row [x,y,.int .i64 r.2.aZ,.int .i64 r.2.next,.aJ]],1,md⟩)
def Ni(x y:AV)(r:PR×St)(md:Nat):Option (Ex×List AV×ai):=some (.exit 0,FM 75 [(4,.ptr 1 0),(7,.ptr 2 0),(8,.int .i64 r.1.2.1),(9,.bool r.1.2.2)],⟨4,[.row (aQ r.2.aa),.row [.int .i64 r.1.1.au,.int .i64 r.1.1.cF,.str r.1.1.bH,r.1.1.ca],.row [.int .i64 0,.int .i64 0,.str [],.aJ],.row [x,y,.int .i64 r.2.aZ,.int .i64 r.2.next,.vec 3 0 r.2.aa.length 2 r.2.aa.length]],0,md⟩)
def Qz(x y:AV)(r:PR×St)(md:Nat):Option (Ex×List AV×ai):=some (.exit 0,FM 75 [(4,.ptr 1 0),(7,.ptr 3 0),(8,.int .i64 r.1.2.1),(9,.bool r.1.2.2)],⟨4,[.row [.int .i64 r.1.1.au,.int .i64 r.1.1.cF,.str r.1.1.bH,r.1.1.ca],.row (aQ r.2.aa),.row [.int .i64 0,.int .i64 0,.str [],.aJ],.row [x,y,.int .i64 r.2.aZ,.int .i64 r.2.next,.vec 2 0 r.2.aa.length 2 r.2.aa.length]],0,md⟩)
def M1(x y:AV)(r:PR×St)(md:Nat):Option (Ex×List AV×ai):=some (.exit 0,FM 75 [(4,.ptr 1 0),(7,.ptr 3 0),(8,.int .i64 r.1.2.1),(9,.bool r.1.2.2)],⟨5,[.row (aQ r.2.aa),.row [.int .i64 r.1.1.au,.int .i64 r.1.1.cF,.str r.1.1.bH,r.1.1.ca],.dead,.row [.int .i64 0,.int .i64 0,.str [],.aJ],.row [x,y,.int .i64 r.2.aZ,.int .i64 r.2.next,.vec 4 0 r.2.aa.length 2 r.2.aa.length]],0,md⟩)
def SD(x y:AV)(r:PR×St)(md:Nat):Option (Ex×List AV×ai):=some (.exit 0,FM 75 [(4,.ptr 2 0),(7,.ptr 4 0),(8,.int .i64 r.1.2.1),(9,.bool r.1.2.2)],⟨5,[.row [.int .i64 r.1.1.au,.int .i64 r.1.1.cF,.str r.1.1.bH,r.1.1.ca],.row (aQ r.2.aa),.row [.int .i64 0,.int .i64 0,.str [],.aJ],.dead,.row [x,y,.int .i64 r.2.aZ,.int .i64 r.2.next,.vec 3 0 r.2.aa.length 2 r.2.aa.length]],0,md⟩)
def L2(x y:AV)(r:PR×St)(md:Nat):Option (Ex×List AV×ai):=some (.exit 0,FM 75 [(4,.ptr 2 0),(7,.ptr 4 0),(8,.int .i64 r.1.2.1),(9,.bool r.1.2.2)],⟨6,[.row (aQ r.2.aa),.row [.int .i64 r.1.1.au,.int .i64 r.1.1.cF,.str r.1.1.bH,r.1.1.ca],.dead,.row [.int .i64 0,.int .i64 0,.str [],.aJ],.dead,.row [x,y,.int .i64 r.2.aZ,.int .i64 r.2.next,.vec 5 0 r.2.aa.length 2 r.2.aa.length]],0,md⟩)
attribute [local simp] fX fU fY fR eO eN fP fS fT eQ eR fQ lg kZ lr k9 kX kW fc fe Laid.aK db dc bf bc qA kA rR rS Dm sq fV Hw Ds fa eH aT
theorem aar(n N:Nat){x y:AV}{T:List bj}{L:List Tok}(hx:ba x=some T)(hy:bx y=some L)(kk:Int):∀(M:Nat) (t:Tm) (lv:Int) (ok:Bool) (st:St) (m md:Nat),(ok=true->RC T L st)->st.aa≠[]->st.aC.length<=N->st.aC.length<M->M<=m->
 ∃cq,gu 3 1 (bL (aH (aF (b9 rR (rS N)) (n+1)) (n+1) qA) kA 3 m (mN (.ptr 0 0) (.int .i64 kk) (.ptr 1 0) (.ptr 2 0) (.int .i64 lv) (.bool ok)) ⟨4,[.row (aQ st.aa),.row [.int .i64 t.au,.int .i64 t.cF,.str t.bH,t.ca],.row [.int .i64 0,.int .i64 0,.str [],.aJ],.row [x,y,.int .i64 st.aZ,.int .i64 st.next,.vec 3 0 st.aa.length 2 st.aa.length]],0,md⟩)=
   Ni x y (dZ (ae T) T M kk (t,lv,ok) st) cq
 |0,_,_,_,_,_,_,_,_,_,h,_=>by omega
 |_+1,_,_,_,_,0,_,_,_,_,_,h=>by omega
 |M+1,t,lv,ok,st,m+1,md,pE,h0,hN,hM,hm=>by
   have aN:=aR hx;have aP:=aI hy;rw[ak];have ur:=ay t;have uc:=br t
   cases ok with
   |false=>rw[hU];simp only[Ni];exact⟨0,by simp[-af,-aj,-ah,-az,-ck,ur,uc,aN,aP]⟩
   |true=>
     have hc:=pE rfl;have q0:=dY hx hy hc;have qb:=rn hx hy hc (aM L st);have eb:=jH hc;have bl:=jL T (aL st);have bk:=iu (T:=T) (x:=aL st);have ts:(aL st).aD=(aM L st).aD:=by rw[bm hc]
     rw[eb] at bl bk;rw[bK,bw h0] at q0;rw[bw h0,show (bZ T (aM L st)).1.aV=.agg [.str (bZ T (aM L st)).1.n,.str (bZ T (aM L st)).1.k,.int .i64 (bZ T (aM L st)).1.l] from rfl] at qb;have qs:=np (bZ T (aM L st)).1 bl;generalize bZ T (aM L st)=B at *;obtain⟨o,fd⟩:=B;dsimp only at qb qs bl bk
     cases fd with
     |false=>rw[cN eb rfl];simp only[Ni];exact⟨0,by simp[-af,-aj,-ah,-az,-ck,ur,uc,q0,qb,qs,aN,aP]⟩
     |true=>
       by_cases c2:kk<o.l
       .rw[cN eb (by simp[c2])];simp only[Ni];exact⟨0,by simp[-af,-aj,-ah,-az,-ck,ur,uc,q0,qb,qs,c2,aN,aP]⟩
       by_cases c3:(aA o).1<lv
       .rw[cN eb (by simp[c3])];simp only[Ni];exact⟨0,by simp[-af,-aj,-ah,-az,-ck,ur,uc,q0,qb,qs,c2,c3,aN,aP]⟩
       have pC:=bk rfl;have mQ:=de hc pC;have c1:=hc.rG (by omega);have hl:=ct st;have hp:=bN pC;have w1:=wrap_i64 (n:=(st.aZ:Int)+1) (by omega) (by have:=hc.lb;omega);rw[kf eb c2 c3,ts];have qt:=dV N hx hy c1 (aA o).2 (by omega);rw[show (aq st).aa=st.aa from rfl,an] at qt;have dF:=(a6 T).lv (aA o).2 (aq st);have jT:=dF.len;have tP:(ae T (aA o).2 (aq st)).1.2.2=true->RC T L (ae T (aA o).2 (aq st)).2:=λh=>(c1.ok ((a6 T).ok _ _ h)).1
       have lV:st.aa≠[]->(ae T (aA o).2 (aq st)).2.aa≠[]:=dF.aa;have vr:=ay (ae T (aA o).2 (aq st)).1.1;have vc:=br (ae T (aA o).2 (aq st)).1.1;have qc:=lx (aM L st).aD [t,(ae T (aA o).2 (aq st)).1.1] (by simp);rw[Dx,List.map_cons,List.map_cons,List.map_nil,an t,an (ae T (aA o).2 (aq st)).1.1] at qc;generalize ae T (aA o).2 (aq st)=r at *;obtain⟨⟨u,Xa,tv⟩,s1⟩:=r;dsimp only at *;have h1:=lV h0;rw[iY h0,dW h0 h1] at qt;obtain⟨cq,ih⟩:=aar n N hx hy kk M (bM (aM L st).aD [t,u]) o.l tv s1 m (min md 0) tP h1 (by omega) (by omega) (by omega);rw[show (bM (aM L st).aD [t,u]).au=2 from rfl,show (bM (aM L st).aD [t,u]).cF=0 from rfl,show (bM (aM L st).aD [t,u]).bH=(aM L st).aD from rfl,gD] at ih;refine⟨cq,Eq.trans ?_ ih⟩;simp[-af,-aj,-ah,-az,-ck,ur,uc,q0,qb,qs,qt,qc,c2,c3,w1,vr,vc,aN,aP]
theorem aaZ(n N:Nat){x y:AV}{T:List bj}{L:List Tok}(hx:ba x=some T)(hy:bx y=some L)(kk:Int):∀(M:Nat) (t:Tm) (lv:Int) (ok:Bool) (st:St) (m md:Nat),(ok=true->RC T L st)->st.aa=[]->st.aC.length<=N->st.aC.length<M->M<=m->
 ∃cq,gu 3 1 (bL (aH (aF (b9 rR (rS N)) (n+1)) (n+1) qA) kA 3 m (mN (.ptr 0 0) (.int .i64 kk) (.ptr 1 0) (.ptr 2 0) (.int .i64 lv) (.bool ok)) ⟨3,[.row [.int .i64 t.au,.int .i64 t.cF,.str t.bH,t.ca],.row [.int .i64 0,.int .i64 0,.str [],.aJ],.row [x,y,.int .i64 st.aZ,.int .i64 st.next,.aJ]],3,md⟩)=
   (if (dZ (ae T) T M kk (t,lv,ok) st).2.aa=[] then wa x y (dZ (ae T) T M kk (t,lv,ok) st) cq else Ni x y (dZ (ae T) T M kk (t,lv,ok) st) cq)
 |0,_,_,_,_,_,_,_,_,_,h,_=>by omega
 |_+1,_,_,_,_,0,_,_,_,_,_,h=>by omega
 |M+1,t,lv,ok,st,m+1,md,pE,h0,hN,hM,hm=>by
   have aN:=aR hx;have aP:=aI hy;rw[ak];have ur:=ay t;have uc:=br t
   cases ok with
   |false=>rw[hU];simp only[if_pos h0];simp only[wa];exact⟨md,by simp[-af,-aj,-ah,-az,-ck,ur,uc,aN,aP]⟩
   |true=>
     have hc:=pE rfl;have q0:=dY hx hy hc;have qb:=rn hx hy hc (aM L st);have eb:=jH hc;have bl:=jL T (aL st);have bk:=iu (T:=T) (x:=aL st);have ts:(aL st).aD=(aM L st).aD:=by rw[bm hc]
     rw[eb] at bl bk;rw[bK,bz h0] at q0;rw[bz h0,show (bZ T (aM L st)).1.aV=.agg [.str (bZ T (aM L st)).1.n,.str (bZ T (aM L st)).1.k,.int .i64 (bZ T (aM L st)).1.l] from rfl] at qb;have qs:=np (bZ T (aM L st)).1 bl;generalize bZ T (aM L st)=B at *;obtain⟨o,fd⟩:=B;dsimp only at qb qs bl bk
     cases fd with
     |false=>rw[cN eb rfl];simp only[if_pos h0];simp only[wa];exact⟨min md 3,by simp[-af,-aj,-ah,-az,-ck,ur,uc,q0,qb,qs,aN,aP]⟩
     |true=>
       by_cases c2:kk<o.l
       .rw[cN eb (by simp[c2])];simp only[if_pos h0];simp only[wa];exact⟨min md 3,by simp[-af,-aj,-ah,-az,-ck,ur,uc,q0,qb,qs,c2,aN,aP]⟩
       by_cases c3:(aA o).1<lv
       .rw[cN eb (by simp[c3])];simp only[if_pos h0];simp only[wa];exact⟨min md 3,by simp[-af,-aj,-ah,-az,-ck,ur,uc,q0,qb,qs,c2,c3,aN,aP]⟩
       have pC:=bk rfl;have mQ:=de hc pC;have c1:=hc.rG (by omega);have hl:=ct st;have hp:=bN pC;have w1:=wrap_i64 (n:=(st.aZ:Int)+1) (by omega) (by have:=hc.lb;omega);rw[kf eb c2 c3,ts];have qt:=dV N hx hy c1 (aA o).2 (by omega);rw[show (aq st).aa=st.aa from rfl,an] at qt;have dF:=(a6 T).lv (aA o).2 (aq st);have jT:=dF.len;have tP:(ae T (aA o).2 (aq st)).1.2.2=true->RC T L (ae T (aA o).2 (aq st)).2:=λh=>(c1.ok ((a6 T).ok _ _ h)).1
       have lV:st.aa≠[]->(ae T (aA o).2 (aq st)).2.aa≠[]:=dF.aa;have vr:=ay (ae T (aA o).2 (aq st)).1.1;have vc:=br (ae T (aA o).2 (aq st)).1.1;have qc:=lx (aM L st).aD [t,(ae T (aA o).2 (aq st)).1.1] (by simp);rw[Dx,List.map_cons,List.map_cons,List.map_nil,an t,an (ae T (aA o).2 (aq st)).1.1] at qc;generalize ae T (aA o).2 (aq st)=r at *;obtain⟨⟨u,Xa,tv⟩,s1⟩:=r;dsimp only at *;by_cases h1:s1.aa=[];rw[fp h0,h0,cW h1] at qt;obtain⟨cq,ih⟩:=aaZ n N hx hy kk M (bM (aM L st).aD [t,u]) o.l tv s1 m (min md 0) tP h1 (by omega) (by omega) (by omega);rw[show (bM (aM L st).aD [t,u]).au=2 from rfl,show (bM (aM L st).aD [t,u]).cF=0 from rfl,show (bM (aM L st).aD [t,u]).bH=(aM L st).aD from rfl,gD] at ih
       rotate_left
       rw[fp h0,h0,cH h1] at qt;obtain⟨cq,ih⟩:=aar n N hx hy kk M (bM (aM L st).aD [t,u]) o.l tv s1 m (min md 0) tP h1 (by omega) (by omega) (by omega);rw[show (bM (aM L st).aD [t,u]).au=2 from rfl,show (bM (aM L st).aD [t,u]).cF=0 from rfl,show (bM (aM L st).aD [t,u]).bH=(aM L st).aD from rfl,gD] at ih;have I1:¬(dZ (ae T) T M kk (bM (aM L st).aD [t,u],o.l,tv) s1).2.aa=[]:=((mO (a6 T) T M kk (bM (aM L st).aD [t,u],o.l,tv) s1).1.aa h1)
       simp only[if_neg I1]
       rotate_left
       all_goals
        refine⟨cq,Eq.trans ?_ ih⟩;simp[-af,-aj,-ah,-az,-ck,ur,uc,q0,qb,qs,qt,qc,c2,c3,w1,vr,vc,aN,aP]
theorem aaS(n N:Nat){x y:AV}{T:List bj}{L:List Tok}(hx:ba x=some T)(hy:bx y=some L)(kk:Int):∀(M:Nat) (t:Tm) (lv:Int) (ok:Bool) (st:St) (m md:Nat),(ok=true->RC T L st)->st.aa≠[]->st.aC.length<=N->st.aC.length<M->M<=m->
 ∃cq,gu 4 0 (bL (aH (aF (b9 rR (rS N)) (n+1)) (n+1) qA) kA 4 m (mN (.ptr 0 0) (.int .i64 kk) (.ptr 1 0) (.ptr 3 0) (.int .i64 lv) (.bool ok)) ⟨5,[.row (aQ st.aa),.row [.int .i64 t.au,.int .i64 t.cF,.str t.bH,t.ca],.dead,.row [.int .i64 0,.int .i64 0,.str [],.aJ],.row [x,y,.int .i64 st.aZ,.int .i64 st.next,.vec 4 0 st.aa.length 2 st.aa.length]],0,md⟩)=
   M1 x y (dZ (ae T) T M kk (t,lv,ok) st) cq
 |0,_,_,_,_,_,_,_,_,_,h,_=>by omega
 |_+1,_,_,_,_,0,_,_,_,_,_,h=>by omega
 |M+1,t,lv,ok,st,m+1,md,pE,h0,hN,hM,hm=>by
   have aN:=aR hx;have aP:=aI hy;rw[ak];have ur:=ay t;have uc:=br t
   cases ok with
   |false=>rw[hU];simp only[M1];exact⟨0,by simp[-af,-aj,-ah,-az,-ck,ur,uc,aN,aP]⟩
   |true=>
     have hc:=pE rfl;have q0:=dY hx hy hc;have qb:=rn hx hy hc (aM L st);have eb:=jH hc;have bl:=jL T (aL st);have bk:=iu (T:=T) (x:=aL st);have ts:(aL st).aD=(aM L st).aD:=by rw[bm hc]
     rw[eb] at bl bk;rw[bK,bw h0] at q0;rw[bw h0,show (bZ T (aM L st)).1.aV=.agg [.str (bZ T (aM L st)).1.n,.str (bZ T (aM L st)).1.k,.int .i64 (bZ T (aM L st)).1.l] from rfl] at qb;have qs:=np (bZ T (aM L st)).1 bl;generalize bZ T (aM L st)=B at *;obtain⟨o,fd⟩:=B;dsimp only at qb qs bl bk
     cases fd with
     |false=>rw[cN eb rfl];simp only[M1];exact⟨0,by simp[-af,-aj,-ah,-az,-ck,ur,uc,q0,qb,qs,aN,aP]⟩
     |true=>
       by_cases c2:kk<o.l
       .rw[cN eb (by simp[c2])];simp only[M1];exact⟨0,by simp[-af,-aj,-ah,-az,-ck,ur,uc,q0,qb,qs,c2,aN,aP]⟩
       by_cases c3:(aA o).1<lv
       .rw[cN eb (by simp[c3])];simp only[M1];exact⟨0,by simp[-af,-aj,-ah,-az,-ck,ur,uc,q0,qb,qs,c2,c3,aN,aP]⟩
       have pC:=bk rfl;have mQ:=de hc pC;have c1:=hc.rG (by omega);have hl:=ct st;have hp:=bN pC;have w1:=wrap_i64 (n:=(st.aZ:Int)+1) (by omega) (by have:=hc.lb;omega);rw[kf eb c2 c3,ts];have qt:=dV N hx hy c1 (aA o).2 (by omega);rw[show (aq st).aa=st.aa from rfl,an] at qt;have dF:=(a6 T).lv (aA o).2 (aq st);have jT:=dF.len;have tP:(ae T (aA o).2 (aq st)).1.2.2=true->RC T L (ae T (aA o).2 (aq st)).2:=λh=>(c1.ok ((a6 T).ok _ _ h)).1
       have lV:st.aa≠[]->(ae T (aA o).2 (aq st)).2.aa≠[]:=dF.aa;have vr:=ay (ae T (aA o).2 (aq st)).1.1;have vc:=br (ae T (aA o).2 (aq st)).1.1;have qc:=lx (aM L st).aD [t,(ae T (aA o).2 (aq st)).1.1] (by simp);rw[Dx,List.map_cons,List.map_cons,List.map_nil,an t,an (ae T (aA o).2 (aq st)).1.1] at qc;generalize ae T (aA o).2 (aq st)=r at *;obtain⟨⟨u,Xa,tv⟩,s1⟩:=r;dsimp only at *;have h1:=lV h0;rw[iY h0,dW h0 h1] at qt;obtain⟨cq,ih⟩:=aaS n N hx hy kk M (bM (aM L st).aD [t,u]) o.l tv s1 m (min md 0) tP h1 (by omega) (by omega) (by omega);rw[show (bM (aM L st).aD [t,u]).au=2 from rfl,show (bM (aM L st).aD [t,u]).cF=0 from rfl,show (bM (aM L st).aD [t,u]).bH=(aM L st).aD from rfl,gD] at ih;refine⟨cq,Eq.trans ?_ ih⟩;simp[-af,-aj,-ah,-az,-ck,ur,uc,q0,qb,qs,qt,qc,c2,c3,w1,vr,vc,aN,aP]
theorem afk(n N:Nat){x y:AV}{T:List bj}{L:List Tok}(hx:ba x=some T)(hy:bx y=some L)(kk:Int):∀(M:Nat) (t:Tm) (lv:Int) (ok:Bool) (st:St) (m md:Nat),(ok=true->RC T L st)->st.aa≠[]->st.aC.length<=N->st.aC.length<M->M<=m->
 (∃cq,gu 4 0 (bL (aH (aF (b9 rR (rS N)) (n+1)) (n+1) qA) kA 4 m (mN (.ptr 0 0) (.int .i64 kk) (.ptr 1 0) (.ptr 3 0) (.int .i64 lv) (.bool ok)) ⟨4,[.row [.int .i64 t.au,.int .i64 t.cF,.str t.bH,t.ca],.row (aQ st.aa),.row [.int .i64 0,.int .i64 0,.str [],.aJ],.row [x,y,.int .i64 st.aZ,.int .i64 st.next,.vec 2 0 st.aa.length 2 st.aa.length]],4,md⟩)=
  Qz x y ((t,lv,ok),st) cq/\dZ (ae T) T M kk (t,lv,ok) st=((t,lv,ok),st))\/∃cq,gu 4 0 (bL (aH (aF (b9 rR (rS N)) (n+1)) (n+1) qA) kA 4 m (mN (.ptr 0 0) (.int .i64 kk) (.ptr 1 0) (.ptr 3 0) (.int .i64 lv) (.bool ok)) ⟨4,[.row [.int .i64 t.au,.int .i64 t.cF,.str t.bH,t.ca],.row (aQ st.aa),.row [.int .i64 0,.int .i64 0,.str [],.aJ],.row [x,y,.int .i64 st.aZ,.int .i64 st.next,.vec 2 0 st.aa.length 2 st.aa.length]],4,md⟩)=
  M1 x y (dZ (ae T) T M kk (t,lv,ok) st) cq
 |0,_,_,_,_,_,_,_,_,_,h,_=>by omega
 |_+1,_,_,_,_,0,_,_,_,_,_,h=>by omega
 |M+1,t,lv,ok,st,m+1,md,pE,h0,hN,hM,hm=>by
   have aN:=aR hx;have aP:=aI hy;rw[ak];have ur:=ay t;have uc:=br t
   cases ok with
   |false=>rw[hU];left;simp only[Qz];exact⟨md,by simp[-af,-aj,-ah,-az,-ck,ur,uc,aN,aP],trivial⟩
   |true=>
     have hc:=pE rfl;have q0:=dY hx hy hc;have qb:=rn hx hy hc (aM L st);have eb:=jH hc;have bl:=jL T (aL st);have bk:=iu (T:=T) (x:=aL st);have ts:(aL st).aD=(aM L st).aD:=by rw[bm hc]
     rw[eb] at bl bk;rw[bK,bw h0] at q0;rw[bw h0,show (bZ T (aM L st)).1.aV=.agg [.str (bZ T (aM L st)).1.n,.str (bZ T (aM L st)).1.k,.int .i64 (bZ T (aM L st)).1.l] from rfl] at qb;have qs:=np (bZ T (aM L st)).1 bl;generalize bZ T (aM L st)=B at *;obtain⟨o,fd⟩:=B;dsimp only at qb qs bl bk
     cases fd with
     |false=>rw[cN eb rfl];left;simp only[Qz];exact⟨min md 4,by simp[-af,-aj,-ah,-az,-ck,ur,uc,q0,qb,qs,aN,aP],trivial⟩
     |true=>
       by_cases c2:kk<o.l
       .rw[cN eb (by simp[c2])];left;simp only[Qz];exact⟨min md 4,by simp[-af,-aj,-ah,-az,-ck,ur,uc,q0,qb,qs,c2,aN,aP],trivial⟩
       by_cases c3:(aA o).1<lv
       .rw[cN eb (by simp[c3])];left;simp only[Qz];exact⟨min md 4,by simp[-af,-aj,-ah,-az,-ck,ur,uc,q0,qb,qs,c2,c3,aN,aP],trivial⟩
       have pC:=bk rfl;have mQ:=de hc pC;have c1:=hc.rG (by omega);have hl:=ct st;have hp:=bN pC;have w1:=wrap_i64 (n:=(st.aZ:Int)+1) (by omega) (by have:=hc.lb;omega);rw[kf eb c2 c3,ts];have qt:=dV N hx hy c1 (aA o).2 (by omega);rw[show (aq st).aa=st.aa from rfl,an] at qt;have dF:=(a6 T).lv (aA o).2 (aq st);have jT:=dF.len;have tP:(ae T (aA o).2 (aq st)).1.2.2=true->RC T L (ae T (aA o).2 (aq st)).2:=λh=>(c1.ok ((a6 T).ok _ _ h)).1
       have lV:st.aa≠[]->(ae T (aA o).2 (aq st)).2.aa≠[]:=dF.aa;have vr:=ay (ae T (aA o).2 (aq st)).1.1;have vc:=br (ae T (aA o).2 (aq st)).1.1;have qc:=lx (aM L st).aD [t,(ae T (aA o).2 (aq st)).1.1] (by simp);rw[Dx,List.map_cons,List.map_cons,List.map_nil,an t,an (ae T (aA o).2 (aq st)).1.1] at qc;generalize ae T (aA o).2 (aq st)=r at *;obtain⟨⟨u,Xa,tv⟩,s1⟩:=r;dsimp only at *;have h1:=lV h0;rw[iY h0,dW h0 h1] at qt;obtain⟨cq,ih⟩:=aaS n N hx hy kk M (bM (aM L st).aD [t,u]) o.l tv s1 m (min md 0) tP h1 (by omega) (by omega) (by omega);rw[show (bM (aM L st).aD [t,u]).au=2 from rfl,show (bM (aM L st).aD [t,u]).cF=0 from rfl,show (bM (aM L st).aD [t,u]).bH=(aM L st).aD from rfl,gD] at ih;right;refine⟨cq,Eq.trans ?_ ih⟩;simp[-af,-aj,-ah,-az,-ck,ur,uc,q0,qb,qs,qt,qc,c2,c3,w1,vr,vc,aN,aP]
theorem aaY(n N:Nat){x y:AV}{T:List bj}{L:List Tok}(hx:ba x=some T)(hy:bx y=some L)(kk:Int):∀(M:Nat) (t:Tm) (lv:Int) (ok:Bool) (st:St) (m md:Nat),(ok=true->RC T L st)->st.aa≠[]->st.aC.length<=N->st.aC.length<M->M<=m->
 ∃cq,gu 5 0 (bL (aH (aF (b9 rR (rS N)) (n+1)) (n+1) qA) kA 5 m (mN (.ptr 0 0) (.int .i64 kk) (.ptr 2 0) (.ptr 4 0) (.int .i64 lv) (.bool ok)) ⟨6,[.row (aQ st.aa),.row [.int .i64 t.au,.int .i64 t.cF,.str t.bH,t.ca],.dead,.row [.int .i64 0,.int .i64 0,.str [],.aJ],.dead,.row [x,y,.int .i64 st.aZ,.int .i64 st.next,.vec 5 0 st.aa.length 2 st.aa.length]],0,md⟩)=
   L2 x y (dZ (ae T) T M kk (t,lv,ok) st) cq
 |0,_,_,_,_,_,_,_,_,_,h,_=>by omega
 |_+1,_,_,_,_,0,_,_,_,_,_,h=>by omega
 |M+1,t,lv,ok,st,m+1,md,pE,h0,hN,hM,hm=>by
   have aN:=aR hx;have aP:=aI hy;rw[ak];have ur:=ay t;have uc:=br t
   cases ok with
   |false=>rw[hU];simp only[L2];exact⟨0,by simp[-af,-aj,-ah,-az,-ck,ur,uc,aN,aP]⟩
   |true=>
     have hc:=pE rfl;have q0:=dY hx hy hc;have qb:=rn hx hy hc (aM L st);have eb:=jH hc;have bl:=jL T (aL st);have bk:=iu (T:=T) (x:=aL st);have ts:(aL st).aD=(aM L st).aD:=by rw[bm hc]
     rw[eb] at bl bk;rw[bK,bw h0] at q0;rw[bw h0,show (bZ T (aM L st)).1.aV=.agg [.str (bZ T (aM L st)).1.n,.str (bZ T (aM L st)).1.k,.int .i64 (bZ T (aM L st)).1.l] from rfl] at qb;have qs:=np (bZ T (aM L st)).1 bl;generalize bZ T (aM L st)=B at *;obtain⟨o,fd⟩:=B;dsimp only at qb qs bl bk
     cases fd with
     |false=>rw[cN eb rfl];simp only[L2];exact⟨0,by simp[-af,-aj,-ah,-az,-ck,ur,uc,q0,qb,qs,aN,aP]⟩
     |true=>
       by_cases c2:kk<o.l
       .rw[cN eb (by simp[c2])];simp only[L2];exact⟨0,by simp[-af,-aj,-ah,-az,-ck,ur,uc,q0,qb,qs,c2,aN,aP]⟩
       by_cases c3:(aA o).1<lv
       .rw[cN eb (by simp[c3])];simp only[L2];exact⟨0,by simp[-af,-aj,-ah,-az,-ck,ur,uc,q0,qb,qs,c2,c3,aN,aP]⟩
       have pC:=bk rfl;have mQ:=de hc pC;have c1:=hc.rG (by omega);have hl:=ct st;have hp:=bN pC;have w1:=wrap_i64 (n:=(st.aZ:Int)+1) (by omega) (by have:=hc.lb;omega);rw[kf eb c2 c3,ts];have qt:=dV N hx hy c1 (aA o).2 (by omega);rw[show (aq st).aa=st.aa from rfl,an] at qt;have dF:=(a6 T).lv (aA o).2 (aq st);have jT:=dF.len;have tP:(ae T (aA o).2 (aq st)).1.2.2=true->RC T L (ae T (aA o).2 (aq st)).2:=λh=>(c1.ok ((a6 T).ok _ _ h)).1
       have lV:st.aa≠[]->(ae T (aA o).2 (aq st)).2.aa≠[]:=dF.aa;have vr:=ay (ae T (aA o).2 (aq st)).1.1;have vc:=br (ae T (aA o).2 (aq st)).1.1;have qc:=lx (aM L st).aD [t,(ae T (aA o).2 (aq st)).1.1] (by simp);rw[Dx,List.map_cons,List.map_cons,List.map_nil,an t,an (ae T (aA o).2 (aq st)).1.1] at qc;generalize ae T (aA o).2 (aq st)=r at *;obtain⟨⟨u,Xa,tv⟩,s1⟩:=r;dsimp only at *;have h1:=lV h0;rw[iY h0,dW h0 h1] at qt;obtain⟨cq,ih⟩:=aaY n N hx hy kk M (bM (aM L st).aD [t,u]) o.l tv s1 m (min md 0) tP h1 (by omega) (by omega) (by omega);rw[show (bM (aM L st).aD [t,u]).au=2 from rfl,show (bM (aM L st).aD [t,u]).cF=0 from rfl,show (bM (aM L st).aD [t,u]).bH=(aM L st).aD from rfl,gD] at ih;refine⟨cq,Eq.trans ?_ ih⟩;simp[-af,-aj,-ah,-az,-ck,ur,uc,q0,qb,qs,qt,qc,c2,c3,w1,vr,vc,aN,aP]
theorem af4(n N:Nat){x y:AV}{T:List bj}{L:List Tok}(hx:ba x=some T)(hy:bx y=some L)(kk:Int):∀(M:Nat) (t:Tm) (lv:Int) (ok:Bool) (st:St) (m md:Nat),(ok=true->RC T L st)->st.aa≠[]->st.aC.length<=N->st.aC.length<M->M<=m->
 (∃cq,gu 5 0 (bL (aH (aF (b9 rR (rS N)) (n+1)) (n+1) qA) kA 5 m (mN (.ptr 0 0) (.int .i64 kk) (.ptr 2 0) (.ptr 4 0) (.int .i64 lv) (.bool ok)) ⟨5,[.row [.int .i64 t.au,.int .i64 t.cF,.str t.bH,t.ca],.row (aQ st.aa),.row [.int .i64 0,.int .i64 0,.str [],.aJ],.dead,.row [x,y,.int .i64 st.aZ,.int .i64 st.next,.vec 3 0 st.aa.length 2 st.aa.length]],5,md⟩)=
  SD x y ((t,lv,ok),st) cq/\dZ (ae T) T M kk (t,lv,ok) st=((t,lv,ok),st))\/∃cq,gu 5 0 (bL (aH (aF (b9 rR (rS N)) (n+1)) (n+1) qA) kA 5 m (mN (.ptr 0 0) (.int .i64 kk) (.ptr 2 0) (.ptr 4 0) (.int .i64 lv) (.bool ok)) ⟨5,[.row [.int .i64 t.au,.int .i64 t.cF,.str t.bH,t.ca],.row (aQ st.aa),.row [.int .i64 0,.int .i64 0,.str [],.aJ],.dead,.row [x,y,.int .i64 st.aZ,.int .i64 st.next,.vec 3 0 st.aa.length 2 st.aa.length]],5,md⟩)=
  L2 x y (dZ (ae T) T M kk (t,lv,ok) st) cq
 |0,_,_,_,_,_,_,_,_,_,h,_=>by omega
 |_+1,_,_,_,_,0,_,_,_,_,_,h=>by omega
 |M+1,t,lv,ok,st,m+1,md,pE,h0,hN,hM,hm=>by
   have aN:=aR hx;have aP:=aI hy;rw[ak];have ur:=ay t;have uc:=br t
   cases ok with
   |false=>rw[hU];left;simp only[SD];exact⟨md,by simp[-af,-aj,-ah,-az,-ck,ur,uc,aN,aP],trivial⟩
   |true=>
     have hc:=pE rfl;have q0:=dY hx hy hc;have qb:=rn hx hy hc (aM L st);have eb:=jH hc;have bl:=jL T (aL st);have bk:=iu (T:=T) (x:=aL st);have ts:(aL st).aD=(aM L st).aD:=by rw[bm hc]
     rw[eb] at bl bk;rw[bK,bw h0] at q0;rw[bw h0,show (bZ T (aM L st)).1.aV=.agg [.str (bZ T (aM L st)).1.n,.str (bZ T (aM L st)).1.k,.int .i64 (bZ T (aM L st)).1.l] from rfl] at qb;have qs:=np (bZ T (aM L st)).1 bl;generalize bZ T (aM L st)=B at *;obtain⟨o,fd⟩:=B;dsimp only at qb qs bl bk
     cases fd with
     |false=>rw[cN eb rfl];left;simp only[SD];exact⟨min md 5,by simp[-af,-aj,-ah,-az,-ck,ur,uc,q0,qb,qs,aN,aP],trivial⟩
     |true=>
       by_cases c2:kk<o.l
       .rw[cN eb (by simp[c2])];left;simp only[SD];exact⟨min md 5,by simp[-af,-aj,-ah,-az,-ck,ur,uc,q0,qb,qs,c2,aN,aP],trivial⟩
       by_cases c3:(aA o).1<lv
       .rw[cN eb (by simp[c3])];left;simp only[SD];exact⟨min md 5,by simp[-af,-aj,-ah,-az,-ck,ur,uc,q0,qb,qs,c2,c3,aN,aP],trivial⟩
       have pC:=bk rfl;have mQ:=de hc pC;have c1:=hc.rG (by omega);have hl:=ct st;have hp:=bN pC;have w1:=wrap_i64 (n:=(st.aZ:Int)+1) (by omega) (by have:=hc.lb;omega);rw[kf eb c2 c3,ts];have qt:=dV N hx hy c1 (aA o).2 (by omega);rw[show (aq st).aa=st.aa from rfl,an] at qt;have dF:=(a6 T).lv (aA o).2 (aq st);have jT:=dF.len;have tP:(ae T (aA o).2 (aq st)).1.2.2=true->RC T L (ae T (aA o).2 (aq st)).2:=λh=>(c1.ok ((a6 T).ok _ _ h)).1
       have lV:st.aa≠[]->(ae T (aA o).2 (aq st)).2.aa≠[]:=dF.aa;have vr:=ay (ae T (aA o).2 (aq st)).1.1;have vc:=br (ae T (aA o).2 (aq st)).1.1;have qc:=lx (aM L st).aD [t,(ae T (aA o).2 (aq st)).1.1] (by simp);rw[Dx,List.map_cons,List.map_cons,List.map_nil,an t,an (ae T (aA o).2 (aq st)).1.1] at qc;generalize ae T (aA o).2 (aq st)=r at *;obtain⟨⟨u,Xa,tv⟩,s1⟩:=r;dsimp only at *;have h1:=lV h0;rw[iY h0,dW h0 h1] at qt;obtain⟨cq,ih⟩:=aaY n N hx hy kk M (bM (aM L st).aD [t,u]) o.l tv s1 m (min md 0) tP h1 (by omega) (by omega) (by omega);rw[show (bM (aM L st).aD [t,u]).au=2 from rfl,show (bM (aM L st).aD [t,u]).cF=0 from rfl,show (bM (aM L st).aD [t,u]).bH=(aM L st).aD from rfl,gD] at ih;right;refine⟨cq,Eq.trans ?_ ih⟩;simp[-af,-aj,-ah,-az,-ck,ur,uc,q0,qb,qs,qt,qc,c2,c3,w1,vr,vc,aN,aP]
end
section
theorem Jg(T:List bj)(n:Int)(st:St):ae T n st=dZ (ae T) T (st.aC.length+1) n (dp T n st).1 (dp T n st).2:=by
 have H:=vd T st.aC.length;have E:EqR st.aC.length (l8 T st.aC.length) (ae T):=λn s h=>Yv T h n
 have p:=(rT H T (st.aC.length+1) n st).1.len;show l8 T (st.aC.length+1) n st=_;unfold l8 dp;rw[Pp H E T (st.aC.length+1) (st.aC.length+1) n st (by omega) (by omega) (by omega)] at *;exact Ih H E T _ _ n _ _ (by omega) (by omega) (by omega)
attribute [local simp] fX fU fY fR eO eN fP fS fT eQ eR fQ lg kZ lr k9 kX kW fc fe Laid.aK db dc bf aaq bc ado c71 kA rR rS Dm sq fV Hw Ds fa
theorem TW(N:Nat){x y:AV}{T:List bj}{L:List Tok}{st:St}(hx:ba x=some T)(hy:bx y=some L)(hc:RC T L st)(hN:st.aC.length=N)(hE:cT Tryz.prog cX (b9 rR (rS N)))(n:Int):
 dA Tryz.prog cX 71 [.ptr 0 0,.int .i64 n] (fq x y st) (.tuple [(ae T n st).1.1.aV,.int .i64 (ae T n st).1.2.1,.bool (ae T n st).1.2.2]) (some (gF x y st.aa (ae T n st).2)):=by
 rw[Jg];have aN:=aR hx;have aP:=aI hy;have q:=Se N hx hy hc n (by omega);have qn:=Ro N hx hy hc n (by omega);have hl:st.aC.length<=100000:=by rw[hc.aC,List.length_drop,eZ];have:=hc.lb;omega
 have dF:=rT (a6 T) T (st.aC.length+1) n st;change Lv st (dp T n st).2/\((dp T n st).1.2.2=true->Ok st (dp T n st).2) at dF;have jT:=dF.1.len;have tP:(dp T n st).1.2.2=true->RC T L (dp T n st).2:=λh=>(hc.ok (dF.2 h)).1
 have lV:st.aa≠[]->(dp T n st).2.aa≠[]:=dF.1.aa;rw[an] at q;generalize dp T n st=P at *;obtain⟨⟨t,lv,ok⟩,s1⟩:=P;dsimp only at q jT tP lV|-;have ur:=ay t;have uc:=br t;have I1:=(mO (a6 T) T (st.aC.length+1) n (t,lv,ok) s1).1.aa;have lC:=afk 199998 N hx hy n (st.aC.length+1) t lv ok s1 199999 0 tP;have lG:=af4 199998 N hx hy n (st.aC.length+1) t lv ok s1 199999 0 tP;have lA:=aaZ 199998 N hx hy n (st.aC.length+1) t lv ok s1 199999 0 tP;generalize dZ (ae T) T (st.aC.length+1) n (t,lv,ok) s1=Q at *;obtain⟨⟨u,lw,okk⟩,s2⟩:=Q;dsimp only at I1 lA lC lG|-;have vr:=ay u;have vc:=br u;by_cases h0:st.aa=[];rw[bz h0,h0] at q;rw[bz h0] at qn;by_cases h1:s1.aa=[];rw[cW h1] at q;obtain⟨cq,lp⟩:=lA h1 (by omega) (by omega) (by omega);by_cases h2:s2.aa=[];rw[if_pos h2] at lp;simp only[wa,kA,mN,rR,rS] at lp;refine dP (n:=200000) hE aN aP h0 h2 ?_ (bE _ _ _) rfl
 rotate_left
 rw[if_neg h2] at lp;simp only[Ni,kA,mN,rR,rS] at lp;refine eJ (n:=200000) hE aN aP 3 (by decide) h0 h2 ?_ (bE _ _ _) rfl
 rotate_left
 rw[cH h1] at q;have h2:=I1 h1;rcases lC h1 (by omega) (by omega) (by omega) with⟨cq,lp,eq⟩|⟨cq,lp⟩;cases eq;simp only[Qz,kA,mN,rR,rS] at lp;refine eJ (n:=200000) hE aN aP 2 (by decide) h0 h1 ?_ (bE _ _ _) rfl
 rotate_left
 simp only[M1,kA,mN,rR,rS] at lp;refine eJ (n:=200000) hE aN aP 4 (by decide) h0 h2 ?_ (bE _ _ _) rfl
 rotate_left
 have h1:=lV h0;rw[bw h0,dW h0 h1] at q;rw[bw h0] at qn;have h2:=I1 h1;rcases lG h1 (by omega) (by omega) (by omega) with⟨cq,lp,eq⟩|⟨cq,lp⟩;cases eq;simp only[SD,kA,mN,rR,rS] at lp;refine dB (n:=200000) hE aN aP 3 (by decide) h0 h1 ?_ (bE _ _ _) rfl
 rotate_left
 simp only[L2,kA,mN,rR,rS] at lp;refine dB (n:=200000) hE aN aP 5 (by decide) h0 h2 ?_ (bE _ _ _) rfl
 rotate_left
 all_goals
  rw[an];simp[qn,ur,uc,vr,vc,lp,q,-af,-aj,-ah,-az,-ck,aN,aP]
theorem Ld(N:Nat)(hN:cC Tryz.prog cX (iZ N)):cC Tryz.prog cX (iZ (N+1)):=λag os v r hv=>by
 unfold iZ at hv;dsimp only at hv;split at hv
 .rename_i os n;split at hv
  .rename_i R hR;split at hv
   .rename_i hn;cases hv;obtain⟨hx,hy,rfl,h⟩:=kM hR;rw[fa];have hE:cT Tryz.prog cX (b9 rR (rS N)):=dK (by simp[rR,GQ.lift,yq.lift]) (by simp[rS,hN,y8,UT,RX N hN]);by_cases cR:R.st.aC.length<N
    .exact hN _ _ _ _ (dV N hx hy h n cR)
    .exact TW N hx hy h (by omega) hE n
   .cases hv
  .cases hv
 .cases hv
theorem De:∀N,cC Tryz.prog cX (iZ N)
 |0=>λag os v r hv=>by
   unfold iZ at hv;dsimp only at hv;split at hv
   .split at hv
    .split at hv
     .rename_i h;exact absurd h (by omega)
     .cases hv
    .cases hv
   .cases hv
 |N+1=>Ld N (De N)
end
section
instance (t:Tm):Decidable (OkW t):=by unfold OkW;infer_instance
def mp(vs:List Int):List (AV×AV):=vs.map λv=>(.int .i64 v,.bool true)
def qu(T:Tm)(cv:AV)(vs:List Int):List bp:=[.row T.cells,.row [.map 2],.map (mp vs),.row [cv],.row T.cells]
theorem nX(x:Tm)(h:x.sj og=true)(hk:x.au=0):x.ag=[]:=by rw[Aq,Bool.and_eq_true] at h;have:=h.1;unfold og at this;rw[if_pos hk] at this;simp only[Bool.and_eq_true,decide_eq_true_eq] at this;exact List.length_eq_zero_iff.1 this.2
def afH(t:Tm):Prop:=t.ig<1000000000/\t.sj Fa=true
instance (t:Tm):Decidable (afH t):=by unfold afH;infer_instance
def qG:aX:=⟨89,λ|[.str k]=>some (.bool (dq k))|_=>none⟩
theorem dL:qG.f=89:=(rfl)
theorem vh(k:List UInt8):qG.S [.str k]=some (.bool (dq k)):=(rfl)
theorem Ax:aY Tryz.prog qG:=λag v hv=>by
 unfold qG at hv|-;dsimp only at hv|-;split at hv
 .rename_i k;cases hv;refine bG (n:=4) (h':=h0) (bA (ss:=[]) (by simp)) ?_ rfl (by simp[AV.aK,AV.aw]);unfold dq;cases e1:k==[120,102,120]<;>cases e2:k==[120,102,121]<;>cases e3:k==[121,102,120]<;>simp[aeX,c89,e1,e2,e3]
 .cases hv
def yO:aX:=⟨128,λ|[.str k]=>some (.bool (gx k))|_=>none⟩
theorem ix:yO.f=128:=(rfl)
theorem MJ(k:List UInt8):yO.S [.str k]=some (.bool (gx k)):=(rfl)
theorem M9:aY Tryz.prog yO:=λag v hv=>by
 unfold yO at hv|-;dsimp only at hv|-;split at hv
 .rename_i k;cases hv;refine bG (n:=4) (h':=h0) (bA (ss:=[]) (by simp)) ?_ rfl (by simp[AV.aK,AV.aw]);unfold gx;cases e1:k==[102,121]<;>cases e2:k==[102,120]<;>simp[adw,HI,e1,e2]
 .cases hv
def Ek:aX:=⟨88,λ|[v]=>(nv v).map λo=>.bool (mS o.n o.k o.l)|_=>none⟩
theorem nM:Ek.f=88:=(rfl)
theorem VO(a b:List UInt8)(l:Int):Ek.S [.agg [.str a,.str b,.int .i64 l]]=some (.bool (mS a b l)):=(rfl)
theorem Tp:aY Tryz.prog Ek:=λag v hv=>by
 unfold Ek at hv|-;dsimp only at hv|-;split at hv
 .rename_i w;simp only[Option.map_eq_some_iff] at hv;obtain⟨o,h1,rfl⟩:=hv;rw[kR h1];obtain⟨a,b,l⟩:=o;refine bG (n:=5) (h':=h0) (bA (ss:=[qG,yO]) (by simp[Ax,M9])) ?_ rfl (by simp[AV.aK,AV.aw,bj.aV,bj.cells]);have q1:=vh b;have q2:=MJ b;unfold mS;have nn:∀(x y:List UInt8),x≠y->(x==y)=false:=λx y h=>by simpa using h
  by_cases c1:a=[]
  .subst c1;simp[tw,MO,dL,ix,bj.aV,bj.cells]
  have d1:=nn _ _ c1;by_cases c2:64<a.length
  .have G8:((64:Int)<(a.length:Int))=True:=eq_true (by omega);have n44:¬a=[44]:=λe=>by rw[e] at c2;simp at c2
   have d44:=nn _ _ n44;simp[tw,MO,dL,ix,bj.aV,bj.cells,c1,d1,c2,G8,n44,d44]
  have G8:((64:Int)<(a.length:Int))=False:=eq_false (by omega);by_cases c3:a=[124]
  .subst c3;simp[tw,MO,dL,ix,bj.aV,bj.cells]
  have d3:=nn _ _ c3;by_cases c4:a=[91,93]
  .subst c4;simp[tw,MO,dL,ix,bj.aV,bj.cells]
  have d4:=nn _ _ c4;by_cases c5:a=[123,125]
  .subst c5;simp[tw,MO,dL,ix,bj.aV,bj.cells]
  have d5:=nn _ _ c5;by_cases c6:l<1
  .have c6':¬1<=l:=by omega
   by_cases c7:a=[44]
   .have c8:¬l=1000:=by omega
    subst c7;simp[tw,MO,dL,ix,bj.aV,bj.cells,c6,c8]
   .have d7:=nn _ _ c7;simp[tw,MO,dL,ix,bj.aV,bj.cells,c1,d1,c2,G8,c3,d3,c4,d4,c5,d5,c6,c6',c7,d7]
  by_cases c8:1200<l
  .have c8':¬l<=1200:=by omega
   by_cases c7:a=[44]
   .have c9:¬l=1000:=by omega
    subst c7;simp[tw,MO,dL,ix,bj.aV,bj.cells,c6,c8,c9]
   .have d7:=nn _ _ c7;simp[tw,MO,dL,ix,bj.aV,bj.cells,c1,d1,c2,G8,c3,d3,c4,d4,c5,d5,c6,c8,c8',c7,d7]
  have c6':1<=l:=by omega
  have c8':l<=1200:=by omega
  by_cases c7:a=[44]
  .subst c7;cases e1:b==[120,102,121]<;>by_cases c9:l=1000<;>simp[tw,MO,dL,ix,bj.aV,bj.cells,c6,c8,e1,c9]
  .have d7:=nn _ _ c7
   cases e1:dq b with
   |true=>rw[e1] at q1;simp[tw,MO,dL,ix,bj.aV,bj.cells,c1,d1,c2,G8,c3,d3,c4,d4,c5,d5,c6,c6',c8,c8',c7,d7,q1]
   |false=>rw[e1] at q1;simp[tw,MO,dL,ix,bj.aV,bj.cells,c1,d1,c2,G8,c3,d3,c4,d4,c5,d5,c6,c6',c8,c8',c7,d7,q1,q2]
 .cases hv
def vA:aX:=⟨113,λ|[v]=>(match nv v with|some o=>if 0<=o.l/\o.l<=1200 then some (.tuple [.int .i64 (aA o).1,.int .i64 (aA o).2]) else none|none=>none)|_=>none⟩
theorem z8:vA.f=113:=(rfl)
theorem kK(o:bj)(h:0<=o.l/\o.l<=1200):vA.S [.agg [.str o.n,.str o.k,.int .i64 o.l]]=some (.tuple [.int .i64 (aA o).1,.int .i64 (aA o).2]):=if_pos h
theorem CN:aY Tryz.prog vA:=λag v hv=>by
 unfold vA at hv|-;dsimp only at hv|-;split at hv
 .rename_i x;split at hv
  .rename_i o hd;split at hv
   .rename_i hl;cases hv;rw[kR hd];refine bG (n:=6) (h':=h0) (bA (ss:=[]) (by simp)) ?_ (by simp[AV.aK,AV.aw]) (by simp[AV.aw,AV.aK,bj.aV,bj.cells]);have w:IntKind.i64.wrap (o.l-1)=o.l-1:=wrap_i64 (by omega) (by omega);obtain⟨n,k,l⟩:=o;dsimp only at w;have hb:∀a b:List UInt8,a≠b->(a==b)=false:=λa b h=>by simpa using h
    unfold aA;dsimp only;by_cases h1:k=[120,102,120]
    .subst h1;simp[AE,HP,bj.aV,bj.cells,w]
    rw[if_neg h1];have e1:=hb _ _ h1;by_cases h2:k=[120,102,121]
    .subst h2;simp[AE,HP,bj.aV,bj.cells,w]
    rw[if_neg h2];have e2:=hb _ _ h2;by_cases h3:k=[121,102,120]
    .subst h3;simp[AE,HP,bj.aV,bj.cells,w]
    rw[if_neg h3];have e3:=hb _ _ h3;by_cases h4:k=[102,121]
    .subst h4;simp[AE,HP,bj.aV,bj.cells,w]
    rw[if_neg h4];have e4:=hb _ _ h4;by_cases h5:k=[102,120]
    .subst h5;simp[AE,HP,bj.aV,bj.cells,w]
    rw[if_neg h5];have e5:=hb _ _ h5;simp[AE,HP,bj.aV,bj.cells,w,h1,h2,h3,h4,h5,e1,e2,e3,e4,e5]
   .cases hv
  .cases hv
 .cases hv
def wK(l:List bj)(s:List UInt8)(b:Bool):Int:=BG (fm (λo=>o.n==s&&dq o.k==b) l)
theorem FY(n:Nat)(l:List bj)(s:List UInt8)(b:Bool)(hl:l.length<4611686018427387904):∀post pre m,l=pre++post->post.length<m->
 gu 0 0 (bL (aH (aF (cY [qG]) (n+1)) (n+1) s9) oH 0 m (XN (.sl (l.map bj.aV)) (.str s) (.bool b) (.int .i64 pre.length)) ⟨0,[],0,0⟩)=
  match fm (λo=>o.n==s&&dq o.k==b) post with
  |some i=>some (.ret,FM 32 [(6,.int .i64 (pre.length+i:Nat))],⟨0,[],0,0⟩)
  |none=>some (.exit 0,FM 32 [],⟨0,[],0,0⟩)
 |[],pre,m+1,e,_=>by subst e;have h5:AV.aw (pre.map bj.aV)=0:=dy _;simp[fm,ak,s9,h5]
 |o::post,pre,m+1,e,hm=>by
   have ih:=FY n l s b hl post (pre++[o]) m (by simp[e]) (by rw[List.length_cons] at hm;omega);have h1:l[pre.length]? =some o:=by rw[e];simp
   have h3:IntKind.i64.wrap ((pre.length:Int)+1)=(pre.length:Int)+1:=by rw[mm (by rw[e] at hl;simp at hl;omega)];simp
   have h4:o.aV=.agg [.str o.n,.str o.k,.int .i64 o.l]:=rfl;have h5:AV.aw (l.map bj.aV)=0:=dy l;have h6:((pre.length:Int)<(l.length:Int))=True:=eq_true (by rw[e,List.length_append,List.length_cons];omega);have q:=vh o.k;have hF:fm (λo=>o.n==s&&dq o.k==b) (o::post)=if (o.n==s&&dq o.k==b) then some 0 else (fm (λo=>o.n==s&&dq o.k==b) post).map (·+1):=rfl
   rw[hF];generalize fm (λo=>o.n==s&&dq o.k==b) post=F at *
   have last:∀R,R=(match F with
    |some i=>some (Ex.ret,FM 32 [(6,AV.int .i64 ((pre++[o]).length+i:Nat))],(⟨0,[],0,0⟩:ai))
    |none=>some (Ex.exit 0,FM 32 [],⟨0,[],0,0⟩))->R=(match F.map (·+1) with
    |some i=>some (Ex.ret,FM 32 [(6,AV.int .i64 (pre.length+i:Nat))],(⟨0,[],0,0⟩:ai))
    |none=>some (Ex.exit 0,FM 32 [],⟨0,[],0,0⟩)):=λR hR=>by
    rw[hR]
    cases F with
    |none=>rfl
    |some i=>simp only[Option.map_some,List.length_append,List.length_cons,List.length_nil];rw[show pre.length+(0+1)+i=pre.length+(i+1) by omega]
   rw[<-ih] at last;rw[ak];simp only[List.length_append,List.length_cons,List.length_nil,Nat.zero_add,Int.natCast_add,Int.natCast_one] at last
   cases e1:o.n==s with
   |false=>rw[Bool.false_and,if_neg (by simp)];refine last _ ?_;simp[s9,oH,h1,h3,h4,h5,h6,e1,dL]
   |true=>
     rw[Bool.true_and]
     cases e2:dq o.k==b with
     |true=>
       have e3:dq o.k=b:=by simpa using e2
       rw[e3] at q;rw[if_pos rfl];simp[s9,oH,h1,h3,h4,h5,h6,e1,e3,q,dL]
     |false=>
       have e3:dq o.k=!b:=by cases b<;>cases hb:dq o.k<;>simp[hb] at e2|-
       rw[e3] at q;rw[if_neg (by simp)];refine last _ ?_;simp[s9,oH,h1,h3,h4,h5,h6,e1,e3,q,dL]
def iK:aX:=⟨132,λ|[x,.str s,.bool b]=>(match ba x with|some l=>if l.length<4611686018427387904 then some (.int .i64 (wK l s b)) else none|none=>none)|_=>none⟩
theorem bY:iK.f=132:=(rfl)
theorem QY{x:AV}{l:List bj}(hx:ba x=some l)(s:List UInt8)(b:Bool)(h:l.length<4611686018427387904):iK.S [x,.str s,.bool b]=some (.int .i64 (wK l s b)):=by simp only[iK,hx,if_pos h]
theorem zx:aY Tryz.prog iK:=λag v hv=>by
 unfold iK at hv|-;dsimp only at hv|-;split at hv
 .rename_i x s b;split at hv
  .rename_i l hd;split at hv
   .rename_i hl;cases hv;have hr:=fL hd;refine bG (n:=l.length+6) (h':=h0) (bA (ss:=[qG]) (by simp[Ax])) ?_ rfl (by simp[AV.aw,AV.aK,hr]);rcases gH hd with⟨rfl,rfl⟩|rfl
    .simp[L3,QC,oH,s9,ak,dL,wK,fm,BG]
    .have lp:=FY (l.length+4) l s b hl l [] (l.length+5) rfl (by omega);have h5:=dy l;simp only[oH,List.length_nil,Int.natCast_zero,Nat.zero_add] at lp;unfold wK
     cases hf:fm (λo=>o.n==s&&dq o.k==b) l with
     |none=>rw[hf] at lp;simp[L3,QC,oH,h5,dL,lp,BG]
     |some i=>rw[hf] at lp;simp[L3,QC,oH,h5,dL,lp,BG]
   .cases hv
  .cases hv
 .cases hv
def BH(s:List UInt8):List bj->Int->Int
 |[],n=>n
 |o::r,n=>BH s r (if o.n=s/\n<o.l then o.l else n)
def ir(l:List bj)(s:List UInt8):Int:=BH s l 0
theorem Kg(n:Nat)(l:List bj)(s:List UInt8)(hl:l.length<4611686018427387904):∀post pre (a:Int) m,l=pre++post->post.length<m->
 gu 0 0 (bL (aH (aF (cY []) (n+1)) (n+1) AQ) xb 0 m (acj (.sl (l.map bj.aV)) (.str s) (.int .i64 a) (.int .i64 pre.length)) ⟨0,[],0,0⟩)=
  some (.exit 0,FM 35 [(5,.int .i64 (BH s post a))],⟨0,[],0,0⟩)
 |[],pre,a,m+1,e,_=>by subst e;have h5:AV.aw (pre.map bj.aV)=0:=dy _;simp[BH,ak,AQ,h5]
 |o::post,pre,a,m+1,e,hm=>by
   have ih:=Kg n l s hl post (pre++[o]) (if o.n=s/\a<o.l then o.l else a) m (by simp[e]) (by rw[List.length_cons] at hm;omega);have h1:l[pre.length]? =some o:=by rw[e];simp
   have h3:IntKind.i64.wrap ((pre.length:Int)+1)=(pre.length:Int)+1:=by rw[mm (by rw[e] at hl;simp at hl;omega)];simp
   have h4:o.aV=.agg [.str o.n,.str o.k,.int .i64 o.l]:=rfl;have h5:AV.aw (l.map bj.aV)=0:=dy l;have h6:((pre.length:Int)<(l.length:Int))=True:=eq_true (by rw[e,List.length_append,List.length_cons];omega);simp only[List.length_append,List.length_cons,List.length_nil,Nat.zero_add,Int.natCast_add,Int.natCast_one] at ih;rw[ak];unfold BH;by_cases e1:o.n=s
   .by_cases e2:a<o.l;rw[if_pos ⟨e1,e2⟩] at ih|-
    rotate_left
    rw[if_neg (λh=>e2 h.2)] at ih|-
    rotate_left
    all_goals
     simp[AQ,xb,h1,h3,h4,h5,h6,e1,e2];exact ih
   .have LR:(o.n==s)=false:=by simpa using e1
    rw[if_neg (λh=>e1 h.1)] at ih|-;simp[AQ,xb,h1,h3,h4,h5,h6,e1,LR];exact ih
def Gb:aX:=⟨94,λ|[x,.str s]=>(match ba x with|some l=>if l.length<4611686018427387904 then some (.int .i64 (ir l s)) else none|none=>none)|_=>none⟩
theorem XY:Gb.f=94:=(rfl)
theorem rz{x:AV}{l:List bj}(hx:ba x=some l)(s:List UInt8)(h:l.length<4611686018427387904):Gb.S [x,.str s]=some (.int .i64 (ir l s)):=by simp only[Gb,hx,if_pos h]
theorem Ww:aY Tryz.prog Gb:=λag v hv=>by
 unfold Gb at hv|-;dsimp only at hv|-;split at hv
 .rename_i x s;split at hv
  .rename_i l hd;split at hv
   .rename_i hl;cases hv;have hr:=fL hd;refine bG (n:=l.length+6) (h':=h0) (bA (ss:=[]) (by simp)) ?_ rfl (by simp[AV.aw,AV.aK,hr]);rcases gH hd with⟨rfl,rfl⟩|rfl
    .simp[aaF,c94,xb,AQ,ak,ir,BH]
    .have lp:=Kg (l.length+4) l s hl l [] 0 (l.length+5) rfl (by omega);have h5:=dy l;simp only[xb,List.length_nil,Int.natCast_zero] at lp;simp[aaF,c94,xb,h5,lp,ir]
   .cases hv
  .cases hv
 .cases hv
def Bh(o y:bj):Bool:=y.n==o.n&&dq y.k==dq o.k
theorem GB(n:Nat)(l:List bj)(hl:l.length<4611686018427387904)(o:bj)(i:Nat)(hi:l[i]? =some o):∀post pre m,l.take i=pre++post->post.length<m->
 gu 0 0 (bL (aH (aF (cY [qG,Ek]) (n+1)) (n+1) zB) uq 0 m (UF (.sl (l.map bj.aV)) (.int .i64 i) (.int .i64 pre.length)) ⟨0,[],0,0⟩)=
  (if post.any (Bh o) then some (.ret,FM 51 [(2,.bool false)],⟨0,[],0,0⟩) else some (.exit 2,FM 51 [(0,.sl (l.map bj.aV)),(3,.int .i64 i)],⟨0,[],0,0⟩))
 |[],pre,m+1,e,_=>by
   have EW:=(List.getElem?_eq_some_iff.1 hi).1;have EN:pre.length=i:=by have:=congrArg List.length e;simp at this;omega
   have h5:AV.aw (l.map bj.aV)=0:=dy _;simp[ak,zB,h5,EN,dL,nM]
 |y::post,pre,m+1,e,hm=>by
   have EW:=(List.getElem?_eq_some_iff.1 hi).1;have EN:pre.length+post.length+1=i:=by have:=congrArg List.length e;simp at this;omega
   have ih:=GB n l hl o i hi post (pre++[y]) m (by simp[e]) (by rw[List.length_cons] at hm;omega)
   have h1:l[pre.length]? =some y:=by
    have:(l.take i)[pre.length]? =some y:=by rw[e];simp
    rw[List.getElem?_take] at this;rw[if_pos (by omega)] at this;exact this
   have h3:IntKind.i64.wrap ((pre.length:Int)+1)=(pre.length:Int)+1:=by rw[mm (by omega)];simp
   have h4:∀z:bj,z.aV=.agg [.str z.n,.str z.k,.int .i64 z.l]:=λz=>rfl
   have h5:AV.aw (l.map bj.aV)=0:=dy l;have h6:((pre.length:Int)<(i:Int))=True:=eq_true (by omega);have q1:=vh y.k;have q2:=vh o.k;simp only[List.length_append,List.length_cons,List.length_nil,Nat.zero_add,Int.natCast_add,Int.natCast_one] at ih;rw[ak,List.any_cons];generalize post.any (Bh o)=A at *;unfold Bh
   cases e1:y.n==o.n with
   |false=>simp only[Bool.false_and,Bool.false_or];simp[zB,uq,h1,hi,h3,h4,h5,h6,e1,dL,nM];exact ih
   |true=>
     have LR:y.n=o.n:=by simpa using e1
     generalize dq o.k=bo at *
     cases e2:dq y.k==bo with
     |true=>
       have e3:dq y.k=bo:=by simpa using e2
       rw[e3] at q1;simp[zB,uq,h1,hi,h3,h4,h5,h6,LR,q1,q2,dL,nM]
     |false=>
       simp only[Bool.and_false,Bool.false_or];have e3:dq y.k=!bo:=by cases bo<;>cases hb:dq y.k<;>simp[hb] at e2|-
       rw[e3] at q1;simp[zB,uq,h1,hi,h3,h4,h5,h6,LR,q1,q2,dL,nM];exact ih
def xq:List bj->List bj->Bool
 |_,[]=>true
 |pre,o::post=>if !mS o.n o.k o.l then false else if pre.any (Bh o) then false else xq (pre++[o]) post
theorem FH(n:Nat)(l:List bj)(hl:l.length<4611686018427387904)(hn:l.length<n):∀post pre m,l=pre++post->post.length<m->
 gu 0 0 (bL (aH (aF (cY [qG,Ek]) (n+1)) (n+1) w6) sv 0 m (abh (.sl (l.map bj.aV)) (.int .i64 pre.length)) ⟨0,[],0,0⟩)=
  some (if xq pre post then .exit 0 else .ret,if xq pre post then FM 51 [(0,.sl (l.map bj.aV))] else FM 51 [(2,.bool false)],⟨0,[],0,0⟩)
 |[],pre,m+1,e,_=>by subst e;have h5:AV.aw (pre.map bj.aV)=0:=dy _;simp[xq,ak,w6,h5]
 |o::post,pre,m+1,e,hm=>by
   have ih:=FH n l hl hn post (pre++[o]) m (by simp[e]) (by rw[List.length_cons] at hm;omega);have h1:l[pre.length]? =some o:=by rw[e];simp
   have EN:pre.length+post.length+1=l.length:=by rw[e];simp;omega
   have h3:IntKind.i64.wrap ((pre.length:Int)+1)=(pre.length:Int)+1:=by rw[mm (by omega)];simp
   have h4:o.aV=.agg [.str o.n,.str o.k,.int .i64 o.l]:=rfl;have h5:AV.aw (l.map bj.aV)=0:=dy l;have h6:((pre.length:Int)<(l.length:Int))=True:=eq_true (by omega);have q:=VO o.n o.k o.l;have lp:=GB n l hl o pre.length h1 pre [] (n+1) (by rw[e];simp) (by omega);simp only[List.length_append,List.length_cons,List.length_nil,Nat.zero_add,Int.natCast_add,Int.natCast_one,Int.natCast_zero,uq,UF] at ih lp;rw[ak];unfold xq
   cases hm:mS o.n o.k o.l with
   |false=>rw[hm] at q;simp[w6,sv,h1,h3,h4,h5,h6,q,dL,nM]
   |true=>
     rw[hm] at q
     cases ha:pre.any (Bh o) with
     |true=>rw[ha] at lp;simp only[if_true] at lp;simp[w6,sv,uq,h1,h3,h4,h5,h6,q,lp,dL,nM]
     |false=>rw[ha] at lp;simp only[Bool.false_eq_true,if_false] at lp;simp[w6,sv,uq,h1,h3,h4,h5,h6,q,lp,dL,nM];exact ih
theorem Ey{a b:List UInt8}{l:Int}(h:mS a b l=true):dq b=!gx b:=by
 have hx:dq b=true->gx b=false:=λhb=>by
  unfold dq at hb;simp only[Bool.or_eq_true] at hb;rcases hb with (hb|hb)|hb
  .have e:b=[120,102,120]:=by simpa using hb
   subst e;rfl
  .have e:b=[120,102,121]:=by simpa using hb
   subst e;rfl
  .have e:b=[121,102,120]:=by simpa using hb
   subst e;rfl
 cases hb:dq b with
 |true=>rw[hx hb];rfl
 |false=>
   cases ha:gx b with
   |true=>rfl
   |false=>
     exfalso;unfold mS at h;rw[hb,ha] at h;split at h
     .simp only[Bool.and_eq_true] at h;have e:b=[120,102,121]:=by simpa using h.1
      subst e;cases hb
     .simp at h
theorem vM{α:Type}(p:α->Bool):∀l:List α,(fm p l).isSome=l.any p
 |[]=>rfl
 |x::r=>by
   have ih:=vM p r;rw[List.any_cons];unfold fm
   cases hp:p x with
   |true=>simp
   |false=>simp only[Bool.false_eq_true,if_false,Bool.false_or];rw[<-ih];cases fm p r<;>rfl
theorem GH:∀(post pre:List bj),(∀y∈pre,mS y.n y.k y.l=true)->xq pre post=mZ pre post
 |[],_,_=>rfl
 |o::r,pre,hp=>by
   unfold xq mZ
   cases hm:mS o.n o.k o.l with
   |false=>simp
   |true=>
     simp only[Bool.not_true,Bool.false_eq_true,if_false]
     have e:pre.any (Bh o)=(fm (λx=>n8 x o) pre).isSome:=by
      rw[vM]
      have key:∀l:List bj,(∀y∈l,mS y.n y.k y.l=true)->l.any (Bh o)=l.any λx=>n8 x o:=λl=>by
       induction l with
       |nil=>intro _;rfl
       |cons y q ih=>intro hy;rw[List.any_cons,List.any_cons,ih (λz hz=>hy z (List.mem_cons_of_mem _ hz))];congr 1;have k1:=Ey (hy y (by simp));have k2:=Ey hm;unfold Bh n8;rw[k1,k2];cases gx y.k<;>cases gx o.k<;>rfl
      exact key pre hp
     rw[e,GH r (pre++[o]) (λy hy=>by
      rcases List.mem_append.1 hy with hy|hy
      .exact hp y hy
      .simp at hy;subst hy;exact hm)]
def so:aX:=⟨51,λ|[x]=>(match ba x with|some l=>if l.length<4611686018427387904 then some (.bool (ew l)) else none|none=>none)|_=>none⟩
theorem zL:so.f=51:=(rfl)
theorem Eu{x:AV}{l:List bj}(hx:ba x=some l)(h:l.length<4611686018427387904):so.S [x]=some (.bool (ew l)):=by simp only[so,hx,if_pos h]
theorem Em:aY Tryz.prog so:=λag v hv=>by
 unfold so at hv|-;dsimp only at hv|-;split at hv
 .rename_i x;split at hv
  .rename_i l hd;split at hv
   .rename_i hl;cases hv;have hr:=fL hd;refine bG (n:=l.length+6) (h':=h0) (bA (ss:=[qG,Ek]) (by simp[Ax,Tp])) ?_ rfl (by simp[AV.aw,hr]);rcases gH hd with⟨rfl,rfl⟩|rfl
    .simp[Vn,c51,sv,w6,ak,dL,nM,ew,mZ]
    .have lp:=FH (l.length+4) l hl (by omega) l [] (l.length+5) rfl (by omega);have h5:=dy l;rw[GH l [] (λy hy=>by simp at hy)] at lp;simp only[sv,List.length_nil,Int.natCast_zero] at lp;unfold ew
     cases hg:mZ [] l with
     |false=>rw[hg] at lp;simp only[Bool.false_eq_true,if_false] at lp;simp[Vn,c51,sv,h5,dL,nM,lp]
     |true=>
       rw[hg] at lp;simp only[if_true] at lp;by_cases aln:l.length<=128;have abc:((l.length:Int)<=128)=True:=eq_true (by omega)
       rotate_left
       have abc:((l.length:Int)<=128)=False:=eq_false (by omega)
       rotate_left
       all_goals simp[Vn,c51,sv,h5,dL,nM,lp,aln,abc]
   .cases hv
  .cases hv
 .cases hv
theorem Bu{α:Type}{p q:α->Bool}:∀l:List α,(∀x∈l,p x=q x)->fm p l=fm q l
 |[],_=>rfl
 |x::r,h=>by unfold fm;rw[h x (by simp),Bu r (λy hy=>h y (List.mem_cons_of_mem _ hy))]
theorem xn{α:Type}{p:α->Bool}:∀{l:List α} {i:Nat} {x:α},fm p l=some i->l[i]? =some x->p x=true
 |[],i,x,h,_=>by simp[fm] at h
 |y::r,i,x,h,hx=>by
   unfold fm at h
   cases hp:p y with
   |true=>rw[hp,if_pos rfl] at h;cases h;simp at hx;rw[<-hx];exact hp
   |false=>rw[hp,if_neg (by simp)] at h;rw[Option.map_eq_some_iff] at h;obtain⟨j,h1,rfl⟩:=h;exact xn h1 (by simpa using hx)
theorem JI{l:List bj}(hg:ew l=true)(s:List UInt8)(b:Bool):
 ((bd l s (!b)).2=false/\wK l s b=-1)\/((bd l s (!b)).2=true/\∃i:Nat,wK l s b=(i:Int)/\l[i]? =some (bd l s (!b)).1):=by
 have e:fm (λo=>o.n==s&&dq o.k==b) l=fm (λo=>o.n==s&&gx o.k==!b) l:=Bu l λo ho=>by rw[Ey (CF hg o ho)];cases gx o.k<;>cases b<;>rfl
 unfold wK bd;rw[e]
 cases hf:fm (λo=>o.n==s&&gx o.k==!b) l with
 |none=>exact .inl ⟨rfl,rfl⟩
 |some i=>dsimp only;rw[if_pos hg];have cR:=qY hf;exact .inr ⟨rfl,i,rfl,by simp[List.getD,List.getElem?_eq_getElem cR]⟩
theorem A8:∀(post pre:List bj),mZ pre post=true->∀(i j:Nat) (x o:bj),(pre++post)[i]? =some x->post[j]? =some o->i<pre.length+j->n8 x o=false
 |[],pre,_,i,j,x,o,_,ho,_=>by simp at ho
 |y::r,pre,hg,i,j,x,o,hx,ho,wj=>by
   unfold mZ at hg
   cases hm:mS y.n y.k y.l with
   |false=>rw[hm] at hg;simp at hg
   |true=>
     rw[hm] at hg;simp only[Bool.not_true,Bool.false_eq_true,if_false] at hg;split at hg
     .cases hg
     .rename_i hn
      cases j with
      |zero=>
        simp at ho;subst ho;have hi:i<pre.length:=by omega
        rw[List.getElem?_append_left hi] at hx;rw[vM] at hn;simp only[List.any_eq_true,not_exists,not_and] at hn;have:=hn x (List.mem_of_getElem? hx);simpa using this
      |succ j=>refine A8 r (pre++[y]) hg i j x o (by simpa using hx) (by simpa using ho) (by simp;omega)
theorem N3{l:List bj}(hg:ew l=true){o:bj}(ho:o∈l):bd l o.n (gx o.k)=(o,true):=by
 obtain⟨j,hj,rfl⟩:=List.getElem_of_mem ho;have hA:mZ [] l=true:=by unfold ew at hg;rw[Bool.and_eq_true] at hg;exact hg.2
 have hs:(fm (λx=>x.n==l[j].n&&gx x.k==gx l[j].k) l).isSome=true:=by rw[vM,List.any_eq_true];exact⟨l[j],ho,by simp⟩
 obtain⟨i,hi⟩:=Option.isSome_iff_exists.1 hs;have cR:=qY hi;have hp:=xn hi (List.getElem?_eq_getElem cR)
 have hle:i<=j:=by
  have key:∀(l:List bj) (p:bj->Bool) (i j:Nat) (x:bj),fm p l=some i->l[j]? =some x->p x=true->i<=j:=by
   intro l p
   induction l with
   |nil=>intro i j x h;simp[fm] at h
   |cons y r ih=>
     intro i j x h hx hpx;unfold fm at h
     cases hpy:p y with
     |true=>rw[hpy,if_pos rfl] at h;cases h;omega
     |false=>
       rw[hpy,if_neg (by simp)] at h;rw[Option.map_eq_some_iff] at h;obtain⟨k,h1,rfl⟩:=h
       cases j with
       |zero=>simp at hx;subst hx;rw[hpx] at hpy;cases hpy
       |succ j=>have:=ih k j x h1 (by simpa using hx) hpx;omega
  exact key l _ i j l[j] hi (List.getElem?_eq_getElem hj) (by simp)
 have wj:i=j:=by
  rcases Nat.lt_or_ge i j with h|h
  .have:=A8 l [] hA i j l[i] l[j] (by simp) (List.getElem?_eq_getElem hj) (by simpa using h);unfold n8 at this;rw[hp] at this;cases this
  .omega
 subst wj;unfold bd;rw[hi];dsimp only;rw[if_pos hg];simp[List.getD,List.getElem?_eq_getElem cR]
theorem Pl(s:List UInt8):∀(l:List bj) (n:Int),n<=BH s l n/\∀o∈l,o.n=s->o.l<=BH s l n
 |[],n=>⟨Int.le_refl _,λo h=>by simp at h⟩
 |x::r,n=>by
   obtain⟨h1,h2⟩:=Pl s r (if x.n=s/\n<x.l then x.l else n);unfold BH;have hge:n<=(if x.n=s/\n<x.l then x.l else n):=by split<;>omega
   refine⟨Int.le_trans hge h1,λo ho hs=>?_⟩;rcases List.mem_cons.1 ho with rfl|ho
   .refine Int.le_trans ?_ h1;by_cases hc:n<o.l
    .rw[if_pos ⟨hs,hc⟩];exact Int.le_refl _
    .rw[if_neg (λh=>hc h.2)];omega
   .exact h2 o ho hs
theorem II(s:List UInt8):∀(l:List bj) (n:Int),BH s l n=n\/∃o∈l,o.n=s/\o.l=BH s l n
 |[],n=>.inl rfl
 |x::r,n=>by
   unfold BH;by_cases hc:x.n=s/\n<x.l
   .rw[if_pos hc];rcases II s r x.l with h|⟨o,h1,h2,h3⟩
    .exact .inr ⟨x,by simp,hc.1,h.symm⟩
    .exact .inr ⟨o,List.mem_cons_of_mem _ h1,h2,h3⟩
   .rw[if_neg hc];rcases II s r n with h|⟨o,h1,h2,h3⟩
    .exact .inl h
    .exact .inr ⟨o,List.mem_cons_of_mem _ h1,h2,h3⟩
theorem u5{l:List bj}{s:List UInt8}{b:Bool}(h:(bd l s b).2=true):(bd l s b).1∈l/\(bd l s b).1.n=s/\gx (bd l s b).1.k=b:=by
 unfold bd at h|-;split at h
 .cases h
 .rename_i i hi;split at h
  .rename_i hg;rw[if_pos hg];have cR:=qY hi;have hp:=xn hi (List.getElem?_eq_getElem cR);simp only[Bool.and_eq_true,beq_iff_eq] at hp;have e:l.getD i gX=l[i]:=by simp[List.getD,List.getElem?_eq_getElem cR]
   dsimp only;rw[e];exact⟨List.getElem_mem cR,hp.1,hp.2⟩
  .cases h
theorem si{l:List bj}{s:List UInt8}{b:Bool}(h:(bd l s b).2=false):(bd l s b).1=gX:=by
 unfold bd at h|-;split at h
 .rfl
 .rename_i i hi;split at h
  .cases h
  .rename_i hg;rw[if_neg hg]
theorem R7{l:List bj}(hg:ew l=true)(s:List UInt8):ir l s=max (bd l s false).1.l (bd l s true).1.l:=by
 obtain⟨h1,h2⟩:=Pl s l 0
 have up:∀b,(bd l s b).1.l<=ir l s:=λb=>by
  cases hb:(bd l s b).2 with
  |true=>exact h2 _ (u5 hb).1 (u5 hb).2.1
  |false=>rw[si hb];exact h1
 have down:ir l s<=max (bd l s false).1.l (bd l s true).1.l:=by
  rcases II s l 0 with h|⟨o,ho,hs,hl⟩
  .unfold ir;rw[h];have:=(me l s false).1;omega
  .unfold ir;rw[<-hl];have e:=N3 hg ho;rw[hs] at e
   cases ha:gx o.k with
   |true=>rw[ha] at e;rw[e];dsimp only;omega
   |false=>rw[ha] at e;rw[e];dsimp only;omega
 have:=up false;have:=up true;omega
def mY(l:List bj):List AV:=l.flatMap bj.cells
theorem EM(l:List bj):(l.map bj.aV).flatMap AV.cells=mY l:=by
 unfold mY
 induction l with
 |nil=>rfl
 |cons t r ih=>rw[List.map_cons,List.flatMap_cons,List.flatMap_cons,ih];rfl
theorem vY(l:List bj):(mY l).length=l.length*3:=by rw[<-EM,xT (vG l),List.length_map]
theorem wR(l:List bj):AV.aw (mY l)=0:=by rw[<-EM];exact nU (xU (vG l))
theorem Mc(l:List bj)(t:bj):mY (l++[t])=mY l++t.cells:=by simp[mY]
theorem agZ{h:ai}{n0 d id:Nat}(x:bj)(r:List bj)(cG:n0<=id)(hg:h.get id=some (.row (mY (x::r)))):
 jF h n0 (d+2) (.vec id 0 (r.length+1) 3 (r.length+1))=some (.sl ((x::r).map bj.aV),[id]):=
 yj cG hg (by omega) (vG (x::r)) (by simp) (by rw[vY];simp) (by rw[EM,List.take_of_length_le];rw[vY];simp)
def opsV(l:List bj):AV:=match l with
 |[]=>.aJ
 |_=>.sl (l.map bj.aV)
theorem F3(l:List bj):(opsV l).aK=0:=by
 cases l with
 |nil=>rfl
 |cons o r=>rfl
theorem Ud(l:List bj):ba (opsV l)=some l:=by
 cases l with
 |nil=>rfl
 |cons o r=>exact Ad (o::r)
theorem Lo(n:Nat)(l:List bj)(hl:l.length<1000000):∀(post pre:List bj) (aB:List bj) (m md:Nat),l=pre++post->aB=pre->aB≠[]->post.length<m->
 ∃cq,gu 1 0 (bL (aH (aF (cY []) (n+1)) (n+1) uQ) qJ 1 m (My (.ptr 0 0) (.vec 1 0 aB.length 3 aB.length) (.int .i64 pre.length)) ⟨2,[.row (mY aB),.row [.sl (l.map bj.aV)]],1,md⟩)=
   some (.exit 0,FM 35 [(3,.vec 1 0 l.length 3 l.length)],⟨2,[.row (mY l),.row [.sl (l.map bj.aV)]],0,cq⟩)
 |_,_,_,0,_,_,_,_,h=>by omega
 |[],pre,aB,m+1,md,hs,ha,fy,hm=>by rw[ak];rw[List.append_nil] at hs;subst hs ha;have hf:=wR aB;have h5:AV.aw (aB.map bj.aV)=0:=dy _;exact⟨md,by simp[uQ,qJ,hf,h5]⟩
 |o::r,pre,aB,m+1,md,hs,ha,fy,hm=>by
   rw[ak];have zd:pre.length+r.length+1=l.length:=by rw[hs];simp;omega
   have LO:aB.length=pre.length:=by rw[ha]
   have hf:=wR aB;have h8:(aB.length+1)*40<=140737488355328:=by omega
   have h9:aB.length+1<9223372036854775808:=by omega
   have iH:=vY aB;have gG:(mY aB).take (aB.length*3)=mY aB:=by rw[List.take_of_length_le];rw[vY];exact Nat.le_refl _
   have h6:((pre.length:Int)<(l.length:Int))=True:=eq_true (by omega);have hc:l[pre.length]? =some o:=by rw[hs];simp
   have h3:IntKind.i64.wrap ((pre.length:Int)+1)=(pre.length:Int)+1:=wrap_i64 (by omega) (by omega);obtain⟨cq,ih⟩:=Lo n l hl r (pre++[o]) (aB++[o]) m (min md 1) (by rw[hs];simp) (by rw[ha]) (by simp) (by simp at hm;omega);have h4:o.aV=.agg [.str o.n,.str o.k,.int .i64 o.l]:=rfl;have h5:AV.aw (l.map bj.aV)=0:=dy l;have e1:mY (aB++[o])=mY aB++[.str o.n,.str o.k,.int .i64 o.l]:=Mc _ _;have gr:AV.aw (mY aB++[.str o.n,.str o.k,.int .i64 o.l])=0:=by rw[<-e1];exact wR _
   refine⟨cq,?_⟩;simp only[List.length_append,List.length_cons,List.length_nil,Nat.zero_add,Int.natCast_add,Int.natCast_one,e1] at ih;simp[uQ,qJ,h5,aT,hf,h8,h9,gG,iH,h6,hc,h3,h4,gr];exact ih
theorem RP(n:Nat)(l:List bj)(hl:l.length<1000000):∀(o:bj) (post:List bj) (m md:Nat),l=o::post->post.length+1<m->
 ∃cq,gu 1 0 (bL (aH (aF (cY []) (n+1)) (n+1) uQ) qJ 1 m (My (.ptr 0 0) .aJ (.int .i64 0)) ⟨1,[.row [.sl (l.map bj.aV)]],1,md⟩)=
   some (.exit 0,FM 35 [(3,.vec 1 0 l.length 3 l.length)],⟨2,[.row (mY l),.row [.sl (l.map bj.aV)]],0,cq⟩)
 |o,r,0,md,hs,hm=>by omega
 |o,r,m+1,md,hs,hm=>by
   have zd:r.length+1=l.length:=by rw[hs];simp
   rw[ak];have h6:(0<l.length)=True:=eq_true (by omega);have hc:l[0]? =some o:=by rw[hs];rfl
   have h3:IntKind.i64.wrap 1=1:=rfl;obtain⟨cq,ih⟩:=Lo n l hl r [o] [o] m md (by rw[hs];rfl) rfl (by simp) (by omega);have h4:o.aV=.agg [.str o.n,.str o.k,.int .i64 o.l]:=rfl;have h5:AV.aw (l.map bj.aV)=0:=dy l;have ZY:l.map bj.aV=.agg [.str o.n,.str o.k,.int .i64 o.l]::r.map bj.aV:=by rw[hs];rfl
   have h7:AV.aw (.agg [.str o.n,.str o.k,.int .i64 o.l]::r.map bj.aV)=0:=by rw[<-ZY];exact h5
   have hlr:r.length+1=l.length:=zd;refine⟨cq,?_⟩;rw[ZY] at ih|-;simp only[List.length_cons,List.length_nil,Nat.zero_add,Int.natCast_add,Int.natCast_one,show mY [o]=[.str o.n,.str o.k,.int .i64 o.l] from rfl] at ih;have h6':(0<r.length+1)=True:=eq_true (by omega);have h5:AV.aw (r.map bj.aV)=0:=dy r;simp[uQ,qJ,h5,aT,h3,h6',h7];exact ih
def rm:aX:=⟨36,λ|[.agg [x]]=>(match ba x with|some l=>if l.length<1000000 then some (opsV l) else none|none=>none)|_=>none⟩
theorem sa:rm.f=36:=(rfl)
theorem J0{x:AV}{l:List bj}(hx:ba x=some l)(h:l.length<1000000):rm.S [.agg [x]]=some (opsV l):=by simp only[rm,hx,if_pos h]
theorem Kf:aY Tryz.prog rm:=λag v hv=>by
 unfold rm at hv|-;dsimp only at hv|-;split at hv
 .rename_i x;split at hv
  .rename_i l hd;split at hv
   .rename_i hl;cases hv;have hr:=fL hd;refine bG (n:=l.length+6) (h':=h0) (bA (ss:=[]) (by simp)) ?_ (F3 l) (by simp[AV.aw,AV.aK,hr]);rcases gH hd with⟨rfl,rfl⟩|rfl
    .simp[S6,c36,qJ,uQ,ak,opsV]
    .cases l with
     |nil=>simp[S6,c36,qJ,uQ,ak,opsV]
     |cons o r=>
       obtain⟨md,lp⟩:=RP (r.length+5) (o::r) hl o r (r.length+6) 0 rfl (by omega);have h5:=dy (o::r);have h4:o.aV=.agg [.str o.n,.str o.k,.int .i64 o.l]:=rfl;simp only[qJ,My,List.length_cons] at lp;have fk:∀d wl md,jF ⟨2,[.row (mY (o::r)),.row [.sl ((o::r).map bj.aV)]],wl,md⟩ 0 (d+2) (.vec 1 0 (r.length+1) 3 (r.length+1))=some (.sl ((o::r).map bj.aV),[1]):=λd wl md=>agZ o r (Nat.zero_le 1) rfl
       unfold opsV;dsimp only;rw[show (o::r).length+6=r.length+7 from rfl];generalize (o::r).map bj.aV=U at *;simp[S6,c36,qJ,h5,lp,fk,-iA]
   .cases hv
  .cases hv
 .cases hv
def uM:aX:=⟨147,λ|[.int .u8 c]=>some (.bool (decide (48<=c)&&decide (c<=57)))|_=>none⟩
theorem bO:uM.f=147:=(rfl)
theorem vS(c:UInt8):uM.S [.int .u8 c.toNat]=some (.bool (eA c)):=by
 have e1:decide (48<=(c.toNat:Int))=decide (48<=c.toNat):=by
  by_cases h:48<=c.toNat
  .rw[decide_eq_true h,decide_eq_true (show (48:Int)<=c.toNat by omega)]
  .rw[decide_eq_false h,decide_eq_false (show ¬(48:Int)<=c.toNat by omega)]
 have e2:decide ((c.toNat:Int)<=57)=decide (c.toNat<=57):=by
  by_cases h:c.toNat<=57
  .rw[decide_eq_true h,decide_eq_true (show (c.toNat:Int)<=57 by omega)]
  .rw[decide_eq_false h,decide_eq_false (show ¬(c.toNat:Int)<=57 by omega)]
 simp only[uM,eA,e1,e2]
theorem zC:aY Tryz.prog uM:=λag v hv=>by
 unfold uM at hv|-;dsimp only at hv|-;split at hv
 .rename_i c;cases hv;refine bG (n:=4) (h':=h0) (bA (ss:=[]) (by simp)) ?_ rfl rfl;by_cases h:48<=c
  all_goals simp[abJ,Y9,h]
 .cases hv
theorem wrap_u8{x:Int}(h1:0<=x)(h2:x<256):IntKind.u8.wrap x=x:=by unfold IntKind.wrap;simp[IntKind.signed,IntKind.bits];omega
def rF(x:Int):Prop:=-9223372036854775808<=x/\x<9223372036854775808
instance (x:Int):Decidable (rF x):=inferInstanceAs (Decidable (_/\_))
def oK(x:Int):Int:=if rF x then x else 0
def r7(x:Int):Int:=if rF x then 0 else 3
def I8:aX:=⟨177,λ|[.str op,.int .i64 a,.int .i64 b]=>if rF a/\rF b then (if op=[42]/\b=10 then some (.tuple [.int .i64 (oK (a*10)),.int .i64 (r7 (a*10))]) else if op=[43] then some (.tuple [.int .i64 (oK (a+b)),.int .i64 (r7 (a+b))]) else none) else none|_=>none⟩
theorem lq:I8.f=177:=(rfl)
theorem ac7:rF 10:=by unfold rF;omega
theorem S0(a:Int)(h:rF a):I8.S [.str [42],.int .i64 a,.int .i64 10]=some (.tuple [.int .i64 (oK (a*10)),.int .i64 (r7 (a*10))]):=by simp[I8,h,ac7]
theorem Vg(a b:Int)(h:rF a)(h2:rF b):I8.S [.str [43],.int .i64 a,.int .i64 b]=some (.tuple [.int .i64 (oK (a+b)),.int .i64 (r7 (a+b))]):=by simp[I8,h,h2]
theorem D4(x:Int):rF (IntKind.i64.wrap x)/\∃k:Int,IntKind.i64.wrap x=x+k*18446744073709551616:=by unfold rF;rw[IntKind.wrap_i64];refine⟨by omega,-((x+9223372036854775808) / 18446744073709551616),by omega⟩
theorem tdiv_cases(p:Int):(0<=p/\p.tdiv 10=p / 10)\/(p<0/\p.tdiv 10=-((-p) / 10)):=by
 by_cases h:0<=p
 .exact .inl ⟨h,Int.tdiv_eq_ediv_of_nonneg h⟩
 .refine .inr ⟨by omega,?_⟩;have:=Int.neg_tdiv (-p) 10;rw[Int.neg_neg] at this;rw[this,Int.tdiv_eq_ediv_of_nonneg (by omega)]
theorem XT:aY Tryz.prog I8:=λag v hv=>by
 unfold I8 at hv|-;dsimp only at hv|-;split at hv
 .rename_i op a b;split at hv
  .rename_i hr;obtain⟨ha,hb⟩:=hr;split at hv
   .rename_i fg;obtain⟨rfl,rfl⟩:=fg;cases hv;refine bG (n:=5) (h':=h0) (bA (ss:=[]) (by simp)) ?_ rfl rfl;by_cases h0a:a=0
    .subst h0a;simp[qE,Aa,oK,r7,rF]
    obtain⟨⟨b1,b2⟩,k,hk⟩:=D4 (a*10);obtain⟨⟨b3,b4⟩,k2,hk2⟩:=D4 ((IntKind.i64.wrap (a*10)).tdiv 10);have ht:=tdiv_cases (IntKind.i64.wrap (a*10));have w2:IntKind.i64.wrap ((IntKind.i64.wrap (a*10)).tdiv 10)=(IntKind.i64.wrap (a*10)).tdiv 10:=wrap_i64 (by omega) (by omega);have hm:a=-1\/a≠-1:=by omega
    unfold rF at ha;by_cases hf:rF (a*10)
    .have w1:IntKind.i64.wrap (a*10)=a*10:=wrap_i64 hf.1 hf.2;rw[w1] at ht w2;have hq:(a*10).tdiv 10=a:=by omega
     rw[hq] at w2;rcases hm with hm|hm
     .subst hm;have w3:IntKind.i64.wrap (-10)=-10:=rfl;have w4:(-10:Int).tdiv 10=-1:=rfl;have w5:IntKind.i64.wrap (-1)=-1:=rfl;simp[qE,Aa,acC,YJ,oK,r7,rF,w3,w4,w5]
     .simp[qE,Aa,oK,r7,h0a,hm,hf,w1,w2,hq]
    .have fy:¬(IntKind.i64.wrap (a*10)).tdiv 10=a:=λe=>hf (by unfold rF at hf|-;omega)
     rcases hm with hm|hm
     .exact absurd (by rw[hm];unfold rF;omega) hf
     .generalize hs:IntKind.i64.wrap (a*10)=p at *;simp[qE,Aa,oK,r7,h0a,hm,hf,hs,w2,fy]
   .split at hv
    .rename_i fg;subst fg;cases hv;refine bG (n:=5) (h':=h0) (bA (ss:=[]) (by simp)) ?_ rfl rfl;obtain⟨⟨b1,b2⟩,k,hk⟩:=D4 (a+b);have hi:rF (a+b)↔IntKind.i64.wrap (a+b)=a+b:=⟨λh=>wrap_i64 h.1 h.2,λh=>by rw[<-h];exact⟨b1,b2⟩⟩
     unfold rF at ha hb;generalize hs:IntKind.i64.wrap (a+b)=p at *;by_cases ga:0<=a
     .by_cases gb:0<=b
      .by_cases hf:rF (a+b)
       .have e:=hi.1 hf;have c1:(p<0)=False:=eq_false (by omega);have c2:(a<0)=False:=eq_false (by omega);simp[qE,Aa,oK,r7,hf,ga,gb,hs,c1,c2];exact e
       .have c1:(p<0)=True:=eq_true (by unfold rF at hf;omega);simp[qE,Aa,oK,r7,hf,ga,gb,hs,c1]
      .have hf:rF (a+b):=by unfold rF;omega
       obtain rfl:=hi.1 hf;have c2:(a<0)=False:=eq_false (by omega);simp[qE,Aa,oK,r7,hf,ga,gb,hs,c2]
     .have c2:(a<0)=True:=eq_true (by omega);by_cases gb:0<=b
      .have hf:rF (a+b):=by unfold rF;omega
       obtain rfl:=hi.1 hf;have c3:(b<0)=False:=eq_false (by omega);simp[qE,Aa,oK,r7,hf,ga,gb,hs,c2,c3]
      .have c3:(b<0)=True:=eq_true (by omega);by_cases hf:rF (a+b)
       .have e:=hi.1 hf;have c1:(0<=p)=False:=eq_false (by omega);simp[qE,Aa,oK,r7,hf,ga,gb,hs,c1,c2,c3];exact e
       .have c1:(0<=p)=True:=eq_true (by unfold rF at hf;omega);simp[qE,Aa,oK,r7,hf,ga,gb,hs,c1,c2,c3]
    .cases hv
  .cases hv
 .cases hv
end
end Go.Proofs.YtjmeonoabiliiaaGreatDoor
