import Derived.Test.YtjmeonoabiliiaaGreatDoorAt
import Derived.Test.YtjmeonoabiliiaaGreatDoorBd3
import Derived.Test.YtjmeonoabiliiaaGreatDoorBd2
import Derived.Test.YtjmeonoabiliiaaGreatDoorBd1
set_option linter.all false
set_option maxHeartbeats 16000000
set_option maxRecDepth 100000
namespace Go.Proofs.YtjmeonoabiliiaaGreatDoor
open Go Sz
section
noncomputable def Bl(N:Nat):cw:=⟨120,λ
 |[.ptr 0 0,.int .i64 n],os=>(match ye os with
   |some R=>if R.st.ax.length<=N then some (.tuple [(bu R.T n R.st).1.1.aL,.int .i64 (bu R.T n R.st).1.2.1,.bool (bu R.T n R.st).1.2.2],some (dF R.x R.y R.st.ae (bu R.T n R.st).2)) else none
   |none=>none)
 |_,_=>none⟩
theorem EY(N:Nat):(Bl N).f=120:=(rfl)
theorem Vg(N:Nat){x y:AV}{T:List a7}{L:List Tok}{st:St}(hx:aZ x=some T)(hy:bE y=some L)(h:RC T L st)(n:Int)(hn:st.ax.length<=N):
 (Bl N).S [.ptr 0 0,.int .i64 n] (dA x y st)=some (.tuple [(bu T n st).1.1.aL,.int .i64 (bu T n st).1.2.1,.bool (bu T n st).1.2.2],some (dF x y st.ae (bu T n st).2)):=by
 simp only[Bl,lR hx hy h];rw[if_pos hn]
theorem YT(N:Nat){x y:AV}{T:List a7}{L:List Tok}{st:St}(hx:aZ x=some T)(hy:bE y=some L)(h:RC T L st)(hN:st.ax.length<=N)(hE:cb Tryz.prog bV (cm rz (qX N)))(n:Int):
 cp Tryz.prog bV 120 [.ptr 0 0,.int .i64 n] (dA x y st) (.tuple [(bu T n st).1.1.aL,.int .i64 (bu T n st).1.2.1,.bool (bu T n st).1.2.2]) (some (dF x y st.ae (bu T n st).2)):=by
 by_cases k4:(bf L st).aj=4
 .exact Xl N hx hy h hN hE n k4
 by_cases k3:(bf L st).aj=3
 .exact WS N hx hy h hN hE n k3
 by_cases k5:(bf L st).aj=5
 .by_cases t1:(bf L st).aI=[40]
  .cases cT:(ai T 1200 (aA st)).1.2.2 with
   |true=>exact OD N hx hy h hN hE n k5 t1 cT
   |false=>exact QH N hx hy h hN hE n k5 t1 cT
  by_cases t2:(bf L st).aI=[91]
  .exact Vq N hx hy h hN hE n k5 t2
  by_cases t3:(bf L st).aI=[123]
  .cases cT:(ai T 1200 (aA st)).1.2.2 with
   |true=>exact Ng N hx hy h hN hE n k5 t3 cT
   |false=>exact NK N hx hy h hN hE n k5 t3 cT
  exact Y5 N hx hy h hN hE n k5 t1 t2 t3
 cases kn:(decide ((bf L st).aj=1)||decide ((bf L st).aj=2)) with
 |false=>rw[Bool.or_eq_false_iff,decide_eq_false_iff_not,decide_eq_false_iff_not] at kn;exact Ti N hx hy h hN hE n kn.1 kn.2 k3 k4 k5
 |true=>
   cases ko:(bf L st).js with
   |true=>
     cases cT:(aD T (aA (aA st))).1.2 with
     |true=>exact MO N hx hy h hN hE n kn ko cT
     |false=>exact NQ N hx hy h hN hE n kn ko cT
   |false=>
     by_cases k1:(bf L st).aj=1
     .by_cases kt:(bf L st).aI=[45]
      .by_cases k44:(bf L (aA st)).aj=4
       .by_cases ka:(bf L (aA st)).bQ=(bf L st).bQ+1
        .exact V3 N hx hy h hN hE n k1 kt ko k44 ka
        .exact LP N hx hy h hN hE n kn ko k1 kt k44 ka
       .exact Nh N hx hy h hN hE n kn ko k1 kt k44
      .exact KU N hx hy h hN hE n kn ko k1 kt
     .exact LY N hx hy h hN hE n kn ko k1
theorem UP(N:Nat)(hN:cB Tryz.prog bV (iU N)):cB Tryz.prog bV (Bl N):=λaa os v r hv=>by
 unfold Bl at hv;dsimp only at hv;split at hv
 .rename_i os n;split at hv
  .rename_i R hR;split at hv
   .rename_i hn;cases hv;obtain⟨hx,hy,rfl,h⟩:=kG hR;rw[EY];have hE:cb Tryz.prog bV (cm rz (qX N)):=ey (by simp[rz,Rn.lift,E5.lift,vz.lift]) (by simp[qX,hN,AI,aaD,FD,P5 N hN,Cy N hN,OF N hN]);exact YT N hx hy h hn hE n
   .cases hv
  .cases hv
 .cases hv
section
variable {rec:Int->St->PR×St}{T:List a7}
theorem wD(M:Nat)(n:Int)(t:Tm)(lv:Int)(st:St):gp rec T M n (t,lv,false) st=((t,lv,false),st):=by
 cases M with
 |zero=>rfl
 |succ M=>rfl
theorem fG{M:Nat}{n:Int}{t:Tm}{lv:Int}{st:St}{B:a7×Bool}(hb:cX T (aP st)=B)(h:(!B.2||decide (n<B.1.l)||decide ((aB B.1).1<lv))=true):gp rec T M n (t,lv,true) st=((t,lv,true),st):=by
 cases M with
 |zero=>rfl
 |succ M=>unfold gp;rw[hb,if_neg (by simp),if_pos h]
theorem uh{M:Nat}{n:Int}{t:Tm}{lv:Int}{st:St}{o:a7}(hb:cX T (aP st)=(o,true))(h1:¬n<o.l)(h2:¬(aB o).1<lv):gp rec T (M+1) n (t,lv,true) st=gp rec T M n (cE (aP st).aI [t,(rec (aB o).2 (aA st)).1.1],o.l,(rec (aB o).2 (aA st)).1.2.2) (rec (aB o).2 (aA st)).2:=by
 conv=>lhs;unfold gp
 rw[hb,if_neg (by simp),if_neg (by simp[h1,h2])]
end
theorem r7(T:List a7)(x:dc):0<=(cX T x).1.l/\(cX T x).1.l<=1200:=by
 unfold cX;split
 .exact⟨by decide,by decide⟩
 .exact kK T x.aI false
theorem ph{T:List a7}{x:dc}(h:(cX T x).2=true):x.aj≠0:=λe=>by unfold cX eC at h;rw[e] at h;cases h
theorem nG(s:List UInt8)(u v:Tm):(cE s [u,v]).bh=.sl [.agg [.int .i64 u.aj,.int .i64 u.bj,.str u.az,u.bh],.agg [.int .i64 v.aj,.int .i64 v.bj,.str v.az,v.bh]]:=by rw[<-an,<-an];rfl
noncomputable def tE:List aW:=[oP,rV]
noncomputable def tG(N:Nat):List cw:=[xA,HD,Bl N,iU N]
def xy(x y:AV)(r:PR×St)(md:Nat):Option (Ex×List AV×af):=some (.exit 0,FM 75 [(4,.ptr 1 0),(7,.ptr 2 0),(8,.int .i64 r.1.2.1),(9,.bool r.1.2.2)],⟨3,[.row [.int .i64 r.1.1.aj,.int .i64 r.1.1.bj,.str r.1.1.az,r.1.1.bh],.row [.int .i64 0,.int .i64 0,.str [],.aF],.row [x,y,.int .i64 r.2.bQ,.int .i64 r.2.next,.aF]],1,md⟩)
def PD(x y:AV)(r:PR×St)(md:Nat):Option (Ex×List AV×af):=some (.exit 0,FM 75 [(4,.ptr 1 0),(7,.ptr 2 0),(8,.int .i64 r.1.2.1),(9,.bool r.1.2.2)],⟨4,[.row (bo r.2.ae),.row [.int .i64 r.1.1.aj,.int .i64 r.1.1.bj,.str r.1.1.az,r.1.1.bh],.row [.int .i64 0,.int .i64 0,.str [],.aF],.row [x,y,.int .i64 r.2.bQ,.int .i64 r.2.next,.vec 3 0 r.2.ae.length 2 r.2.ae.length]],0,md⟩)
def S2(x y:AV)(r:PR×St)(md:Nat):Option (Ex×List AV×af):=some (.exit 0,FM 75 [(4,.ptr 1 0),(7,.ptr 3 0),(8,.int .i64 r.1.2.1),(9,.bool r.1.2.2)],⟨4,[.row [.int .i64 r.1.1.aj,.int .i64 r.1.1.bj,.str r.1.1.az,r.1.1.bh],.row (bo r.2.ae),.row [.int .i64 0,.int .i64 0,.str [],.aF],.row [x,y,.int .i64 r.2.bQ,.int .i64 r.2.next,.vec 2 0 r.2.ae.length 2 r.2.ae.length]],0,md⟩)
def Pq(x y:AV)(r:PR×St)(md:Nat):Option (Ex×List AV×af):=some (.exit 0,FM 75 [(4,.ptr 1 0),(7,.ptr 3 0),(8,.int .i64 r.1.2.1),(9,.bool r.1.2.2)],⟨5,[.row (bo r.2.ae),.row [.int .i64 r.1.1.aj,.int .i64 r.1.1.bj,.str r.1.1.az,r.1.1.bh],.dead,.row [.int .i64 0,.int .i64 0,.str [],.aF],.row [x,y,.int .i64 r.2.bQ,.int .i64 r.2.next,.vec 4 0 r.2.ae.length 2 r.2.ae.length]],0,md⟩)
def VA(x y:AV)(r:PR×St)(md:Nat):Option (Ex×List AV×af):=some (.exit 0,FM 75 [(4,.ptr 2 0),(7,.ptr 4 0),(8,.int .i64 r.1.2.1),(9,.bool r.1.2.2)],⟨5,[.row [.int .i64 r.1.1.aj,.int .i64 r.1.1.bj,.str r.1.1.az,r.1.1.bh],.row (bo r.2.ae),.row [.int .i64 0,.int .i64 0,.str [],.aF],.dead,.row [x,y,.int .i64 r.2.bQ,.int .i64 r.2.next,.vec 3 0 r.2.ae.length 2 r.2.ae.length]],0,md⟩)
def Oq(x y:AV)(r:PR×St)(md:Nat):Option (Ex×List AV×af):=some (.exit 0,FM 75 [(4,.ptr 2 0),(7,.ptr 4 0),(8,.int .i64 r.1.2.1),(9,.bool r.1.2.2)],⟨6,[.row (bo r.2.ae),.row [.int .i64 r.1.1.aj,.int .i64 r.1.1.bj,.str r.1.1.az,r.1.1.bh],.dead,.row [.int .i64 0,.int .i64 0,.str [],.aF],.dead,.row [x,y,.int .i64 r.2.bQ,.int .i64 r.2.next,.vec 5 0 r.2.ae.length 2 r.2.ae.length]],0,md⟩)
attribute [local simp] jP jN jQ jJ gR gQ jH jK jM gS gT jI lz lh lD lq kY kW iJ iM Laid.aJ fh fi bW aw ri kl tE tG dD qF fP Jt EY eX j7 aG
theorem ac4(n N:Nat){x y:AV}{T:List a7}{L:List Tok}(hx:aZ x=some T)(hy:bE y=some L)(kk:Int):∀(M:Nat) (t:Tm) (lv:Int) (ok:Bool) (st:St) (m md:Nat),(ok=true->RC T L st)->st.ae≠[]->st.ax.length<=N->st.ax.length<M->M<=m->
 ∃cH,il 3 1 (bP (aC (aH (cm tE (tG N)) (n+1)) (n+1) ri) kl 3 m (ni (.ptr 0 0) (.int .i64 kk) (.ptr 1 0) (.ptr 2 0) (.int .i64 lv) (.bool ok)) ⟨4,[.row (bo st.ae),.row [.int .i64 t.aj,.int .i64 t.bj,.str t.az,t.bh],.row [.int .i64 0,.int .i64 0,.str [],.aF],.row [x,y,.int .i64 st.bQ,.int .i64 st.next,.vec 3 0 st.ae.length 2 st.ae.length]],0,md⟩)=
   PD x y (gp (ai T) T M kk (t,lv,ok) st) cH
 |0,_,_,_,_,_,_,_,_,_,h,_=>by omega
 |_+1,_,_,_,_,0,_,_,_,_,_,h=>by omega
 |M+1,t,lv,ok,st,m+1,md,NZ,h0,hN,hM,hm=>by
   have bA:=bM hx;have bD:=bB hy;rw[ag];have ur:=ar t;have uc:=cM t
   cases ok with
   |false=>rw[wD];simp only[PD];exact⟨0,by simp[-ak,-au,-aq,-aE,-dm,ur,uc,bA,bD]⟩
   |true=>
     have hc:=NZ rfl;have q0:=dK hx hy hc;have qb:=sD hx hy hc (bf L st);have eb:=rM hc;have bl:=r7 T (aP st);have bk:=ph (T:=T) (x:=aP st);have ts:(aP st).aI=(bf L st).aI:=by rw[bz hc]
     rw[eb] at bl bk;rw[cq,a6 h0] at q0;rw[a6 h0,show (eK T (bf L st)).1.aL=.agg [.str (eK T (bf L st)).1.n,.str (eK T (bf L st)).1.k,.int .i64 (eK T (bf L st)).1.l] from rfl] at qb;have qs:=kJ (eK T (bf L st)).1 bl;generalize eK T (bf L st)=B at *;obtain⟨o,fd⟩:=B;dsimp only at qb qs bl bk
     cases fd with
     |false=>rw[fG eb rfl];simp only[PD];exact⟨0,by simp[-ak,-au,-aq,-aE,-dm,ur,uc,q0,qb,qs,bA,bD]⟩
     |true=>
       by_cases c2:kk<o.l
       .rw[fG eb (by simp[c2])];simp only[PD];exact⟨0,by simp[-ak,-au,-aq,-aE,-dm,ur,uc,q0,qb,qs,c2,bA,bD]⟩
       by_cases c3:(aB o).1<lv
       .rw[fG eb (by simp[c3])];simp only[PD];exact⟨0,by simp[-ak,-au,-aq,-aE,-dm,ur,uc,q0,qb,qs,c2,c3,bA,bD]⟩
       have DQ:=bk rfl;have uY:=fY hc DQ;have c1:=hc.GJ (by omega);have hl:=dv st;have hp:=ca DQ;have w1:=wrap_i64 (n:=(st.bQ:Int)+1) (by omega) (by have:=hc.lb;omega);rw[uh eb c2 c3,ts];have qt:=dG N hx hy c1 (aB o).2 (by omega);rw[show (aA st).ae=st.ae from rfl,an] at qt;have eF:=(bY T).lv (aB o).2 (aA st);have KN:=eF.len;have Gu:(ai T (aB o).2 (aA st)).1.2.2=true->RC T L (ai T (aB o).2 (aA st)).2:=λh=>(c1.ok ((bY T).ok _ _ h)).1
       have qU:st.ae≠[]->(ai T (aB o).2 (aA st)).2.ae≠[]:=eF.ae;have vr:=ar (ai T (aB o).2 (aA st)).1.1;have vc:=cM (ai T (aB o).2 (aA st)).1.1;have qc:=lK (bf L st).aI [t,(ai T (aB o).2 (aA st)).1.1] (by simp);rw[HN,List.map_cons,List.map_cons,List.map_nil,an t,an (ai T (aB o).2 (aA st)).1.1] at qc;generalize ai T (aB o).2 (aA st)=r at *;obtain⟨⟨u,lv2,Oe⟩,s1⟩:=r;dsimp only at *;have h1:=qU h0;rw[iT h0,dX h0 h1] at qt;obtain⟨cH,ih⟩:=ac4 n N hx hy kk M (cE (bf L st).aI [t,u]) o.l Oe s1 m (min md 0) Gu h1 (by omega) (by omega) (by omega);rw[show (cE (bf L st).aI [t,u]).aj=2 from rfl,show (cE (bf L st).aI [t,u]).bj=0 from rfl,show (cE (bf L st).aI [t,u]).az=(bf L st).aI from rfl,nG] at ih;refine⟨cH,Eq.trans ?_ ih⟩;simp[-ak,-au,-aq,-aE,-dm,ur,uc,q0,qb,qs,qt,qc,c2,c3,w1,vr,vc,bA,bD]
theorem adC(n N:Nat){x y:AV}{T:List a7}{L:List Tok}(hx:aZ x=some T)(hy:bE y=some L)(kk:Int):∀(M:Nat) (t:Tm) (lv:Int) (ok:Bool) (st:St) (m md:Nat),(ok=true->RC T L st)->st.ae=[]->st.ax.length<=N->st.ax.length<M->M<=m->
 ∃cH,il 3 1 (bP (aC (aH (cm tE (tG N)) (n+1)) (n+1) ri) kl 3 m (ni (.ptr 0 0) (.int .i64 kk) (.ptr 1 0) (.ptr 2 0) (.int .i64 lv) (.bool ok)) ⟨3,[.row [.int .i64 t.aj,.int .i64 t.bj,.str t.az,t.bh],.row [.int .i64 0,.int .i64 0,.str [],.aF],.row [x,y,.int .i64 st.bQ,.int .i64 st.next,.aF]],3,md⟩)=
   (if (gp (ai T) T M kk (t,lv,ok) st).2.ae=[] then xy x y (gp (ai T) T M kk (t,lv,ok) st) cH else PD x y (gp (ai T) T M kk (t,lv,ok) st) cH)
 |0,_,_,_,_,_,_,_,_,_,h,_=>by omega
 |_+1,_,_,_,_,0,_,_,_,_,_,h=>by omega
 |M+1,t,lv,ok,st,m+1,md,NZ,h0,hN,hM,hm=>by
   have bA:=bM hx;have bD:=bB hy;rw[ag];have ur:=ar t;have uc:=cM t
   cases ok with
   |false=>rw[wD];simp only[if_pos h0];simp only[xy];exact⟨md,by simp[-ak,-au,-aq,-aE,-dm,ur,uc,bA,bD]⟩
   |true=>
     have hc:=NZ rfl;have q0:=dK hx hy hc;have qb:=sD hx hy hc (bf L st);have eb:=rM hc;have bl:=r7 T (aP st);have bk:=ph (T:=T) (x:=aP st);have ts:(aP st).aI=(bf L st).aI:=by rw[bz hc]
     rw[eb] at bl bk;rw[cq,bd h0] at q0;rw[bd h0,show (eK T (bf L st)).1.aL=.agg [.str (eK T (bf L st)).1.n,.str (eK T (bf L st)).1.k,.int .i64 (eK T (bf L st)).1.l] from rfl] at qb;have qs:=kJ (eK T (bf L st)).1 bl;generalize eK T (bf L st)=B at *;obtain⟨o,fd⟩:=B;dsimp only at qb qs bl bk
     cases fd with
     |false=>rw[fG eb rfl];simp only[if_pos h0];simp only[xy];exact⟨min md 3,by simp[-ak,-au,-aq,-aE,-dm,ur,uc,q0,qb,qs,bA,bD]⟩
     |true=>
       by_cases c2:kk<o.l
       .rw[fG eb (by simp[c2])];simp only[if_pos h0];simp only[xy];exact⟨min md 3,by simp[-ak,-au,-aq,-aE,-dm,ur,uc,q0,qb,qs,c2,bA,bD]⟩
       by_cases c3:(aB o).1<lv
       .rw[fG eb (by simp[c3])];simp only[if_pos h0];simp only[xy];exact⟨min md 3,by simp[-ak,-au,-aq,-aE,-dm,ur,uc,q0,qb,qs,c2,c3,bA,bD]⟩
       have DQ:=bk rfl;have uY:=fY hc DQ;have c1:=hc.GJ (by omega);have hl:=dv st;have hp:=ca DQ;have w1:=wrap_i64 (n:=(st.bQ:Int)+1) (by omega) (by have:=hc.lb;omega);rw[uh eb c2 c3,ts];have qt:=dG N hx hy c1 (aB o).2 (by omega);rw[show (aA st).ae=st.ae from rfl,an] at qt;have eF:=(bY T).lv (aB o).2 (aA st);have KN:=eF.len;have Gu:(ai T (aB o).2 (aA st)).1.2.2=true->RC T L (ai T (aB o).2 (aA st)).2:=λh=>(c1.ok ((bY T).ok _ _ h)).1
       have qU:st.ae≠[]->(ai T (aB o).2 (aA st)).2.ae≠[]:=eF.ae;have vr:=ar (ai T (aB o).2 (aA st)).1.1;have vc:=cM (ai T (aB o).2 (aA st)).1.1;have qc:=lK (bf L st).aI [t,(ai T (aB o).2 (aA st)).1.1] (by simp);rw[HN,List.map_cons,List.map_cons,List.map_nil,an t,an (ai T (aB o).2 (aA st)).1.1] at qc;generalize ai T (aB o).2 (aA st)=r at *;obtain⟨⟨u,lv2,Oe⟩,s1⟩:=r;dsimp only at *;by_cases h1:s1.ae=[]
       .rw[fo h0,h0,dh h1] at qt;obtain⟨cH,ih⟩:=adC n N hx hy kk M (cE (bf L st).aI [t,u]) o.l Oe s1 m (min md 0) Gu h1 (by omega) (by omega) (by omega);rw[show (cE (bf L st).aI [t,u]).aj=2 from rfl,show (cE (bf L st).aI [t,u]).bj=0 from rfl,show (cE (bf L st).aI [t,u]).az=(bf L st).aI from rfl,nG] at ih;refine⟨cH,Eq.trans ?_ ih⟩;simp[-ak,-au,-aq,-aE,-dm,ur,uc,q0,qb,qs,qt,qc,c2,c3,w1,vr,vc,bA,bD]
       .rw[fo h0,h0,cO h1] at qt;obtain⟨cH,ih⟩:=ac4 n N hx hy kk M (cE (bf L st).aI [t,u]) o.l Oe s1 m (min md 0) Gu h1 (by omega) (by omega) (by omega);rw[show (cE (bf L st).aI [t,u]).aj=2 from rfl,show (cE (bf L st).aI [t,u]).bj=0 from rfl,show (cE (bf L st).aI [t,u]).az=(bf L st).aI from rfl,nG] at ih;have hnn:¬(gp (ai T) T M kk (cE (bf L st).aI [t,u],o.l,Oe) s1).2.ae=[]:=((pb (bY T) T M kk (cE (bf L st).aI [t,u],o.l,Oe) s1).1.ae h1)
        simp only[if_neg hnn];refine⟨cH,Eq.trans ?_ ih⟩;simp[-ak,-au,-aq,-aE,-dm,ur,uc,q0,qb,qs,qt,qc,c2,c3,w1,vr,vc,bA,bD]
theorem adq(n N:Nat){x y:AV}{T:List a7}{L:List Tok}(hx:aZ x=some T)(hy:bE y=some L)(kk:Int):∀(M:Nat) (t:Tm) (lv:Int) (ok:Bool) (st:St) (m md:Nat),(ok=true->RC T L st)->st.ae≠[]->st.ax.length<=N->st.ax.length<M->M<=m->
 ∃cH,il 4 0 (bP (aC (aH (cm tE (tG N)) (n+1)) (n+1) ri) kl 4 m (ni (.ptr 0 0) (.int .i64 kk) (.ptr 1 0) (.ptr 3 0) (.int .i64 lv) (.bool ok)) ⟨5,[.row (bo st.ae),.row [.int .i64 t.aj,.int .i64 t.bj,.str t.az,t.bh],.dead,.row [.int .i64 0,.int .i64 0,.str [],.aF],.row [x,y,.int .i64 st.bQ,.int .i64 st.next,.vec 4 0 st.ae.length 2 st.ae.length]],0,md⟩)=
   Pq x y (gp (ai T) T M kk (t,lv,ok) st) cH
 |0,_,_,_,_,_,_,_,_,_,h,_=>by omega
 |_+1,_,_,_,_,0,_,_,_,_,_,h=>by omega
 |M+1,t,lv,ok,st,m+1,md,NZ,h0,hN,hM,hm=>by
   have bA:=bM hx;have bD:=bB hy;rw[ag];have ur:=ar t;have uc:=cM t
   cases ok with
   |false=>rw[wD];simp only[Pq];exact⟨0,by simp[-ak,-au,-aq,-aE,-dm,ur,uc,bA,bD]⟩
   |true=>
     have hc:=NZ rfl;have q0:=dK hx hy hc;have qb:=sD hx hy hc (bf L st);have eb:=rM hc;have bl:=r7 T (aP st);have bk:=ph (T:=T) (x:=aP st);have ts:(aP st).aI=(bf L st).aI:=by rw[bz hc]
     rw[eb] at bl bk;rw[cq,a6 h0] at q0;rw[a6 h0,show (eK T (bf L st)).1.aL=.agg [.str (eK T (bf L st)).1.n,.str (eK T (bf L st)).1.k,.int .i64 (eK T (bf L st)).1.l] from rfl] at qb;have qs:=kJ (eK T (bf L st)).1 bl;generalize eK T (bf L st)=B at *;obtain⟨o,fd⟩:=B;dsimp only at qb qs bl bk
     cases fd with
     |false=>rw[fG eb rfl];simp only[Pq];exact⟨0,by simp[-ak,-au,-aq,-aE,-dm,ur,uc,q0,qb,qs,bA,bD]⟩
     |true=>
       by_cases c2:kk<o.l
       .rw[fG eb (by simp[c2])];simp only[Pq];exact⟨0,by simp[-ak,-au,-aq,-aE,-dm,ur,uc,q0,qb,qs,c2,bA,bD]⟩
       by_cases c3:(aB o).1<lv
       .rw[fG eb (by simp[c3])];simp only[Pq];exact⟨0,by simp[-ak,-au,-aq,-aE,-dm,ur,uc,q0,qb,qs,c2,c3,bA,bD]⟩
       have DQ:=bk rfl;have uY:=fY hc DQ;have c1:=hc.GJ (by omega);have hl:=dv st;have hp:=ca DQ;have w1:=wrap_i64 (n:=(st.bQ:Int)+1) (by omega) (by have:=hc.lb;omega);rw[uh eb c2 c3,ts];have qt:=dG N hx hy c1 (aB o).2 (by omega);rw[show (aA st).ae=st.ae from rfl,an] at qt;have eF:=(bY T).lv (aB o).2 (aA st);have KN:=eF.len;have Gu:(ai T (aB o).2 (aA st)).1.2.2=true->RC T L (ai T (aB o).2 (aA st)).2:=λh=>(c1.ok ((bY T).ok _ _ h)).1
       have qU:st.ae≠[]->(ai T (aB o).2 (aA st)).2.ae≠[]:=eF.ae;have vr:=ar (ai T (aB o).2 (aA st)).1.1;have vc:=cM (ai T (aB o).2 (aA st)).1.1;have qc:=lK (bf L st).aI [t,(ai T (aB o).2 (aA st)).1.1] (by simp);rw[HN,List.map_cons,List.map_cons,List.map_nil,an t,an (ai T (aB o).2 (aA st)).1.1] at qc;generalize ai T (aB o).2 (aA st)=r at *;obtain⟨⟨u,lv2,Oe⟩,s1⟩:=r;dsimp only at *;have h1:=qU h0;rw[iT h0,dX h0 h1] at qt;obtain⟨cH,ih⟩:=adq n N hx hy kk M (cE (bf L st).aI [t,u]) o.l Oe s1 m (min md 0) Gu h1 (by omega) (by omega) (by omega);rw[show (cE (bf L st).aI [t,u]).aj=2 from rfl,show (cE (bf L st).aI [t,u]).bj=0 from rfl,show (cE (bf L st).aI [t,u]).az=(bf L st).aI from rfl,nG] at ih;refine⟨cH,Eq.trans ?_ ih⟩;simp[-ak,-au,-aq,-aE,-dm,ur,uc,q0,qb,qs,qt,qc,c2,c3,w1,vr,vc,bA,bD]
theorem aib(n N:Nat){x y:AV}{T:List a7}{L:List Tok}(hx:aZ x=some T)(hy:bE y=some L)(kk:Int):∀(M:Nat) (t:Tm) (lv:Int) (ok:Bool) (st:St) (m md:Nat),(ok=true->RC T L st)->st.ae≠[]->st.ax.length<=N->st.ax.length<M->M<=m->
 (∃cH,il 4 0 (bP (aC (aH (cm tE (tG N)) (n+1)) (n+1) ri) kl 4 m (ni (.ptr 0 0) (.int .i64 kk) (.ptr 1 0) (.ptr 3 0) (.int .i64 lv) (.bool ok)) ⟨4,[.row [.int .i64 t.aj,.int .i64 t.bj,.str t.az,t.bh],.row (bo st.ae),.row [.int .i64 0,.int .i64 0,.str [],.aF],.row [x,y,.int .i64 st.bQ,.int .i64 st.next,.vec 2 0 st.ae.length 2 st.ae.length]],4,md⟩)=
  S2 x y ((t,lv,ok),st) cH/\gp (ai T) T M kk (t,lv,ok) st=((t,lv,ok),st))\/∃cH,il 4 0 (bP (aC (aH (cm tE (tG N)) (n+1)) (n+1) ri) kl 4 m (ni (.ptr 0 0) (.int .i64 kk) (.ptr 1 0) (.ptr 3 0) (.int .i64 lv) (.bool ok)) ⟨4,[.row [.int .i64 t.aj,.int .i64 t.bj,.str t.az,t.bh],.row (bo st.ae),.row [.int .i64 0,.int .i64 0,.str [],.aF],.row [x,y,.int .i64 st.bQ,.int .i64 st.next,.vec 2 0 st.ae.length 2 st.ae.length]],4,md⟩)=
  Pq x y (gp (ai T) T M kk (t,lv,ok) st) cH
 |0,_,_,_,_,_,_,_,_,_,h,_=>by omega
 |_+1,_,_,_,_,0,_,_,_,_,_,h=>by omega
 |M+1,t,lv,ok,st,m+1,md,NZ,h0,hN,hM,hm=>by
   have bA:=bM hx;have bD:=bB hy;rw[ag];have ur:=ar t;have uc:=cM t
   cases ok with
   |false=>rw[wD];left;simp only[S2];exact⟨md,by simp[-ak,-au,-aq,-aE,-dm,ur,uc,bA,bD],trivial⟩
   |true=>
     have hc:=NZ rfl;have q0:=dK hx hy hc;have qb:=sD hx hy hc (bf L st);have eb:=rM hc;have bl:=r7 T (aP st);have bk:=ph (T:=T) (x:=aP st);have ts:(aP st).aI=(bf L st).aI:=by rw[bz hc]
     rw[eb] at bl bk;rw[cq,a6 h0] at q0;rw[a6 h0,show (eK T (bf L st)).1.aL=.agg [.str (eK T (bf L st)).1.n,.str (eK T (bf L st)).1.k,.int .i64 (eK T (bf L st)).1.l] from rfl] at qb;have qs:=kJ (eK T (bf L st)).1 bl;generalize eK T (bf L st)=B at *;obtain⟨o,fd⟩:=B;dsimp only at qb qs bl bk
     cases fd with
     |false=>rw[fG eb rfl];left;simp only[S2];exact⟨min md 4,by simp[-ak,-au,-aq,-aE,-dm,ur,uc,q0,qb,qs,bA,bD],trivial⟩
     |true=>
       by_cases c2:kk<o.l
       .rw[fG eb (by simp[c2])];left;simp only[S2];exact⟨min md 4,by simp[-ak,-au,-aq,-aE,-dm,ur,uc,q0,qb,qs,c2,bA,bD],trivial⟩
       by_cases c3:(aB o).1<lv
       .rw[fG eb (by simp[c3])];left;simp only[S2];exact⟨min md 4,by simp[-ak,-au,-aq,-aE,-dm,ur,uc,q0,qb,qs,c2,c3,bA,bD],trivial⟩
       have DQ:=bk rfl;have uY:=fY hc DQ;have c1:=hc.GJ (by omega);have hl:=dv st;have hp:=ca DQ;have w1:=wrap_i64 (n:=(st.bQ:Int)+1) (by omega) (by have:=hc.lb;omega);rw[uh eb c2 c3,ts];have qt:=dG N hx hy c1 (aB o).2 (by omega);rw[show (aA st).ae=st.ae from rfl,an] at qt;have eF:=(bY T).lv (aB o).2 (aA st);have KN:=eF.len;have Gu:(ai T (aB o).2 (aA st)).1.2.2=true->RC T L (ai T (aB o).2 (aA st)).2:=λh=>(c1.ok ((bY T).ok _ _ h)).1
       have qU:st.ae≠[]->(ai T (aB o).2 (aA st)).2.ae≠[]:=eF.ae;have vr:=ar (ai T (aB o).2 (aA st)).1.1;have vc:=cM (ai T (aB o).2 (aA st)).1.1;have qc:=lK (bf L st).aI [t,(ai T (aB o).2 (aA st)).1.1] (by simp);rw[HN,List.map_cons,List.map_cons,List.map_nil,an t,an (ai T (aB o).2 (aA st)).1.1] at qc;generalize ai T (aB o).2 (aA st)=r at *;obtain⟨⟨u,lv2,Oe⟩,s1⟩:=r;dsimp only at *;have h1:=qU h0;rw[iT h0,dX h0 h1] at qt;obtain⟨cH,ih⟩:=adq n N hx hy kk M (cE (bf L st).aI [t,u]) o.l Oe s1 m (min md 0) Gu h1 (by omega) (by omega) (by omega);rw[show (cE (bf L st).aI [t,u]).aj=2 from rfl,show (cE (bf L st).aI [t,u]).bj=0 from rfl,show (cE (bf L st).aI [t,u]).az=(bf L st).aI from rfl,nG] at ih;right;refine⟨cH,Eq.trans ?_ ih⟩;simp[-ak,-au,-aq,-aE,-dm,ur,uc,q0,qb,qs,qt,qc,c2,c3,w1,vr,vc,bA,bD]
theorem adA(n N:Nat){x y:AV}{T:List a7}{L:List Tok}(hx:aZ x=some T)(hy:bE y=some L)(kk:Int):∀(M:Nat) (t:Tm) (lv:Int) (ok:Bool) (st:St) (m md:Nat),(ok=true->RC T L st)->st.ae≠[]->st.ax.length<=N->st.ax.length<M->M<=m->
 ∃cH,il 5 0 (bP (aC (aH (cm tE (tG N)) (n+1)) (n+1) ri) kl 5 m (ni (.ptr 0 0) (.int .i64 kk) (.ptr 2 0) (.ptr 4 0) (.int .i64 lv) (.bool ok)) ⟨6,[.row (bo st.ae),.row [.int .i64 t.aj,.int .i64 t.bj,.str t.az,t.bh],.dead,.row [.int .i64 0,.int .i64 0,.str [],.aF],.dead,.row [x,y,.int .i64 st.bQ,.int .i64 st.next,.vec 5 0 st.ae.length 2 st.ae.length]],0,md⟩)=
   Oq x y (gp (ai T) T M kk (t,lv,ok) st) cH
 |0,_,_,_,_,_,_,_,_,_,h,_=>by omega
 |_+1,_,_,_,_,0,_,_,_,_,_,h=>by omega
 |M+1,t,lv,ok,st,m+1,md,NZ,h0,hN,hM,hm=>by
   have bA:=bM hx;have bD:=bB hy;rw[ag];have ur:=ar t;have uc:=cM t
   cases ok with
   |false=>rw[wD];simp only[Oq];exact⟨0,by simp[-ak,-au,-aq,-aE,-dm,ur,uc,bA,bD]⟩
   |true=>
     have hc:=NZ rfl;have q0:=dK hx hy hc;have qb:=sD hx hy hc (bf L st);have eb:=rM hc;have bl:=r7 T (aP st);have bk:=ph (T:=T) (x:=aP st);have ts:(aP st).aI=(bf L st).aI:=by rw[bz hc]
     rw[eb] at bl bk;rw[cq,a6 h0] at q0;rw[a6 h0,show (eK T (bf L st)).1.aL=.agg [.str (eK T (bf L st)).1.n,.str (eK T (bf L st)).1.k,.int .i64 (eK T (bf L st)).1.l] from rfl] at qb;have qs:=kJ (eK T (bf L st)).1 bl;generalize eK T (bf L st)=B at *;obtain⟨o,fd⟩:=B;dsimp only at qb qs bl bk
     cases fd with
     |false=>rw[fG eb rfl];simp only[Oq];exact⟨0,by simp[-ak,-au,-aq,-aE,-dm,ur,uc,q0,qb,qs,bA,bD]⟩
     |true=>
       by_cases c2:kk<o.l
       .rw[fG eb (by simp[c2])];simp only[Oq];exact⟨0,by simp[-ak,-au,-aq,-aE,-dm,ur,uc,q0,qb,qs,c2,bA,bD]⟩
       by_cases c3:(aB o).1<lv
       .rw[fG eb (by simp[c3])];simp only[Oq];exact⟨0,by simp[-ak,-au,-aq,-aE,-dm,ur,uc,q0,qb,qs,c2,c3,bA,bD]⟩
       have DQ:=bk rfl;have uY:=fY hc DQ;have c1:=hc.GJ (by omega);have hl:=dv st;have hp:=ca DQ;have w1:=wrap_i64 (n:=(st.bQ:Int)+1) (by omega) (by have:=hc.lb;omega);rw[uh eb c2 c3,ts];have qt:=dG N hx hy c1 (aB o).2 (by omega);rw[show (aA st).ae=st.ae from rfl,an] at qt;have eF:=(bY T).lv (aB o).2 (aA st);have KN:=eF.len;have Gu:(ai T (aB o).2 (aA st)).1.2.2=true->RC T L (ai T (aB o).2 (aA st)).2:=λh=>(c1.ok ((bY T).ok _ _ h)).1
       have qU:st.ae≠[]->(ai T (aB o).2 (aA st)).2.ae≠[]:=eF.ae;have vr:=ar (ai T (aB o).2 (aA st)).1.1;have vc:=cM (ai T (aB o).2 (aA st)).1.1;have qc:=lK (bf L st).aI [t,(ai T (aB o).2 (aA st)).1.1] (by simp);rw[HN,List.map_cons,List.map_cons,List.map_nil,an t,an (ai T (aB o).2 (aA st)).1.1] at qc;generalize ai T (aB o).2 (aA st)=r at *;obtain⟨⟨u,lv2,Oe⟩,s1⟩:=r;dsimp only at *;have h1:=qU h0;rw[iT h0,dX h0 h1] at qt;obtain⟨cH,ih⟩:=adA n N hx hy kk M (cE (bf L st).aI [t,u]) o.l Oe s1 m (min md 0) Gu h1 (by omega) (by omega) (by omega);rw[show (cE (bf L st).aI [t,u]).aj=2 from rfl,show (cE (bf L st).aI [t,u]).bj=0 from rfl,show (cE (bf L st).aI [t,u]).az=(bf L st).aI from rfl,nG] at ih;refine⟨cH,Eq.trans ?_ ih⟩;simp[-ak,-au,-aq,-aE,-dm,ur,uc,q0,qb,qs,qt,qc,c2,c3,w1,vr,vc,bA,bD]
theorem aiR(n N:Nat){x y:AV}{T:List a7}{L:List Tok}(hx:aZ x=some T)(hy:bE y=some L)(kk:Int):∀(M:Nat) (t:Tm) (lv:Int) (ok:Bool) (st:St) (m md:Nat),(ok=true->RC T L st)->st.ae≠[]->st.ax.length<=N->st.ax.length<M->M<=m->
 (∃cH,il 5 0 (bP (aC (aH (cm tE (tG N)) (n+1)) (n+1) ri) kl 5 m (ni (.ptr 0 0) (.int .i64 kk) (.ptr 2 0) (.ptr 4 0) (.int .i64 lv) (.bool ok)) ⟨5,[.row [.int .i64 t.aj,.int .i64 t.bj,.str t.az,t.bh],.row (bo st.ae),.row [.int .i64 0,.int .i64 0,.str [],.aF],.dead,.row [x,y,.int .i64 st.bQ,.int .i64 st.next,.vec 3 0 st.ae.length 2 st.ae.length]],5,md⟩)=
  VA x y ((t,lv,ok),st) cH/\gp (ai T) T M kk (t,lv,ok) st=((t,lv,ok),st))\/∃cH,il 5 0 (bP (aC (aH (cm tE (tG N)) (n+1)) (n+1) ri) kl 5 m (ni (.ptr 0 0) (.int .i64 kk) (.ptr 2 0) (.ptr 4 0) (.int .i64 lv) (.bool ok)) ⟨5,[.row [.int .i64 t.aj,.int .i64 t.bj,.str t.az,t.bh],.row (bo st.ae),.row [.int .i64 0,.int .i64 0,.str [],.aF],.dead,.row [x,y,.int .i64 st.bQ,.int .i64 st.next,.vec 3 0 st.ae.length 2 st.ae.length]],5,md⟩)=
  Oq x y (gp (ai T) T M kk (t,lv,ok) st) cH
 |0,_,_,_,_,_,_,_,_,_,h,_=>by omega
 |_+1,_,_,_,_,0,_,_,_,_,_,h=>by omega
 |M+1,t,lv,ok,st,m+1,md,NZ,h0,hN,hM,hm=>by
   have bA:=bM hx;have bD:=bB hy;rw[ag];have ur:=ar t;have uc:=cM t
   cases ok with
   |false=>rw[wD];left;simp only[VA];exact⟨md,by simp[-ak,-au,-aq,-aE,-dm,ur,uc,bA,bD],trivial⟩
   |true=>
     have hc:=NZ rfl;have q0:=dK hx hy hc;have qb:=sD hx hy hc (bf L st);have eb:=rM hc;have bl:=r7 T (aP st);have bk:=ph (T:=T) (x:=aP st);have ts:(aP st).aI=(bf L st).aI:=by rw[bz hc]
     rw[eb] at bl bk;rw[cq,a6 h0] at q0;rw[a6 h0,show (eK T (bf L st)).1.aL=.agg [.str (eK T (bf L st)).1.n,.str (eK T (bf L st)).1.k,.int .i64 (eK T (bf L st)).1.l] from rfl] at qb;have qs:=kJ (eK T (bf L st)).1 bl;generalize eK T (bf L st)=B at *;obtain⟨o,fd⟩:=B;dsimp only at qb qs bl bk
     cases fd with
     |false=>rw[fG eb rfl];left;simp only[VA];exact⟨min md 5,by simp[-ak,-au,-aq,-aE,-dm,ur,uc,q0,qb,qs,bA,bD],trivial⟩
     |true=>
       by_cases c2:kk<o.l
       .rw[fG eb (by simp[c2])];left;simp only[VA];exact⟨min md 5,by simp[-ak,-au,-aq,-aE,-dm,ur,uc,q0,qb,qs,c2,bA,bD],trivial⟩
       by_cases c3:(aB o).1<lv
       .rw[fG eb (by simp[c3])];left;simp only[VA];exact⟨min md 5,by simp[-ak,-au,-aq,-aE,-dm,ur,uc,q0,qb,qs,c2,c3,bA,bD],trivial⟩
       have DQ:=bk rfl;have uY:=fY hc DQ;have c1:=hc.GJ (by omega);have hl:=dv st;have hp:=ca DQ;have w1:=wrap_i64 (n:=(st.bQ:Int)+1) (by omega) (by have:=hc.lb;omega);rw[uh eb c2 c3,ts];have qt:=dG N hx hy c1 (aB o).2 (by omega);rw[show (aA st).ae=st.ae from rfl,an] at qt;have eF:=(bY T).lv (aB o).2 (aA st);have KN:=eF.len;have Gu:(ai T (aB o).2 (aA st)).1.2.2=true->RC T L (ai T (aB o).2 (aA st)).2:=λh=>(c1.ok ((bY T).ok _ _ h)).1
       have qU:st.ae≠[]->(ai T (aB o).2 (aA st)).2.ae≠[]:=eF.ae;have vr:=ar (ai T (aB o).2 (aA st)).1.1;have vc:=cM (ai T (aB o).2 (aA st)).1.1;have qc:=lK (bf L st).aI [t,(ai T (aB o).2 (aA st)).1.1] (by simp);rw[HN,List.map_cons,List.map_cons,List.map_nil,an t,an (ai T (aB o).2 (aA st)).1.1] at qc;generalize ai T (aB o).2 (aA st)=r at *;obtain⟨⟨u,lv2,Oe⟩,s1⟩:=r;dsimp only at *;have h1:=qU h0;rw[iT h0,dX h0 h1] at qt;obtain⟨cH,ih⟩:=adA n N hx hy kk M (cE (bf L st).aI [t,u]) o.l Oe s1 m (min md 0) Gu h1 (by omega) (by omega) (by omega);rw[show (cE (bf L st).aI [t,u]).aj=2 from rfl,show (cE (bf L st).aI [t,u]).bj=0 from rfl,show (cE (bf L st).aI [t,u]).az=(bf L st).aI from rfl,nG] at ih;right;refine⟨cH,Eq.trans ?_ ih⟩;simp[-ak,-au,-aq,-aE,-dm,ur,uc,q0,qb,qs,qt,qc,c2,c3,w1,vr,vc,bA,bD]
end
section
theorem K3(T:List a7)(n:Int)(st:St):ai T n st=gp (ai T) T (st.ax.length+1) n (bu T n st).1 (bu T n st).2:=by
 have H:=wC T st.ax.length;have E:EqR st.ax.length (mi T st.ax.length) (ai T):=λn s h=>aa5 T h n
 have p:=(wI H T (st.ax.length+1) n st).1.len;show mi T (st.ax.length+1) n st=_;unfold mi bu;rw[RG H E T (st.ax.length+1) (st.ax.length+1) n st (by omega) (by omega) (by omega)] at *;exact Aj H E T _ _ n _ _ (by omega) (by omega) (by omega)
attribute [local simp] jP jN jQ jJ gR gQ jH jK jM gS gT jI lz lh lD lq kY kW iJ iM Laid.aJ fh fi bW oh aw afO c71 kl tE tG dD qF fP Jt EY eX
theorem W4(N:Nat){x y:AV}{T:List a7}{L:List Tok}{st:St}(hx:aZ x=some T)(hy:bE y=some L)(hc:RC T L st)(hN:st.ax.length=N)(hE:cb Tryz.prog bV (cm tE (tG N)))(n:Int):
 cp Tryz.prog bV 71 [.ptr 0 0,.int .i64 n] (dA x y st) (.tuple [(ai T n st).1.1.aL,.int .i64 (ai T n st).1.2.1,.bool (ai T n st).1.2.2]) (some (dF x y st.ae (ai T n st).2)):=by
 rw[K3];have bA:=bM hx;have bD:=bB hy;have q:=Vg N hx hy hc n (by omega);have qn:=Ua N hx hy hc n (by omega);have hl:st.ax.length<=100000:=by rw[hc.ax,List.length_drop,jd];have:=hc.lb;omega
 have eF:=wI (bY T) T (st.ax.length+1) n st;change Lv st (bu T n st).2/\((bu T n st).1.2.2=true->Ok st (bu T n st).2) at eF;have KN:=eF.1.len;have Gu:(bu T n st).1.2.2=true->RC T L (bu T n st).2:=λh=>(hc.ok (eF.2 h)).1
 have qU:st.ae≠[]->(bu T n st).2.ae≠[]:=eF.1.ae;rw[an] at q;generalize bu T n st=P at *;obtain⟨⟨t,lv,ok⟩,s1⟩:=P;dsimp only at q KN Gu qU|-;have ur:=ar t;have uc:=cM t;have hnn:=(pb (bY T) T (st.ax.length+1) n (t,lv,ok) s1).1.ae;have lC:=aib 199998 N hx hy n (st.ax.length+1) t lv ok s1 199999 0 Gu;have lG:=aiR 199998 N hx hy n (st.ax.length+1) t lv ok s1 199999 0 Gu;have lA:=adC 199998 N hx hy n (st.ax.length+1) t lv ok s1 199999 0 Gu;generalize gp (ai T) T (st.ax.length+1) n (t,lv,ok) s1=Q at *;obtain⟨⟨u,lw,okk⟩,s2⟩:=Q;dsimp only at hnn lA lC lG|-;have vr:=ar u;have vc:=cM u;by_cases h0:st.ae=[]
 .rw[bd h0,h0] at q;rw[bd h0] at qn;by_cases h1:s1.ae=[]
  .rw[dh h1] at q;obtain⟨cH,lp⟩:=lA h1 (by omega) (by omega) (by omega);by_cases h2:s2.ae=[]
   .rw[if_pos h2] at lp;simp only[xy,kl,ni,tE,tG] at lp;refine dy (n:=200000) hE bA bD h0 h2 ?_ (bp _ _ _) rfl;rw[an];simp[qn,ur,uc,vr,vc,lp,q,-ak,-au,-aq,-aE,-dm,bA,bD]
   .rw[if_neg h2] at lp;simp only[PD,kl,ni,tE,tG] at lp;refine eB (n:=200000) hE bA bD 3 (by decide) h0 h2 ?_ (bp _ _ _) rfl;rw[an];simp[qn,ur,uc,vr,vc,lp,q,-ak,-au,-aq,-aE,-dm,bA,bD]
  .rw[cO h1] at q;have h2:=hnn h1;rcases lC h1 (by omega) (by omega) (by omega) with⟨cH,lp,eq⟩|⟨cH,lp⟩
   .cases eq;simp only[S2,kl,ni,tE,tG] at lp;refine eB (n:=200000) hE bA bD 2 (by decide) h0 h1 ?_ (bp _ _ _) rfl;rw[an];simp[qn,ur,uc,vr,vc,lp,q,-ak,-au,-aq,-aE,-dm,bA,bD]
   .simp only[Pq,kl,ni,tE,tG] at lp;refine eB (n:=200000) hE bA bD 4 (by decide) h0 h2 ?_ (bp _ _ _) rfl;rw[an];simp[qn,ur,uc,vr,vc,lp,q,-ak,-au,-aq,-aE,-dm,bA,bD]
 .have h1:=qU h0;rw[a6 h0,dX h0 h1] at q;rw[a6 h0] at qn;have h2:=hnn h1;rcases lG h1 (by omega) (by omega) (by omega) with⟨cH,lp,eq⟩|⟨cH,lp⟩
  .cases eq;simp only[VA,kl,ni,tE,tG] at lp;refine di (n:=200000) hE bA bD 3 (by decide) h0 h1 ?_ (bp _ _ _) rfl;rw[an];simp[qn,ur,uc,vr,vc,lp,q,-ak,-au,-aq,-aE,-dm,bA,bD]
  .simp only[Oq,kl,ni,tE,tG] at lp;refine di (n:=200000) hE bA bD 5 (by decide) h0 h2 ?_ (bp _ _ _) rfl;rw[an];simp[qn,ur,uc,vr,vc,lp,q,-ak,-au,-aq,-aE,-dm,bA,bD]
theorem Np(N:Nat)(hN:cB Tryz.prog bV (iU N)):cB Tryz.prog bV (iU (N+1)):=λaa os v r hv=>by
 unfold iU at hv;dsimp only at hv;split at hv
 .rename_i os n;split at hv
  .rename_i R hR;split at hv
   .rename_i hn;cases hv;obtain⟨hx,hy,rfl,h⟩:=kG hR;rw[eX];have hE:cb Tryz.prog bV (cm tE (tG N)):=ey (by simp[tE,xm.lift,vz.lift]) (by simp[tG,hN,AI,X5,UP N hN]);by_cases cY:R.st.ax.length<N
    .exact hN _ _ _ _ (dG N hx hy h n cY)
    .exact W4 N hx hy h (by omega) hE n
   .cases hv
  .cases hv
 .cases hv
theorem EF:∀N,cB Tryz.prog bV (iU N)
 |0=>λaa os v r hv=>by
   unfold iU at hv;dsimp only at hv;split at hv
   .split at hv
    .split at hv
     .rename_i h;exact absurd h (by omega)
     .cases hv
    .cases hv
   .cases hv
 |N+1=>Np N (EF N)
end
section
def okI(x:Int):Prop:=-9223372036854775808<=x/\x<9223372036854775808
instance (x:Int):Decidable (okI x):=inferInstanceAs (Decidable (_/\_))
def dgI(neg:Bool)(c:UInt8):Int:=if neg then -((c.toNat:Int)-48) else (c.toNat:Int)-48
def aak(neg:Bool):Int->List UInt8->Option Int
 |n,[]=>some n
 |n,c::r=>if okI (n*10)/\okI (n*10+dgI neg c) then aak neg (n*10+dgI neg c) r else none
theorem Fp:∀(l:List UInt8) (v:Nat),cZ l=true->v<=9223372036854775807->aak false v l=if oC v l<=9223372036854775807 then some (oC v l:Int) else none
 |[],v,_,h=>by rw[ox,if_pos h];rfl
 |c::r,v,hd,h=>by
   simp only[cZ,dN,Bool.and_eq_true,decide_eq_true_eq] at hd;have hg:=Ke r (v*10+(c.toNat-48));have e:(v:Int)*10+dgI false c=((v*10+(c.toNat-48):Nat):Int):=by unfold dgI;rw[if_neg (by simp)];omega
   rw[kP];unfold aak;rw[e];unfold okI;by_cases hx:v*10+(c.toNat-48)<=9223372036854775807
   .rw[if_pos (by omega)];exact Fp r _ hd.2 hx
   .rw[if_neg (by omega),if_neg (by omega)]
theorem CK(M:Nat)(hM:M<=18446744073709551615):∀(l:List UInt8) (aM:Nat),cZ l=true->aM<=M->M<oC aM l->Lib.parseUintM M aM l=.range
 |[],aM,_,h1,h2=>by rw[ox] at h2;omega
 |c::r,aM,h,h1,hv=>by
   simp only[cZ,dN,Bool.and_eq_true,decide_eq_true_eq] at h;rw[kP] at hv;unfold Lib.parseUintM;rw[if_pos h.1];split
   .rfl
   .split
    .rfl
    .exact CK M hM r _ h.2 (by omega) hv
theorem vx(s:List UInt8)(hr:s≠[])(hd:cZ s=true)(hv:¬oC 0 s<=9223372036854775807):Lib.parseIntB 64 s=.range:=by
 cases s with
 |nil=>exact absurd rfl hr
 |cons c r=>
   have hc:48<=c.toNat/\c.toNat<=57:=by simp only[cZ,dN,Bool.and_eq_true,decide_eq_true_eq] at hd;exact hd.1
   unfold Lib.parseIntB Lib.parseUintB;simp only[show (c.toNat=43)=False from eq_false (by omega),show (c.toNat=45)=False from eq_false (by omega),or_false,if_false,hr];rw[show (2^64-1:Nat)=18446744073709551615 by decide];by_cases h:oC 0 (c::r)<=18446744073709551615
   .rw[tz 18446744073709551615 (Nat.le_refl _) (c::r) 0 hd h];simp only[not_false_iff,true_and,false_and,if_false];rw[if_pos (by omega)]
   .rw[CK 18446744073709551615 (Nat.le_refl _) (c::r) 0 hd (by omega) (by omega)]
theorem Pf(c:UInt8)(r:List UInt8)(hc:c≠45):gv (c::r)=if cZ (c::r)=false then ((0:Int),(2:Int)) else match aak false 0 (c::r) with|some v=>(v,0)|none=>(0,3):=by
 unfold gv;rw[tJ c r hc];dsimp only;rw[if_neg (by simp)]
 cases hd:cZ (c::r) with
 |false=>rfl
 |true=>
   rw[if_neg (by simp),if_neg (by simp)];have e:=Fp (c::r) 0 hd (by omega);rw[show (((0:Nat):Int))=0 by rfl] at e;rw[e];by_cases hv:oC 0 (c::r)<=9223372036854775807
   .rw[if_pos hv,HI (c::r) (by simp) hd hv]
   .rw[if_neg hv,vx (c::r) (by simp) hd hv]
def va(t:Tok):Bool:=yD ⟨t.aj,t.aI,t.bj,t.js,false⟩&&(decide (0<=t.bQ)&&decide (t.bQ<1000000))
theorem acq(c:UInt8)(r:List UInt8)(hc:c≠45):0<=(gv (c::r)).1/\(gv (c::r)).1<9223372036854775808:=by
 rw[Pf c r hc];split
 .exact⟨by decide,by decide⟩
 .rename_i hd;have hd:cZ (c::r)=true:=by simpa using hd
  have e:=Fp (c::r) 0 hd (by omega);rw[show (((0:Nat):Int))=0 by rfl] at e;rw[e];by_cases hv:oC 0 (c::r)<=9223372036854775807
  .rw[if_pos hv];exact⟨by dsimp only;omega,by dsimp only;omega⟩
  .rw[if_neg hv];exact⟨by decide,by decide⟩
theorem one_num(l:List UInt8):0<=(cC l).1.bj/\(cC l).1.bj<9223372036854775808:=by
 unfold cC;split
 .exact (by decide:(0:Int)<=0/\(0:Int)<9223372036854775808)
 rename_i c r;split
 .exact (by decide:(0:Int)<=0/\(0:Int)<9223372036854775808)
 split
 .exact (by decide:(0:Int)<=0/\(0:Int)<9223372036854775808)
 split
 .rename_i hd;have h1:=pX (r:=r) hd;have hc:c≠45:=λe=>by rw[e] at hd;exact absurd hd (by decide)
  obtain⟨k,hk⟩:∃k,runN dN (c::r)=k+1:=⟨runN dN (c::r)-1,by omega⟩
  dsimp only;rw[hk,List.take_succ_cons];exact acq c _ hc
 repeat' split
 all_goals exact (by decide:(0:Int)<=0/\(0:Int)<9223372036854775808)
theorem LF:∀(f:Nat) (s:List UInt8) (j:Nat) (aM:List Tok),s.length<=4096->aM.all va=true->aM.length<=1024->(rE f s j aM).1.all va=true/\(rE f s j aM).1.length<=1024
 |0,s,j,aM,_,_,_=>⟨rfl,Nat.zero_le _⟩
 |f+1,s,j,aM,h1,h2,h3=>by
   unfold rE;split
   .exact⟨h2,h3⟩
   rename_i hj;split
   .exact⟨rfl,by simp⟩
   split
   .exact⟨rfl,by simp⟩
   rename_i hl;have pg:¬(((cC (s.drop j)).1.aj=1\/(cC (s.drop j)).1.aj=2)/\64<(cC (s.drop j)).1.aI.length):=λe=>hl (.inl e)
   have qh:¬aM.length=1024:=λe=>hl (.inr e)
   have hn:=one_num (s.drop j);refine LF f s _ _ h1 ?_ (by simp;omega);rw[List.all_append,h2,Bool.true_and];generalize (cC (s.drop j)).1=t at *;simp only[List.all_cons,List.all_nil,Bool.and_true,va,yD,eC,Bool.and_eq_true,Bool.or_eq_true,decide_eq_true_eq,Bool.not_eq_true',Bool.or_eq_false_iff,decide_eq_false_iff_not];refine⟨⟨?_,hn.1,hn.2⟩,by omega,by omega⟩;by_cases hk:t.aj=1\/t.aj=2
   .exact .inl (by have:=λh=>pg ⟨hk,h⟩;omega)
   .exact .inr ⟨λe=>hk (.inl e),λe=>hk (.inr e)⟩
theorem HE(s:List UInt8):(fw s).1.all va=true/\(fw s).1.length<=1024:=by
 unfold fw;split
 .exact⟨rfl,by simp⟩
 .exact LF _ s _ [] (by omega) rfl (by simp)
theorem J3:∀{L:List Tok},L.all va=true->(mZ L).all yD=true
 |[],_=>rfl
 |t::r,h=>by rw[List.all_cons,Bool.and_eq_true] at h;unfold mZ;rw[List.all_cons,Bool.and_eq_true];refine⟨?_,J3 h.2⟩;have:=h.1;unfold va at this;rw[Bool.and_eq_true] at this;exact this.1
def Gw(L:List Tok)(a:Nat):St:=⟨a,(mZ L).drop a,0,[]⟩
theorem ami{T:List a7}{L:List Tok}{a:Nat}(hT:T.length<1000000)(hL:L.all va=true)(hl:L.length<=1024)(ha:a<=L.length+1):RC T L (Gw L a):=by
 have uY:(L.all λt=>decide (0<=t.bQ)&&decide (t.bQ<1000000))=true:=by rw[List.all_eq_true] at hL|-;intro t ht;have:=hL t ht;unfold va at this;rw[Bool.and_eq_true] at this;exact this.2
 exact⟨rfl,ha,Nat.zero_le _,Nat.le_refl _,by omega,hT,J3 hL,λp hp=>(List.not_mem_nil hp).elim,rfl,uY⟩
def vi(T:List a7)(st:St):(Tm×Int)×St:=
 let r:=ai T 1200 ⟨st.bQ,st.ax,0,[]⟩
 if !r.1.2.2||!decide ((aP r.2).aj=6) then ((Gy,2),r.2) else if dp r.1.1 then ((r.1.1,0),aA r.2) else ((Gy,3),aA r.2)
end
section
section
variable {X:World->Prop}{P:Program}{E:Env}(hE:cb P X E){n f:Nat}{ax:List AV}{x y v:AV}{st dH:St}(hx:Laid x)(hy:Laid y)
include hE hx hy
theorem Di(h0:st.ae≠[])(h1:dH.ae=[])(he:(aH E n f (.ptr 0 0::ax) ⟨2,[.row (bo st.ae),.row [x,y,.int .i64 st.bQ,.int .i64 st.next,.vec 1 0 st.ae.length 2 st.ae.length]],2,2⟩).map (λp=>(p.1,p.2.get 0))=
 some (v,some (.row [x,y,.int .i64 dH.bQ,.int .i64 dH.next,.aF])))
 (hv:v.aJ=0) (hr:AV.ah ax=0):cp P X f (.ptr 0 0::ax) (dA x y st) v (some [.row [x,y,.int .i64 dH.bQ,.int .i64 dH.next,.aF],.dead]):=by
 have e1:dA x y st=[.row [x,y,.int .i64 st.bQ,.int .i64 st.next,.vec 1 0 st.ae.length 2 st.ae.length],.row (bo st.ae)]:=by
  unfold dA oK zh
  cases hn:st.ae with
  |nil=>exact absurd hn h0
  |cons p r=>rfl
 rw[e1];obtain⟨⟨v1,h⟩,g1,g2⟩:=Option.map_eq_some_iff.1 he;simp only[Prod.mk.injEq] at g2;obtain⟨rfl,g3⟩:=g2;refine Dt (qs:=[]) hE g1 hv hr (by simp) (by simp) ⟨λi o ho hd=>?_,λi j o o' hi hj hdi hdj e=>?_⟩
 .match i,ho with
  |0,ho=>simp only[List.getElem?_cons_zero,Option.some.injEq] at ho;subst ho;rw[wM hx hy];exact⟨g3,zS hx hy _ _ (by rfl)⟩
  |1,ho=>simp only[List.getElem?_cons_succ,List.getElem?_cons_zero,Option.some.injEq] at ho;exact absurd ho.symm hd
  |i+2,ho=>simp at ho
 .have pick:∀(i:Nat) (o:aT),([.row [x,y,.int .i64 dH.bQ,.int .i64 dH.next,.aF],.dead]:List aT)[i]? =some o->(∀_:o=.dead,False)->i=0:=λi o ho hd=>by
   match i,ho with
   |0,_=>rfl
   |1,ho=>simp only[List.getElem?_cons_succ,List.getElem?_cons_zero,Option.some.injEq] at ho;exact absurd ho.symm hd
   |i+2,ho=>simp at ho
  rw[pick i o hi hdi,pick j o' hj hdj]
end
noncomputable def uG(x y:AV)(l:List (List UInt8×Int))(dH:St):List aT:=open Classical in if l=[] then dF x y l dH else if dH.ae=[] then [.row [x,y,.int .i64 dH.bQ,.int .i64 dH.next,.aF],.dead] else dF x y l dH
theorem zi{x y:AV}{st:St}:uG x y [] st=dF x y [] st:=if_pos rfl
theorem Dx{x y:AV}{l:List (List UInt8×Int)}{st:St}(h0:l≠[])(h:st.ae≠[]):uG x y l st=dF x y l st:=by unfold uG;rw[if_neg h0,if_neg h]
theorem z7{x y:AV}{l:List (List UInt8×Int)}{st:St}(h0:l≠[])(h:st.ae=[]):uG x y l st=[.row [x,y,.int .i64 st.bQ,.int .i64 st.next,.aF],.dead]:=by unfold uG;rw[if_neg h0,if_pos h]
noncomputable def Qu:List aW:=[fu]
noncomputable def QA(N:Nat):List cw:=[xA,iU N]
def cU(st:St):St:=⟨st.bQ,st.ax,0,[]⟩
theorem abB{T:List a7}{L:List Tok}{st:St}(h:RC T L st):RC T L (cU st):=⟨h.ax,h.le,Nat.zero_le _,Nat.le_refl _,h.lb,h.tb,h.tk,λp hp=>(List.not_mem_nil hp).elim,rfl,h.zU⟩
theorem Y9{T:List a7}{L:List Tok}{st:St}(h:RC T L st):C2 (cU st):=by
 refine⟨?_,λp hp=>(List.not_mem_nil hp).elim,?_⟩
 .show st.ax.all yD=true;rw[h.ax];exact List.all_eq_true.mpr λx hx=>List.all_eq_true.mp h.tk x (List.mem_of_mem_drop hx)
 .show 0+st.ax.length<=_;rw[h.ax,List.length_drop,jd];have:=h.lb;omega
attribute [local simp] jP jN jQ jJ gR gQ jH jK jM gS gT jI lz lh lD lq kY kW iJ iM Laid.aJ fh fi bW aw aeq c43 Qu QA bF fP eX
theorem afm(N:Nat){x y:AV}{T:List a7}{L:List Tok}{st:St}(hx:aZ x=some T)(hy:bE y=some L)(hc:RC T L st)(hN:st.ax.length<N)(hE:cb Tryz.prog bV (cm Qu (QA N)))(cT:(ai T 1200 (cU st)).1.2.2=false):
 cp Tryz.prog bV 43 [.ptr 0 0] (dA x y st) (.tuple [Gy.aL,.int .i64 2]) (some (uG x y st.ae (ai T 1200 (cU st)).2)):=by
 have bA:=bM hx;have bD:=bB hy;have SL:=abB hc;have q:=dG N hx hy SL 1200 hN;rw[cT,bd (st:=cU st) rfl,show (cU st).ae=[] from rfl,show (cU st).bQ=st.bQ from rfl,show (((cU st).next:Nat):Int)=0 from rfl,an] at q;have ur:=ar (ai T 1200 (cU st)).1.1;have uc:=cM (ai T 1200 (cU st)).1.1;have zc:Gy.aL=.agg [.int .i64 0,.int .i64 0,.str [],.aF]:=rfl;generalize (ai T 1200 (cU st)).2=s1 at *;generalize (ai T 1200 (cU st)).1.1=u at *;generalize (ai T 1200 (cU st)).1.2.1=lv at *;by_cases h0:st.ae=[]
 .rw[h0,zi,<-h0];by_cases h1:s1.ae=[]
  .rw[dh h1] at q;refine dy (n:=8) hE bA bD h0 h1 ?_ rfl rfl;rw[zc];simp[q,ur,uc,-ak,-au,-aq,-aE,-dm,bA,bD]
  .rw[cO h1] at q;refine eB (n:=8) hE bA bD 2 (by decide) h0 h1 ?_ rfl rfl;rw[zc];simp[q,ur,uc,-ak,-au,-aq,-aE,-dm,bA,bD]
 .by_cases h1:s1.ae=[]
  .rw[z7 h0 h1];rw[dh h1] at q;refine Di (n:=8) hE bA bD h0 h1 ?_ rfl rfl;rw[zc];simp[q,ur,uc,-ak,-au,-aq,-aE,-dm,bA,bD]
  .rw[Dx h0 h1];rw[cO h1] at q;refine di (n:=8) hE bA bD 3 (by decide) h0 h1 ?_ rfl rfl;rw[zc];simp[q,ur,uc,-ak,-au,-aq,-aE,-dm,bA,bD]
theorem abF(N:Nat){x y:AV}{T:List a7}{L:List Tok}{st:St}(hx:aZ x=some T)(hy:bE y=some L)(hc:RC T L st)(hN:st.ax.length<N)(hE:cb Tryz.prog bV (cm Qu (QA N)))(cT:(ai T 1200 (cU st)).1.2.2=true)(hk:¬(aP (ai T 1200 (cU st)).2).aj=6):
 cp Tryz.prog bV 43 [.ptr 0 0] (dA x y st) (.tuple [Gy.aL,.int .i64 2]) (some (uG x y st.ae (ai T 1200 (cU st)).2)):=by
 have bA:=bM hx;have bD:=bB hy;have SL:=abB hc;have q:=dG N hx hy SL 1200 hN;rw[cT,bd (st:=cU st) rfl,show (cU st).ae=[] from rfl,show (cU st).bQ=st.bQ from rfl,show (((cU st).next:Nat):Int)=0 from rfl,an] at q;have ur:=ar (ai T 1200 (cU st)).1.1;have uc:=cM (ai T 1200 (cU st)).1.1;have ho:=(bY T).ok 1200 (cU st) cT;obtain⟨c1,acZ⟩:=SL.ok ho;have q1:=dK hx hy c1;have ks:(aP (ai T 1200 (cU st)).2).aj=(bf L (ai T 1200 (cU st)).2).aj:=by rw[bz c1]
 rw[ks] at hk;rw[cq] at q1;have zc:Gy.aL=.agg [.int .i64 0,.int .i64 0,.str [],.aF]:=rfl;generalize (ai T 1200 (cU st)).2=s1 at *;generalize (ai T 1200 (cU st)).1.1=u at *;generalize (ai T 1200 (cU st)).1.2.1=lv at *;by_cases h0:st.ae=[]
 .rw[h0,zi,<-h0];by_cases h1:s1.ae=[]
  .rw[dh h1] at q;rw[bd h1] at q1;refine dy (n:=8) hE bA bD h0 h1 ?_ rfl rfl;rw[zc];simp[q,ur,uc,q1,hk,-ak,-au,-aq,-aE,-dm,bA,bD]
  .rw[cO h1] at q;rw[a6 h1] at q1;refine eB (n:=8) hE bA bD 2 (by decide) h0 h1 ?_ rfl rfl;rw[zc];simp[q,ur,uc,q1,hk,-ak,-au,-aq,-aE,-dm,bA,bD]
 .by_cases h1:s1.ae=[]
  .rw[z7 h0 h1];rw[dh h1] at q;rw[bd h1] at q1;refine Di (n:=8) hE bA bD h0 h1 ?_ rfl rfl;rw[zc];simp[q,ur,uc,q1,hk,-ak,-au,-aq,-aE,-dm,bA,bD]
  .rw[Dx h0 h1];rw[cO h1] at q;rw[a6 h1] at q1;refine di (n:=8) hE bA bD 3 (by decide) h0 h1 ?_ rfl rfl;rw[zc];simp[q,ur,uc,q1,hk,-ak,-au,-aq,-aE,-dm,bA,bD]
theorem ab0(N:Nat){x y:AV}{T:List a7}{L:List Tok}{st:St}(hx:aZ x=some T)(hy:bE y=some L)(hc:RC T L st)(hN:st.ax.length<N)(hE:cb Tryz.prog bV (cm Qu (QA N)))(cT:(ai T 1200 (cU st)).1.2.2=true)(hk:(aP (ai T 1200 (cU st)).2).aj=6)(hg:dp (ai T 1200 (cU st)).1.1=false):
 cp Tryz.prog bV 43 [.ptr 0 0] (dA x y st) (.tuple [Gy.aL,.int .i64 3]) (some (uG x y st.ae (aA (ai T 1200 (cU st)).2))):=by
 have bA:=bM hx;have bD:=bB hy;have SL:=abB hc;have q:=dG N hx hy SL 1200 hN;rw[cT,bd (st:=cU st) rfl,show (cU st).ae=[] from rfl,show (cU st).bQ=st.bQ from rfl,show (((cU st).next:Nat):Int)=0 from rfl,an] at q;have ur:=ar (ai T 1200 (cU st)).1.1;have uc:=cM (ai T 1200 (cU st)).1.1;have ho:=(bY T).ok 1200 (cU st) cT;obtain⟨c1,acZ⟩:=SL.ok ho;have q1:=dK hx hy c1;have ks:(aP (ai T 1200 (cU st)).2).aj=(bf L (ai T 1200 (cU st)).2).aj:=by rw[bz c1]
 rw[ks] at hk;rw[cq] at q1;rw[hk] at q1;have w1:=wrap_i64 (n:=((ai T 1200 (cU st)).2.bQ:Int)+1) (by omega) (by have:=c1.lb;omega);have hB:=(Ol T ((cU st).ax.length+1)).b 1200 (cU st) (Y9 hc) cT;have hbk:=hB.1;have oI:st.ax.length<=100000:=by rw[hc.ax,List.length_drop,jd];have:=hc.lb;omega
 have aog:(cU st).ax.length=st.ax.length:=rfl;have q2:=s9 (ai T 1200 (cU st)).1.1 (by change Tm.eO (ai T 1200 (cU st)).1.1<=_ at hbk;omega);rw[hg,an] at q2;generalize (ai T 1200 (cU st)).2=s1 at *;generalize (ai T 1200 (cU st)).1.1=u at *;generalize (ai T 1200 (cU st)).1.2.1=lv at *;by_cases h0:st.ae=[]
 .rw[h0,zi,<-h0];by_cases h1:s1.ae=[]
  .rw[dh h1] at q;rw[bd h1] at q1;refine dy (n:=8) hE bA bD h0 h1 ?_ rfl rfl;rw[og];simp only[kZ,kX,lu];simp[q,ur,uc,q1,q2,w1,-ak,-au,-aq,-aE,-dm,bA,bD]
  .rw[cO h1] at q;rw[a6 h1] at q1;refine eB (n:=8) hE bA bD 2 (by decide) h0 h1 ?_ rfl rfl;rw[og];simp only[kZ,kX,lu];simp[q,ur,uc,q1,q2,w1,-ak,-au,-aq,-aE,-dm,bA,bD]
 .by_cases h1:s1.ae=[]
  .rw[z7 (st:=aA s1) h0 h1];rw[dh h1] at q;rw[bd h1] at q1;refine Di (n:=8) hE bA bD h0 h1 ?_ rfl rfl;rw[og];simp only[kZ,kX,lu];simp[q,ur,uc,q1,q2,w1,-ak,-au,-aq,-aE,-dm,bA,bD]
  .rw[Dx (st:=aA s1) h0 h1];rw[cO h1] at q;rw[a6 h1] at q1;refine di (n:=8) hE bA bD 3 (by decide) h0 h1 ?_ rfl rfl;rw[og];simp only[kZ,kX,lu];simp[q,ur,uc,q1,q2,w1,-ak,-au,-aq,-aE,-dm,bA,bD]
theorem afw(N:Nat){x y:AV}{T:List a7}{L:List Tok}{st:St}(hx:aZ x=some T)(hy:bE y=some L)(hc:RC T L st)(hN:st.ax.length<N)(hE:cb Tryz.prog bV (cm Qu (QA N)))(cT:(ai T 1200 (cU st)).1.2.2=true)(hk:(aP (ai T 1200 (cU st)).2).aj=6)(hg:dp (ai T 1200 (cU st)).1.1=true):
 cp Tryz.prog bV 43 [.ptr 0 0] (dA x y st) (.tuple [(ai T 1200 (cU st)).1.1.aL,.int .i64 0]) (some (uG x y st.ae (aA (ai T 1200 (cU st)).2))):=by
 have bA:=bM hx;have bD:=bB hy;have SL:=abB hc;have q:=dG N hx hy SL 1200 hN;rw[cT,bd (st:=cU st) rfl,show (cU st).ae=[] from rfl,show (cU st).bQ=st.bQ from rfl,show (((cU st).next:Nat):Int)=0 from rfl,an] at q;have ur:=ar (ai T 1200 (cU st)).1.1;have uc:=cM (ai T 1200 (cU st)).1.1;have ho:=(bY T).ok 1200 (cU st) cT;obtain⟨c1,acZ⟩:=SL.ok ho;have q1:=dK hx hy c1;have ks:(aP (ai T 1200 (cU st)).2).aj=(bf L (ai T 1200 (cU st)).2).aj:=by rw[bz c1]
 rw[ks] at hk;rw[cq] at q1;rw[hk] at q1;have w1:=wrap_i64 (n:=((ai T 1200 (cU st)).2.bQ:Int)+1) (by omega) (by have:=c1.lb;omega);have hB:=(Ol T ((cU st).ax.length+1)).b 1200 (cU st) (Y9 hc) cT;have hbk:=hB.1;have oI:st.ax.length<=100000:=by rw[hc.ax,List.length_drop,jd];have:=hc.lb;omega
 have aog:(cU st).ax.length=st.ax.length:=rfl;have q2:=s9 (ai T 1200 (cU st)).1.1 (by change Tm.eO (ai T 1200 (cU st)).1.1<=_ at hbk;omega);rw[hg,an] at q2;generalize (ai T 1200 (cU st)).2=s1 at *;generalize (ai T 1200 (cU st)).1.1=u at *;generalize (ai T 1200 (cU st)).1.2.1=lv at *;by_cases h0:st.ae=[]
 .rw[h0,zi,<-h0];by_cases h1:s1.ae=[]
  .rw[dh h1] at q;rw[bd h1] at q1;refine dy (n:=8) hE bA bD h0 h1 ?_ (by simp[AV.aJ,AV.ah,Tm.bC]) rfl;rw[an];simp only[kZ,kX,lu];simp[q,ur,uc,q1,q2,w1,-ak,-au,-aq,-aE,-dm,bA,bD]
  .rw[cO h1] at q;rw[a6 h1] at q1;refine eB (n:=8) hE bA bD 2 (by decide) h0 h1 ?_ (by simp[AV.aJ,AV.ah,Tm.bC]) rfl;rw[an];simp only[kZ,kX,lu];simp[q,ur,uc,q1,q2,w1,-ak,-au,-aq,-aE,-dm,bA,bD]
 .by_cases h1:s1.ae=[]
  .rw[z7 (st:=aA s1) h0 h1];rw[dh h1] at q;rw[bd h1] at q1;refine Di (n:=8) hE bA bD h0 h1 ?_ (by simp[AV.aJ,AV.ah,Tm.bC]) rfl;rw[an];simp only[kZ,kX,lu];simp[q,ur,uc,q1,q2,w1,-ak,-au,-aq,-aE,-dm,bA,bD]
  .rw[Dx (st:=aA s1) h0 h1];rw[cO h1] at q;rw[a6 h1] at q1;refine di (n:=8) hE bA bD 3 (by decide) h0 h1 ?_ (by simp[AV.aJ,AV.ah,Tm.bC]) rfl;rw[an];simp only[kZ,kX,lu];simp[q,ur,uc,q1,q2,w1,-ak,-au,-aq,-aE,-dm,bA,bD]
end
section
noncomputable def FH:cw:=⟨43,λ
 |[.ptr 0 0],os=>(match ye os with
   |some R=>some (.tuple [(vi R.T R.st).1.1.aL,.int .i64 (vi R.T R.st).1.2],some (uG R.x R.y R.st.ae (vi R.T R.st).2))
   |none=>none)
 |_,_=>none⟩
theorem DD:FH.f=43:=(rfl)
theorem Yw{x y:AV}{T:List a7}{L:List Tok}{st:St}(hx:aZ x=some T)(hy:bE y=some L)(h:RC T L st):
 FH.S [.ptr 0 0] (dA x y st)=some (.tuple [(vi T st).1.1.aL,.int .i64 (vi T st).1.2],some (uG x y st.ae (vi T st).2)):=by
 simp only[FH,lR hx hy h]
theorem YL:cB Tryz.prog bV FH:=λaa os v r hv=>by
 unfold FH at hv;dsimp only at hv;split at hv
 .rename_i os;split at hv
  .rename_i R hR;cases hv;obtain⟨hx,hy,rfl,h⟩:=kG hR;rw[DD];have hE:cb Tryz.prog bV (cm Qu (QA (R.st.ax.length+1))):=ey (by simp[Qu,wy.lift]) (by simp[QA,AI,EF]);have hn:R.st.ax.length<R.st.ax.length+1:=by omega
   unfold vi;dsimp only;change cp Tryz.prog bV 43 [.ptr 0 0] _ (.tuple [(if (!(ai R.T 1200 (cU R.st)).1.2.2||!decide ((aP (ai R.T 1200 (cU R.st)).2).aj=6))=true then ((Gy,(2:Int)),(ai R.T 1200 (cU R.st)).2) else if dp (ai R.T 1200 (cU R.st)).1.1=true then (((ai R.T 1200 (cU R.st)).1.1,0),aA (ai R.T 1200 (cU R.st)).2) else ((Gy,3),aA (ai R.T 1200 (cU R.st)).2)).1.1.aL,.int .i64 (if (!(ai R.T 1200 (cU R.st)).1.2.2||!decide ((aP (ai R.T 1200 (cU R.st)).2).aj=6))=true then ((Gy,(2:Int)),(ai R.T 1200 (cU R.st)).2) else if dp (ai R.T 1200 (cU R.st)).1.1=true then (((ai R.T 1200 (cU R.st)).1.1,0),aA (ai R.T 1200 (cU R.st)).2) else ((Gy,3),aA (ai R.T 1200 (cU R.st)).2)).1.2]) (some (uG R.x R.y R.st.ae (if (!(ai R.T 1200 (cU R.st)).1.2.2||!decide ((aP (ai R.T 1200 (cU R.st)).2).aj=6))=true then ((Gy,(2:Int)),(ai R.T 1200 (cU R.st)).2) else if dp (ai R.T 1200 (cU R.st)).1.1=true then (((ai R.T 1200 (cU R.st)).1.1,0),aA (ai R.T 1200 (cU R.st)).2) else ((Gy,3),aA (ai R.T 1200 (cU R.st)).2)).2))
   cases cT:(ai R.T 1200 (cU R.st)).1.2.2 with
   |false=>rw[if_pos (by rfl)];exact afm _ hx hy h hn hE cT
   |true=>
     by_cases hk:(aP (ai R.T 1200 (cU R.st)).2).aj=6
     .rw[if_neg (by simp[hk])]
      cases hg:dp (ai R.T 1200 (cU R.st)).1.1 with
      |false=>rw[if_neg (by simp)];exact ab0 _ hx hy h hn hE cT hk hg
      |true=>rw[if_pos rfl];exact afw _ hx hy h hn hE cT hk hg
     .rw[if_pos (by simp[hk])];exact abF _ hx hy h hn hE cT hk
  .cases hv
 .cases hv
def nmV(p:List UInt8×Int):AV:=.agg [.str p.1,.int .i64 p.2]
def vH:List (List UInt8×Int)->AV
 |[]=>.aF
 |p::r=>.sl ((p::r).map nmV)
theorem UU{l:List (List UInt8×Int)}(h:l≠[]):vH l=.sl (l.map nmV):=by
 cases l with
 |nil=>exact absurd rfl h
 |cons p r=>rfl
theorem PQ(l:List (List UInt8×Int)):∀x∈l.map nmV,C6 2 x:=by intro x hx;obtain⟨o,_,rfl⟩:=List.mem_map.1 hx;exact⟨rfl,rfl,(λh=>by cases h),λ_=>rfl,rfl⟩
theorem PA(l:List (List UInt8×Int)):(l.map nmV).flatMap AV.cells=bo l:=by
 induction l with
 |nil=>rfl
 |cons t r ih=>unfold bo at ih|-;rw[List.map_cons,List.flatMap_cons,List.flatMap_cons,ih];rfl
theorem P6(l:List (List UInt8×Int)):AV.ah (l.map nmV)=0:=by
 induction l with
 |nil=>rfl
 |cons t r ih=>simp[AV.ah,ih,nmV,AV.aJ]
theorem CI(l:List (List UInt8×Int)):(vH l).aJ=0:=by
 cases l with
 |nil=>rfl
 |cons p r=>simp[vH,AV.aJ]
theorem ain{h:af}{n0 d id:Nat}{l:List (List UInt8×Int)}(bX:n0<=id)(hg:h.get id=some (.row (bo l))):
 jL h n0 (d+2) (.vec id 0 l.length 2 l.length)=some (.sl (l.map nmV),[id]):=
 wR bX hg (by omega) (PQ l) (by simp) (by rw[rW];exact Nat.le_refl _) (by rw[PA,List.take_of_length_le];rw[rW];exact Nat.le_refl _)
theorem aeY{x y:AV}(hx:Laid x)(hy:Laid y)(a b:Int)(τ:List Nat):gN [x,y,.int .i64 a,.int .i64 b,.aF] τ=τ:=by simp only[gN,hx.top,hy.top];rfl
def IE(T:List a7)(s:List UInt8):(Tm×List (List UInt8×Int))×Int:=
 if eN T=false then ((Gy,[]),1)
 else if (fw s).2.2≠0 then ((Gy,[]),(fw s).2.2)
 else if (vi T (Gw (fw s).1 0)).1.2=2\/((vi T (Gw (fw s).1 0)).2.bQ:Int)<(fw s).1.length then ((Gy,[]),2)
 else if (vi T (Gw (fw s).1 0)).1.2≠0 then ((Gy,[]),(vi T (Gw (fw s).1 0)).1.2)
 else (((vi T (Gw (fw s).1 0)).1.1,(vi T (Gw (fw s).1 0)).2.ae),0)
def Cd(r:(Tm×List (List UInt8×Int))×Int):AV:=.tuple [r.1.1.aL,vH r.1.2,.int .i64 r.2]
theorem OK(r:(Tm×List (List UInt8×Int))×Int):(Cd r).aJ=0:=by simp[Cd,AV.aJ,AV.ah,Tm.bC,CI]
noncomputable def acm:List aW:=[qA,LV]
noncomputable def aay:List cw:=[FH]
attribute [local simp] jP jN jQ jJ gR gQ jH jK jM gS gT jI lz lh lD lq kY kW iJ iM Laid.aJ fh fi bW aeZ V6 c14 c42 acm aay nJ lX DD Cd vH og
theorem Yn{x:AV}{T:List a7}(hx:aZ x=some T)(hT:T.length<1000000)(s:List UInt8):∃h',aH (cm acm aay) 30 14 [.agg [x],.str s] h0=some (Cd (IE T s),h'):=by
 have qg:=Fy hx (by omega);have qc:=Jm s;have hgd:=HE s;have hy:=T3 (fw s).1;unfold Ba at qc;unfold IE;have bA:=bM hx;have bD:=bB hy;have uM:=λh=>bA.fr h 0 6
 have fx:=bA.cl2;have u1:=aeY bA bD;have rH:=bD.cl2;have KN:=Il hy
 cases hg:eN T with
 |false=>rw[if_pos rfl];rw[hg] at qg;exact⟨_,by simp[u1,qg,qc,fx,rH,uM,-ak,-au,-aq,-aE,-dm,bA,bD];with_reducible rfl⟩
 |true=>
   rw[if_neg (by simp)];rw[hg] at qg;by_cases he:(fw s).2.2=0
   .rw[if_neg (λh=>h he)];have hc:=ami (T:=T) (a:=0) hT hgd.1 hgd.2 (Nat.zero_le _);have q:=Yw hx hy hc;rw[bd (st:=Gw (fw s).1 0) rfl,show (Gw (fw s).1 0).ae=[] from rfl,zi,show (((Gw (fw s).1 0).bQ:Nat):Int)=0 from rfl,show (((Gw (fw s).1 0).next:Nat):Int)=0 from rfl,an] at q;rw[he] at qc;generalize rS (fw s).1=y at *;generalize (fw s).1.length=n at *;generalize (fw s).2.1=pp at *;generalize vi T (Gw (fw s).1 0)=r at *;obtain⟨⟨t,e⟩,s1⟩:=r;dsimp only at *;have ur:=ar t;have uc:=cM t;by_cases h1:s1.ae=[]
    .rw[dh h1] at q;by_cases a1:e=2
     .rw[if_pos (.inl a1)];exact⟨_,by simp[u1,qg,qc,fx,rH,uM,-ak,-au,-aq,-aE,-dm,aw,q,KN,ur,uc,j7,a1,bA,bD];with_reducible rfl⟩
     by_cases a2:(s1.bQ:Int)<(n:Int)
     .rw[if_pos (.inr a2)];exact⟨_,by simp[u1,qg,qc,fx,rH,uM,-ak,-au,-aq,-aE,-dm,aw,q,KN,ur,uc,j7,a1,a2,bA,bD];with_reducible rfl⟩
     rw[if_neg (λh=>h.elim a1 a2)];by_cases a3:e=0
     .rw[if_neg (λh=>h a3)];have tc:=an t;rw[h1];exact⟨_,by simp[u1,qg,qc,fx,rH,uM,-ak,-au,-aq,-aE,-dm,aw,q,KN,ur,uc,j7,a1,a2,a3,tc,bA,bD];with_reducible rfl⟩
     .rw[if_pos a3];exact⟨_,by simp[u1,qg,qc,fx,rH,uM,-ak,-au,-aq,-aE,-dm,aw,q,KN,ur,uc,j7,a1,a2,a3,bA,bD];with_reducible rfl⟩
    .rw[cO h1] at q;have fk:∀(h:af) (n0 d id:Nat),n0<=id->h.get id=some (.row (bo s1.ae))->jL h n0 (d+2) (.vec id 0 s1.ae.length 2 s1.ae.length)=some (.sl (s1.ae.map nmV),[id]):=λh n0 d id a b=>ain a b
     have nr:=P6 s1.ae;have nl:=UU h1;by_cases a1:e=2
     .rw[if_pos (.inl a1)];exact⟨_,by simp[u1,qg,qc,fx,rH,uM,-ak,-au,-aq,-aE,-dm,aw,q,KN,ur,uc,j7,a1,bA,bD];with_reducible rfl⟩
     by_cases a2:(s1.bQ:Int)<(n:Int)
     .rw[if_pos (.inr a2)];exact⟨_,by simp[u1,qg,qc,fx,rH,uM,-ak,-au,-aq,-aE,-dm,aw,q,KN,ur,uc,j7,a1,a2,bA,bD];with_reducible rfl⟩
     rw[if_neg (λh=>h.elim a1 a2)];by_cases a3:e=0
     .rw[if_neg (λh=>h a3)];have tc:=an t;unfold Cd;dsimp only;rw[nl];generalize s1.ae.map nmV=NL at *;exact⟨_,by simp[u1,qg,qc,fx,rH,uM,-ak,-au,-aq,-aE,-dm,aw,q,KN,ur,uc,j7,a1,a2,a3,tc,fk,nr,-kh,bA,bD];with_reducible rfl⟩
     .rw[if_pos a3];exact⟨_,by simp[u1,qg,qc,fx,rH,uM,-ak,-au,-aq,-aE,-dm,aw,q,KN,ur,uc,j7,a1,a2,a3,bA,bD];with_reducible rfl⟩
   .rw[if_pos he];exact⟨_,by simp[u1,qg,qc,fx,rH,uM,-ak,-au,-aq,-aE,-dm,he,bA,bD];with_reducible rfl⟩
noncomputable def BS:aW:=⟨14,λ
 |[.agg [x],.str s]=>(match aZ x with|some T=>if T.length<1000000 then some (Cd (IE T s)) else none|none=>none)
 |_=>none⟩
theorem rU:BS.f=14:=(rfl)
theorem TG{x:AV}{T:List a7}(hx:aZ x=some T)(hT:T.length<1000000)(s:List UInt8):BS.S [.agg [x],.str s]=some (Cd (IE T s)):=by simp only[BS,hx,if_pos hT]
theorem TZ:dU Tryz.prog bV BS:=λaa v hv=>by
 unfold BS at hv|-;dsimp only at hv|-;split at hv
 .rename_i x s;split at hv
  .rename_i T hx;split at hv
   .rename_i hT;cases hv;obtain⟨h',e⟩:=Yn hx hT s;exact bL (ey (ss:=acm) (ms:=aay) (by simp[acm,Gb.lift,I7]) (by simp[aay,YL])) e (OK _) (by simp[AV.aJ,AV.ah,fb hx])
   .cases hv
  .cases hv
 .cases hv
end
section
section
variable {T:List a7}{n M:Nat}{aM:List Tm}{st:St}
end
noncomputable def ahW:List aW:=[qA,LV]
noncomputable def ahP:List cw:=[FH]
attribute [local simp] jP jN jQ jJ gR gQ jH jK jM gS gT jI lz lh lD lq kY kW iJ iM Laid.aJ fh fi bW aw ahW ahP nJ lX DD og
end
section
def af3(r:List Tm×Int):AV:=.tuple [Gx r.1,.int .i64 r.2]
attribute [local simp] jP jN jQ jJ gR gQ jH jK jM gS gT jI lz lh lD lq kY kW iJ iM Laid.aJ fh fi bW V6 c42 ahW ahP nJ lX DD af3
end
section
theorem DX{t:Tm}(h:t.aa.length=1):∃y,t.aa=[y]/\t.bh=.sl [y.aL]/\rP t=y:=by
 cases t with
 |nl k n s=>simp[Tm.aa] at h
 |mk k n s us=>
   match us,h with
   |[y],_=>exact⟨y,rfl,rfl,rfl⟩
   |[],h=>simp[Tm.aa] at h
   |x::y::r,h=>simp[Tm.aa] at h
theorem LM{t:Tm}(h:t.aa.length=2):∃y z,t.aa=[y,z]/\t.bh=.sl [y.aL,z.aL]/\rP t=y/\H5 t=z:=by
 cases t with
 |nl k n s=>simp[Tm.aa] at h
 |mk k n s us=>
   match us,h with
   |[y,z],_=>exact⟨y,z,rfl,rfl,rfl,rfl⟩
   |[],h=>simp[Tm.aa] at h
   |[y],h=>simp[Tm.aa] at h
   |x::y::z::r,h=>simp[Tm.aa] at h
def rC:cw:=⟨141,λ
 |[.ptr 0 0,v],os=>(match CX os,fK v with
   |some W,some t=>some (.tuple [(jh W.T W.b t).1.aL,.bool (jh W.T W.b t).2],none)
   |_,_=>none)
 |_,_=>none⟩
theorem gi:rC.f=141:=(rfl)
theorem Vs{x:AV}{T:List a7}(hx:aZ x=some T)(b:Bool)(ps:List (Int×Int))(hT:T.length<1000000)(hp:qe ps=true)(t:Tm):
 rC.S [.ptr 0 0,t.aL] (ly x b ps)=some (.tuple [(jh T b t).1.aL,.bool (jh T b t).2],none):=by
 simp only[rC,o9 hx b ps hT hp,cd]
theorem TN:cB Tryz.prog bV rC:=λaa os v r hv=>by
 unfold rC at hv;dsimp only at hv;split at hv
 .rename_i v0 os;split at hv
  .rename_i W t hW ht;cases hv;obtain⟨x,hx,rfl,hT,hp⟩:=mO hW;obtain⟨T,b,ps⟩:=W;dsimp only at hx hT hp|-;rw[cf ht,gi];have eF:=pE t;have q:=AA hx t.az (by omega);have q2:=IU t.az;have cI:=fb hx;have nt:=ar t;have e1:=n9 t.az [45];have dq:=Tm.aY t;simp only[a7.aL,a7.cells] at q;refine qV (n:=6) (m:=2) (ey (ss:=[pW,vd]) (ms:=[]) (by simp[Dy.lift,IN]) (by simp)) hx ?_ (by simp[AV.aJ,AV.ah,a7.aL,a7.cells]) (by simp[AV.ah,Tm.bC]);rw[Tm.bm,dq];unfold jh
   cases b with
   |false=>simp[pf,c141,fQ,eU,eF,nt,aw,a7.aL,a7.cells,fL]
   |true=>
     by_cases h2:t.aa.length=1
     .have DW:((t.aa.length:Int)=1)=True:=eq_true (by omega);obtain⟨y,ha,QW,hy⟩:=DX h2;have DV:=Tm.bm y;have rH:=Tm.aY y;have qj:=ar y
      have aqw:∀(fr:List AV) (h:af) (o:dY),o.ev fr=.sl [y.aL]->bG fr h (.vj o)=some (.int .i64 1,h):=λfr h o ho=>by rw[dZ,ho];rfl
      rw[QW,hy,DV,rH]
      have fin:∀(c:Bool),((decide (t.az=[45])&&decide (y.aj=1))=c)->(aH (cm [pW,vd] []) 6 141 [.ptr 0 0,.agg [.int .i64 t.aj,.int .i64 t.bj,.str t.az,.sl [.agg [.int .i64 y.aj,.int .i64 y.bj,.str y.az,y.bh]]]] ⟨2,[.map (gZ ps),.row [x,.bool true,.map 1]],2,2⟩=
       some (if c||!ja t.az then .tuple [fL.aL,.bool false] else .tuple [(aS T t.az true).1.aL,.bool (aS T t.az true).2],⟨2,[.map (gZ ps),.row [x,.bool true,.map 1]],2,2⟩)):=λc hc=>by
       cases c with
       |true=>
         simp only[Bool.and_eq_true,decide_eq_true_eq] at hc;have e2:(t.az==[45])=true:=by rw[e1];exact decide_eq_true hc.1
         simp[pf,c141,fQ,eU,qj,aw,hc.1,hc.2,a7.aL,a7.cells,fL]
       |false=>
         have ax:∀(d:Bool),(t.az==[45])=d->(d=true->(y.aj=1)=False)->(aH (cm [pW,vd] []) 6 141 [.ptr 0 0,.agg [.int .i64 t.aj,.int .i64 t.bj,.str t.az,.sl [.agg [.int .i64 y.aj,.int .i64 y.bj,.str y.az,y.bh]]]] ⟨2,[.map (gZ ps),.row [x,.bool true,.map 1]],2,2⟩=
          some (if !ja t.az then .tuple [fL.aL,.bool false] else .tuple [(aS T t.az true).1.aL,.bool (aS T t.az true).2],⟨2,[.map (gZ ps),.row [x,.bool true,.map 1]],2,2⟩)):=λd hd hk=>by
          cases d with
          |true=>
            have yL:=hk rfl;have hn:t.az=[45]:=by simpa using hd
            rw[hn] at q q2|-
            cases DP:ja [45] with
            |false=>rw[DP] at q2;simp[pf,c141,fQ,eU,qj,aw,yL,q2,a7.aL,a7.cells,fL]
            |true=>
              rw[DP] at q2;rcases bb hx with⟨rfl,rfl⟩|rfl
              .simp[pf,c141,fQ,eU,qj,aw,yL,q,q2,a7.aL,a7.cells]
              .simp[pf,c141,fQ,eU,qj,aw,yL,q,q2,a7.aL,a7.cells]
          |false=>
            have hn:¬t.az=[45]:=by simpa using hd
            cases DP:ja t.az with
            |false=>rw[DP] at q2;simp[pf,c141,fQ,eU,qj,aw,hd,hn,q2,a7.aL,a7.cells,fL]
            |true=>
              rw[DP] at q2;rcases bb hx with⟨rfl,rfl⟩|rfl
              .simp[pf,c141,fQ,eU,qj,aw,hd,hn,q,q2,a7.aL,a7.cells]
              .simp[pf,c141,fQ,eU,qj,aw,hd,hn,q,q2,a7.aL,a7.cells]
         rw[Bool.false_or];refine ax (t.az==[45]) rfl λhd=>?_
         have hn:t.az=[45]:=by simpa using hd
         rw[hn] at hc;simpa using hc
      rw[fin _ rfl];rw[h2];simp only[Bool.not_true,Bool.false_or,decide_true];cases (decide (t.az=[45])&&decide (y.aj=1))||!ja t.az<;>rfl
     .have DW:((t.aa.length:Int)=1)=False:=eq_false (by omega);simp[pf,c141,fQ,eU,eF,nt,aw,h2,DW,a7.aL,a7.cells,fL]
  .cases hv
 .cases hv
def zA:cw:=⟨137,λ
 |[.ptr 0 0,.str s,.int .i64 n,.bool bs],os=>(match CX os with
   |some W=>if s.length<=64 then some (.str (EO W.T W.b s n bs),none) else none
   |none=>none)
 |_,_=>none⟩
theorem iw:zA.f=137:=(rfl)
theorem Wp{x:AV}{T:List a7}(hx:aZ x=some T)(b:Bool)(ps:List (Int×Int))(hT:T.length<1000000)(hp:qe ps=true)(s:List UInt8)(hs:s.length<=64)(n:Int)(bs:Bool):
 zA.S [.ptr 0 0,.str s,.int .i64 n,.bool bs] (ly x b ps)=some (.str (EO T b s n bs),none):=by
 simp only[zA,o9 hx b ps hT hp];rw[if_pos hs]
theorem XQ:cB Tryz.prog bV zA:=λaa os v r hv=>by
 unfold zA at hv;dsimp only at hv;split at hv
 .rename_i os s n bs;split at hv
  .rename_i W hW;split at hv
   .rename_i hs;cases hv;obtain⟨x,hx,rfl,hT,hp⟩:=mO hW;obtain⟨T,b,ps⟩:=W;dsimp only at hx hT hp|-;rw[iw];have q1:=BE hx s (by omega);have q2:=AA hx s (by omega);have q3:=wJ s;have hq:=pF hs;have cI:=fb hx;simp only[a7.aL,a7.cells] at q1 q2;unfold EO;generalize aS T s false=I at *;generalize aS T s true=Pr at *;obtain⟨⟨i1,i2,i3⟩,i4⟩:=I;obtain⟨⟨p1,p2,p3⟩,p4⟩:=Pr;dsimp only at q1 q2|-
    have GA:max i3 p3=if i3<p3 then p3 else i3:=by
     by_cases h:i3<p3
     .rw[if_pos h];omega
     .rw[if_neg h];omega
    rw[GA];have q4:=λc=>qR (da s) c (by omega)
    have key:∀c:Bool,((b&&(i4||p4))&&(bs||decide (n<if i3<p3 then p3 else i3)))=c->aH (cm [KQ,pW,oU,lJ] []) 6 137 [.ptr 0 0,.str s,.int .i64 n,.bool bs] ⟨2,[.map (gZ ps),.row [x,.bool b,.map 1]],2,2⟩=
     some (.str (JI (da s) c),⟨2,[.map (gZ ps),.row [x,.bool b,.map 1]],2,2⟩):=λc hc=>by
     rw[<-hc];rcases bb hx with⟨rfl,rfl⟩|rfl
     .cases b<;>cases i4<;>cases p4<;>cases bs<;>simp[RR,Ys,hP,fQ,dM,ew,q1,q2,q3,q4,o7]
     .cases b<;>cases i4<;>cases p4<;>cases bs<;>simp[RR,Ys,hP,fQ,dM,ew,q1,q2,q3,q4,o7]
    exact qV (n:=6) (m:=2) (ey (ss:=[KQ,pW,oU,lJ]) (ms:=[]) (by simp[Gi.lift,Dy.lift,A8,Cm.lift]) (by simp)) hx (key _ rfl) (by simp[AV.aJ]) (by simp[AV.ah,AV.aJ])
   .cases hv
  .cases hv
 .cases hv
theorem Dv(T:List a7)(b:Bool)(vr:Int->List UInt8):∀(N M:Nat) (t:Tm) (n:Int) (bs:Bool),xB t->t.size<=N->t.size<=M->wT T b vr N t n bs=wT T b vr M t n bs
 |0,_,t,_,_,_,h,_=>by have:=bJ t;omega
 |_+1,0,t,_,_,_,_,h=>by have:=bJ t;omega
 |N+1,M+1,t,n,bs,h,h1,h2=>by
   have hs:=bJ t
   have sub:∀y∈t.aa,∀n bs,wT T b vr N y n bs=wT T b vr M y n bs:=λy hy n bs=>by have:=oy hy;exact Dv T b vr N M y n bs (iu h hy) (by omega) (by omega)
   unfold wT;by_cases k0:t.aj=0
   .rw[if_pos k0,if_pos k0]
   rw[if_neg k0,if_neg k0];by_cases k1:t.aj=1
   .rw[if_pos k1,if_pos k1]
   rw[if_neg k1,if_neg k1];by_cases k2:t.aa.length=0
   .rw[if_pos k2,if_pos k2]
   rw[if_neg k2,if_neg k2];by_cases k3:((b&&decide (t.az=[46]))&&decide (t.aa.length=2))=true
   .rw[if_pos k3,if_pos k3];simp only[Bool.and_eq_true,decide_eq_true_eq] at k3
    have AR:hO t=true:=by
     have hk:t.aj=2:=by
      rcases vJ h with k|k|k
      .exact absurd k k0
      .exact absurd k k1
      .exact k
     simp[hO,hk,k3.1.2,k3.2]
    obtain⟨i1,i2,i3⟩:=px t.size t (Nat.le_refl _) h
    have e1:((a8 t).1.map λx=>wT T b vr N x 999 false)=(a8 t).1.map λx=>wT T b vr M x 999 false:=List.map_congr_left λy hy=>Dv T b vr N M y 999 false (i1 y hy).1 (by have:=(i1 y hy).2;omega) (by have:=(i1 y hy).2;omega)
    have e2:wT T b vr N (a8 t).2 999 false=wT T b vr M (a8 t).2 999 false:=Dv T b vr N M _ 999 false i2 (by have:=i3 AR;omega) (by have:=i3 AR;omega);rw[e1,e2]
   rw[if_neg k3,if_neg k3];by_cases k4:((b&&decide (t.az=[123,125]))&&decide (t.aa.length=1))=true
   .rw[if_pos k4,if_pos k4,sub _ (pQ (by omega))]
   rw[if_neg k4,if_neg k4];by_cases k5:(fc T b t).2=true
   .have hl:t.aa.length=2:=by
     unfold fc at k5;split at k5
     .cases k5
     .rename_i hc;simp at hc;exact hc.1.2
    rw[if_pos k5,if_pos k5,sub _ (pQ (by omega)),sub _ (QK (by omega))]
   rw[if_neg k5,if_neg k5];by_cases k6:(jh T b t).2=true
   .rw[if_pos k6,if_pos k6,sub _ (pQ (by omega))]
   rw[if_neg k6,if_neg k6]
   have e1:(t.aa.map λx=>wT T b vr N x 999 false)=t.aa.map λx=>wT T b vr M x 999 false:=List.map_congr_left λy hy=>sub y hy _ _
   rw[e1]
def wF(T:List a7)(b:Bool)(vr:Int->List UInt8)(t:Tm)(n:Int)(bs:Bool):List UInt8:=wT T b vr t.size t n bs
theorem JQ(T:List a7)(b:Bool)(vr:Int->List UInt8){N:Nat}{t:Tm}(h:xB t)(hn:t.size<=N)(n:Int)(bs:Bool):wT T b vr N t n bs=wF T b vr t n bs:=Dv T b vr N t.size t n bs h hn (Nat.le_refl _)
theorem rA(T:List a7)(b:Bool)(vr:Int->List UInt8)(hv:∀n,(vr n).length<=21)(t:Tm)(n:Int)(bs:Bool)(h:xB t):(wF T b vr t n bs).length+10<=150*t.size:=vh T b vr hv t.size t n bs h
def RW(T:List a7)(b:Bool)(vr:Int->List UInt8)(t:Tm):List UInt8:=[91]++Lib.join ((a8 t).1.map λx=>wF T b vr x 999 false) [44]++(if u4 (a8 t).2 then [] else [124]++wF T b vr (a8 t).2 999 false)++[93]
def opW(T:List a7)(b:Bool)(vr:Int->List UInt8)(o:a7)(t:Tm):List UInt8:=wF T b vr (rP t) (oW T b o t) true++u0 t.az++wF T b vr (H5 t) (aB o).2 true
theorem aim(T:List a7)(b:Bool)(vr:Int->List UInt8)(t:Tm)(n:Int)(bs:Bool)(h:xB t):wF T b vr t n bs=
 if t.aj=0 then vr t.bj
 else if t.aj=1 then JI (cn t.bj) (bs&&decide (t.bj<0))
 else if t.aa.length=0 then EO T b t.az n bs
 else if (b&&decide (t.az=[46]))&&decide (t.aa.length=2) then RW T b vr t
 else if (b&&decide (t.az=[123,125]))&&decide (t.aa.length=1) then [123]++wF T b vr (rP t) 1200 false++[125]
 else if (fc T b t).2 then JI (opW T b vr (fc T b t).1 t) (decide (n<(fc T b t).1.l))
 else if (jh T b t).2 then JI (da t.az++[32]++wF T b vr (rP t) (aB (jh T b t).1).2 true) (decide (n<(jh T b t).1.l))
 else da t.az++[40]++Lib.join (t.aa.map λx=>wF T b vr x 999 false) [44]++[41]:=by
 have hs:=bJ t;obtain⟨N,hN⟩:∃N,t.size=N+1:=⟨t.size-1,by omega⟩
 have sub:∀y∈t.aa,∀n bs,wT T b vr N y n bs=wF T b vr y n bs:=λy hy n bs=>by have:=oy hy;exact JQ T b vr (iu h hy) (by omega) n bs
 conv=>lhs;unfold wF
 rw[hN];conv=>lhs;unfold wT
 by_cases k0:t.aj=0
 .rw[if_pos k0,if_pos k0]
 rw[if_neg k0,if_neg k0];by_cases k1:t.aj=1
 .rw[if_pos k1,if_pos k1]
 rw[if_neg k1,if_neg k1];by_cases k2:t.aa.length=0
 .rw[if_pos k2,if_pos k2]
 rw[if_neg k2,if_neg k2];by_cases k3:((b&&decide (t.az=[46]))&&decide (t.aa.length=2))=true
 .rw[if_pos k3,if_pos k3];simp only[Bool.and_eq_true,decide_eq_true_eq] at k3
  have AR:hO t=true:=by
   have hk:t.aj=2:=by
    rcases vJ h with k|k|k
    .exact absurd k k0
    .exact absurd k k1
    .exact k
   simp[hO,hk,k3.1.2,k3.2]
  obtain⟨i1,i2,i3⟩:=px t.size t (Nat.le_refl _) h
  have e1:((a8 t).1.map λx=>wT T b vr N x 999 false)=(a8 t).1.map λx=>wF T b vr x 999 false:=List.map_congr_left λy hy=>JQ T b vr (i1 y hy).1 (by have:=(i1 y hy).2;omega) 999 false
  have e2:wT T b vr N (a8 t).2 999 false=wF T b vr (a8 t).2 999 false:=JQ T b vr i2 (by have:=i3 AR;omega) 999 false;rw[e1,e2];rfl
 rw[if_neg k3,if_neg k3];by_cases k4:((b&&decide (t.az=[123,125]))&&decide (t.aa.length=1))=true
 .rw[if_pos k4,if_pos k4,sub _ (pQ (by omega))]
 rw[if_neg k4,if_neg k4];by_cases k5:(fc T b t).2=true
 .have hl:t.aa.length=2:=by
   unfold fc at k5;split at k5
   .cases k5
   .rename_i hc;simp at hc;exact hc.1.2
  rw[if_pos k5,if_pos k5,sub _ (pQ (by omega)),sub _ (QK (by omega))];rfl
 rw[if_neg k5,if_neg k5];by_cases k6:(jh T b t).2=true
 .rw[if_pos k6,if_pos k6,sub _ (pQ (by omega))]
 rw[if_neg k6,if_neg k6]
 have e1:(t.aa.map λx=>wT T b vr N x 999 false)=t.aa.map λx=>wF T b vr x 999 false:=List.map_congr_left λy hy=>sub y hy _ _
 rw[e1]
instance (t:Tm):Decidable (xB t):=by unfold xB;infer_instance
theorem Gc{x:AV}{T:List a7}(h:aZ x=some T):x.top=none:=by rcases bb h with⟨rfl,_⟩|rfl<;>rfl
theorem F9{x:AV}{T:List a7}(h:aZ x=some T)(g:Nat->Nat):sig g x=x:=by rcases bb h with⟨rfl,_⟩|rfl<;>rfl
noncomputable def gL(N:Nat):cw:=⟨98,λ
 |[.ptr 0 0,v,.int .i64 n,.bool bs],os=>(match CX os,fK v with
   |some W,some t=>if xB t/\t.size<N then some (.str (wF W.T W.b (k9 W.ps) t n bs),none) else none
   |_,_=>none)
 |_,_=>none⟩
theorem cg(N:Nat):(gL N).f=98:=(rfl)
theorem kM(N:Nat){x:AV}{T:List a7}(hx:aZ x=some T)(b:Bool)(ps:List (Int×Int))(hT:T.length<1000000)(hp:qe ps=true)(t:Tm)(h:xB t/\t.size<N)(n:Int)(bs:Bool):
 (gL N).S [.ptr 0 0,t.aL,.int .i64 n,.bool bs] (ly x b ps)=some (.str (wF T b (k9 ps) t n bs),none):=by
 simp only[gL,o9 hx b ps hT hp,cd];rw[if_pos h]
def vp:List aW:=[Iw]
noncomputable def vE(N:Nat):List cw:=[gL N]
theorem G9(n N:Nat)(us:List Tm)(hl:us.length<100000)(hus:∀y∈us,xB y/\y.size<N)(x:AV)(T:List a7)(hx:aZ x=some T)(b:Bool)(ps:List (Int×Int))(hT:T.length<1000000)(hp:qe ps=true):∀(post pre:List Tm) (aM:List (List UInt8)) (m md:Nat),us=pre++post->aM≠[]->aM.length=pre.length->post.length<m->
 ∃cH,il 2 2 (bP (aC (aH (cm vp (vE N)) (n+1)) (n+1) oe) kS 2 m (Kv (.ptr 0 0) (.vec 2 0 aM.length 1 aM.length) (.sl (us.map Tm.aL)) (.int .i64 us.length) (.int .i64 pre.length)) ⟨3,[.row (aM.map .str),.map (gZ ps),.row [x,.bool b,.map 1]],2,md⟩)=
   some (.exit 0,FM 23 [(5,.vec 2 0 us.length 1 us.length)],⟨3,[.row ((aM++post.map λy=>wF T b (k9 ps) y 999 false).map .str),.map (gZ ps),.row [x,.bool b,.map 1]],2,cH⟩)
 |_,_,_,0,_,_,_,_,h=>by omega
 |[],pre,aM,m+1,md,hs,eR,hac,hm=>by rw[ag];have hf:=wA aM;rw[List.append_nil] at hs;subst hs;have cI:=fb hx;refine⟨md,?_⟩;simp[vp,vE,oe,kS,o6,cg,hf,hac]
 |y::r,pre,aM,m+1,md,hs,eR,hac,hm=>by
   rw[ag];have AL:pre.length+r.length+1=us.length:=by rw[hs];simp;omega
   have hf:=wA aM;have h8:(aM.length+1)*16<=140737488355328:=by omega
   have h9:aM.length+1<9223372036854775808:=by omega
   have jZ:(aM.map AV.str).take aM.length=aM.map AV.str:=by rw[List.take_of_length_le];simp
   have h6:((pre.length:Int)<(us.length:Int))=True:=eq_true (by omega);have hc:us[pre.length]? =some y:=by rw[hs];simp
   have h3:IntKind.i64.wrap ((pre.length:Int)+1)=(pre.length:Int)+1:=wrap_i64 (by omega) (by omega);have hy:=hus y (by rw[hs];simp);obtain⟨cH,ih⟩:=G9 n N us hl hus x T hx b ps hT hp r (pre++[y]) (aM++[wF T b (k9 ps) y 999 false]) m (min md 2) (by rw[hs];simp) (by simp) (by simp;omega) (by simp at hm;omega);refine⟨cH,?_⟩;have cI:=fb hx;have hxt:=Gc hx;have hsg:=λg=>F9 hx g
   have DV:=Tm.bm y;have rH:=Tm.aY y;have qj:=ar y;have q1:=kM N hx b ps hT hp y hy 999 false;have SN:=bw us;simp only[List.map_cons];generalize wF T b (k9 ps) y 999 false=w at *;simp only[ly] at q1;rw[DV,rH] at q1;rw[show aM++(w::r.map λy=>wF T b (k9 ps) y 999 false)=aM++[w]++r.map λy=>wF T b (k9 ps) y 999 false by simp];simp only[List.length_append,List.length_cons,List.length_nil,Nat.zero_add,Int.natCast_add,Int.natCast_one,vp,vE,List.map_append,List.map_cons,List.map_nil] at ih;have ju:AV.ah (aM.map AV.str++[.str w])=0:=by have:=wA (aM++[w]);rwa[List.map_append] at this
   have hue:us.map Tm.aL=us.map Tm.aL:=rfl;have mF:=ee T;rcases bb hx with⟨rfl,rfl⟩|rfl
   .simp[vp,vE,oe,kS,o6,cg,cI,mF,dj,cJ,-cV,-cA,aG,hf,h8,h9,jZ,h6,hc,h3,DV,rH,qj,q1,SN,ju];simp only[List.append_assoc,List.cons_append,List.nil_append,List.map_append,List.map_cons,List.map_map] at ih;exact ih
   .simp[vp,vE,oe,kS,o6,cg,cI,mF,dj,cJ,-cV,-cA,aG,hf,h8,h9,jZ,h6,hc,h3,DV,rH,qj,q1,SN,ju];simp only[List.append_assoc,List.cons_append,List.nil_append,List.map_append,List.map_cons,List.map_map] at ih;exact ih
theorem QE(n N:Nat)(us:List Tm)(hl:us.length<100000)(hus:∀y∈us,xB y/\y.size<N)(x:AV)(T:List a7)(hx:aZ x=some T)(b:Bool)(ps:List (Int×Int))(hT:T.length<1000000)(hp:qe ps=true):∀(y:Tm) (post:List Tm) (m md:Nat),us=y::post->post.length+1<m->
 ∃cH,il 2 2 (bP (aC (aH (cm vp (vE N)) (n+1)) (n+1) oe) kS 2 m (Kv (.ptr 0 0) .aF (.sl (us.map Tm.aL)) (.int .i64 us.length) (.int .i64 0)) ⟨2,[.map (gZ ps),.row [x,.bool b,.map 1]],2,md⟩)=
   some (.exit 0,FM 23 [(5,.vec 2 0 us.length 1 us.length)],⟨3,[.row (([]++(y::post).map λy=>wF T b (k9 ps) y 999 false).map .str),.map (gZ ps),.row [x,.bool b,.map 1]],2,cH⟩)
 |y,r,0,md,hs,hm=>by omega
 |y,r,m+1,md,hs,hm=>by
   subst hs;rw[ag];simp only[List.length_cons] at hl;have h6:True:=trivial;have hc:True:=trivial;have h3:IntKind.i64.wrap 1=1:=rfl;have hy:=hus y (by simp);obtain⟨cH,ih⟩:=G9 n N (y::r) (by simp;omega) hus x T hx b ps hT hp r [y] [wF T b (k9 ps) y 999 false] m (min md 2) rfl (by simp) rfl (by omega);refine⟨cH,?_⟩;have cI:=fb hx;have hxt:=Gc hx;have hsg:=λg=>F9 hx g
   have DV:=Tm.bm y;have rH:=Tm.aY y;have qj:=ar y;have q1:=kM N hx b ps hT hp y hy 999 false;have SN:=bw r;simp only[List.map_cons];generalize wF T b (k9 ps) y 999 false=w at *;simp only[ly] at q1;rw[DV,rH] at q1;simp only[DV,rH,List.length_cons,List.length_nil,Nat.zero_add,Int.natCast_add,Int.natCast_one,vp,vE,List.map_cons,List.map_nil,List.nil_append,List.cons_append] at ih|-;have mF:=ee T;rcases bb hx with⟨rfl,rfl⟩|rfl
   .simp[vp,vE,oe,kS,o6,cg,cI,mF,dj,cJ,-cV,-cA,aG,h6,hc,h3,DV,rH,qj,q1,SN];simp only[List.append_assoc,List.cons_append,List.nil_append,List.map_append,List.map_cons,List.map_map] at ih;exact ih
   .simp[vp,vE,oe,kS,o6,cg,cI,mF,dj,cJ,-cV,-cA,aG,h6,hc,h3,DV,rH,qj,q1,SN];simp only[List.append_assoc,List.cons_append,List.nil_append,List.map_append,List.map_cons,List.map_map] at ih;exact ih
def tI(v:AV):Option (List Tm):=match v with
 |.aF=>some []
 |.sl xs=>lU xs
 |_=>none
theorem NU{v:AV}{us:List Tm}(h:tI v=some us):(v=.aF/\us=[])\/v=.sl (us.map Tm.aL):=by
 cases v<;>simp[tI] at h
 .exact .inl ⟨rfl,h⟩
 .exact .inr (by rw[td h])
noncomputable def od(N:Nat):cw:=⟨142,λ
 |[.ptr 0 0,v],os=>(match CX os,tI v with
   |some W,some us=>if (∀y∈us,xB y/\y.size<N)/\Tm.br us<100000 then some (.str (Lib.join (us.map λy=>wF W.T W.b (k9 W.ps) y 999 false) [44]),none) else none
   |_,_=>none)
 |_,_=>none⟩
theorem eh(N:Nat):(od N).f=142:=(rfl)
theorem D4(N:Nat){x:AV}{T:List a7}(hx:aZ x=some T)(b:Bool)(ps:List (Int×Int))(hT:T.length<1000000)(hp:qe ps=true){v:AV}{us:List Tm}(hv:tI v=some us)(h:(∀y∈us,xB y/\y.size<N)/\Tm.br us<100000):
 (od N).S [.ptr 0 0,v] (ly x b ps)=some (.str (Lib.join (us.map λy=>wF T b (k9 ps) y 999 false) [44]),none):=by
 simp only[od,o9 hx b ps hT hp,hv];rw[if_pos h]
theorem Vy(l:List (List UInt8)):∀x∈l.map AV.str,C6 1 x:=by intro x hx;obtain⟨o,_,rfl⟩:=List.mem_map.1 hx;exact⟨rfl,rfl,(λ_=>rfl),(λh=>absurd rfl h),rfl⟩
theorem Tw(l:List (List UInt8)):(l.map AV.str).flatMap AV.cells=l.map AV.str:=by
 induction l with
 |nil=>rfl
 |cons v r ih=>rw[List.map_cons,List.flatMap_cons,ih];rfl
theorem aiy{h:af}{n0 d id k:Nat}(l:List (List UInt8))(hk:l.length=k+1)(bX:n0<=id)(hg:h.get id=some (.row (l.map .str))):
 jL h n0 (d+2) (.vec id 0 (k+1) 1 (k+1))=some (.sl (l.map .str),[id]):=by
 have hl:(l.map AV.str).length=k+1:=by simp[hk]
 exact wR bX hg (by omega) (Vy l) (by rw[hl]) (by rw[hl];omega) (by rw[Tw,List.take_of_length_le];omega)
theorem EM(N:Nat)(hN:cB Tryz.prog bV (gL N)):cB Tryz.prog bV (od N):=λaa os v r hv=>by
 unfold od at hv;dsimp only at hv;split at hv
 .rename_i v0 os;split at hv
  .rename_i W us hW hu;split at hv
   .rename_i hc;cases hv;obtain⟨x,hx,rfl,hT,hp⟩:=mO hW;obtain⟨T,b,ps⟩:=W;dsimp only at hx hT hp|-;rw[eh];have hE:cb Tryz.prog bV (cm vp (vE N)):=ey (ss:=vp) (ms:=vE N) (by simp[vp,WR.lift]) (by simp[vE,hN]);have cI:=fb hx;have hul:=dE us;have iE:=hc.2;rcases NU hu with⟨rfl,rfl⟩|rfl
    .have q:=Fx .aF [] [44] rfl (by simp[Lib.join,List.intercalate]);refine qV (n:=6) (m:=2) hE hx ?_ (by simp[AV.aJ]) (by simp[AV.ah,AV.aJ]);simp[vp,vE,Dz,Pk,kS,oe,ag,o6,cg,q,cI]
    .cases us with
     |nil=>have q:=Fx .aF [] [44] rfl (by simp[Lib.join,List.intercalate]);refine qV (n:=6) (m:=2) hE hx ?_ (by simp[AV.aJ]) (by simp[AV.ah,AV.aJ]);simp[vp,vE,Dz,Pk,kS,oe,ag,o6,cg,q,cI]
     |cons y us=>
       obtain⟨md,lp⟩:=QE (us.length+4) N (y::us) (by omega) hc.1 x T hx b ps hT hp y us (us.length+5) 2 rfl (by omega);have dI:∀z∈y::us,(wF T b (k9 ps) z 999 false).length+10<=150*z.size:=λz hz=>rA T b (k9 ps) (nZ hp) z 999 false (hc.1 z hz).1
       have k1:=rY [44] ((y::us).map λx=>wF T b (k9 ps) x 999 false);have k2:=Br (f:=λx=>(wF T b (k9 ps) x 999 false).length) (y::us) dI;rw[List.map_map] at k1;have k4:(Lib.join ((y::us).map λx=>wF T b (k9 ps) x 999 false) [44]).length<=150*Tm.br (y::us):=Nat.le_trans k1 k2;have hll:((y::us).map λx=>wF T b (k9 ps) x 999 false).length=us.length+1:=by simp
       have SN:=bw (y::us);rw[List.nil_append] at lp;generalize (y::us).map (λx=>wF T b (k9 ps) x 999 false)=l at *;have q:=Fx (.sl (l.map .str)) l [44] (QI l) (by simp only[List.length_cons] at hul;omega);have hlr:=wA l;have fk:∀d wl md,jL ⟨3,[.row (l.map .str),.map (gZ ps),.row [x,.bool b,.map 1]],wl,md⟩ 0 (d+2) (.vec 2 0 (us.length+1) 1 (us.length+1))=some (.sl (l.map .str),[2]):=λd wl md=>aiy l hll (Nat.zero_le 2) rfl
       refine qV (n:=us.length+6) (m:=if md<2 then min 2 md else 2) hE hx ?_ (by simp[AV.aJ]) (by simp[AV.ah,AV.aJ,SN]);simp only[kS,Kv,vp,vE,List.length_cons,Int.natCast_add,Int.natCast_one] at lp;have hU:((y::us).map Tm.aL).length=us.length+1:=by simp
       generalize (y::us).map Tm.aL=U at *;have mF:=ee T;rcases bb hx with⟨rfl,rfl⟩|rfl
       .simp[vp,vE,Dz,Pk,kS,o6,cg,q,SN,hU,lp,fk,hlr,-kh]
       .simp[vp,vE,Dz,Pk,kS,o6,cg,q,SN,hU,mF,lp,fk,hlr,-kh]
   .cases hv
  .cases hv
 .cases hv
noncomputable def ua(N:Nat):cw:=⟨138,λ
 |[.ptr 0 0,v],os=>(match CX os,fK v with
   |some W,some t=>if xB t/\hO t=true/\t.size<=N then some (.str (RW W.T W.b (k9 W.ps) t),none) else none
   |_,_=>none)
 |_,_=>none⟩
theorem gj(N:Nat):(ua N).f=138:=(rfl)
theorem UH(N:Nat){x:AV}{T:List a7}(hx:aZ x=some T)(b:Bool)(ps:List (Int×Int))(hT:T.length<1000000)(hp:qe ps=true)(t:Tm)(h:xB t/\hO t=true/\t.size<=N):
 (ua N).S [.ptr 0 0,t.aL] (ly x b ps)=some (.str (RW T b (k9 ps) t),none):=by
 simp only[ua,o9 hx b ps hT hp,cd];rw[if_pos h]
theorem Vh(N:Nat)(hN:cB Tryz.prog bV (gL N)):cB Tryz.prog bV (ua N):=λaa os v r hv=>by
 unfold ua at hv;dsimp only at hv;split at hv
 .rename_i v0 os;split at hv
  .rename_i W t hW ht;split at hv
   .rename_i hc;cases hv;obtain⟨x,hx,rfl,hT,hp⟩:=mO hW;obtain⟨T,b,ps⟩:=W;dsimp only at hx hT hp|-;rw[cf ht,gj];obtain⟨cT,AR,hsN⟩:=hc;have hE:cb Tryz.prog bV (cm [Bz] [od N,gL N]):=ey (by simp[Uk.lift]) (by simp[hN,EM N hN]);obtain⟨i1,i2,i3⟩:=px t.size t (Nat.le_refl _) cT;have i3':=i3 AR;have iE:=qy t.size t (Nat.le_refl _);have hg:=cT.1;have hg2:=hg;simp only[dp,Bool.and_eq_true,decide_eq_true_eq] at hg2;have q1:=Ts t (by have:=cT.2.1;omega);have e1:yJ t=a8 t:=by unfold yJ;rw[if_pos hg]
    rw[e1] at q1
    have eR:(a8 t).1≠[]:=by obtain⟨a,r,_,e⟩:=kf AR;rw[e];simp
    have q3:=kM N hx b ps hT hp (a8 t).2 ⟨i2,by omega⟩ 999 false;have hWl:=rA T b (k9 ps) (nZ hp) (a8 t).2 999 false i2;have k1:=rY [44] ((a8 t).1.map λy=>wF T b (k9 ps) y 999 false);have k2:=Br (f:=λy=>(wF T b (k9 ps) y 999 false).length) (a8 t).1 (λy hy=>rA T b (k9 ps) (nZ hp) y 999 false (i1 y hy).1);rw[List.map_map] at k1;have k4:(Lib.join ((a8 t).1.map λy=>wF T b (k9 ps) y 999 false) [44]).length<=150*Tm.br (a8 t).1:=Nat.le_trans k1 k2;have q2:=D4 N hx b ps hT hp (v:=.sl ((a8 t).1.map Tm.aL)) (us:=(a8 t).1) (by simp[tI,<-jb,l7]) ⟨λy hy=>⟨(i1 y hy).1,by have:=(i1 y hy).2;omega⟩,by omega⟩
    have e2:Gx (a8 t).1=.sl ((a8 t).1.map Tm.aL):=by
     cases hi:(a8 t).1 with
     |nil=>exact absurd hi eR
     |cons a r=>rfl
    rw[e2] at q1;have SN:=bw (a8 t).1;refine qV (n:=6) (m:=2) hE hx ?_ (by simp[AV.aJ]) (by simp[AV.ah,Tm.bC]);unfold RW u4;have hjs:(Lib.join ((a8 t).1.map λy=>wF T b (k9 ps) y 999 false) [44]).length<1000000:=by omega
    have hws:(wF T b (k9 ps) (a8 t).2 999 false).length<1000000:=by omega
    generalize Lib.join ((a8 t).1.map λy=>wF T b (k9 ps) y 999 false) [44]=J at *;generalize wF T b (k9 ps) (a8 t).2 999 false=V at *;generalize (a8 t).1.map Tm.aL=U at *;generalize (a8 t).2=u at *;have eF:=pE u;have nt:=ar t;have ac0:=ar u;have dq:=Tm.aY t;have hcu:=Tm.aY u;simp only[ly] at q2 q3;rw[Tm.bm,dq] at q1|-;rw[Tm.bm u,hcu] at q1 q3;have b1:J.length+1<9223372036854775808:=by omega
    have b2:V.length+1<9223372036854775808:=by omega
    have b3:J.length+1+(V.length+1)<9223372036854775808:=by omega
    have b4:J.length+(V.length+1)+1<9223372036854775808:=by omega
    have b5:J.length+(V.length+1)+1+1<9223372036854775808:=by omega
    have b6:J.length+1+(V.length+1)+1<9223372036854775808:=by omega
    have b7:J.length+1+1<9223372036854775808:=by omega
    have b8:1+J.length<9223372036854775808:=by omega
    have b9:1+V.length<9223372036854775808:=by omega
    have mF:=ee T;have e3:=n9 u.az [91,93];by_cases c1:u.aj<2
    .rcases bb hx with⟨rfl,rfl⟩|rfl<;>
     simp[Df,c138,Ax,eh,cg,dj,cJ,-cV,-cA,q1,q2,q3,nt,SN,ac0,aw,eF,mF,b1,b2,b3,b4,b5,b6,b7,b8,b9,c1]
    by_cases c2:u.az=[91,93]
    .by_cases c3:u.aa.length=0
     .have c3':(0<(u.aa.length:Int))=False:=eq_false (by omega);rcases bb hx with⟨rfl,rfl⟩|rfl<;>
      simp[Df,c138,Ax,eh,cg,dj,cJ,-cV,-cA,q1,q2,nt,SN,ac0,aw,eF,mF,b1,b2,b3,b4,b5,b6,b7,b8,b9,c1,c2,c3]
     .have c3':(0<u.aa.length)=True:=eq_true (by omega);rw[c2] at q1 q3;rcases bb hx with⟨rfl,rfl⟩|rfl<;>
      simp[Df,c138,Ax,eh,cg,dj,cJ,-cV,-cA,q1,q2,q3,nt,SN,ac0,aw,eF,mF,b1,b2,b3,b4,b5,b6,b7,b8,b9,c1,c2,c3,c3']
    .have e4:(u.az==[91,93])=false:=by rw[e3];exact decide_eq_false c2
     rcases bb hx with⟨rfl,rfl⟩|rfl<;>
     simp[Df,c138,Ax,eh,cg,dj,cJ,-cV,-cA,q1,q2,q3,nt,SN,ac0,aw,eF,mF,b1,b2,b3,b4,b5,b6,b7,b8,b9,c1,c2,e4]
   .cases hv
  .cases hv
 .cases hv
theorem Pc(o:a7)(h:0<=o.l/\o.l<=1200):-1<=(aB o).1/\(aB o).1<=1200/\-1<=(aB o).2/\(aB o).2<=1200:=by
 unfold aB
 repeat' split
 all_goals (dsimp only;omega)
noncomputable def ud(N:Nat):cw:=⟨140,λ
 |[.ptr 0 0,w,v],os=>(match CX os,oM w,fK v with
   |some W,some o,some t=>if xB t/\t.aa.length=2/\t.size<=N/\0<=o.l/\o.l<=1200 then some (.str (opW W.T W.b (k9 W.ps) o t),none) else none
   |_,_,_=>none)
 |_,_=>none⟩
theorem gk(N:Nat):(ud N).f=140:=(rfl)
theorem Uq(N:Nat){x:AV}{T:List a7}(hx:aZ x=some T)(b:Bool)(ps:List (Int×Int))(hT:T.length<1000000)(hp:qe ps=true)(o:a7)(t:Tm)(h:xB t/\t.aa.length=2/\t.size<=N/\0<=o.l/\o.l<=1200):
 (ud N).S [.ptr 0 0,o.aL,t.aL] (ly x b ps)=some (.str (opW T b (k9 ps) o t),none):=by
 simp only[ud,o9 hx b ps hT hp,cd,Ey];rw[if_pos h]
theorem UA(N:Nat)(hN:cB Tryz.prog bV (gL N)):cB Tryz.prog bV (ud N):=λaa os v r hv=>by
 unfold ud at hv;dsimp only at hv;split at hv
 .rename_i w v0 os;split at hv
  .rename_i W o t hW ho ht;split at hv
   .rename_i hc;cases hv;obtain⟨x,hx,rfl,hT,hp⟩:=mO hW;obtain⟨T,b,ps⟩:=W;dsimp only at hx hT hp|-;rw[cf ht,mB ho,gk];obtain⟨cT,h2,hsN,hl⟩:=hc;have hE:cb Tryz.prog bV (cm [oP,oU] [jy,gL N]):=ey (by simp[xm.lift,A8]) (by simp[hN,CH.lift]);obtain⟨y,z,ha,QW,hy,hz⟩:=LM h2;have hs:=bJ t;rw[ha] at hs;simp only[Tm.br] at hs;have oky:=iu cT (y:=y) (by rw[ha];simp);have okz:=iu cT (y:=z) (by rw[ha];simp);have q1:=kJ o hl;have q2:=CE hx b ps hT hp y;have q3:=wJ t.az;have q4:=kM N hx b ps hT hp y ⟨oky,by omega⟩ (oW T b o t) true;have q5:=kM N hx b ps hT hp z ⟨okz,by omega⟩ (aB o).2 true;have l4:=rA T b (k9 ps) (nZ hp) y (oW T b o t) true oky;have l5:=rA T b (k9 ps) (nZ hp) z (aB o).2 true okz;have hg:=cT.1;simp only[dp,Bool.and_eq_true,decide_eq_true_eq] at hg;have hq:=pF (FQ cT);have hsr:=Pc o hl;refine qV (n:=6) (m:=2) hE hx ?_ (by simp[AV.aJ]) (by simp[AV.ah,Tm.bC,AV.aJ,a7.aL,a7.cells]);unfold opW u0;rw[hy,hz];have hls:(wF T b (k9 ps) y (oW T b o t) true).length<1000000:=by omega
    have hrs:(wF T b (k9 ps) z (aB o).2 true).length<1000000:=by omega
    generalize wF T b (k9 ps) y (oW T b o t) true=A at *;generalize wF T b (k9 ps) z (aB o).2 true=B at *;unfold oW isLeft at q4;rw[hy] at q4;have w1:IntKind.i64.wrap ((aB o).1-1)=(aB o).1-1:=wrap_i64 (by omega) (by omega);generalize aB o=sd at *;obtain⟨s1,s2⟩:=sd;generalize da t.az=Q at *;generalize fc T b y=I at *;obtain⟨⟨i1,i2,i3⟩,i4⟩:=I;dsimp only at q1 q2 q4 q5 w1;have dq:=Tm.aY t;have Oi:=Tm.aY y;have hcz:=Tm.aY z;have qj:=ar y;have hzr:=ar z;simp only[ly,a7.aL,a7.cells] at q2 q4 q5;rw[Tm.bm t,dq,QW];rw[Tm.bm y,Oi] at q2 q4|-;rw[Tm.bm z,hcz] at q5|-;obtain⟨on,ok,ol⟩:=o;dsimp only at q1 q4;have b1:Q.length+1<9223372036854775808:=by omega
    have b2:Q.length+1+1<9223372036854775808:=by omega
    have b3:A.length+1<9223372036854775808:=by omega
    have b4:A.length+1+B.length<9223372036854775808:=by omega
    have b5:A.length+(Q.length+1+1)<9223372036854775808:=by omega
    have b6:A.length+(Q.length+1+1)+B.length<9223372036854775808:=by omega
    have b7:1+Q.length<9223372036854775808:=by omega
    have b8:A.length+(1+B.length)<9223372036854775808:=by omega
    have mF:=ee T;have e3:=n9 ok [121,102,120];have e4:=n9 i2 [121,102,120];have e5:=n9 t.az [44]
    have key:∀(n:List UInt8) (hn:t.az=n) (sg:List UInt8),sg=(if n=[44] then [44] else [32]++Q++[32])->
     aH (cm [oP,oU] [jy,gL N]) 6 140 [.ptr 0 0,(⟨on,ok,ol⟩:a7).aL,.agg [.int .i64 t.aj,.int .i64 t.bj,.str n,.sl [.agg [.int .i64 y.aj,.int .i64 y.bj,.str y.az,y.bh],.agg [.int .i64 z.aj,.int .i64 z.bj,.str z.az,z.bh]]]] ⟨2,[.map (gZ ps),.row [x,.bool b,.map 1]],2,2⟩=
      some (.str (A++sg++B),⟨2,[.map (gZ ps),.row [x,.bool b,.map 1]],2,2⟩):=λn hn sg hsg=>by
     rw[hn] at q3;have e5':=n9 n [44];rw[hsg];by_cases g1:ok=[121,102,120]
     .have g1':(ok==[121,102,120])=true:=by rw[e3];exact decide_eq_true g1
      subst g1
      cases i4 with
      |false=>
        simp only[decide_true,Bool.false_and,Bool.not_false,Bool.and_self,if_true] at q4;by_cases g3:n=[44]
        .subst g3;rcases bb hx with⟨rfl,rfl⟩|rfl<;>
         simp[qI,Ee,dD,dM,cP,cg,dj,cJ,-cV,-cA,q1,q2,q4,q5,w1,qj,hzr,aw,mF,b1,b2,b3,b4,b5,b6,b7,b8,a7.aL,a7.cells]
        .have g3':(n==[44])=false:=by rw[e5'];exact decide_eq_false g3
         rcases bb hx with⟨rfl,rfl⟩|rfl<;>
         simp[qI,Ee,dD,dM,cP,cg,dj,cJ,-cV,-cA,q1,q2,q3,q4,q5,w1,qj,hzr,aw,mF,b1,b2,b3,b4,b5,b6,b7,b8,g3,g3',a7.aL,a7.cells]
      |true=>
        by_cases g2:i2=[121,102,120]
        .subst g2;simp only[decide_true,Bool.and_self,Bool.not_true,Bool.and_false,Bool.false_eq_true,if_false] at q4;by_cases g3:n=[44]
         .subst g3;rcases bb hx with⟨rfl,rfl⟩|rfl<;>
          simp[qI,Ee,dD,dM,cP,cg,dj,cJ,-cV,-cA,q1,q2,q4,q5,qj,hzr,aw,mF,b1,b2,b3,b4,b5,b6,b7,b8,a7.aL,a7.cells]
         .have g3':(n==[44])=false:=by rw[e5'];exact decide_eq_false g3
          rcases bb hx with⟨rfl,rfl⟩|rfl<;>
          simp[qI,Ee,dD,dM,cP,cg,dj,cJ,-cV,-cA,q1,q2,q3,q4,q5,qj,hzr,aw,mF,b1,b2,b3,b4,b5,b6,b7,b8,g3,g3',a7.aL,a7.cells]
        .have g2':(i2==[121,102,120])=false:=by rw[e4];exact decide_eq_false g2
         rw[decide_eq_false g2] at q4;simp only[decide_true,Bool.and_false,Bool.not_false,Bool.and_self,if_true] at q4;by_cases g3:n=[44]
         .subst g3;rcases bb hx with⟨rfl,rfl⟩|rfl<;>
          simp[qI,Ee,dD,dM,cP,cg,dj,cJ,-cV,-cA,q1,q2,q4,q5,w1,qj,hzr,aw,mF,b1,b2,b3,b4,b5,b6,b7,b8,g2,g2',a7.aL,a7.cells]
         .have g3':(n==[44])=false:=by rw[e5'];exact decide_eq_false g3
          rcases bb hx with⟨rfl,rfl⟩|rfl<;>
          simp[qI,Ee,dD,dM,cP,cg,dj,cJ,-cV,-cA,q1,q2,q3,q4,q5,w1,qj,hzr,aw,mF,b1,b2,b3,b4,b5,b6,b7,b8,g2,g2',g3,g3',a7.aL,a7.cells]
     .have g1':(ok==[121,102,120])=false:=by rw[e3];exact decide_eq_false g1
      rw[decide_eq_false g1] at q4;simp only[Bool.false_and,Bool.false_eq_true,if_false] at q4;by_cases g3:n=[44]
      .subst g3;rcases bb hx with⟨rfl,rfl⟩|rfl<;>
       simp[qI,Ee,dD,dM,cP,cg,dj,cJ,-cV,-cA,q1,q2,q4,q5,qj,hzr,aw,mF,b1,b2,b3,b4,b5,b6,b7,b8,g1,g1',a7.aL,a7.cells]
      .have g3':(n==[44])=false:=by rw[e5'];exact decide_eq_false g3
       rcases bb hx with⟨rfl,rfl⟩|rfl<;>
       simp[qI,Ee,dD,dM,cP,cg,dj,cJ,-cV,-cA,q1,q2,q3,q4,q5,qj,hzr,aw,mF,b1,b2,b3,b4,b5,b6,b7,b8,g1,g1',g3,g3',a7.aL,a7.cells]
    exact key t.az rfl _ rfl
   .cases hv
  .cases hv
 .cases hv
theorem T9(N:Nat){x:AV}{T:List a7}(hx:aZ x=some T)(b:Bool)(ps:List (Int×Int))(hT:T.length<1000000)(hp:qe ps=true)(t:Tm)(h:N<=t.size)(n:Int)(bs:Bool):
 (gL N).S [.ptr 0 0,t.aL,.int .i64 n,.bool bs] (ly x b ps)=none:=by
 simp only[gL,o9 hx b ps hT hp,cd];rw[if_neg (by omega)]
theorem Kr(t:Tm):tI t.bh=some t.aa:=by
 cases t with
 |nl k n s=>rfl
 |mk k n s us=>simp[tI,Tm.bh,Tm.aa,<-jb,l7]
noncomputable def ssT:List aW:=[Ca,lJ,oU,oP]
noncomputable def msT(N:Nat):List cw:=[zA,ua N,jy,rC,ud N,od N,gL N]
theorem Wc(N:Nat)(x:AV)(T:List a7)(b:Bool)(ps:List (Int×Int))(hx:aZ x=some T)(hT:T.length<1000000)(hp:qe ps=true)(t:Tm)(cT:xB t)(hsN:t.size=N)(n:Int)(bs:Bool):
 aH (cm ssT (msT N)) 6 98 [.ptr 0 0,t.aL,.int .i64 n,.bool bs] ⟨2,[.map (gZ ps),.row [x,.bool b,.map 1]],2,2⟩=some (.str (wF T b (k9 ps) t n bs),⟨2,[.map (gZ ps),.row [x,.bool b,.map 1]],2,2⟩):=by
 rw[aim T b (k9 ps) t n bs cT];have CS:=T9 N hx b ps hT hp t (by omega) n bs;have cI:=fb hx;have mF:=ee T;have nt:=ar t;have eF:=pE t;have hs:=bJ t;have hg:=cT.1;simp only[dp,Bool.and_eq_true,decide_eq_true_eq] at hg;have qU:=FQ cT;have hq:=pF qU;have dq:=Tm.aY t;have Dd:t.aL=.agg [.int .i64 t.aj,.int .i64 t.bj,.str t.az,t.bh]:=by rw[Tm.bm,dq]
 simp only[ssT,msT];simp only[ly] at CS;rw[Dd] at CS;by_cases k0:t.aj=0
 .rw[if_pos k0,Dd];rw[k0] at CS|-;have hm:=V1 t.bj ps;have hr:=Ap hp t.bj;have q1:=L9 (qW ps t.bj) (by omega);have qo:=xi (qW ps t.bj) (by omega);unfold k9;unfold qW at q1 qo|-;have b1:(cn ((NO t.bj ps).getD 0)).length+1<9223372036854775808:=by omega
  have b2:1+(cn ((NO t.bj ps).getD 0)).length<9223372036854775808:=by omega
  cases uF:NO t.bj ps with
  |none=>
    rw[uF] at hm q1 b1 b2;simp only[Option.map_none,Option.getD_none] at hm q1 b1 b2;rcases bb hx with⟨rfl,rfl⟩|rfl<;>
    simp[lE,Kk,iI,ew,dM,dD,iw,gj,cP,gi,gk,eh,cg,dj,cJ,-cV,-cA,oh,CS,nt,aw,eF,mF,cI,hm,q1,b1,b2,af.iq]
  |some i=>
    rw[uF] at hm q1 b1 b2;simp only[Option.map_some,Option.getD_some] at hm q1 b1 b2;rcases bb hx with⟨rfl,rfl⟩|rfl<;>
    simp[lE,Kk,iI,ew,dM,dD,iw,gj,cP,gi,gk,eh,cg,dj,cJ,-cV,-cA,oh,CS,nt,aw,eF,mF,cI,hm,q1,b1,b2,af.iq]
 rw[if_neg k0];by_cases k1:t.aj=1
 .rw[if_pos k1,Dd];rw[k1] at CS|-;have hr:=I6 cT;have q1:=L9 t.bj hr;have qo:=xi t.bj hr;have q2:=λc=>qR (cn t.bj) c (by omega)
  cases bs with
  |false=>
    rcases bb hx with⟨rfl,rfl⟩|rfl<;>
    simp[lE,Kk,iI,ew,dM,dD,iw,gj,cP,gi,gk,eh,cg,dj,cJ,-cV,-cA,oh,CS,nt,aw,eF,mF,cI,q1,q2]
  |true=>
    by_cases c1:t.bj<0
    .rcases bb hx with⟨rfl,rfl⟩|rfl<;>
     simp[lE,Kk,iI,ew,dM,dD,iw,gj,cP,gi,gk,eh,cg,dj,cJ,-cV,-cA,oh,CS,nt,aw,eF,mF,cI,q1,q2,c1]
    .rcases bb hx with⟨rfl,rfl⟩|rfl<;>
     simp[lE,Kk,iI,ew,dM,dD,iw,gj,cP,gi,gk,eh,cg,dj,cJ,-cV,-cA,oh,CS,nt,aw,eF,mF,cI,q1,q2,c1]
 rw[if_neg k1];by_cases k2:t.aa.length=0
 .rw[if_pos k2,Dd];have q1:=Wp hx b ps hT hp t.az qU n bs;simp only[ly] at q1;have Dc:((t.aa.length:Int)=0)=True:=eq_true (by omega);rcases bb hx with⟨rfl,rfl⟩|rfl<;>
  simp[lE,Kk,iI,ew,dM,dD,iw,gj,cP,gi,gk,eh,cg,dj,cJ,-cV,-cA,oh,CS,nt,aw,eF,mF,cI,k0,k1,k2,Dc,q1]
 rw[if_neg k2];have Dc:((t.aa.length:Int)=0)=False:=eq_false (by omega);have e46:=n9 t.az [46];have aqA:=n9 t.az [123,125];by_cases k3:((b&&decide (t.az=[46]))&&decide (t.aa.length=2))=true
 .rw[if_pos k3];have k3c:=k3;simp only[Bool.and_eq_true,decide_eq_true_eq] at k3
  have AR:hO t=true:=by
   have hk:t.aj=2:=by
    rcases vJ cT with k|k|k
    .exact absurd k k0
    .exact absurd k k1
    .exact k
   simp[hO,hk,k3.1.2,k3.2]
  have q1:=UH N hx b ps hT hp t ⟨cT,AR,by omega⟩;simp only[ly] at q1;rw[Dd] at q1|-;have c1:b=true:=k3.1.1;have c2:(t.az==[46])=true:=by rw[e46];exact decide_eq_true k3.1.2
  have c3:((t.aa.length:Int)=2)=True:=eq_true (by omega);subst c1;rcases bb hx with⟨rfl,rfl⟩|rfl<;>
  simp[lE,Kk,iI,ew,dM,dD,iw,gj,cP,gi,gk,eh,cg,dj,cJ,-cV,-cA,oh,CS,nt,aw,eF,mF,cI,k0,k1,k2,Dc,c2,c3,k3.2,q1]
 rw[if_neg k3]
 -- the two tests,as the run makes them
 have cY:∀(fr:List AV) (h:af) (o:dY),o.ev fr=t.bh->bG fr h (.vj o)=some (.int .i64 t.aa.length,h):=eF;by_cases k4:((b&&decide (t.az=[123,125]))&&decide (t.aa.length=1))=true
 .rw[if_pos k4];simp only[Bool.and_eq_true,decide_eq_true_eq] at k4;obtain⟨y,ha,QW,hy⟩:=DX k4.2;have oky:=iu cT (y:=y) (by rw[ha];simp);have hsy:y.size<N:=by rw[ha] at hs;simp only[Tm.br] at hs;omega
  have q1:=kM N hx b ps hT hp y ⟨oky,hsy⟩ 1200 false;have l1:=rA T b (k9 ps) (nZ hp) y 1200 false oky;rw[hy];generalize wF T b (k9 ps) y 1200 false=A at *;have b1:A.length+1<9223372036854775808:=by omega
  have b2:A.length+1+1<9223372036854775808:=by omega
  have b3:1+A.length<9223372036854775808:=by omega
  have Oi:=Tm.aY y;have qj:=ar y;simp only[ly] at q1;rw[Tm.bm y,Oi] at q1;rw[QW,Tm.bm y,Oi] at CS;rw[Dd,QW,Tm.bm y,Oi];have c1:b=true:=k4.1.1;have c2:t.az=[123,125]:=k4.1.2;subst c1;rw[c2] at CS|-;rcases bb hx with⟨rfl,rfl⟩|rfl<;>
  simp[lE,Kk,iI,ew,dM,dD,iw,gj,cP,gi,gk,eh,cg,dj,cJ,-cV,-cA,oh,CS,nt,aw,eF,mF,cI,k0,k1,q1,qj,b1,b2,b3]
 rw[if_neg k4];have aqB:∀(R:Option (AV×af)),(∀(c d:Bool),((b&&decide (t.az=[46]))&&decide (t.aa.length=2))=false->((b&&decide (t.az=[123,125]))&&decide (t.aa.length=1))=false->True)->True:=λ_ _=>trivial
 -- the name and the number of Args fail the two tests
 have c46:b=true->(t.az==[46])=true->((t.aa.length:Int)=2)=False:=λh1 h2=>eq_false λh3=>k3 (by rw[h1];simp only[Bool.true_and,Bool.and_eq_true,decide_eq_true_eq];exact⟨by simpa using h2,by omega⟩)
 have ag2:b=true->(t.az==[123,125])=true->((t.aa.length:Int)=1)=False:=λh1 h2=>eq_false λh3=>k4 (by rw[h1];simp only[Bool.true_and,Bool.and_eq_true,decide_eq_true_eq];exact⟨by simpa using h2,by omega⟩)
 have q2:=CE hx b ps hT hp t;have q3:=Vs hx b ps hT hp t;by_cases k5:(fc T b t).2=true
 .rw[if_pos k5]
  have hi:b=true/\t.aa.length=2/\¬t.az=[46]:=by
   unfold fc at k5;split at k5
   .cases k5
   .rename_i hc;simp at hc;exact⟨hc.1.1,hc.1.2,hc.2⟩
  obtain⟨c1,c2,c3⟩:=hi
  have G0:0<=(fc T b t).1.l/\(fc T b t).1.l<=1200:=by
   unfold fc;split
   .exact⟨Int.le_refl 0,by simp[fL]⟩
   .exact kK _ _ _
  have q4:=Uq N hx b ps hT hp (fc T b t).1 t ⟨cT,c2,by omega,G0⟩
  have hol:(opW T b (k9 ps) (fc T b t).1 t).length<1000000:=by obtain⟨y,z,ha,QW,hy,hz⟩:=LM c2;unfold opW;rw[hy,hz];rw[ha] at hs;simp only[Tm.br] at hs;have l4:=rA T b (k9 ps) (nZ hp) y (oW T b (fc T b t).1 t) true (iu cT (by rw[ha];simp));have l5:=rA T b (k9 ps) (nZ hp) z (aB (fc T b t).1).2 true (iu cT (by rw[ha];simp));have:=H6 qU;simp only[List.length_append];omega
  have q5:=λc=>qR (opW T b (k9 ps) (fc T b t).1 t) c (by omega)
  generalize opW T b (k9 ps) (fc T b t).1 t=A at *;generalize fc T b t=I at *;obtain⟨⟨i1,i2,i3⟩,i4⟩:=I;dsimp only at k5 q2 q4 q5;simp only[ly,a7.aL,a7.cells] at q2 q4;rw[Dd] at q2 q4|-;have d1:(t.az==[46])=false:=by rw[e46];exact decide_eq_false c3
  have d2:((t.aa.length:Int)=2)=True:=eq_true (by omega);have d3:((t.aa.length:Int)=1)=False:=eq_false (by omega);subst c1 k5
  have fin:∀(e:Bool),(t.az==[123,125])=e->aH (cm [Ca,lJ,oU,oP] [zA,ua N,jy,rC,ud N,od N,gL N]) 6 98 [.ptr 0 0,.agg [.int .i64 t.aj,.int .i64 t.bj,.str t.az,t.bh],.int .i64 n,.bool bs] ⟨2,[.map (gZ ps),.row [x,.bool true,.map 1]],2,2⟩=some (.str (JI A (decide (n<i3))),⟨2,[.map (gZ ps),.row [x,.bool true,.map 1]],2,2⟩):=λe he=>by
   cases e with
   |false=>
     rcases bb hx with⟨rfl,rfl⟩|rfl<;>
      simp[lE,Kk,iI,ew,dM,dD,iw,gj,cP,gi,gk,eh,cg,dj,cJ,-cV,-cA,oh,CS,nt,aw,eF,mF,cI,k0,k1,k2,Dc,d1,d2,d3,c2,c3,he,q2,q4,q5]
   |true=>
     have Oj:t.az=[123,125]:=by simpa using he
     rw[Oj] at CS q2 q4 d1|-;rcases bb hx with⟨rfl,rfl⟩|rfl<;>
     simp[lE,Kk,iI,ew,dM,dD,iw,gj,cP,gi,gk,eh,cg,dj,cJ,-cV,-cA,oh,CS,nt,aw,eF,mF,cI,k0,k1,k2,Dc,d2,d3,c2,q2,q4,q5]
  exact fin _ rfl
 rw[if_neg k5];have QU:(fc T b t).2=false:=by simpa using k5
 have VO:jy.S [.ptr 0 0,t.aL] (ly x b ps)=some (.tuple [(fc T b t).1.aL,.bool false],none):=by rw[q2,QU]
 clear q2;generalize fc T b t=I at *;obtain⟨⟨i1,i2,i3⟩,i4⟩:=I;dsimp only at VO
 -- what both tests come to,by cases
 have aph:∀(V:List UInt8) (hV:∀(nm:List UInt8),nm=t.az->∀(c1:b=true->(nm==[46])=true->((t.aa.length:Int)=2)=False) (c2:b=true->(nm==[123,125])=true->((t.aa.length:Int)=1)=False),True),True:=λ_ _=>trivial
 by_cases k6:(jh T b t).2=true
 .rw[if_pos k6]
  have hi:b=true/\t.aa.length=1:=by
   unfold jh at k6;split at k6
   .cases k6
   .rename_i hc;simp at hc;exact⟨hc.1.1.1,hc.1.1.2⟩
  obtain⟨c1,c2⟩:=hi
  have G0:0<=(jh T b t).1.l/\(jh T b t).1.l<=1200:=by
   unfold jh;split
   .exact⟨Int.le_refl 0,by simp[fL]⟩
   .exact kK _ _ _
  obtain⟨y,ha,QW,hy⟩:=DX c2;have oky:=iu cT (y:=y) (by rw[ha];simp);have hsy:y.size<N:=by rw[ha] at hs;simp only[Tm.br] at hs;omega
  have q4:=kJ (jh T b t).1 G0;have q6:=kM N hx b ps hT hp y ⟨oky,hsy⟩ (aB (jh T b t).1).2 true;have l1:=rA T b (k9 ps) (nZ hp) y (aB (jh T b t).1).2 true oky;have q7:=wJ t.az;rw[hy];generalize wF T b (k9 ps) y (aB (jh T b t).1).2 true=A at *;generalize aB (jh T b t).1=sd at *;obtain⟨s1,s2⟩:=sd;dsimp only at q4 q6;have hqs:(da t.az++[32]++A).length<1000000:=by simp only[List.length_append,List.length_cons,List.length_nil];omega
  have q8:=λc=>qR (da t.az++[32]++A) c (by omega)
  have b1:(da t.az).length+1<9223372036854775808:=by omega
  have b2:(da t.az).length+1+A.length<9223372036854775808:=by omega
  have b3:(da t.az).length+(A.length+1)<9223372036854775808:=by omega
  generalize da t.az=Q at *;generalize jh T b t=P at *;obtain⟨⟨p1,p2,p3⟩,p4⟩:=P;dsimp only at k6 q3 q4;have Oi:=Tm.aY y;have qj:=ar y;simp only[ly,a7.aL,a7.cells] at q3 q4 q6 VO;rw[Dd,QW,Tm.bm y,Oi] at q3 VO;rw[Tm.bm y,Oi] at q6;rw[QW,Tm.bm y,Oi] at CS;rw[Dd,QW,Tm.bm y,Oi];subst c1 k6
  have d3:(t.az==[123,125])=false:=by
   cases hb:t.az==[123,125] with
   |false=>rfl
   |true=>have:=ag2 rfl hb;rw[c2] at this;simp at this
  have d4:¬t.az=[123,125]:=λe=>by rw[e] at d3;simp at d3
  simp only[List.append_assoc,List.cons_append,List.nil_append] at q8
  have fin:∀(e:Bool),(t.az==[46])=e->aH (cm [Ca,lJ,oU,oP] [zA,ua N,jy,rC,ud N,od N,gL N]) 6 98 [.ptr 0 0,.agg [.int .i64 t.aj,.int .i64 t.bj,.str t.az,.sl [.agg [.int .i64 y.aj,.int .i64 y.bj,.str y.az,y.bh]]],.int .i64 n,.bool bs] ⟨2,[.map (gZ ps),.row [x,.bool true,.map 1]],2,2⟩=some (.str (JI (Q++[32]++A) (decide (n<p3))),⟨2,[.map (gZ ps),.row [x,.bool true,.map 1]],2,2⟩):=λe he=>by
   cases e with
   |false=>
     rcases bb hx with⟨rfl,rfl⟩|rfl<;>
      simp[lE,Kk,iI,ew,dM,dD,iw,gj,cP,gi,gk,eh,cg,dj,cJ,-cV,-cA,oh,CS,nt,aw,eF,mF,cI,k0,k1,d3,d4,he,VO,q3,q4,q6,q7,q8,qj,b1,b2,b3]
   |true=>
     have Oj:t.az=[46]:=by simpa using he
     rw[Oj] at CS q3 VO q7|-;rcases bb hx with⟨rfl,rfl⟩|rfl<;>
     simp[lE,Kk,iI,ew,dM,dD,iw,gj,cP,gi,gk,eh,cg,dj,cJ,-cV,-cA,oh,CS,nt,aw,eF,mF,cI,k0,k1,VO,q3,q4,q6,q7,q8,qj,b1,b2,b3]
  exact fin _ rfl
 rw[if_neg k6];have k6':(jh T b t).2=false:=by simpa using k6
 have hq6:rC.S [.ptr 0 0,t.aL] (ly x b ps)=some (.tuple [(jh T b t).1.aL,.bool false],none):=by rw[q3,k6']
 clear q3;generalize jh T b t=P at *;obtain⟨⟨p1,p2,p3⟩,p4⟩:=P;dsimp only at hq6;have q7:=wJ t.az;have akn:∀y∈t.aa,xB y/\y.size<N:=λy hy=>⟨iu cT hy,by have:=oy hy;omega⟩
 have q8:=D4 N hx b ps hT hp (Kr t) ⟨akn,by omega⟩;have j1:=rY [44] (t.aa.map λy=>wF T b (k9 ps) y 999 false);have j2:=Br (f:=λy=>(wF T b (k9 ps) y 999 false).length) t.aa (λy hy=>rA T b (k9 ps) (nZ hp) y 999 false (akn y hy).1);rw[List.map_map] at j1;have j4:(Lib.join (t.aa.map λy=>wF T b (k9 ps) y 999 false) [44]).length<=150*Tm.br t.aa:=Nat.le_trans j1 j2;generalize Lib.join (t.aa.map λy=>wF T b (k9 ps) y 999 false) [44]=J at *;have b1:(da t.az).length+1<9223372036854775808:=by omega
 have b2:(da t.az).length+1+J.length<9223372036854775808:=by omega
 have b3:(da t.az).length+(J.length+1)<9223372036854775808:=by omega
 have b4:(da t.az).length+(J.length+1)+1<9223372036854775808:=by omega
 have b5:(da t.az).length+1+J.length+1<9223372036854775808:=by omega
 generalize da t.az=Q at *;simp only[ly,a7.aL,a7.cells] at VO hq6 q8;rw[Dd] at VO hq6|-
 have fin:∀(nm:List UInt8),t.az=nm->∀e1 e2:Bool,(nm==[46])=e1->(nm==[123,125])=e2->aH (cm [Ca,lJ,oU,oP] [zA,ua N,jy,rC,ud N,od N,gL N]) 6 98 [.ptr 0 0,.agg [.int .i64 t.aj,.int .i64 t.bj,.str nm,t.bh],.int .i64 n,.bool bs] ⟨2,[.map (gZ ps),.row [x,.bool b,.map 1]],2,2⟩=some (.str (Q++[40]++J++[41]),⟨2,[.map (gZ ps),.row [x,.bool b,.map 1]],2,2⟩):=λnm qU e1 e2 he1 he2=>by
  rw[qU] at CS VO hq6 q7 c46 ag2
  cases b with
  |false=>
   rcases bb hx with⟨rfl,rfl⟩|rfl<;>
   simp[lE,Kk,iI,ew,dM,dD,iw,gj,cP,gi,gk,eh,cg,dj,cJ,-cV,-cA,oh,CS,nt,aw,eF,mF,cI,k0,k1,k2,Dc,VO,hq6,q7,q8,b1,b2,b3,b4,b5]
  |true=>
    cases e1 with
    |true=>
      have d1:=c46 rfl he1;have Oj:nm=[46]:=by simpa using he1
      subst Oj;rcases bb hx with⟨rfl,rfl⟩|rfl<;>
      simp[lE,Kk,iI,ew,dM,dD,iw,gj,cP,gi,gk,eh,cg,dj,cJ,-cV,-cA,oh,CS,nt,aw,eF,mF,cI,k0,k1,k2,Dc,d1,VO,hq6,q7,q8,b1,b2,b3,b4,b5]
    |false=>
      have n1:¬nm=[46]:=by simpa using he1
      cases e2 with
      |true=>
        have d1:=ag2 rfl he2;have Oj:nm=[123,125]:=by simpa using he2
        subst Oj;rcases bb hx with⟨rfl,rfl⟩|rfl<;>
        simp[lE,Kk,iI,ew,dM,dD,iw,gj,cP,gi,gk,eh,cg,dj,cJ,-cV,-cA,oh,CS,nt,aw,eF,mF,cI,k0,k1,k2,Dc,d1,VO,hq6,q7,q8,b1,b2,b3,b4,b5]
      |false=>
        have n2:¬nm=[123,125]:=by simpa using he2
        rcases bb hx with⟨rfl,rfl⟩|rfl<;>
        simp[lE,Kk,iI,ew,dM,dD,iw,gj,cP,gi,gk,eh,cg,dj,cJ,-cV,-cA,oh,CS,nt,aw,eF,mF,cI,k0,k1,k2,Dc,he1,he2,n1,n2,VO,hq6,q7,q8,b1,b2,b3,b4,b5]
 exact fin t.az rfl _ _ rfl rfl
theorem Ns:cB Tryz.prog bV (gL 0):=λaa os v r hv=>by
 unfold gL at hv;dsimp only at hv;split at hv
 .split at hv
  .split at hv
   .rename_i hc;exact absurd hc.2 (by omega)
   .cases hv
  .cases hv
 .cases hv
theorem Lm(N:Nat)(hN:cB Tryz.prog bV (gL N)):cB Tryz.prog bV (gL (N+1)):=λaa os v r hv=>by
 have hv0:=hv;unfold gL at hv;dsimp only at hv;split at hv
 .rename_i v0 n bs os;split at hv
  .rename_i W t hW ht;split at hv
   .rename_i hc;cases hv;by_cases cY:t.size<N
    .refine hN _ _ _ _ ?_;obtain⟨x,hx,rfl,hT,hp⟩:=mO hW;rw[cf ht];exact kM N hx W.b W.ps hT hp t ⟨hc.1,cY⟩ _ _
    .obtain⟨x,hx,rfl,hT,hp⟩:=mO hW;obtain⟨T,b,ps⟩:=W;dsimp only at hx hT hp|-;rw[cf ht,cg];have hE:cb Tryz.prog bV (cm ssT (msT N)):=ey (by simp[ssT,YH,Cm.lift,A8,xm.lift]) (by simp[msT,XQ,Vh N hN,CH.lift,TN,UA N hN,EM N hN,hN]);exact qV hE hx (Wc N x T b ps hx hT hp t hc.1 (by omega) _ _) (by simp[AV.aJ]) (by simp[AV.ah,Tm.bC,AV.aJ])
   .cases hv
  .cases hv
 .cases hv
theorem E3:∀N,cB Tryz.prog bV (gL N)
 |0=>Ns
 |N+1=>Lm N (E3 N)
def I9(p:Tm->Bool):List Tm->Bool
 |[]=>false
 |x::r=>if p x then true else I9 p r
def sw:Nat->Tm->Bool
 |0,_=>true
 |n+1,t=>if 12<t.aa.length then true else I9 (sw n) t.aa
def lZ(m:Nat):aW:=⟨19,λ|[v,.int .i64 n]=>(match fK v with|some t=>if n=m then some (.bool (sw m t)) else none|none=>none)|_=>none⟩
theorem iv(m:Nat):(lZ m).f=19:=(rfl)
theorem HJ(m:Nat)(t:Tm):(lZ m).S [t.aL,.int .i64 (m:Nat)]=some (.bool (sw m t)):=by simp only[lZ,cd,if_true]
theorem UQ(m k:Nat)(v:AV)(h:k≠m):(lZ m).S [v,.int .i64 (k:Nat)]=none:=by
 simp only[lZ];split
 .rw[if_neg (by omega)]
 .rfl
theorem LA(n m:Nat)(hm:m<=100)(jr:1<=m)(K N:Int)(s:List UInt8)(us:List Tm)(hs:us.length<=12):∀(post pre:List Tm) (k:Nat),us=pre++post->post.length<k->
 ∃md,il 1 0 (bP (aC (aH (cD [lZ (m-1)]) (n+1)) (n+1) A9) vL 1 k (afP (.int .i64 m) (.ptr 0 0) (.int .i64 pre.length)) ⟨1,[.row [.int .i64 K,.int .i64 N,.str s,.sl (us.map Tm.aL)]],1,0⟩)=
   some (if I9 (sw (m-1)) post then .ret else .exit 0,if I9 (sw (m-1)) post then FM 29 [(4,.bool true)] else FM 29 [],⟨1,[.row [.int .i64 K,.int .i64 N,.str s,.sl (us.map Tm.aL)]],0,md⟩)
 |[],pre,k+1,e,_=>by simp at e;subst e;have h5:AV.ah (us.map Tm.aL)=0:=bw _;exact⟨0,by simp[ag,A9,h5,I9]⟩
 |x::post,pre,k+1,e,hk=>by
   have h1:us[pre.length]? =some x:=by rw[e];simp
   have h5:AV.ah (us.map Tm.aL)=0:=bw _;have DP:pre.length<us.length:=by rw[e];simp
   have h6:((pre.length:Int)<(us.length:Int))=True:=eq_true (by omega);have h3:IntKind.i64.wrap ((pre.length:Int)+1)=(pre.length:Int)+1:=wrap_i64 (by omega) (by omega);have dJ:=Tm.bm x;have dq:=Tm.aY x;have cI:=ar x;have w1:IntKind.i64.wrap ((m:Int)-1)=((m-1:Nat):Int):=by rw[wrap_i64 (by omega) (by omega)];omega
   have hc:=HJ (m-1) x;rw[dJ,dq] at hc;obtain⟨md,ih⟩:=LA n m hm jr K N s us hs post (pre++[x]) k (by simp[e]) (by rw[List.length_cons] at hk;omega);simp only[List.length_append,List.length_cons,List.length_nil,Nat.zero_add] at ih;rw[show ((pre.length+1:Nat):Int)=(pre.length:Int)+1 by omega] at ih;rw[ag]
   cases hd:sw (m-1) x with
   |true=>rw[hd] at hc;refine⟨0,?_⟩;simp[A9,vL,h1,h3,h5,h6,dJ,dq,cI,w1,hc,aw,iv,I9,hd]
   |false=>rw[hd] at hc;refine⟨md,?_⟩;simp[A9,vL,h1,h3,h5,h6,dJ,dq,cI,w1,hc,aw,iv,I9,hd];exact ih
theorem Mk(m:Nat)(jr:1<=m)(hm:m<=100)(hp:aX Tryz.prog (lZ (m-1))):aX Tryz.prog (lZ m):=λaa v hv=>by
 have hv0:=hv;unfold lZ at hv;dsimp only at hv;split at hv
 .rename_i x n;split at hv
  .rename_i t ht;split at hv
   .rename_i hc;subst hc;cases hv;rw[cf ht];have fW:=UQ (m-1) m t.aL (by omega);refine bL (n:=20) (h':=h0) (bK (ss:=[lZ (m-1)]) (by simp[hp])) ?_ rfl (by simp[AV.ah,AV.aJ,Tm.bC]);rw[iv];have dJ:=Tm.bm t;obtain⟨q,rfl⟩:∃q,m=q+1:=⟨m-1,by omega⟩
    have t1:((((q+1:Nat):Int))<1)=False:=eq_false (by omega);have Gt:((q:Int)+1<1)=False:=eq_false (by omega);rw[Nat.add_sub_cancel] at fW
    cases t with
    |nl kk nn ss=>have dq:(Tm.nl kk nn ss).cells=[.int .i64 kk,.int .i64 nn,.str ss,.aF]:=rfl;rw[dJ,dq] at fW|-;have hd:sw (q+1) (Tm.nl kk nn ss)=false:=rfl;rw[hd];simp only[Int.natCast_add,Int.natCast_one] at fW;simp[Mh,c19,vL,A9,ag,fW,iv,Gt]
    |mk kk nn ss us=>
      have dq:(Tm.mk kk nn ss us).cells=[.int .i64 kk,.int .i64 nn,.str ss,.sl (us.map Tm.aL)]:=rfl;have h5:AV.ah (us.map Tm.aL)=0:=bw _;rw[dJ,dq] at fW|-;have hd:sw (q+1) (Tm.mk kk nn ss us)=if 12<us.length then true else I9 (sw q) us:=rfl
      rw[hd];by_cases hl:12<us.length
      .have t2:((12:Int)<(us.length:Int))=True:=eq_true (by omega);simp only[Int.natCast_add,Int.natCast_one] at fW;simp[Mh,c19,fW,iv,Gt,t2,h5,hl]
      .have t2:((12:Int)<(us.length:Int))=False:=eq_false (by omega);obtain⟨md,lp⟩:=LA 18 (q+1) hm jr kk nn ss us (by omega) us [] 19 rfl (by omega);simp only[List.length_nil,Int.natCast_zero,Nat.add_sub_cancel,Int.natCast_add,Int.natCast_one,vL] at lp;simp only[Int.natCast_add,Int.natCast_one] at fW;rw[if_neg hl]
       cases ha:I9 (sw q) us with
       |true=>rw[ha] at lp;simp only[if_true] at lp;simp[Mh,c19,vL,fW,iv,Gt,t2,h5,hl,lp]
       |false=>rw[ha] at lp;simp only[Bool.false_eq_true,if_false] at lp;simp[Mh,c19,vL,fW,iv,Gt,t2,h5,hl,lp]
   .cases hv
  .cases hv
 .cases hv
theorem LK:aX Tryz.prog (lZ 0):=λaa v hv=>by
 unfold lZ at hv;dsimp only at hv;split at hv
 .rename_i x n;split at hv
  .rename_i t ht;split at hv
   .rename_i hc;subst hc;cases hv;rw[cf ht];refine bL (n:=5) (h':=h0) (bK (ss:=[]) (by simp)) ?_ rfl (by simp[AV.ah,AV.aJ,Tm.bC]);rw[iv];have dJ:=Tm.bm t;have dq:=Tm.aY t;have cI:=ar t;have hd:sw 0 t=true:=rfl;rw[dJ,dq,hd];simp[Mh,c19,cI]
   .cases hv
  .cases hv
 .cases hv
theorem F5:∀m,m<=100->aX Tryz.prog (lZ m)
 |0,_=>LK
 |m+1,h=>Mk (m+1) (by omega) h (F5 m (by omega))
theorem jA{fr:List AV}{h:af}(kd:Nat)(m k v:dY):bG fr h (.Z4 kd m k v)=match m.ev fr with
 |.map id=>match h.iq id with
   |some es=>(vP kd (k.ev fr) (v.ev fr) es).map λuW=>(.undef,((h.set id (.map uW)).mark id (v.ev fr)).mark id (k.ev fr))
   |none=>none
 |_=>none:=rfl
def mp(vs:List Int):List (AV×AV):=vs.map λv=>(.int .i64 v,.bool true)
theorem ze(v:Int):∀vs:List Int,oX 1 (.int .i64 v) (mp vs)=some (if v∈vs then some (.bool true) else none)
 |[]=>rfl
 |w::r=>by
   have ih:=ze v r;unfold mp at ih|-;simp only[List.map_cons,oX,List.mem_cons];by_cases h:v=w
   .subst h;simp[iC]
   .simp[iC,h,ih]
theorem Om(v:Int):∀vs:List Int,v∉vs->vP 1 (.int .i64 v) (.bool true) (mp vs)=some (mp (vs++[v]))
 |[],_=>rfl
 |w::r,h=>by
   have ih:=Om v r (λhh=>h (List.mem_cons_of_mem _ hh));have hw:¬v=w:=λe=>h (by simp[e])
   unfold mp at ih|-;simp only[List.map_cons,List.cons_append,vP];simp[iC,hw,ih]
def ints(vs:List Int):List AV:=vs.map λv=>.int .i64 v
theorem cF:∀vs:List Int,AV.ah (ints vs)=0
 |[]=>rfl
 |v::r=>by have:=cF r;unfold ints at this|-;simp[AV.ah,AV.aJ,this]
def dk(T:Tm)(cv:AV)(vs:List Int):List aT:=[.row T.cells,.row [.map 2],.map (mp vs),.row [cv],.row T.cells]
theorem Yy(n:Nat)(x T:Tm)(R:List AV)(md:Nat)(dn:md<=4)(hx:x.aj=0):
 aH (cD [fu]) (n+1) 127 [x.aL,.ptr 3 0,.ptr 1 0] ⟨7,.row x.cells::.row R::dk T .aF [],6,md⟩=
  some (.bool true,⟨10,.row [.int .i64 x.bj]::.row [.int .i64 x.bj]::.row x.cells::.row x.cells::.row R::dk T (.vec 9 0 1 1 1) [x.bj],1,min md 1⟩):=by
 have dJ:=Tm.bm x;have dq:=Tm.aY x;have cI:=ar x;simp only[dk];rw[dJ,dq,hx];simp[rB,c127,bF,bF,bF,aw,cI,aG,jA,af.iq,mp,oX,vP]
theorem XY(n:Nat)(x T:Tm)(R:List AV)(md:Nat)(dn:md<=4)(hx:x.aj≠0):
 aH (cD [fu]) (n+1) 127 [x.aL,.ptr 3 0,.ptr 1 0] ⟨7,.row x.cells::.row R::dk T .aF [],6,md⟩=
  some (.bool true,⟨7,.row x.cells::.row R::dk T .aF [],6,md⟩):=by
 have dJ:=Tm.bm x;have dq:=Tm.aY x;have cI:=ar x;simp only[dk];rw[dJ,dq];simp[rB,c127,bF,bF,bF,aw,cI,aG,jA,af.iq,hx]
theorem WV(n:Nat)(x T:Tm)(R:List AV)(md:Nat)(dn:md<=4)(hx:x.aj=0):
 aH (cD [fu]) (n+1) 127 [x.aL,.ptr 3 0,.ptr 1 0] ⟨8,.row x.cells::.row R::.dead::dk T .aF [],6,md⟩=
  some (.bool true,⟨11,.row [.int .i64 x.bj]::.row [.int .i64 x.bj]::.row x.cells::.row x.cells::.row R::.dead::dk T (.vec 10 0 1 1 1) [x.bj],1,min md 1⟩):=by
 have dJ:=Tm.bm x;have dq:=Tm.aY x;have cI:=ar x;simp only[dk];rw[dJ,dq,hx];simp[rB,c127,bF,bF,bF,aw,cI,aG,jA,af.iq,mp,oX,vP]
theorem Wx(n:Nat)(x T:Tm)(R:List AV)(md:Nat)(dn:md<=4)(hx:x.aj≠0):
 aH (cD [fu]) (n+1) 127 [x.aL,.ptr 3 0,.ptr 1 0] ⟨8,.row x.cells::.row R::.dead::dk T .aF [],6,md⟩=
  some (.bool true,⟨8,.row x.cells::.row R::.dead::dk T .aF [],6,md⟩):=by
 have dJ:=Tm.bm x;have dq:=Tm.aY x;have cI:=ar x;simp only[dk];rw[dJ,dq];simp[rB,c127,bF,bF,bF,aw,cI,aG,jA,af.iq,hx]
theorem Xb(n:Nat)(x T:Tm)(R:List AV)(v:Int)(vs:List Int)(hl:vs.length<100000)(md:Nat)(dn:md<=4)(hx:x.aj=0)(hm:x.bj∉v::vs):
 aH (cD [fu]) (n+1) 127 [x.aL,.ptr 3 0,.ptr 1 0] ⟨8,.row x.cells::.row (ints (v::vs))::.row R::dk T (.vec 6 0 (vs.length+1) 1 (vs.length+1)) (v::vs),1,md⟩=
  some (.bool true,⟨11,.row (ints (v::vs++[x.bj]))::.row [.int .i64 x.bj]::.row x.cells::.row x.cells::.dead::.row R::dk T (.vec 10 0 (vs.length+2) 1 (vs.length+2)) (v::vs++[x.bj]),1,min md 1⟩):=by
 have dJ:=Tm.bm x;have dq:=Tm.aY x;have cI:=ar x;simp only[dk];have h1:=ze x.bj (v::vs);have h3:=cF (v::vs);have h4:(ints (v::vs)).take (vs.length+1)=ints (v::vs):=List.take_of_length_le (by simp[ints]);have h5:(ints (v::vs)).length=vs.length+1:=by simp[ints]
 have h6:(vs.length+1+1)*8<=140737488355328:=by omega
 have h7:vs.length+1+1<9223372036854775808:=by omega
 have h2:=Om x.bj (v::vs) hm;have h8:ints (v::vs++[x.bj])=ints (v::vs)++[.int .i64 x.bj]:=by simp[ints]
 have h9:AV.ah (ints (v::vs)++[.int .i64 x.bj])=0:=by rw[<-h8];exact cF _
 rw[if_neg hm] at h1;rw[dJ,dq,hx,h8];generalize mp (v::vs++[x.bj])=M' at *;generalize mp (v::vs)=M at *;generalize ints (v::vs)=I at *;simp[rB,c127,bF,bF,bF,aw,cI,aG,jA,af.iq,h1,h2,h3,h4,h5,h6,h7,h9]
theorem YJ(n:Nat)(x T:Tm)(R:List AV)(v:Int)(vs:List Int)(hl:vs.length<100000)(md:Nat)(dn:md<=4)(hx:x.aj≠0\/x.bj∈v::vs):
 aH (cD [fu]) (n+1) 127 [x.aL,.ptr 3 0,.ptr 1 0] ⟨8,.row x.cells::.row (ints (v::vs))::.row R::dk T (.vec 6 0 (vs.length+1) 1 (vs.length+1)) (v::vs),1,md⟩=
  some (.bool true,⟨8,.row x.cells::.row (ints (v::vs))::.row R::dk T (.vec 6 0 (vs.length+1) 1 (vs.length+1)) (v::vs),1,md⟩):=by
 have dJ:=Tm.bm x;have dq:=Tm.aY x;have cI:=ar x;simp only[dk];have h1:=ze x.bj (v::vs);have h3:=cF (v::vs);have h4:(ints (v::vs)).take (vs.length+1)=ints (v::vs):=List.take_of_length_le (by simp[ints]);have h5:(ints (v::vs)).length=vs.length+1:=by simp[ints]
 have h6:(vs.length+1+1)*8<=140737488355328:=by omega
 have h7:vs.length+1+1<9223372036854775808:=by omega
 rw[dJ,dq];by_cases h0:x.aj=0
 .have hm:x.bj∈v::vs:=by
   rcases hx with h|h
   .exact absurd h0 h
   .exact h
  rw[if_pos hm] at h1;rw[h0];generalize mp (v::vs)=M at *;generalize ints (v::vs)=I at *;simp[rB,c127,bF,bF,bF,aw,cI,aG,jA,af.iq,h1,h3,h4,h5]
 .generalize mp (v::vs)=M at *;generalize ints (v::vs)=I at *;simp[rB,c127,bF,bF,bF,aw,cI,aG,jA,af.iq,h0,h3,h4,h5]
theorem YU(n:Nat)(x T:Tm)(R:List AV)(v:Int)(vs:List Int)(hl:vs.length<100000)(md:Nat)(dn:md<=4)(hx:x.aj=0)(hm:x.bj∉v::vs):
 aH (cD [fu]) (n+1) 127 [x.aL,.ptr 3 0,.ptr 1 0] ⟨9,.row x.cells::.row (ints (v::vs))::.row R::.dead::dk T (.vec 7 0 (vs.length+1) 1 (vs.length+1)) (v::vs),1,md⟩=
  some (.bool true,⟨12,.row (ints (v::vs++[x.bj]))::.row [.int .i64 x.bj]::.row x.cells::.row x.cells::.dead::.row R::.dead::dk T (.vec 11 0 (vs.length+2) 1 (vs.length+2)) (v::vs++[x.bj]),1,min md 1⟩):=by
 have dJ:=Tm.bm x;have dq:=Tm.aY x;have cI:=ar x;simp only[dk];have h1:=ze x.bj (v::vs);have h3:=cF (v::vs);have h4:(ints (v::vs)).take (vs.length+1)=ints (v::vs):=List.take_of_length_le (by simp[ints]);have h5:(ints (v::vs)).length=vs.length+1:=by simp[ints]
 have h6:(vs.length+1+1)*8<=140737488355328:=by omega
 have h7:vs.length+1+1<9223372036854775808:=by omega
 have h2:=Om x.bj (v::vs) hm;have h8:ints (v::vs++[x.bj])=ints (v::vs)++[.int .i64 x.bj]:=by simp[ints]
 have h9:AV.ah (ints (v::vs)++[.int .i64 x.bj])=0:=by rw[<-h8];exact cF _
 rw[if_neg hm] at h1;rw[dJ,dq,hx,h8];generalize mp (v::vs++[x.bj])=M' at *;generalize mp (v::vs)=M at *;generalize ints (v::vs)=I at *;simp[rB,c127,bF,bF,bF,aw,cI,aG,jA,af.iq,h1,h2,h3,h4,h5,h6,h7,h9]
theorem Yd(n:Nat)(x T:Tm)(R:List AV)(v:Int)(vs:List Int)(hl:vs.length<100000)(md:Nat)(dn:md<=4)(hx:x.aj≠0\/x.bj∈v::vs):
 aH (cD [fu]) (n+1) 127 [x.aL,.ptr 3 0,.ptr 1 0] ⟨9,.row x.cells::.row (ints (v::vs))::.row R::.dead::dk T (.vec 7 0 (vs.length+1) 1 (vs.length+1)) (v::vs),1,md⟩=
  some (.bool true,⟨9,.row x.cells::.row (ints (v::vs))::.row R::.dead::dk T (.vec 7 0 (vs.length+1) 1 (vs.length+1)) (v::vs),1,md⟩):=by
 have dJ:=Tm.bm x;have dq:=Tm.aY x;have cI:=ar x;simp only[dk];have h1:=ze x.bj (v::vs);have h3:=cF (v::vs);have h4:(ints (v::vs)).take (vs.length+1)=ints (v::vs):=List.take_of_length_le (by simp[ints]);have h5:(ints (v::vs)).length=vs.length+1:=by simp[ints]
 have h6:(vs.length+1+1)*8<=140737488355328:=by omega
 have h7:vs.length+1+1<9223372036854775808:=by omega
 rw[dJ,dq];by_cases h0:x.aj=0
 .have hm:x.bj∈v::vs:=by
   rcases hx with h|h
   .exact absurd h0 h
   .exact h
  rw[if_pos hm] at h1;rw[h0];generalize mp (v::vs)=M at *;generalize ints (v::vs)=I at *;simp[rB,c127,bF,bF,bF,aw,cI,aG,jA,af.iq,h1,h3,h4,h5]
 .generalize mp (v::vs)=M at *;generalize ints (v::vs)=I at *;simp[rB,c127,bF,bF,bF,aw,cI,aG,jA,af.iq,h0,h3,h4,h5]
theorem zB(C:Nat->List AV->af->Option (AV×af))(n g:Nat)(aO:List AV)(hc:AV.ah aO<=4)(X:Tm)(os:List aT)(md:Nat)(dn:∀k,4<=k->min md k=md)(w:Nat)(hw:min w 7=w):∀(i m:Nat) (st:List Tm),i<=X.aa.length->i<m->st.length+i<1000000000000->
 il 7 w (bP (aC C n bH) bn 7 m (gC (.fn g aO) (.vec 7 0 st.length 4 st.length) (.ptr 6 0) (.int .i64 ((i:Int)-1))) ⟨8,.row (ay st)::.row X.cells::.dead::os,7,md⟩)=
  some (.exit 2,FM 44 [(1,.fn g aO),(5,.vec 7 0 (st.length+i) 4 (st.length+i))],⟨8,.row (ay (st++(X.aa.take i).reverse))::.row X.cells::.dead::os,w,md⟩)
 |0,m+1,st,_,_,_=>by
   have h1:(0<=(-1:Int))=False:=by simp
   have hr:AV.ah aO<=7:=by omega
   have jr:min md 5=md:=dn 5 (by omega);have jt:min md 7=md:=dn 7 (by omega);have uB:=aU st;simp[ag,bH,hr,uB,hw]
 |i+1,m+1,st,hi,hm,hl=>by
   have hr:AV.ah aO<=7:=by omega
   have jr:min md 5=md:=dn 5 (by omega);have jt:min md 7=md:=dn 7 (by omega);obtain⟨x,hx⟩:∃x,X.aa[i]? =some x:=⟨X.aa[i]'(by omega),by simp⟩
   have ih:=zB C n g aO hc X os md dn w hw i m (st++[x]) (by omega) (by omega) (by simp;omega);obtain⟨ha,hX,h5,dJ,fx,cI⟩:=dw hx;have uB:=aU st;have DS:=cG st;have w1:IntKind.i64.wrap ((i:Int)-1)=(i:Int)-1:=wrap_i64 (by omega) (by omega);have t1:(0<=(i:Int))=True:=eq_true (by omega);have b1:(st.length+1)*56<=140737488355328:=by omega
   have b2:st.length+1<9223372036854775808:=by omega
   have nS:X.aa.take (i+1)=X.aa.take i++[x]:=by rw[List.take_add_one,hx];rfl
   have p9:ay (st++[x])=ay st++[.int .i64 x.aj,.int .i64 x.bj,.str x.az,x.bh]:=by simp[ay,Tm.cells]
   have yO:List.take (st.length*4) (ay st)=ay st:=List.take_of_length_le (by omega);have mh:AV.ah (ay st++[.int .i64 x.aj,.int .i64 x.bj,.str x.az,x.bh])=0:=by rw[<-p9];exact aU _
   rw[nS,List.reverse_append];simp only[List.length_append,List.length_cons,List.length_nil,Nat.zero_add,List.append_assoc,p9] at ih;have e1:st.length+1+i=st.length+(i+1):=by omega
   rw[e1] at ih;have e2:((i+1:Nat):Int)-1=(i:Int):=by omega
   rw[e2,ag];rw[hX] at ih|-;simp[bH,bn,h5,hx,dJ,fx,cI,uB,DS,w1,t1,b1,b2,hr,yO,mh,jr,jt,aG];exact ih
theorem w5{R:List AV}{st:List Tm}{lb:Nat}(hR:R.length=lb*4)(ht:R.take (st.length*4)=ay st)(p8:st.length+1<=lb)(x:Tm):
 (putAt R (st.length*4) x.cells).length=lb*4/\(putAt R (st.length*4) x.cells).take ((st++[x]).length*4)=ay (st++[x]):=by
 have hc:x.cells.length=4:=rfl;have h1:st.length*4+x.cells.length<=R.length:=by omega
 refine⟨?_,?_⟩
 .rw[mT x.cells R _ h1];simp only[List.length_append,List.length_take,List.length_drop];omega
 .have:=kL x.cells h1;rw[List.length_append,show (st.length+[x].length)*4=st.length*4+x.cells.length by simp[hc];omega,this,ht];simp[ay]
theorem xR(C:Nat->List AV->af->Option (AV×af))(n g:Nat)(aO:List AV)(hc:AV.ah aO<=4)(X:Tm)(os:List aT)(md:Nat)(dn:∀k,4<=k->min md k=md)(w:Nat)(hw:min w 7=w)(lb:Nat):∀(i m:Nat) (st:List Tm) (R:List AV),i<=X.aa.length->i<m->st.length+i<=lb->lb<1000000000000->R.length=lb*4->R.take (st.length*4)=ay st->AV.ah R=0->
 ∃R',R'.length=lb*4/\R'.take ((st.length+i)*4)=ay (st++(X.aa.take i).reverse)/\AV.ah R'=0/\
 il 7 w (bP (aC C n bH) bn 7 m (gC (.fn g aO) (.vec 5 0 st.length 4 lb) (.ptr 6 0) (.int .i64 ((i:Int)-1))) ⟨7,.row X.cells::.row R::os,7,md⟩)=
  some (.exit 2,FM 44 [(1,.fn g aO),(5,.vec 5 0 (st.length+i) 4 lb)],⟨7,.row X.cells::.row R'::os,w,md⟩)
 |0,m+1,st,R,_,_,_,_,hR,ht,fj=>by
   have h1:(0<=(-1:Int))=False:=by simp
   have hr:AV.ah aO<=7:=by omega
   have jr:min md 5=md:=dn 5 (by omega);have jt:min md 7=md:=dn 7 (by omega);refine⟨R,hR,by simpa using ht,fj,?_⟩;simp[ag,bH,hr,hw]
 |i+1,m+1,st,R,hi,hm,p8,hl,hR,ht,fj=>by
   have hr:AV.ah aO<=7:=by omega
   have jr:min md 5=md:=dn 5 (by omega);have jt:min md 7=md:=dn 7 (by omega);obtain⟨x,hx⟩:∃x,X.aa[i]? =some x:=⟨X.aa[i]'(by omega),by simp⟩
   obtain⟨p1,p2⟩:=w5 hR ht (by omega) x;have p3:=fH fj x (st.length*4) (by omega);obtain⟨R',r1,r2,r3,ih⟩:=xR C n g aO hc X os md dn w hw lb i m (st++[x]) (putAt R (st.length*4) x.cells) (by omega) (by omega) (by simp;omega) hl p1 p2 p3;have e1:(st++[x]).length+i=st.length+(i+1):=by simp;omega
   have nS:X.aa.take (i+1)=X.aa.take i++[x]:=by rw[List.take_add_one,hx];rfl
   refine⟨R',r1,?_,r3,?_⟩
   .rw[nS,List.reverse_append,<-e1,r2];simp[List.append_assoc]
   obtain⟨ha,hX,h5,dJ,fx,cI⟩:=dw hx;have w1:IntKind.i64.wrap ((i:Int)-1)=(i:Int)-1:=wrap_i64 (by omega) (by omega);have t1:(0<=(i:Int))=True:=eq_true (by omega);have b1:st.length*4<=R.length:=by omega
   have b2:st.length+1<=lb:=by omega
   have b3:(st.length+1)*4<=R.length:=by omega
   have xw:putAt [.int .i64 0,.int .i64 0,.str [],.aF] 0 [.int .i64 x.aj,.int .i64 x.bj,.str x.az,x.bh]=[.int .i64 x.aj,.int .i64 x.bj,.str x.az,x.bh]:=rfl;have pg:(st++[x]).length=st.length+1:=by simp
   rw[pg,show st.length+1+i=st.length+(i+1) by omega] at ih;have e2:((i+1:Nat):Int)-1=(i:Int):=by omega
   rw[e2,ag];rw[hX,fx] at ih;rw[hX];simp[bH,bn,h5,hx,dJ,fx,cI,w1,t1,b1,b2,b3,hr,jr,jt,fj,xw,aG,-eH];exact ih
theorem xM(C:Nat->List AV->af->Option (AV×af))(n g:Nat)(aO:List AV)(hc:AV.ah aO<=4)(X:Tm)(os:List aT)(md:Nat)(dn:∀k,4<=k->min md k=md)(w:Nat)(hw:min w 7=w)(lb:Nat):∀(i m:Nat) (st:List Tm) (R:List AV),i<=X.aa.length->i<m->st.length<=lb->lb<st.length+i->st.length+i<1000000000000->R.length=lb*4->R.take (st.length*4)=ay st->AV.ah R=0->
 il 7 w (bP (aC C n bH) bn 7 m (gC (.fn g aO) (.vec 5 0 st.length 4 lb) (.ptr 6 0) (.int .i64 ((i:Int)-1))) ⟨7,.row X.cells::.row R::os,7,md⟩)=
  some (.exit 2,FM 44 [(1,.fn g aO),(5,.vec 7 0 (st.length+i) 4 (st.length+i))],⟨8,.row (ay (st++(X.aa.take i).reverse))::.row X.cells::.dead::os,w,md⟩)
 |0,m,st,R,_,_,h1,h2,_,_,_,_=>by omega
 |i+1,0,st,R,_,h,_,_,_,_,_,_=>by omega
 |i+1,m+1,st,R,hi,hm,h1,h2,hl,hR,ht,fj=>by
   have hr:AV.ah aO<=7:=by omega
   have jr:min md 5=md:=dn 5 (by omega);have jt:min md 7=md:=dn 7 (by omega);obtain⟨x,hx⟩:∃x,X.aa[i]? =some x:=⟨X.aa[i]'(by omega),by simp⟩
   have nS:X.aa.take (i+1)=X.aa.take i++[x]:=by rw[List.take_add_one,hx];rfl
   obtain⟨ha,hX,h5,dJ,fx,cI⟩:=dw hx;have w1:IntKind.i64.wrap ((i:Int)-1)=(i:Int)-1:=wrap_i64 (by omega) (by omega);have t1:(0<=(i:Int))=True:=eq_true (by omega);have b1:st.length*4<=R.length:=by omega
   have xw:putAt [.int .i64 0,.int .i64 0,.str [],.aF] 0 [.int .i64 x.aj,.int .i64 x.bj,.str x.az,x.bh]=[.int .i64 x.aj,.int .i64 x.bj,.str x.az,x.bh]:=rfl;have pg:(st++[x]).length=st.length+1:=by simp
   have e2:((i+1:Nat):Int)-1=(i:Int):=by omega
   by_cases fR:st.length+1<=lb
   .obtain⟨p1,p2⟩:=w5 hR ht (by omega) x;have p3:=fH fj x (st.length*4) (by omega);have ih:=xM C n g aO hc X os md dn w hw lb i m (st++[x]) (putAt R (st.length*4) x.cells) (by omega) (by omega) (by omega) (by omega) (by omega) p1 p2 p3;have b3:(st.length+1)*4<=R.length:=by omega
    rw[pg,show st.length+1+i=st.length+(i+1) by omega] at ih;rw[e2,ag,nS,List.reverse_append];rw[hX,fx] at ih;rw[hX];simp only[List.append_assoc] at ih;simp[bH,bn,h5,hx,dJ,fx,cI,w1,t1,b1,fR,b3,hr,jr,jt,fj,xw,aG,-eH];exact ih
   .have p8:lb=st.length:=by omega
    have ih:=zB C n g aO hc X os md dn w hw i m (st++[x]) (by omega) (by omega) (by omega);have c1:(st.length+1)*56<=140737488355328:=by omega
    have c2:st.length+1<9223372036854775808:=by omega
    have p9:ay (st++[x])=ay st++[.int .i64 x.aj,.int .i64 x.bj,.str x.az,x.bh]:=by simp[ay,Tm.cells]
    have mh:AV.ah (ay st++[.int .i64 x.aj,.int .i64 x.bj,.str x.az,x.bh])=0:=by rw[<-p9];exact aU _
    rw[pg,show st.length+1+i=st.length+(i+1) by omega,p9] at ih;rw[e2,ag,nS,List.reverse_append];rw[hX] at ih|-;simp only[List.append_assoc] at ih;simp[bH,bn,h5,hx,dJ,fx,cI,w1,t1,b1,fR,c1,c2,hr,jr,jt,fj,ht,mh,aG];exact ih
theorem zx(C:Nat->List AV->af->Option (AV×af))(n g:Nat)(aO:List AV)(hc:AV.ah aO<=4)(X:Tm)(os:List aT)(md:Nat)(dn:∀k,4<=k->min md k=md)(w:Nat)(hw:min w 8=w):∀(i m:Nat) (st:List Tm),i<=X.aa.length->i<m->st.length+i<1000000000000->
 il 8 w (bP (aC C n bH) bn 8 m (gC (.fn g aO) (.vec 8 0 st.length 4 st.length) (.ptr 7 0) (.int .i64 ((i:Int)-1))) ⟨9,.row (ay st)::.row X.cells::.dead::os,8,md⟩)=
  some (.exit 2,FM 44 [(1,.fn g aO),(5,.vec 8 0 (st.length+i) 4 (st.length+i))],⟨9,.row (ay (st++(X.aa.take i).reverse))::.row X.cells::.dead::os,w,md⟩)
 |0,m+1,st,_,_,_=>by
   have h1:(0<=(-1:Int))=False:=by simp
   have hr:AV.ah aO<=8:=by omega
   have jr:min md 6=md:=dn 6 (by omega);have jt:min md 8=md:=dn 8 (by omega);have uB:=aU st;simp[ag,bH,hr,uB,hw]
 |i+1,m+1,st,hi,hm,hl=>by
   have hr:AV.ah aO<=8:=by omega
   have jr:min md 6=md:=dn 6 (by omega);have jt:min md 8=md:=dn 8 (by omega);obtain⟨x,hx⟩:∃x,X.aa[i]? =some x:=⟨X.aa[i]'(by omega),by simp⟩
   have ih:=zx C n g aO hc X os md dn w hw i m (st++[x]) (by omega) (by omega) (by simp;omega);obtain⟨ha,hX,h5,dJ,fx,cI⟩:=dw hx;have uB:=aU st;have DS:=cG st;have w1:IntKind.i64.wrap ((i:Int)-1)=(i:Int)-1:=wrap_i64 (by omega) (by omega);have t1:(0<=(i:Int))=True:=eq_true (by omega);have b1:(st.length+1)*56<=140737488355328:=by omega
   have b2:st.length+1<9223372036854775808:=by omega
   have nS:X.aa.take (i+1)=X.aa.take i++[x]:=by rw[List.take_add_one,hx];rfl
   have p9:ay (st++[x])=ay st++[.int .i64 x.aj,.int .i64 x.bj,.str x.az,x.bh]:=by simp[ay,Tm.cells]
   have yO:List.take (st.length*4) (ay st)=ay st:=List.take_of_length_le (by omega);have mh:AV.ah (ay st++[.int .i64 x.aj,.int .i64 x.bj,.str x.az,x.bh])=0:=by rw[<-p9];exact aU _
   rw[nS,List.reverse_append];simp only[List.length_append,List.length_cons,List.length_nil,Nat.zero_add,List.append_assoc,p9] at ih;have e1:st.length+1+i=st.length+(i+1):=by omega
   rw[e1] at ih;have e2:((i+1:Nat):Int)-1=(i:Int):=by omega
   rw[e2,ag];rw[hX] at ih|-;simp[bH,bn,h5,hx,dJ,fx,cI,uB,DS,w1,t1,b1,b2,hr,yO,mh,jr,jt,aG];exact ih
theorem wX{R:List AV}{st:List Tm}{lb:Nat}(hR:R.length=lb*4)(ht:R.take (st.length*4)=ay st)(p8:st.length+1<=lb)(x:Tm):
 (putAt R (st.length*4) x.cells).length=lb*4/\(putAt R (st.length*4) x.cells).take ((st++[x]).length*4)=ay (st++[x]):=by
 have hc:x.cells.length=4:=rfl;have h1:st.length*4+x.cells.length<=R.length:=by omega
 refine⟨?_,?_⟩
 .rw[mT x.cells R _ h1];simp only[List.length_append,List.length_take,List.length_drop];omega
 .have:=kL x.cells h1;rw[List.length_append,show (st.length+[x].length)*4=st.length*4+x.cells.length by simp[hc];omega,this,ht];simp[ay]
theorem xN(C:Nat->List AV->af->Option (AV×af))(n g:Nat)(aO:List AV)(hc:AV.ah aO<=4)(X:Tm)(os:List aT)(md:Nat)(dn:∀k,4<=k->min md k=md)(w:Nat)(hw:min w 8=w)(lb:Nat):∀(i m:Nat) (st:List Tm) (R:List AV),i<=X.aa.length->i<m->st.length+i<=lb->lb<1000000000000->R.length=lb*4->R.take (st.length*4)=ay st->AV.ah R=0->
 ∃R',R'.length=lb*4/\R'.take ((st.length+i)*4)=ay (st++(X.aa.take i).reverse)/\AV.ah R'=0/\
 il 8 w (bP (aC C n bH) bn 8 m (gC (.fn g aO) (.vec 6 0 st.length 4 lb) (.ptr 7 0) (.int .i64 ((i:Int)-1))) ⟨8,.row X.cells::.row R::os,8,md⟩)=
  some (.exit 2,FM 44 [(1,.fn g aO),(5,.vec 6 0 (st.length+i) 4 lb)],⟨8,.row X.cells::.row R'::os,w,md⟩)
 |0,m+1,st,R,_,_,_,_,hR,ht,fj=>by
   have h1:(0<=(-1:Int))=False:=by simp
   have hr:AV.ah aO<=8:=by omega
   have jr:min md 6=md:=dn 6 (by omega);have jt:min md 8=md:=dn 8 (by omega);refine⟨R,hR,by simpa using ht,fj,?_⟩;simp[ag,bH,hr,hw]
 |i+1,m+1,st,R,hi,hm,p8,hl,hR,ht,fj=>by
   have hr:AV.ah aO<=8:=by omega
   have jr:min md 6=md:=dn 6 (by omega);have jt:min md 8=md:=dn 8 (by omega);obtain⟨x,hx⟩:∃x,X.aa[i]? =some x:=⟨X.aa[i]'(by omega),by simp⟩
   obtain⟨p1,p2⟩:=wX hR ht (by omega) x;have p3:=fH fj x (st.length*4) (by omega);obtain⟨R',r1,r2,r3,ih⟩:=xN C n g aO hc X os md dn w hw lb i m (st++[x]) (putAt R (st.length*4) x.cells) (by omega) (by omega) (by simp;omega) hl p1 p2 p3;have e1:(st++[x]).length+i=st.length+(i+1):=by simp;omega
   have nS:X.aa.take (i+1)=X.aa.take i++[x]:=by rw[List.take_add_one,hx];rfl
   refine⟨R',r1,?_,r3,?_⟩
   .rw[nS,List.reverse_append,<-e1,r2];simp[List.append_assoc]
   obtain⟨ha,hX,h5,dJ,fx,cI⟩:=dw hx;have w1:IntKind.i64.wrap ((i:Int)-1)=(i:Int)-1:=wrap_i64 (by omega) (by omega);have t1:(0<=(i:Int))=True:=eq_true (by omega);have b1:st.length*4<=R.length:=by omega
   have b2:st.length+1<=lb:=by omega
   have b3:(st.length+1)*4<=R.length:=by omega
   have xw:putAt [.int .i64 0,.int .i64 0,.str [],.aF] 0 [.int .i64 x.aj,.int .i64 x.bj,.str x.az,x.bh]=[.int .i64 x.aj,.int .i64 x.bj,.str x.az,x.bh]:=rfl;have pg:(st++[x]).length=st.length+1:=by simp
   rw[pg,show st.length+1+i=st.length+(i+1) by omega] at ih;have e2:((i+1:Nat):Int)-1=(i:Int):=by omega
   rw[e2,ag];rw[hX,fx] at ih;rw[hX];simp[bH,bn,h5,hx,dJ,fx,cI,w1,t1,b1,b2,b3,hr,jr,jt,fj,xw,aG,-eH];exact ih
theorem xF(C:Nat->List AV->af->Option (AV×af))(n g:Nat)(aO:List AV)(hc:AV.ah aO<=4)(X:Tm)(os:List aT)(md:Nat)(dn:∀k,4<=k->min md k=md)(w:Nat)(hw:min w 8=w)(lb:Nat):∀(i m:Nat) (st:List Tm) (R:List AV),i<=X.aa.length->i<m->st.length<=lb->lb<st.length+i->st.length+i<1000000000000->R.length=lb*4->R.take (st.length*4)=ay st->AV.ah R=0->
 il 8 w (bP (aC C n bH) bn 8 m (gC (.fn g aO) (.vec 6 0 st.length 4 lb) (.ptr 7 0) (.int .i64 ((i:Int)-1))) ⟨8,.row X.cells::.row R::os,8,md⟩)=
  some (.exit 2,FM 44 [(1,.fn g aO),(5,.vec 8 0 (st.length+i) 4 (st.length+i))],⟨9,.row (ay (st++(X.aa.take i).reverse))::.row X.cells::.dead::os,w,md⟩)
 |0,m,st,R,_,_,h1,h2,_,_,_,_=>by omega
 |i+1,0,st,R,_,h,_,_,_,_,_,_=>by omega
 |i+1,m+1,st,R,hi,hm,h1,h2,hl,hR,ht,fj=>by
   have hr:AV.ah aO<=8:=by omega
   have jr:min md 6=md:=dn 6 (by omega);have jt:min md 8=md:=dn 8 (by omega);obtain⟨x,hx⟩:∃x,X.aa[i]? =some x:=⟨X.aa[i]'(by omega),by simp⟩
   have nS:X.aa.take (i+1)=X.aa.take i++[x]:=by rw[List.take_add_one,hx];rfl
   obtain⟨ha,hX,h5,dJ,fx,cI⟩:=dw hx;have w1:IntKind.i64.wrap ((i:Int)-1)=(i:Int)-1:=wrap_i64 (by omega) (by omega);have t1:(0<=(i:Int))=True:=eq_true (by omega);have b1:st.length*4<=R.length:=by omega
   have xw:putAt [.int .i64 0,.int .i64 0,.str [],.aF] 0 [.int .i64 x.aj,.int .i64 x.bj,.str x.az,x.bh]=[.int .i64 x.aj,.int .i64 x.bj,.str x.az,x.bh]:=rfl;have pg:(st++[x]).length=st.length+1:=by simp
   have e2:((i+1:Nat):Int)-1=(i:Int):=by omega
   by_cases fR:st.length+1<=lb
   .obtain⟨p1,p2⟩:=wX hR ht (by omega) x;have p3:=fH fj x (st.length*4) (by omega);have ih:=xF C n g aO hc X os md dn w hw lb i m (st++[x]) (putAt R (st.length*4) x.cells) (by omega) (by omega) (by omega) (by omega) (by omega) p1 p2 p3;have b3:(st.length+1)*4<=R.length:=by omega
    rw[pg,show st.length+1+i=st.length+(i+1) by omega] at ih;rw[e2,ag,nS,List.reverse_append];rw[hX,fx] at ih;rw[hX];simp only[List.append_assoc] at ih;simp[bH,bn,h5,hx,dJ,fx,cI,w1,t1,b1,fR,b3,hr,jr,jt,fj,xw,aG,-eH];exact ih
   .have p8:lb=st.length:=by omega
    have ih:=zx C n g aO hc X os md dn w hw i m (st++[x]) (by omega) (by omega) (by omega);have c1:(st.length+1)*56<=140737488355328:=by omega
    have c2:st.length+1<9223372036854775808:=by omega
    have p9:ay (st++[x])=ay st++[.int .i64 x.aj,.int .i64 x.bj,.str x.az,x.bh]:=by simp[ay,Tm.cells]
    have mh:AV.ah (ay st++[.int .i64 x.aj,.int .i64 x.bj,.str x.az,x.bh])=0:=by rw[<-p9];exact aU _
    rw[pg,show st.length+1+i=st.length+(i+1) by omega,p9] at ih;rw[e2,ag,nS,List.reverse_append];rw[hX] at ih|-;simp only[List.append_assoc] at ih;simp[bH,bn,h5,hx,dJ,fx,cI,w1,t1,b1,fR,c1,c2,hr,jr,jt,fj,ht,mh,aG];exact ih
theorem CJ(C:Nat->List AV->af->Option (AV×af))(n g:Nat)(aO:List AV)(hc:AV.ah aO<=4)(X:Tm)(O:aT)(os:List aT)(md:Nat)(dn:∀k,4<=k->min md k=md)(w:Nat)(hw:min w 8=w):∀(i m:Nat) (st:List Tm),i<=X.aa.length->i<m->st.length+i<1000000000000->
 il 8 w (bP (aC C n bH) bn 8 m (gC (.fn g aO) (.vec 8 0 st.length 4 st.length) (.ptr 7 0) (.int .i64 ((i:Int)-1))) ⟨9,.row (ay st)::.row X.cells::O::.dead::os,8,md⟩)=
  some (.exit 2,FM 44 [(1,.fn g aO),(5,.vec 8 0 (st.length+i) 4 (st.length+i))],⟨9,.row (ay (st++(X.aa.take i).reverse))::.row X.cells::O::.dead::os,w,md⟩)
 |0,m+1,st,_,_,_=>by
   have h1:(0<=(-1:Int))=False:=by simp
   have hr:AV.ah aO<=8:=by omega
   have jr:min md 5=md:=dn 5 (by omega);have jt:min md 8=md:=dn 8 (by omega);have uB:=aU st;simp[ag,bH,hr,uB,hw]
 |i+1,m+1,st,hi,hm,hl=>by
   have hr:AV.ah aO<=8:=by omega
   have jr:min md 5=md:=dn 5 (by omega);have jt:min md 8=md:=dn 8 (by omega);obtain⟨x,hx⟩:∃x,X.aa[i]? =some x:=⟨X.aa[i]'(by omega),by simp⟩
   have ih:=CJ C n g aO hc X O os md dn w hw i m (st++[x]) (by omega) (by omega) (by simp;omega);obtain⟨ha,hX,h5,dJ,fx,cI⟩:=dw hx;have uB:=aU st;have DS:=cG st;have w1:IntKind.i64.wrap ((i:Int)-1)=(i:Int)-1:=wrap_i64 (by omega) (by omega);have t1:(0<=(i:Int))=True:=eq_true (by omega);have b1:(st.length+1)*56<=140737488355328:=by omega
   have b2:st.length+1<9223372036854775808:=by omega
   have nS:X.aa.take (i+1)=X.aa.take i++[x]:=by rw[List.take_add_one,hx];rfl
   have p9:ay (st++[x])=ay st++[.int .i64 x.aj,.int .i64 x.bj,.str x.az,x.bh]:=by simp[ay,Tm.cells]
   have yO:List.take (st.length*4) (ay st)=ay st:=List.take_of_length_le (by omega);have mh:AV.ah (ay st++[.int .i64 x.aj,.int .i64 x.bj,.str x.az,x.bh])=0:=by rw[<-p9];exact aU _
   rw[nS,List.reverse_append];simp only[List.length_append,List.length_cons,List.length_nil,Nat.zero_add,List.append_assoc,p9] at ih;have e1:st.length+1+i=st.length+(i+1):=by omega
   rw[e1] at ih;have e2:((i+1:Nat):Int)-1=(i:Int):=by omega
   rw[e2,ag];rw[hX] at ih|-;simp[bH,bn,h5,hx,dJ,fx,cI,uB,DS,w1,t1,b1,b2,hr,yO,mh,jr,jt,aG];exact ih
theorem zd(C:Nat->List AV->af->Option (AV×af))(n g:Nat)(aO:List AV)(hc:AV.ah aO<=4)(X:Tm)(O:aT)(os:List aT)(md:Nat)(dn:∀k,4<=k->min md k=md)(w:Nat)(hw:min w 8=w)(lb:Nat):∀(i m:Nat) (st:List Tm) (R:List AV),i<=X.aa.length->i<m->st.length+i<=lb->lb<1000000000000->R.length=lb*4->R.take (st.length*4)=ay st->AV.ah R=0->
 ∃R',R'.length=lb*4/\R'.take ((st.length+i)*4)=ay (st++(X.aa.take i).reverse)/\AV.ah R'=0/\
 il 8 w (bP (aC C n bH) bn 8 m (gC (.fn g aO) (.vec 5 0 st.length 4 lb) (.ptr 7 0) (.int .i64 ((i:Int)-1))) ⟨8,.row X.cells::O::.row R::os,8,md⟩)=
  some (.exit 2,FM 44 [(1,.fn g aO),(5,.vec 5 0 (st.length+i) 4 lb)],⟨8,.row X.cells::O::.row R'::os,w,md⟩)
 |0,m+1,st,R,_,_,_,_,hR,ht,fj=>by
   have h1:(0<=(-1:Int))=False:=by simp
   have hr:AV.ah aO<=8:=by omega
   have jr:min md 5=md:=dn 5 (by omega);have jt:min md 8=md:=dn 8 (by omega);refine⟨R,hR,by simpa using ht,fj,?_⟩;simp[ag,bH,hr,hw]
 |i+1,m+1,st,R,hi,hm,p8,hl,hR,ht,fj=>by
   have hr:AV.ah aO<=8:=by omega
   have jr:min md 5=md:=dn 5 (by omega);have jt:min md 8=md:=dn 8 (by omega);obtain⟨x,hx⟩:∃x,X.aa[i]? =some x:=⟨X.aa[i]'(by omega),by simp⟩
   obtain⟨p1,p2⟩:=w5 hR ht (by omega) x;have p3:=fH fj x (st.length*4) (by omega);obtain⟨R',r1,r2,r3,ih⟩:=zd C n g aO hc X O os md dn w hw lb i m (st++[x]) (putAt R (st.length*4) x.cells) (by omega) (by omega) (by simp;omega) hl p1 p2 p3;have e1:(st++[x]).length+i=st.length+(i+1):=by simp;omega
   have nS:X.aa.take (i+1)=X.aa.take i++[x]:=by rw[List.take_add_one,hx];rfl
   refine⟨R',r1,?_,r3,?_⟩
   .rw[nS,List.reverse_append,<-e1,r2];simp[List.append_assoc]
   obtain⟨ha,hX,h5,dJ,fx,cI⟩:=dw hx;have w1:IntKind.i64.wrap ((i:Int)-1)=(i:Int)-1:=wrap_i64 (by omega) (by omega);have t1:(0<=(i:Int))=True:=eq_true (by omega);have b1:st.length*4<=R.length:=by omega
   have b2:st.length+1<=lb:=by omega
   have b3:(st.length+1)*4<=R.length:=by omega
   have xw:putAt [.int .i64 0,.int .i64 0,.str [],.aF] 0 [.int .i64 x.aj,.int .i64 x.bj,.str x.az,x.bh]=[.int .i64 x.aj,.int .i64 x.bj,.str x.az,x.bh]:=rfl;have pg:(st++[x]).length=st.length+1:=by simp
   rw[pg,show st.length+1+i=st.length+(i+1) by omega] at ih;have e2:((i+1:Nat):Int)-1=(i:Int):=by omega
   rw[e2,ag];rw[hX,fx] at ih;rw[hX];simp[bH,bn,h5,hx,dJ,fx,cI,w1,t1,b1,b2,b3,hr,jr,jt,fj,xw,aG,-eH];exact ih
theorem zg(C:Nat->List AV->af->Option (AV×af))(n g:Nat)(aO:List AV)(hc:AV.ah aO<=4)(X:Tm)(O:aT)(os:List aT)(md:Nat)(dn:∀k,4<=k->min md k=md)(w:Nat)(hw:min w 8=w)(lb:Nat):∀(i m:Nat) (st:List Tm) (R:List AV),i<=X.aa.length->i<m->st.length<=lb->lb<st.length+i->st.length+i<1000000000000->R.length=lb*4->R.take (st.length*4)=ay st->AV.ah R=0->
 il 8 w (bP (aC C n bH) bn 8 m (gC (.fn g aO) (.vec 5 0 st.length 4 lb) (.ptr 7 0) (.int .i64 ((i:Int)-1))) ⟨8,.row X.cells::O::.row R::os,8,md⟩)=
  some (.exit 2,FM 44 [(1,.fn g aO),(5,.vec 8 0 (st.length+i) 4 (st.length+i))],⟨9,.row (ay (st++(X.aa.take i).reverse))::.row X.cells::O::.dead::os,w,md⟩)
 |0,m,st,R,_,_,h1,h2,_,_,_,_=>by omega
 |i+1,0,st,R,_,h,_,_,_,_,_,_=>by omega
 |i+1,m+1,st,R,hi,hm,h1,h2,hl,hR,ht,fj=>by
   have hr:AV.ah aO<=8:=by omega
   have jr:min md 5=md:=dn 5 (by omega);have jt:min md 8=md:=dn 8 (by omega);obtain⟨x,hx⟩:∃x,X.aa[i]? =some x:=⟨X.aa[i]'(by omega),by simp⟩
   have nS:X.aa.take (i+1)=X.aa.take i++[x]:=by rw[List.take_add_one,hx];rfl
   obtain⟨ha,hX,h5,dJ,fx,cI⟩:=dw hx;have w1:IntKind.i64.wrap ((i:Int)-1)=(i:Int)-1:=wrap_i64 (by omega) (by omega);have t1:(0<=(i:Int))=True:=eq_true (by omega);have b1:st.length*4<=R.length:=by omega
   have xw:putAt [.int .i64 0,.int .i64 0,.str [],.aF] 0 [.int .i64 x.aj,.int .i64 x.bj,.str x.az,x.bh]=[.int .i64 x.aj,.int .i64 x.bj,.str x.az,x.bh]:=rfl;have pg:(st++[x]).length=st.length+1:=by simp
   have e2:((i+1:Nat):Int)-1=(i:Int):=by omega
   by_cases fR:st.length+1<=lb
   .obtain⟨p1,p2⟩:=w5 hR ht (by omega) x;have p3:=fH fj x (st.length*4) (by omega);have ih:=zg C n g aO hc X O os md dn w hw lb i m (st++[x]) (putAt R (st.length*4) x.cells) (by omega) (by omega) (by omega) (by omega) (by omega) p1 p2 p3;have b3:(st.length+1)*4<=R.length:=by omega
    rw[pg,show st.length+1+i=st.length+(i+1) by omega] at ih;rw[e2,ag,nS,List.reverse_append];rw[hX,fx] at ih;rw[hX];simp only[List.append_assoc] at ih;simp[bH,bn,h5,hx,dJ,fx,cI,w1,t1,b1,fR,b3,hr,jr,jt,fj,xw,aG,-eH];exact ih
   .have p8:lb=st.length:=by omega
    have ih:=CJ C n g aO hc X O os md dn w hw i m (st++[x]) (by omega) (by omega) (by omega);have c1:(st.length+1)*56<=140737488355328:=by omega
    have c2:st.length+1<9223372036854775808:=by omega
    have p9:ay (st++[x])=ay st++[.int .i64 x.aj,.int .i64 x.bj,.str x.az,x.bh]:=by simp[ay,Tm.cells]
    have mh:AV.ah (ay st++[.int .i64 x.aj,.int .i64 x.bj,.str x.az,x.bh])=0:=by rw[<-p9];exact aU _
    rw[pg,show st.length+1+i=st.length+(i+1) by omega,p9] at ih;rw[e2,ag,nS,List.reverse_append];rw[hX] at ih|-;simp only[List.append_assoc] at ih;simp[bH,bn,h5,hx,dJ,fx,cI,w1,t1,b1,fR,c1,c2,hr,jr,jt,fj,ht,mh,aG];exact ih
theorem Cj(C:Nat->List AV->af->Option (AV×af))(n g:Nat)(aO:List AV)(hc:AV.ah aO<=4)(X:Tm)(O:aT)(os:List aT)(md:Nat)(dn:∀k,4<=k->min md k=md)(w:Nat)(hw:min w 9=w):∀(i m:Nat) (st:List Tm),i<=X.aa.length->i<m->st.length+i<1000000000000->
 il 9 w (bP (aC C n bH) bn 9 m (gC (.fn g aO) (.vec 9 0 st.length 4 st.length) (.ptr 8 0) (.int .i64 ((i:Int)-1))) ⟨10,.row (ay st)::.row X.cells::O::.dead::os,9,md⟩)=
  some (.exit 2,FM 44 [(1,.fn g aO),(5,.vec 9 0 (st.length+i) 4 (st.length+i))],⟨10,.row (ay (st++(X.aa.take i).reverse))::.row X.cells::O::.dead::os,w,md⟩)
 |0,m+1,st,_,_,_=>by
   have h1:(0<=(-1:Int))=False:=by simp
   have hr:AV.ah aO<=9:=by omega
   have jr:min md 6=md:=dn 6 (by omega);have jt:min md 9=md:=dn 9 (by omega);have uB:=aU st;simp[ag,bH,hr,uB,hw]
 |i+1,m+1,st,hi,hm,hl=>by
   have hr:AV.ah aO<=9:=by omega
   have jr:min md 6=md:=dn 6 (by omega);have jt:min md 9=md:=dn 9 (by omega);obtain⟨x,hx⟩:∃x,X.aa[i]? =some x:=⟨X.aa[i]'(by omega),by simp⟩
   have ih:=Cj C n g aO hc X O os md dn w hw i m (st++[x]) (by omega) (by omega) (by simp;omega);obtain⟨ha,hX,h5,dJ,fx,cI⟩:=dw hx;have uB:=aU st;have DS:=cG st;have w1:IntKind.i64.wrap ((i:Int)-1)=(i:Int)-1:=wrap_i64 (by omega) (by omega);have t1:(0<=(i:Int))=True:=eq_true (by omega);have b1:(st.length+1)*56<=140737488355328:=by omega
   have b2:st.length+1<9223372036854775808:=by omega
   have nS:X.aa.take (i+1)=X.aa.take i++[x]:=by rw[List.take_add_one,hx];rfl
   have p9:ay (st++[x])=ay st++[.int .i64 x.aj,.int .i64 x.bj,.str x.az,x.bh]:=by simp[ay,Tm.cells]
   have yO:List.take (st.length*4) (ay st)=ay st:=List.take_of_length_le (by omega);have mh:AV.ah (ay st++[.int .i64 x.aj,.int .i64 x.bj,.str x.az,x.bh])=0:=by rw[<-p9];exact aU _
   rw[nS,List.reverse_append];simp only[List.length_append,List.length_cons,List.length_nil,Nat.zero_add,List.append_assoc,p9] at ih;have e1:st.length+1+i=st.length+(i+1):=by omega
   rw[e1] at ih;have e2:((i+1:Nat):Int)-1=(i:Int):=by omega
   rw[e2,ag];rw[hX] at ih|-;simp[bH,bn,h5,hx,dJ,fx,cI,uB,DS,w1,t1,b1,b2,hr,yO,mh,jr,jt,aG];exact ih
theorem yU(C:Nat->List AV->af->Option (AV×af))(n g:Nat)(aO:List AV)(hc:AV.ah aO<=4)(X:Tm)(O:aT)(os:List aT)(md:Nat)(dn:∀k,4<=k->min md k=md)(w:Nat)(hw:min w 9=w)(lb:Nat):∀(i m:Nat) (st:List Tm) (R:List AV),i<=X.aa.length->i<m->st.length+i<=lb->lb<1000000000000->R.length=lb*4->R.take (st.length*4)=ay st->AV.ah R=0->
 ∃R',R'.length=lb*4/\R'.take ((st.length+i)*4)=ay (st++(X.aa.take i).reverse)/\AV.ah R'=0/\
 il 9 w (bP (aC C n bH) bn 9 m (gC (.fn g aO) (.vec 6 0 st.length 4 lb) (.ptr 8 0) (.int .i64 ((i:Int)-1))) ⟨9,.row X.cells::O::.row R::os,9,md⟩)=
  some (.exit 2,FM 44 [(1,.fn g aO),(5,.vec 6 0 (st.length+i) 4 lb)],⟨9,.row X.cells::O::.row R'::os,w,md⟩)
 |0,m+1,st,R,_,_,_,_,hR,ht,fj=>by
   have h1:(0<=(-1:Int))=False:=by simp
   have hr:AV.ah aO<=9:=by omega
   have jr:min md 6=md:=dn 6 (by omega);have jt:min md 9=md:=dn 9 (by omega);refine⟨R,hR,by simpa using ht,fj,?_⟩;simp[ag,bH,hr,hw]
 |i+1,m+1,st,R,hi,hm,p8,hl,hR,ht,fj=>by
   have hr:AV.ah aO<=9:=by omega
   have jr:min md 6=md:=dn 6 (by omega);have jt:min md 9=md:=dn 9 (by omega);obtain⟨x,hx⟩:∃x,X.aa[i]? =some x:=⟨X.aa[i]'(by omega),by simp⟩
   obtain⟨p1,p2⟩:=wX hR ht (by omega) x;have p3:=fH fj x (st.length*4) (by omega);obtain⟨R',r1,r2,r3,ih⟩:=yU C n g aO hc X O os md dn w hw lb i m (st++[x]) (putAt R (st.length*4) x.cells) (by omega) (by omega) (by simp;omega) hl p1 p2 p3;have e1:(st++[x]).length+i=st.length+(i+1):=by simp;omega
   have nS:X.aa.take (i+1)=X.aa.take i++[x]:=by rw[List.take_add_one,hx];rfl
   refine⟨R',r1,?_,r3,?_⟩
   .rw[nS,List.reverse_append,<-e1,r2];simp[List.append_assoc]
   obtain⟨ha,hX,h5,dJ,fx,cI⟩:=dw hx;have w1:IntKind.i64.wrap ((i:Int)-1)=(i:Int)-1:=wrap_i64 (by omega) (by omega);have t1:(0<=(i:Int))=True:=eq_true (by omega);have b1:st.length*4<=R.length:=by omega
   have b2:st.length+1<=lb:=by omega
   have b3:(st.length+1)*4<=R.length:=by omega
   have xw:putAt [.int .i64 0,.int .i64 0,.str [],.aF] 0 [.int .i64 x.aj,.int .i64 x.bj,.str x.az,x.bh]=[.int .i64 x.aj,.int .i64 x.bj,.str x.az,x.bh]:=rfl;have pg:(st++[x]).length=st.length+1:=by simp
   rw[pg,show st.length+1+i=st.length+(i+1) by omega] at ih;have e2:((i+1:Nat):Int)-1=(i:Int):=by omega
   rw[e2,ag];rw[hX,fx] at ih;rw[hX];simp[bH,bn,h5,hx,dJ,fx,cI,w1,t1,b1,b2,b3,hr,jr,jt,fj,xw,aG,-eH];exact ih
theorem zo(C:Nat->List AV->af->Option (AV×af))(n g:Nat)(aO:List AV)(hc:AV.ah aO<=4)(X:Tm)(O:aT)(os:List aT)(md:Nat)(dn:∀k,4<=k->min md k=md)(w:Nat)(hw:min w 9=w)(lb:Nat):∀(i m:Nat) (st:List Tm) (R:List AV),i<=X.aa.length->i<m->st.length<=lb->lb<st.length+i->st.length+i<1000000000000->R.length=lb*4->R.take (st.length*4)=ay st->AV.ah R=0->
 il 9 w (bP (aC C n bH) bn 9 m (gC (.fn g aO) (.vec 6 0 st.length 4 lb) (.ptr 8 0) (.int .i64 ((i:Int)-1))) ⟨9,.row X.cells::O::.row R::os,9,md⟩)=
  some (.exit 2,FM 44 [(1,.fn g aO),(5,.vec 9 0 (st.length+i) 4 (st.length+i))],⟨10,.row (ay (st++(X.aa.take i).reverse))::.row X.cells::O::.dead::os,w,md⟩)
 |0,m,st,R,_,_,h1,h2,_,_,_,_=>by omega
 |i+1,0,st,R,_,h,_,_,_,_,_,_=>by omega
 |i+1,m+1,st,R,hi,hm,h1,h2,hl,hR,ht,fj=>by
   have hr:AV.ah aO<=9:=by omega
   have jr:min md 6=md:=dn 6 (by omega);have jt:min md 9=md:=dn 9 (by omega);obtain⟨x,hx⟩:∃x,X.aa[i]? =some x:=⟨X.aa[i]'(by omega),by simp⟩
   have nS:X.aa.take (i+1)=X.aa.take i++[x]:=by rw[List.take_add_one,hx];rfl
   obtain⟨ha,hX,h5,dJ,fx,cI⟩:=dw hx;have w1:IntKind.i64.wrap ((i:Int)-1)=(i:Int)-1:=wrap_i64 (by omega) (by omega);have t1:(0<=(i:Int))=True:=eq_true (by omega);have b1:st.length*4<=R.length:=by omega
   have xw:putAt [.int .i64 0,.int .i64 0,.str [],.aF] 0 [.int .i64 x.aj,.int .i64 x.bj,.str x.az,x.bh]=[.int .i64 x.aj,.int .i64 x.bj,.str x.az,x.bh]:=rfl;have pg:(st++[x]).length=st.length+1:=by simp
   have e2:((i+1:Nat):Int)-1=(i:Int):=by omega
   by_cases fR:st.length+1<=lb
   .obtain⟨p1,p2⟩:=wX hR ht (by omega) x;have p3:=fH fj x (st.length*4) (by omega);have ih:=zo C n g aO hc X O os md dn w hw lb i m (st++[x]) (putAt R (st.length*4) x.cells) (by omega) (by omega) (by omega) (by omega) (by omega) p1 p2 p3;have b3:(st.length+1)*4<=R.length:=by omega
    rw[pg,show st.length+1+i=st.length+(i+1) by omega] at ih;rw[e2,ag,nS,List.reverse_append];rw[hX,fx] at ih;rw[hX];simp only[List.append_assoc] at ih;simp[bH,bn,h5,hx,dJ,fx,cI,w1,t1,b1,fR,b3,hr,jr,jt,fj,xw,aG,-eH];exact ih
   .have p8:lb=st.length:=by omega
    have ih:=Cj C n g aO hc X O os md dn w hw i m (st++[x]) (by omega) (by omega) (by omega);have c1:(st.length+1)*56<=140737488355328:=by omega
    have c2:st.length+1<9223372036854775808:=by omega
    have p9:ay (st++[x])=ay st++[.int .i64 x.aj,.int .i64 x.bj,.str x.az,x.bh]:=by simp[ay,Tm.cells]
    have mh:AV.ah (ay st++[.int .i64 x.aj,.int .i64 x.bj,.str x.az,x.bh])=0:=by rw[<-p9];exact aU _
    rw[pg,show st.length+1+i=st.length+(i+1) by omega,p9] at ih;rw[e2,ag,nS,List.reverse_append];rw[hX] at ih|-;simp only[List.append_assoc] at ih;simp[bH,bn,h5,hx,dJ,fx,cI,w1,t1,b1,fR,c1,c2,hr,jr,jt,fj,ht,mh,aG];exact ih
end
end Go.Proofs.YtjmeonoabiliiaaGreatDoor
