import Derived.Test.YtjmeonoabiliiaaGreatDoorAt
import Derived.Test.YtjmeonoabiliiaaGreatDoorBd3
import Derived.Test.YtjmeonoabiliiaaGreatDoorBd2
import Derived.Test.YtjmeonoabiliiaaGreatDoorBd1
import Derived.Test.YtjmeonoabiliiaaGreatDoorArg
import Derived.Test.YtjmeonoabiliiaaGreatDoorRows
import Derived.ProofKit
set_option linter.unusedVariables false
set_option linter.unusedSimpArgs false
set_option linter.unusedSectionVars false
set_option maxHeartbeats 16000000
set_option maxRecDepth 100000

namespace Go.Proofs.YtjmeonoabiliiaaGreatDoor
open Go Sz
noncomputable def tH (N:Nat):bL:=⟨120,fun
 | [.ptr 0 0,.int .i64 n],os=>(match qh os with
   | some R=>if R.st.rest.length≤N then some (.tuple [(bo R.T n R.st).1.1.enc,.int .i64 (bo R.T n R.st).1.2.1,.bool (bo R.T n R.st).1.2.2],some (db R.x R.y R.st.names (bo R.T n R.st).2)) else none
   | none=>none)
 | _,_=>none⟩
theorem bY (N:Nat):(tH N).f=120:=(rfl)
theorem HQ (N:Nat) {x y:AV} {T:List bM} {L:List Tok} {st:St} (hx:bD x=some T) (hy:bz y=some L) (h:RC T L st) (n:Int) (hn:st.rest.length≤N):
 (tH N).S [.ptr 0 0,.int .i64 n] (c8 x y st)=some (.tuple [(bo T n st).1.1.enc,.int .i64 (bo T n st).1.2.1,.bool (bo T n st).1.2.2],some (db x y st.names (bo T n st).2)):=by
 simp only[tH,iy hx hy h];rw[if_pos hn]
theorem IM (N:Nat) {x y:AV} {T:List bM} {L:List Tok} {st:St} (hx:bD x=some T) (hy:bz y=some L) (h:RC T L st) (hN:st.rest.length≤N) (hE:bW Tryz.prog cm (bj ch (cg N))) (n:Int):
 bX Tryz.prog cm 120 [.ptr 0 0,.int .i64 n] (c8 x y st) (.tuple [(bo T n st).1.1.enc,.int .i64 (bo T n st).1.2.1,.bool (bo T n st).1.2.2]) (some (db x y st.names (bo T n st).2)):=by
 by_cases k4:(bm L st).kind=4
 ·exact KI N hx hy h hN hE n k4
 by_cases k3:(bm L st).kind=3
 ·exact J8 N hx hy h hN hE n k3
 by_cases k5:(bm L st).kind=5
 ·by_cases t1:(bm L st).text=[40]
  ·cases hok:(ae T 1200 (ax st)).1.2.2 with
   | true=>exact Ep N hx hy h hN hE n k5 t1 hok
   | false=>exact Eu N hx hy h hN hE n k5 t1 hok
  by_cases t2:(bm L st).text=[91]
  ·exact GW N hx hy h hN hE n k5 t2
  by_cases t3:(bm L st).text=[123]
  ·cases hok:(ae T 1200 (ax st)).1.2.2 with
   | true=>exact AM N hx hy h hN hE n k5 t3 hok
   | false=>exact BP N hx hy h hN hE n k5 t3 hok
  exact Kc N hx hy h hN hE n k5 t1 t2 t3
 cases kn:(decide ((bm L st).kind=1)||decide ((bm L st).kind=2)) with
 | false=>
   rw[Bool.or_eq_false_iff,decide_eq_false_iff_not,decide_eq_false_iff_not] at kn;exact Hr N hx hy h hN hE n kn.1 kn.2 k3 k4 k5
 | true=>
   cases ko:(bm L st).gS with
   | true=>
     cases hok:(aE T (ax (ax st))).1.2 with
     | true=>exact Ct N hx hy h hN hE n kn ko hok
     | false=>exact Cs N hx hy h hN hE n kn ko hok
   | false=>
     by_cases k1:(bm L st).kind=1
     ·by_cases kt:(bm L st).text=[45]
      ·by_cases k44:(bm L (ax st)).kind=4
       ·by_cases ka:(bm L (ax st)).at_=(bm L st).at_+1
        ·exact JH N hx hy h hN hE n k1 kt ko k44 ka
        ·exact Bf N hx hy h hN hE n kn ko k1 kt k44 ka
       ·exact B0 N hx hy h hN hE n kn ko k1 kt k44
      ·exact As N hx hy h hN hE n kn ko k1 kt
     ·exact A6 N hx hy h hN hE n kn ko k1
theorem Gm (N:Nat) (hN:dk Tryz.prog cm (fI N)):dk Tryz.prog cm (tH N):=fun args os v r hv=>by
 unfold tH at hv;dsimp only at hv;split at hv
 ·rename_i os n;split at hv
  ·rename_i R hR;split at hv
   ·rename_i hn;cases hv;obtain⟨hx,hy,rfl,h⟩:=gN hR;rw[bY];have hE:bW Tryz.prog cm (bj ch (cg N)):=eW (by simp[ch,L4.lift,xn.lift,rL.lift]) (by simp[cg,hN,qV,MN,xk,Dv N hN,uM N hN,CY N hN]);exact IM N hx hy h hn hE n
   ·cases hv
  ·cases hv
 ·cases hv
section
variable {rec:Int→St→PR×St} {T:List bM}
theorem oN (M:Nat) (n:Int) (t:Tm) (lv:Int) (st:St):dQ rec T M n (t,lv,false) st=((t,lv,false),st):=by
 cases M with
 | zero=>rfl
 | succ M=>rfl
theorem dU {M:Nat} {n:Int} {t:Tm} {lv:Int} {st:St} {B:bM×Bool} (hb:cP T (aH st)=B) (h:(!B.2||decide (n < B.1.l)||decide ((a7 B.1).1 < lv))=true):dQ rec T M n (t,lv,true) st=((t,lv,true),st):=by
 cases M with
 | zero=>rfl
 | succ M=>
   unfold dQ;rw[hb,if_neg (by simp),if_pos h]
theorem pz {M:Nat} {n:Int} {t:Tm} {lv:Int} {st:St} {o:bM} (hb:cP T (aH st)=(o,true)) (h1:¬ n < o.l) (h2:¬ (a7 o).1 < lv):dQ rec T (M+1) n (t,lv,true) st=dQ rec T M n (cb (aH st).text [t,(rec (a7 o).2 (ax st)).1.1],o.l,(rec (a7 o).2 (ax st)).1.2.2) (rec (a7 o).2 (ax st)).2:=by
 conv=>lhs;unfold dQ
 rw[hb,if_neg (by simp),if_neg (by simp[h1,h2])]
end
theorem mq (T:List bM) (x:eS):0≤(cP T x).1.l∧(cP T x).1.l≤1200:=by
 unfold cP;split
 ·exact⟨by decide,by decide⟩
 ·exact ua T x.text false
theorem kI {T:List bM} {x:eS} (h:(cP T x).2=true):x.kind≠0:=fun e=>by
 unfold cP ey at h;rw[e] at h;cases h
theorem jC (s:List UInt8) (u v:Tm):(cb s [u,v]).cp=.sl [.agg [.int .i64 u.kind,.int .i64 u.num,.str u.name,u.cp],.agg [.int .i64 v.kind,.int .i64 v.num,.str v.name,v.cp]]:=by
 rw[←ar,←ar];rfl
noncomputable def dS:List aR:=[tJ,rO]
noncomputable def dR (N:Nat):List bL:=[pG,xV,tH N,fI N]
def pH (x y:AV) (r:PR×St) (md:Nat):Option (Ex×List AV×aa):=some (.exit 0,FM 75 [(4,.ptr 1 0),(7,.ptr 2 0),(8,.int .i64 r.1.2.1),(9,.bool r.1.2.2)],⟨3,[.row [.int .i64 r.1.1.kind,.int .i64 r.1.1.num,.str r.1.1.name,r.1.1.cp],.row [.int .i64 0,.int .i64 0,.str [],.aw],.row [x,y,.int .i64 r.2.at_,.int .i64 r.2.next,.aw]],1,md⟩)
def Ev (x y:AV) (r:PR×St) (md:Nat):Option (Ex×List AV×aa):=some (.exit 0,FM 75 [(4,.ptr 1 0),(7,.ptr 2 0),(8,.int .i64 r.1.2.1),(9,.bool r.1.2.2)],⟨4,[.row (aj r.2.names),.row [.int .i64 r.1.1.kind,.int .i64 r.1.1.num,.str r.1.1.name,r.1.1.cp],.row [.int .i64 0,.int .i64 0,.str [],.aw],.row [x,y,.int .i64 r.2.at_,.int .i64 r.2.next,.vec 3 0 r.2.names.length 2 r.2.names.length]],0,md⟩)
def HV (x y:AV) (r:PR×St) (md:Nat):Option (Ex×List AV×aa):=some (.exit 0,FM 75 [(4,.ptr 1 0),(7,.ptr 3 0),(8,.int .i64 r.1.2.1),(9,.bool r.1.2.2)],⟨4,[.row [.int .i64 r.1.1.kind,.int .i64 r.1.1.num,.str r.1.1.name,r.1.1.cp],.row (aj r.2.names),.row [.int .i64 0,.int .i64 0,.str [],.aw],.row [x,y,.int .i64 r.2.at_,.int .i64 r.2.next,.vec 2 0 r.2.names.length 2 r.2.names.length]],0,md⟩)
def CM (x y:AV) (r:PR×St) (md:Nat):Option (Ex×List AV×aa):=some (.exit 0,FM 75 [(4,.ptr 1 0),(7,.ptr 3 0),(8,.int .i64 r.1.2.1),(9,.bool r.1.2.2)],⟨5,[.row (aj r.2.names),.row [.int .i64 r.1.1.kind,.int .i64 r.1.1.num,.str r.1.1.name,r.1.1.cp],.dead,.row [.int .i64 0,.int .i64 0,.str [],.aw],.row [x,y,.int .i64 r.2.at_,.int .i64 r.2.next,.vec 4 0 r.2.names.length 2 r.2.names.length]],0,md⟩)
def Gp (x y:AV) (r:PR×St) (md:Nat):Option (Ex×List AV×aa):=some (.exit 0,FM 75 [(4,.ptr 2 0),(7,.ptr 4 0),(8,.int .i64 r.1.2.1),(9,.bool r.1.2.2)],⟨5,[.row [.int .i64 r.1.1.kind,.int .i64 r.1.1.num,.str r.1.1.name,r.1.1.cp],.row (aj r.2.names),.row [.int .i64 0,.int .i64 0,.str [],.aw],.dead,.row [x,y,.int .i64 r.2.at_,.int .i64 r.2.next,.vec 3 0 r.2.names.length 2 r.2.names.length]],0,md⟩)
def Ek (x y:AV) (r:PR×St) (md:Nat):Option (Ex×List AV×aa):=some (.exit 0,FM 75 [(4,.ptr 2 0),(7,.ptr 4 0),(8,.int .i64 r.1.2.1),(9,.bool r.1.2.2)],⟨6,[.row (aj r.2.names),.row [.int .i64 r.1.1.kind,.int .i64 r.1.1.num,.str r.1.1.name,r.1.1.cp],.dead,.row [.int .i64 0,.int .i64 0,.str [],.aw],.dead,.row [x,y,.int .i64 r.2.at_,.int .i64 r.2.next,.vec 5 0 r.2.names.length 2 r.2.names.length]],0,md⟩)
theorem NR (n N:Nat) {x y:AV} {T:List bM} {L:List Tok} (hx:bD x=some T) (hy:bz y=some L) (kk:Int):∀(M:Nat) (t:Tm) (lv:Int) (ok:Bool) (st:St) (m md:Nat),(ok=true→RC T L st)→st.names≠[]→st.rest.length≤N→st.rest.length < M→M≤m→
 ∃md',ju 3 1 (cM (aT (au (bj dS (dR N)) (n+1)) (n+1) dd) cn 3 m (jl (.ptr 0 0) (.int .i64 kk) (.ptr 1 0) (.ptr 2 0) (.int .i64 lv) (.bool ok)) ⟨4,[.row (aj st.names),.row [.int .i64 t.kind,.int .i64 t.num,.str t.name,t.cp],.row [.int .i64 0,.int .i64 0,.str [],.aw],.row [x,y,.int .i64 st.at_,.int .i64 st.next,.vec 3 0 st.names.length 2 st.names.length]],0,md⟩)=
   Ev x y (dQ (ae T) T M kk (t,lv,ok) st) md'
 | 0,_,_,_,_,_,_,_,_,_,h,_=>by omega
 | _+1,_,_,_,_,0,_,_,_,_,_,h=>by omega
 | M+1,t,lv,ok,st,m+1,md,hcc,h0,hN,hM,hm=>by
   have hlx:=bG hx;have hly:=bu hy;have x1:=hlx.refs;have y1:=hly.refs;have g1:=cW hlx hly;have g2:=cV hlx hly;have g3:=cU hlx hly;have g4:=cX hlx hly;have g5:=cZ hlx hly;have g6:=cY hlx hly;have kx:=fun n0 acc r=>bc n0 acc r hlx;have ky:=fun n0 acc r=>bc n0 acc r hly;have rx:=fun n0 ks=>bd n0 ks hlx;have ry:=fun n0 ks=>bd n0 ks hly
   rw[aC];have ur:=aN t;have uc:=dq t;have f1:=aG st.names;have f2:=aF st.names;have f3:=ah st.names
   cases ok with
   | false=>
     rw[oN];simp only[Ev];generalize aj st.names=Fs at *;generalize st.names.length=ns at *;exact⟨0,by simp[an,dd,cn,dS,dR,bJ,a6,aX,cF,bY,ak,aV,aS,x1,y1,g1,g2,g3,g4,g5,g6,kx,ky,rx,ry,-af,-aq,-ag,-keeps,-cN,aL,aJ,aQ,aK,ay,aB,aP,aO,aM,aA,az,aI,ur,uc,f1,f2,f3]⟩
   | true=>
     have hc:=hcc rfl;have q0:=dc hx hy hc;have qb:=me hx hy hc (bm L st);have eb:=mh hc;have bl:=mq T (aH st);have bk:=kI (T:=T) (x:=aH st);have ts:(aH st).text=(bm L st).text:=by rw[bp hc]
     rw[eb] at bl bk;rw[bQ,bb h0] at q0;rw[bb h0,show (dA T (bm L st)).1.enc=.agg [.str (dA T (bm L st)).1.n,.str (dA T (bm L st)).1.k,.int .i64 (dA T (bm L st)).1.l] from rfl] at qb;have qs:=jR (dA T (bm L st)).1 bl;generalize dA T (bm L st)=B at *;obtain⟨o,fd⟩:=B;dsimp only at qb qs bl bk
     cases fd with
     | false=>
       rw[dU eb rfl];simp only[Ev];generalize aj st.names=Fs at *;generalize st.names.length=ns at *;exact⟨0,by simp[an,dd,cn,dS,dR,bJ,a6,aX,cF,bY,ak,aV,aS,x1,y1,g1,g2,g3,g4,g5,g6,kx,ky,rx,ry,-af,-aq,-ag,-keeps,-cN,aL,aJ,aQ,aK,ay,aB,aP,aO,aM,aA,az,aI,ur,uc,f1,f2,f3,q0,qb,qs]⟩
     | true=>
       by_cases c2:kk < o.l
       ·rw[dU eb (by simp[c2])];simp only[Ev];generalize aj st.names=Fs at *;generalize st.names.length=ns at *;exact⟨0,by simp[an,dd,cn,dS,dR,bJ,a6,aX,cF,bY,ak,aV,aS,x1,y1,g1,g2,g3,g4,g5,g6,kx,ky,rx,ry,-af,-aq,-ag,-keeps,-cN,aL,aJ,aQ,aK,ay,aB,aP,aO,aM,aA,az,aI,ur,uc,f1,f2,f3,q0,qb,qs,c2]⟩
       by_cases c3:(a7 o).1 < lv
       ·rw[dU eb (by simp[c3])];simp only[Ev];generalize aj st.names=Fs at *;generalize st.names.length=ns at *;exact⟨0,by simp[an,dd,cn,dS,dR,bJ,a6,aX,cF,bY,ak,aV,aS,x1,y1,g1,g2,g3,g4,g5,g6,kx,ky,rx,ry,-af,-aq,-ag,-keeps,-cN,aL,aJ,aQ,aK,ay,aB,aP,aO,aM,aA,az,aI,ur,uc,f1,f2,f3,q0,qb,qs,c2,c3]⟩
       have hkk:=bk rfl;have hat:=eE hc hkk;have c1:=hc.xu (by omega);have hl:=cD st;have hp:=bH hkk;have w1:=wrap_i64 (n:=(st.at_:Int)+1) (by omega) (by have:=hc.lb;omega);rw[pz eb c2 c3,ts];have qt:=da N hx hy c1 (a7 o).2 (by omega);rw[show (ax st).names=st.names from rfl,ar] at qt;have hlv:=(bK T).lv (a7 o).2 (ax st);have hln:=hlv.len;have hrc:(ae T (a7 o).2 (ax st)).1.2.2=true→RC T L (ae T (a7 o).2 (ax st)).2:=fun h=>(c1.ok ((bK T).ok _ _ h)).1
       have hnm:st.names≠[]→(ae T (a7 o).2 (ax st)).2.names≠[]:=hlv.names;have vr:=aN (ae T (a7 o).2 (ax st)).1.1;have vc:=dq (ae T (a7 o).2 (ax st)).1.1;have qc:=iq (bm L st).text [t,(ae T (a7 o).2 (ax st)).1.1] (by simp);rw[yk,List.map_cons,List.map_cons,List.map_nil,ar t,ar (ae T (a7 o).2 (ax st)).1.1] at qc;generalize ae T (a7 o).2 (ax st)=r at *;obtain⟨⟨u,lv2,ok2⟩,s1⟩:=r;dsimp only at *;have h1:=hnm h0;rw[fM h0,dn h0 h1] at qt;obtain⟨md',ih⟩:=NR n N hx hy kk M (cb (bm L st).text [t,u]) o.l ok2 s1 m (min md 0) hrc h1 (by omega) (by omega) (by omega);rw[show (cb (bm L st).text [t,u]).kind=2 from rfl,show (cb (bm L st).text [t,u]).num=0 from rfl,show (cb (bm L st).text [t,u]).name=(bm L st).text from rfl,jC] at ih;refine⟨md',Eq.trans ?_ ih⟩;have e1:=aG s1.names;have e2:=aF s1.names;have e3:=ah s1.names;generalize aj s1.names=Gs at *;generalize s1.names.length=gs at *;generalize aj st.names=Fs at *;generalize st.names.length=ns at *;simp[an,dd,cn,dS,dR,bJ,a6,aX,cF,bY,ak,aV,aS,x1,y1,g1,g2,g3,g4,g5,g6,kx,ky,rx,ry,-af,-aq,-ag,-keeps,-cN,aL,aJ,aQ,aK,ay,aB,aP,aO,aM,aA,az,aI,ur,uc,f1,f2,f3,e1,e2,e3,q0,qb,qs,qt,qc,c2,c3,w1,vr,vc]
theorem NP (n N:Nat) {x y:AV} {T:List bM} {L:List Tok} (hx:bD x=some T) (hy:bz y=some L) (kk:Int):∀(M:Nat) (t:Tm) (lv:Int) (ok:Bool) (st:St) (m md:Nat),(ok=true→RC T L st)→st.names=[]→st.rest.length≤N→st.rest.length < M→M≤m→
 ∃md',ju 3 1 (cM (aT (au (bj dS (dR N)) (n+1)) (n+1) dd) cn 3 m (jl (.ptr 0 0) (.int .i64 kk) (.ptr 1 0) (.ptr 2 0) (.int .i64 lv) (.bool ok)) ⟨3,[.row [.int .i64 t.kind,.int .i64 t.num,.str t.name,t.cp],.row [.int .i64 0,.int .i64 0,.str [],.aw],.row [x,y,.int .i64 st.at_,.int .i64 st.next,.aw]],3,md⟩)=
   (if (dQ (ae T) T M kk (t,lv,ok) st).2.names=[] then pH x y (dQ (ae T) T M kk (t,lv,ok) st) md' else Ev x y (dQ (ae T) T M kk (t,lv,ok) st) md')
 | 0,_,_,_,_,_,_,_,_,_,h,_=>by omega
 | _+1,_,_,_,_,0,_,_,_,_,_,h=>by omega
 | M+1,t,lv,ok,st,m+1,md,hcc,h0,hN,hM,hm=>by
   have hlx:=bG hx;have hly:=bu hy;have x1:=hlx.refs;have y1:=hly.refs;have g1:=cW hlx hly;have g2:=cV hlx hly;have g3:=cU hlx hly;have g4:=cX hlx hly;have g5:=cZ hlx hly;have g6:=cY hlx hly;have kx:=fun n0 acc r=>bc n0 acc r hlx;have ky:=fun n0 acc r=>bc n0 acc r hly;have rx:=fun n0 ks=>bd n0 ks hlx;have ry:=fun n0 ks=>bd n0 ks hly
   rw[aC];have ur:=aN t;have uc:=dq t
   cases ok with
   | false=>
     rw[oN];simp only[if_pos h0];simp only[pH];exact⟨md,by simp[an,dd,cn,dS,dR,bJ,a6,aX,cF,bY,ak,aV,aS,x1,y1,g1,g2,g3,g4,g5,g6,kx,ky,rx,ry,-af,-aq,-ag,-keeps,-cN,aL,aJ,aQ,aK,ay,aB,aP,aO,aM,aA,az,aI,ur,uc]⟩
   | true=>
     have hc:=hcc rfl;have q0:=dc hx hy hc;have qb:=me hx hy hc (bm L st);have eb:=mh hc;have bl:=mq T (aH st);have bk:=kI (T:=T) (x:=aH st);have ts:(aH st).text=(bm L st).text:=by rw[bp hc]
     rw[eb] at bl bk;rw[bQ,bh h0] at q0;rw[bh h0,show (dA T (bm L st)).1.enc=.agg [.str (dA T (bm L st)).1.n,.str (dA T (bm L st)).1.k,.int .i64 (dA T (bm L st)).1.l] from rfl] at qb;have qs:=jR (dA T (bm L st)).1 bl;generalize dA T (bm L st)=B at *;obtain⟨o,fd⟩:=B;dsimp only at qb qs bl bk
     cases fd with
     | false=>
       rw[dU eb rfl];simp only[if_pos h0];simp only[pH];exact⟨min md 3,by simp[an,dd,cn,dS,dR,bJ,a6,aX,cF,bY,ak,aV,aS,x1,y1,g1,g2,g3,g4,g5,g6,kx,ky,rx,ry,-af,-aq,-ag,-keeps,-cN,aL,aJ,aQ,aK,ay,aB,aP,aO,aM,aA,az,aI,ur,uc,q0,qb,qs]⟩
     | true=>
       by_cases c2:kk < o.l
       ·rw[dU eb (by simp[c2])];simp only[if_pos h0];simp only[pH];exact⟨min md 3,by simp[an,dd,cn,dS,dR,bJ,a6,aX,cF,bY,ak,aV,aS,x1,y1,g1,g2,g3,g4,g5,g6,kx,ky,rx,ry,-af,-aq,-ag,-keeps,-cN,aL,aJ,aQ,aK,ay,aB,aP,aO,aM,aA,az,aI,ur,uc,q0,qb,qs,c2]⟩
       by_cases c3:(a7 o).1 < lv
       ·rw[dU eb (by simp[c3])];simp only[if_pos h0];simp only[pH];exact⟨min md 3,by simp[an,dd,cn,dS,dR,bJ,a6,aX,cF,bY,ak,aV,aS,x1,y1,g1,g2,g3,g4,g5,g6,kx,ky,rx,ry,-af,-aq,-ag,-keeps,-cN,aL,aJ,aQ,aK,ay,aB,aP,aO,aM,aA,az,aI,ur,uc,q0,qb,qs,c2,c3]⟩
       have hkk:=bk rfl;have hat:=eE hc hkk;have c1:=hc.xu (by omega);have hl:=cD st;have hp:=bH hkk;have w1:=wrap_i64 (n:=(st.at_:Int)+1) (by omega) (by have:=hc.lb;omega);rw[pz eb c2 c3,ts];have qt:=da N hx hy c1 (a7 o).2 (by omega);rw[show (ax st).names=st.names from rfl,ar] at qt;have hlv:=(bK T).lv (a7 o).2 (ax st);have hln:=hlv.len;have hrc:(ae T (a7 o).2 (ax st)).1.2.2=true→RC T L (ae T (a7 o).2 (ax st)).2:=fun h=>(c1.ok ((bK T).ok _ _ h)).1
       have hnm:st.names≠[]→(ae T (a7 o).2 (ax st)).2.names≠[]:=hlv.names;have vr:=aN (ae T (a7 o).2 (ax st)).1.1;have vc:=dq (ae T (a7 o).2 (ax st)).1.1;have qc:=iq (bm L st).text [t,(ae T (a7 o).2 (ax st)).1.1] (by simp);rw[yk,List.map_cons,List.map_cons,List.map_nil,ar t,ar (ae T (a7 o).2 (ax st)).1.1] at qc;generalize ae T (a7 o).2 (ax st)=r at *;obtain⟨⟨u,lv2,ok2⟩,s1⟩:=r;dsimp only at *;by_cases h1:s1.names=[]
       ·rw[dO h0,h0,cH h1] at qt;obtain⟨md',ih⟩:=NP n N hx hy kk M (cb (bm L st).text [t,u]) o.l ok2 s1 m (min md 0) hrc h1 (by omega) (by omega) (by omega);rw[show (cb (bm L st).text [t,u]).kind=2 from rfl,show (cb (bm L st).text [t,u]).num=0 from rfl,show (cb (bm L st).text [t,u]).name=(bm L st).text from rfl,jC] at ih;refine⟨md',Eq.trans ?_ ih⟩;simp[an,dd,cn,dS,dR,bJ,a6,aX,cF,bY,ak,aV,aS,x1,y1,g1,g2,g3,g4,g5,g6,kx,ky,rx,ry,-af,-aq,-ag,-keeps,-cN,aL,aJ,aQ,aK,ay,aB,aP,aO,aM,aA,az,aI,ur,uc,q0,qb,qs,qt,qc,c2,c3,w1,vr,vc]
       ·rw[dO h0,h0,cq h1] at qt;obtain⟨md',ih⟩:=NR n N hx hy kk M (cb (bm L st).text [t,u]) o.l ok2 s1 m (min md 0) hrc h1 (by omega) (by omega) (by omega);rw[show (cb (bm L st).text [t,u]).kind=2 from rfl,show (cb (bm L st).text [t,u]).num=0 from rfl,show (cb (bm L st).text [t,u]).name=(bm L st).text from rfl,jC] at ih;have hnn:¬ (dQ (ae T) T M kk (cb (bm L st).text [t,u],o.l,ok2) s1).2.names=[]:=((gY (bK T) T M kk (cb (bm L st).text [t,u],o.l,ok2) s1).1.names h1)
        simp only[if_neg hnn];refine⟨md',Eq.trans ?_ ih⟩;have e1:=aG s1.names;have e2:=aF s1.names;have e3:=ah s1.names;generalize aj s1.names=Gs at *;generalize s1.names.length=gs at *;simp[an,dd,cn,dS,dR,bJ,a6,aX,cF,bY,ak,aV,aS,x1,y1,g1,g2,g3,g4,g5,g6,kx,ky,rx,ry,-af,-aq,-ag,-keeps,-cN,aL,aJ,aQ,aK,ay,aB,aP,aO,aM,aA,az,aI,ur,uc,e1,e2,e3,q0,qb,qs,qt,qc,c2,c3,w1,vr,vc]
theorem NO (n N:Nat) {x y:AV} {T:List bM} {L:List Tok} (hx:bD x=some T) (hy:bz y=some L) (kk:Int):∀(M:Nat) (t:Tm) (lv:Int) (ok:Bool) (st:St) (m md:Nat),(ok=true→RC T L st)→st.names≠[]→st.rest.length≤N→st.rest.length < M→M≤m→
 ∃md',ju 4 0 (cM (aT (au (bj dS (dR N)) (n+1)) (n+1) dd) cn 4 m (jl (.ptr 0 0) (.int .i64 kk) (.ptr 1 0) (.ptr 3 0) (.int .i64 lv) (.bool ok)) ⟨5,[.row (aj st.names),.row [.int .i64 t.kind,.int .i64 t.num,.str t.name,t.cp],.dead,.row [.int .i64 0,.int .i64 0,.str [],.aw],.row [x,y,.int .i64 st.at_,.int .i64 st.next,.vec 4 0 st.names.length 2 st.names.length]],0,md⟩)=
   CM x y (dQ (ae T) T M kk (t,lv,ok) st) md'
 | 0,_,_,_,_,_,_,_,_,_,h,_=>by omega
 | _+1,_,_,_,_,0,_,_,_,_,_,h=>by omega
 | M+1,t,lv,ok,st,m+1,md,hcc,h0,hN,hM,hm=>by
   have hlx:=bG hx;have hly:=bu hy;have x1:=hlx.refs;have y1:=hly.refs;have g1:=cW hlx hly;have g2:=cV hlx hly;have g3:=cU hlx hly;have g4:=cX hlx hly;have g5:=cZ hlx hly;have g6:=cY hlx hly;have kx:=fun n0 acc r=>bc n0 acc r hlx;have ky:=fun n0 acc r=>bc n0 acc r hly;have rx:=fun n0 ks=>bd n0 ks hlx;have ry:=fun n0 ks=>bd n0 ks hly
   rw[aC];have ur:=aN t;have uc:=dq t;have f1:=aG st.names;have f2:=aF st.names;have f3:=ah st.names
   cases ok with
   | false=>
     rw[oN];simp only[CM];generalize aj st.names=Fs at *;generalize st.names.length=ns at *;exact⟨0,by simp[an,dd,cn,dS,dR,bJ,a6,aX,cF,bY,ak,aV,aS,x1,y1,g1,g2,g3,g4,g5,g6,kx,ky,rx,ry,-af,-aq,-ag,-keeps,-cN,aL,aJ,aQ,aK,ay,aB,aP,aO,aM,aA,az,aI,ur,uc,f1,f2,f3]⟩
   | true=>
     have hc:=hcc rfl;have q0:=dc hx hy hc;have qb:=me hx hy hc (bm L st);have eb:=mh hc;have bl:=mq T (aH st);have bk:=kI (T:=T) (x:=aH st);have ts:(aH st).text=(bm L st).text:=by rw[bp hc]
     rw[eb] at bl bk;rw[bQ,bb h0] at q0;rw[bb h0,show (dA T (bm L st)).1.enc=.agg [.str (dA T (bm L st)).1.n,.str (dA T (bm L st)).1.k,.int .i64 (dA T (bm L st)).1.l] from rfl] at qb;have qs:=jR (dA T (bm L st)).1 bl;generalize dA T (bm L st)=B at *;obtain⟨o,fd⟩:=B;dsimp only at qb qs bl bk
     cases fd with
     | false=>
       rw[dU eb rfl];simp only[CM];generalize aj st.names=Fs at *;generalize st.names.length=ns at *;exact⟨0,by simp[an,dd,cn,dS,dR,bJ,a6,aX,cF,bY,ak,aV,aS,x1,y1,g1,g2,g3,g4,g5,g6,kx,ky,rx,ry,-af,-aq,-ag,-keeps,-cN,aL,aJ,aQ,aK,ay,aB,aP,aO,aM,aA,az,aI,ur,uc,f1,f2,f3,q0,qb,qs]⟩
     | true=>
       by_cases c2:kk < o.l
       ·rw[dU eb (by simp[c2])];simp only[CM];generalize aj st.names=Fs at *;generalize st.names.length=ns at *;exact⟨0,by simp[an,dd,cn,dS,dR,bJ,a6,aX,cF,bY,ak,aV,aS,x1,y1,g1,g2,g3,g4,g5,g6,kx,ky,rx,ry,-af,-aq,-ag,-keeps,-cN,aL,aJ,aQ,aK,ay,aB,aP,aO,aM,aA,az,aI,ur,uc,f1,f2,f3,q0,qb,qs,c2]⟩
       by_cases c3:(a7 o).1 < lv
       ·rw[dU eb (by simp[c3])];simp only[CM];generalize aj st.names=Fs at *;generalize st.names.length=ns at *;exact⟨0,by simp[an,dd,cn,dS,dR,bJ,a6,aX,cF,bY,ak,aV,aS,x1,y1,g1,g2,g3,g4,g5,g6,kx,ky,rx,ry,-af,-aq,-ag,-keeps,-cN,aL,aJ,aQ,aK,ay,aB,aP,aO,aM,aA,az,aI,ur,uc,f1,f2,f3,q0,qb,qs,c2,c3]⟩
       have hkk:=bk rfl;have hat:=eE hc hkk;have c1:=hc.xu (by omega);have hl:=cD st;have hp:=bH hkk;have w1:=wrap_i64 (n:=(st.at_:Int)+1) (by omega) (by have:=hc.lb;omega);rw[pz eb c2 c3,ts];have qt:=da N hx hy c1 (a7 o).2 (by omega);rw[show (ax st).names=st.names from rfl,ar] at qt;have hlv:=(bK T).lv (a7 o).2 (ax st);have hln:=hlv.len;have hrc:(ae T (a7 o).2 (ax st)).1.2.2=true→RC T L (ae T (a7 o).2 (ax st)).2:=fun h=>(c1.ok ((bK T).ok _ _ h)).1
       have hnm:st.names≠[]→(ae T (a7 o).2 (ax st)).2.names≠[]:=hlv.names;have vr:=aN (ae T (a7 o).2 (ax st)).1.1;have vc:=dq (ae T (a7 o).2 (ax st)).1.1;have qc:=iq (bm L st).text [t,(ae T (a7 o).2 (ax st)).1.1] (by simp);rw[yk,List.map_cons,List.map_cons,List.map_nil,ar t,ar (ae T (a7 o).2 (ax st)).1.1] at qc;generalize ae T (a7 o).2 (ax st)=r at *;obtain⟨⟨u,lv2,ok2⟩,s1⟩:=r;dsimp only at *;have h1:=hnm h0;rw[fM h0,dn h0 h1] at qt;obtain⟨md',ih⟩:=NO n N hx hy kk M (cb (bm L st).text [t,u]) o.l ok2 s1 m (min md 0) hrc h1 (by omega) (by omega) (by omega);rw[show (cb (bm L st).text [t,u]).kind=2 from rfl,show (cb (bm L st).text [t,u]).num=0 from rfl,show (cb (bm L st).text [t,u]).name=(bm L st).text from rfl,jC] at ih;refine⟨md',Eq.trans ?_ ih⟩;have e1:=aG s1.names;have e2:=aF s1.names;have e3:=ah s1.names;generalize aj s1.names=Gs at *;generalize s1.names.length=gs at *;generalize aj st.names=Fs at *;generalize st.names.length=ns at *;simp[an,dd,cn,dS,dR,bJ,a6,aX,cF,bY,ak,aV,aS,x1,y1,g1,g2,g3,g4,g5,g6,kx,ky,rx,ry,-af,-aq,-ag,-keeps,-cN,aL,aJ,aQ,aK,ay,aB,aP,aO,aM,aA,az,aI,ur,uc,f1,f2,f3,e1,e2,e3,q0,qb,qs,qt,qc,c2,c3,w1,vr,vc]
theorem Sr (n N:Nat) {x y:AV} {T:List bM} {L:List Tok} (hx:bD x=some T) (hy:bz y=some L) (kk:Int):∀(M:Nat) (t:Tm) (lv:Int) (ok:Bool) (st:St) (m md:Nat),(ok=true→RC T L st)→st.names≠[]→st.rest.length≤N→st.rest.length < M→M≤m→
 (∃md',ju 4 0 (cM (aT (au (bj dS (dR N)) (n+1)) (n+1) dd) cn 4 m (jl (.ptr 0 0) (.int .i64 kk) (.ptr 1 0) (.ptr 3 0) (.int .i64 lv) (.bool ok)) ⟨4,[.row [.int .i64 t.kind,.int .i64 t.num,.str t.name,t.cp],.row (aj st.names),.row [.int .i64 0,.int .i64 0,.str [],.aw],.row [x,y,.int .i64 st.at_,.int .i64 st.next,.vec 2 0 st.names.length 2 st.names.length]],4,md⟩)=
  HV x y ((t,lv,ok),st) md'∧dQ (ae T) T M kk (t,lv,ok) st=((t,lv,ok),st))∨∃md',ju 4 0 (cM (aT (au (bj dS (dR N)) (n+1)) (n+1) dd) cn 4 m (jl (.ptr 0 0) (.int .i64 kk) (.ptr 1 0) (.ptr 3 0) (.int .i64 lv) (.bool ok)) ⟨4,[.row [.int .i64 t.kind,.int .i64 t.num,.str t.name,t.cp],.row (aj st.names),.row [.int .i64 0,.int .i64 0,.str [],.aw],.row [x,y,.int .i64 st.at_,.int .i64 st.next,.vec 2 0 st.names.length 2 st.names.length]],4,md⟩)=
  CM x y (dQ (ae T) T M kk (t,lv,ok) st) md'
 | 0,_,_,_,_,_,_,_,_,_,h,_=>by omega
 | _+1,_,_,_,_,0,_,_,_,_,_,h=>by omega
 | M+1,t,lv,ok,st,m+1,md,hcc,h0,hN,hM,hm=>by
   have hlx:=bG hx;have hly:=bu hy;have x1:=hlx.refs;have y1:=hly.refs;have g1:=cW hlx hly;have g2:=cV hlx hly;have g3:=cU hlx hly;have g4:=cX hlx hly;have g5:=cZ hlx hly;have g6:=cY hlx hly;have kx:=fun n0 acc r=>bc n0 acc r hlx;have ky:=fun n0 acc r=>bc n0 acc r hly;have rx:=fun n0 ks=>bd n0 ks hlx;have ry:=fun n0 ks=>bd n0 ks hly
   rw[aC];have ur:=aN t;have uc:=dq t;have f1:=aG st.names;have f2:=aF st.names;have f3:=ah st.names
   cases ok with
   | false=>
     rw[oN];left;simp only[HV];generalize aj st.names=Fs at *;generalize st.names.length=ns at *;exact⟨md,by simp[an,dd,cn,dS,dR,bJ,a6,aX,cF,bY,ak,aV,aS,x1,y1,g1,g2,g3,g4,g5,g6,kx,ky,rx,ry,-af,-aq,-ag,-keeps,-cN,aL,aJ,aQ,aK,ay,aB,aP,aO,aM,aA,az,aI,ur,uc,f1,f2,f3],trivial⟩
   | true=>
     have hc:=hcc rfl;have q0:=dc hx hy hc;have qb:=me hx hy hc (bm L st);have eb:=mh hc;have bl:=mq T (aH st);have bk:=kI (T:=T) (x:=aH st);have ts:(aH st).text=(bm L st).text:=by rw[bp hc]
     rw[eb] at bl bk;rw[bQ,bb h0] at q0;rw[bb h0,show (dA T (bm L st)).1.enc=.agg [.str (dA T (bm L st)).1.n,.str (dA T (bm L st)).1.k,.int .i64 (dA T (bm L st)).1.l] from rfl] at qb;have qs:=jR (dA T (bm L st)).1 bl;generalize dA T (bm L st)=B at *;obtain⟨o,fd⟩:=B;dsimp only at qb qs bl bk
     cases fd with
     | false=>
       rw[dU eb rfl];left;simp only[HV];generalize aj st.names=Fs at *;generalize st.names.length=ns at *;exact⟨min md 4,by simp[an,dd,cn,dS,dR,bJ,a6,aX,cF,bY,ak,aV,aS,x1,y1,g1,g2,g3,g4,g5,g6,kx,ky,rx,ry,-af,-aq,-ag,-keeps,-cN,aL,aJ,aQ,aK,ay,aB,aP,aO,aM,aA,az,aI,ur,uc,f1,f2,f3,q0,qb,qs],trivial⟩
     | true=>
       by_cases c2:kk < o.l
       ·rw[dU eb (by simp[c2])];left;simp only[HV];generalize aj st.names=Fs at *;generalize st.names.length=ns at *;exact⟨min md 4,by simp[an,dd,cn,dS,dR,bJ,a6,aX,cF,bY,ak,aV,aS,x1,y1,g1,g2,g3,g4,g5,g6,kx,ky,rx,ry,-af,-aq,-ag,-keeps,-cN,aL,aJ,aQ,aK,ay,aB,aP,aO,aM,aA,az,aI,ur,uc,f1,f2,f3,q0,qb,qs,c2],trivial⟩
       by_cases c3:(a7 o).1 < lv
       ·rw[dU eb (by simp[c3])];left;simp only[HV];generalize aj st.names=Fs at *;generalize st.names.length=ns at *;exact⟨min md 4,by simp[an,dd,cn,dS,dR,bJ,a6,aX,cF,bY,ak,aV,aS,x1,y1,g1,g2,g3,g4,g5,g6,kx,ky,rx,ry,-af,-aq,-ag,-keeps,-cN,aL,aJ,aQ,aK,ay,aB,aP,aO,aM,aA,az,aI,ur,uc,f1,f2,f3,q0,qb,qs,c2,c3],trivial⟩
       have hkk:=bk rfl;have hat:=eE hc hkk;have c1:=hc.xu (by omega);have hl:=cD st;have hp:=bH hkk;have w1:=wrap_i64 (n:=(st.at_:Int)+1) (by omega) (by have:=hc.lb;omega);rw[pz eb c2 c3,ts];have qt:=da N hx hy c1 (a7 o).2 (by omega);rw[show (ax st).names=st.names from rfl,ar] at qt;have hlv:=(bK T).lv (a7 o).2 (ax st);have hln:=hlv.len;have hrc:(ae T (a7 o).2 (ax st)).1.2.2=true→RC T L (ae T (a7 o).2 (ax st)).2:=fun h=>(c1.ok ((bK T).ok _ _ h)).1
       have hnm:st.names≠[]→(ae T (a7 o).2 (ax st)).2.names≠[]:=hlv.names;have vr:=aN (ae T (a7 o).2 (ax st)).1.1;have vc:=dq (ae T (a7 o).2 (ax st)).1.1;have qc:=iq (bm L st).text [t,(ae T (a7 o).2 (ax st)).1.1] (by simp);rw[yk,List.map_cons,List.map_cons,List.map_nil,ar t,ar (ae T (a7 o).2 (ax st)).1.1] at qc;generalize ae T (a7 o).2 (ax st)=r at *;obtain⟨⟨u,lv2,ok2⟩,s1⟩:=r;dsimp only at *;have h1:=hnm h0;rw[fM h0,dn h0 h1] at qt;obtain⟨md',ih⟩:=NO n N hx hy kk M (cb (bm L st).text [t,u]) o.l ok2 s1 m (min md 0) hrc h1 (by omega) (by omega) (by omega);rw[show (cb (bm L st).text [t,u]).kind=2 from rfl,show (cb (bm L st).text [t,u]).num=0 from rfl,show (cb (bm L st).text [t,u]).name=(bm L st).text from rfl,jC] at ih;right;refine⟨md',Eq.trans ?_ ih⟩;have e1:=aG s1.names;have e2:=aF s1.names;have e3:=ah s1.names;generalize aj s1.names=Gs at *;generalize s1.names.length=gs at *;generalize aj st.names=Fs at *;generalize st.names.length=ns at *;simp[an,dd,cn,dS,dR,bJ,a6,aX,cF,bY,ak,aV,aS,x1,y1,g1,g2,g3,g4,g5,g6,kx,ky,rx,ry,-af,-aq,-ag,-keeps,-cN,aL,aJ,aQ,aK,ay,aB,aP,aO,aM,aA,az,aI,ur,uc,f1,f2,f3,e1,e2,e3,q0,qb,qs,qt,qc,c2,c3,w1,vr,vc]
theorem NK (n N:Nat) {x y:AV} {T:List bM} {L:List Tok} (hx:bD x=some T) (hy:bz y=some L) (kk:Int):∀(M:Nat) (t:Tm) (lv:Int) (ok:Bool) (st:St) (m md:Nat),(ok=true→RC T L st)→st.names≠[]→st.rest.length≤N→st.rest.length < M→M≤m→
 ∃md',ju 5 0 (cM (aT (au (bj dS (dR N)) (n+1)) (n+1) dd) cn 5 m (jl (.ptr 0 0) (.int .i64 kk) (.ptr 2 0) (.ptr 4 0) (.int .i64 lv) (.bool ok)) ⟨6,[.row (aj st.names),.row [.int .i64 t.kind,.int .i64 t.num,.str t.name,t.cp],.dead,.row [.int .i64 0,.int .i64 0,.str [],.aw],.dead,.row [x,y,.int .i64 st.at_,.int .i64 st.next,.vec 5 0 st.names.length 2 st.names.length]],0,md⟩)=
   Ek x y (dQ (ae T) T M kk (t,lv,ok) st) md'
 | 0,_,_,_,_,_,_,_,_,_,h,_=>by omega
 | _+1,_,_,_,_,0,_,_,_,_,_,h=>by omega
 | M+1,t,lv,ok,st,m+1,md,hcc,h0,hN,hM,hm=>by
   have hlx:=bG hx;have hly:=bu hy;have x1:=hlx.refs;have y1:=hly.refs;have g1:=cW hlx hly;have g2:=cV hlx hly;have g3:=cU hlx hly;have g4:=cX hlx hly;have g5:=cZ hlx hly;have g6:=cY hlx hly;have kx:=fun n0 acc r=>bc n0 acc r hlx;have ky:=fun n0 acc r=>bc n0 acc r hly;have rx:=fun n0 ks=>bd n0 ks hlx;have ry:=fun n0 ks=>bd n0 ks hly
   rw[aC];have ur:=aN t;have uc:=dq t;have f1:=aG st.names;have f2:=aF st.names;have f3:=ah st.names
   cases ok with
   | false=>
     rw[oN];simp only[Ek];generalize aj st.names=Fs at *;generalize st.names.length=ns at *;exact⟨0,by simp[an,dd,cn,dS,dR,bJ,a6,aX,cF,bY,ak,aV,aS,x1,y1,g1,g2,g3,g4,g5,g6,kx,ky,rx,ry,-af,-aq,-ag,-keeps,-cN,aL,aJ,aQ,aK,ay,aB,aP,aO,aM,aA,az,aI,ur,uc,f1,f2,f3]⟩
   | true=>
     have hc:=hcc rfl;have q0:=dc hx hy hc;have qb:=me hx hy hc (bm L st);have eb:=mh hc;have bl:=mq T (aH st);have bk:=kI (T:=T) (x:=aH st);have ts:(aH st).text=(bm L st).text:=by rw[bp hc]
     rw[eb] at bl bk;rw[bQ,bb h0] at q0;rw[bb h0,show (dA T (bm L st)).1.enc=.agg [.str (dA T (bm L st)).1.n,.str (dA T (bm L st)).1.k,.int .i64 (dA T (bm L st)).1.l] from rfl] at qb;have qs:=jR (dA T (bm L st)).1 bl;generalize dA T (bm L st)=B at *;obtain⟨o,fd⟩:=B;dsimp only at qb qs bl bk
     cases fd with
     | false=>
       rw[dU eb rfl];simp only[Ek];generalize aj st.names=Fs at *;generalize st.names.length=ns at *;exact⟨0,by simp[an,dd,cn,dS,dR,bJ,a6,aX,cF,bY,ak,aV,aS,x1,y1,g1,g2,g3,g4,g5,g6,kx,ky,rx,ry,-af,-aq,-ag,-keeps,-cN,aL,aJ,aQ,aK,ay,aB,aP,aO,aM,aA,az,aI,ur,uc,f1,f2,f3,q0,qb,qs]⟩
     | true=>
       by_cases c2:kk < o.l
       ·rw[dU eb (by simp[c2])];simp only[Ek];generalize aj st.names=Fs at *;generalize st.names.length=ns at *;exact⟨0,by simp[an,dd,cn,dS,dR,bJ,a6,aX,cF,bY,ak,aV,aS,x1,y1,g1,g2,g3,g4,g5,g6,kx,ky,rx,ry,-af,-aq,-ag,-keeps,-cN,aL,aJ,aQ,aK,ay,aB,aP,aO,aM,aA,az,aI,ur,uc,f1,f2,f3,q0,qb,qs,c2]⟩
       by_cases c3:(a7 o).1 < lv
       ·rw[dU eb (by simp[c3])];simp only[Ek];generalize aj st.names=Fs at *;generalize st.names.length=ns at *;exact⟨0,by simp[an,dd,cn,dS,dR,bJ,a6,aX,cF,bY,ak,aV,aS,x1,y1,g1,g2,g3,g4,g5,g6,kx,ky,rx,ry,-af,-aq,-ag,-keeps,-cN,aL,aJ,aQ,aK,ay,aB,aP,aO,aM,aA,az,aI,ur,uc,f1,f2,f3,q0,qb,qs,c2,c3]⟩
       have hkk:=bk rfl;have hat:=eE hc hkk;have c1:=hc.xu (by omega);have hl:=cD st;have hp:=bH hkk;have w1:=wrap_i64 (n:=(st.at_:Int)+1) (by omega) (by have:=hc.lb;omega);rw[pz eb c2 c3,ts];have qt:=da N hx hy c1 (a7 o).2 (by omega);rw[show (ax st).names=st.names from rfl,ar] at qt;have hlv:=(bK T).lv (a7 o).2 (ax st);have hln:=hlv.len;have hrc:(ae T (a7 o).2 (ax st)).1.2.2=true→RC T L (ae T (a7 o).2 (ax st)).2:=fun h=>(c1.ok ((bK T).ok _ _ h)).1
       have hnm:st.names≠[]→(ae T (a7 o).2 (ax st)).2.names≠[]:=hlv.names;have vr:=aN (ae T (a7 o).2 (ax st)).1.1;have vc:=dq (ae T (a7 o).2 (ax st)).1.1;have qc:=iq (bm L st).text [t,(ae T (a7 o).2 (ax st)).1.1] (by simp);rw[yk,List.map_cons,List.map_cons,List.map_nil,ar t,ar (ae T (a7 o).2 (ax st)).1.1] at qc;generalize ae T (a7 o).2 (ax st)=r at *;obtain⟨⟨u,lv2,ok2⟩,s1⟩:=r;dsimp only at *;have h1:=hnm h0;rw[fM h0,dn h0 h1] at qt;obtain⟨md',ih⟩:=NK n N hx hy kk M (cb (bm L st).text [t,u]) o.l ok2 s1 m (min md 0) hrc h1 (by omega) (by omega) (by omega);rw[show (cb (bm L st).text [t,u]).kind=2 from rfl,show (cb (bm L st).text [t,u]).num=0 from rfl,show (cb (bm L st).text [t,u]).name=(bm L st).text from rfl,jC] at ih;refine⟨md',Eq.trans ?_ ih⟩;have e1:=aG s1.names;have e2:=aF s1.names;have e3:=ah s1.names;generalize aj s1.names=Gs at *;generalize s1.names.length=gs at *;generalize aj st.names=Fs at *;generalize st.names.length=ns at *;simp[an,dd,cn,dS,dR,bJ,a6,aX,cF,bY,ak,aV,aS,x1,y1,g1,g2,g3,g4,g5,g6,kx,ky,rx,ry,-af,-aq,-ag,-keeps,-cN,aL,aJ,aQ,aK,ay,aB,aP,aO,aM,aA,az,aI,ur,uc,f1,f2,f3,e1,e2,e3,q0,qb,qs,qt,qc,c2,c3,w1,vr,vc]
theorem RG (n N:Nat) {x y:AV} {T:List bM} {L:List Tok} (hx:bD x=some T) (hy:bz y=some L) (kk:Int):∀(M:Nat) (t:Tm) (lv:Int) (ok:Bool) (st:St) (m md:Nat),(ok=true→RC T L st)→st.names≠[]→st.rest.length≤N→st.rest.length < M→M≤m→
 (∃md',ju 5 0 (cM (aT (au (bj dS (dR N)) (n+1)) (n+1) dd) cn 5 m (jl (.ptr 0 0) (.int .i64 kk) (.ptr 2 0) (.ptr 4 0) (.int .i64 lv) (.bool ok)) ⟨5,[.row [.int .i64 t.kind,.int .i64 t.num,.str t.name,t.cp],.row (aj st.names),.row [.int .i64 0,.int .i64 0,.str [],.aw],.dead,.row [x,y,.int .i64 st.at_,.int .i64 st.next,.vec 3 0 st.names.length 2 st.names.length]],5,md⟩)=
  Gp x y ((t,lv,ok),st) md'∧dQ (ae T) T M kk (t,lv,ok) st=((t,lv,ok),st))∨∃md',ju 5 0 (cM (aT (au (bj dS (dR N)) (n+1)) (n+1) dd) cn 5 m (jl (.ptr 0 0) (.int .i64 kk) (.ptr 2 0) (.ptr 4 0) (.int .i64 lv) (.bool ok)) ⟨5,[.row [.int .i64 t.kind,.int .i64 t.num,.str t.name,t.cp],.row (aj st.names),.row [.int .i64 0,.int .i64 0,.str [],.aw],.dead,.row [x,y,.int .i64 st.at_,.int .i64 st.next,.vec 3 0 st.names.length 2 st.names.length]],5,md⟩)=
  Ek x y (dQ (ae T) T M kk (t,lv,ok) st) md'
 | 0,_,_,_,_,_,_,_,_,_,h,_=>by omega
 | _+1,_,_,_,_,0,_,_,_,_,_,h=>by omega
 | M+1,t,lv,ok,st,m+1,md,hcc,h0,hN,hM,hm=>by
   have hlx:=bG hx;have hly:=bu hy;have x1:=hlx.refs;have y1:=hly.refs;have g1:=cW hlx hly;have g2:=cV hlx hly;have g3:=cU hlx hly;have g4:=cX hlx hly;have g5:=cZ hlx hly;have g6:=cY hlx hly;have kx:=fun n0 acc r=>bc n0 acc r hlx;have ky:=fun n0 acc r=>bc n0 acc r hly;have rx:=fun n0 ks=>bd n0 ks hlx;have ry:=fun n0 ks=>bd n0 ks hly
   rw[aC];have ur:=aN t;have uc:=dq t;have f1:=aG st.names;have f2:=aF st.names;have f3:=ah st.names
   cases ok with
   | false=>
     rw[oN];left;simp only[Gp];generalize aj st.names=Fs at *;generalize st.names.length=ns at *;exact⟨md,by simp[an,dd,cn,dS,dR,bJ,a6,aX,cF,bY,ak,aV,aS,x1,y1,g1,g2,g3,g4,g5,g6,kx,ky,rx,ry,-af,-aq,-ag,-keeps,-cN,aL,aJ,aQ,aK,ay,aB,aP,aO,aM,aA,az,aI,ur,uc,f1,f2,f3],trivial⟩
   | true=>
     have hc:=hcc rfl;have q0:=dc hx hy hc;have qb:=me hx hy hc (bm L st);have eb:=mh hc;have bl:=mq T (aH st);have bk:=kI (T:=T) (x:=aH st);have ts:(aH st).text=(bm L st).text:=by rw[bp hc]
     rw[eb] at bl bk;rw[bQ,bb h0] at q0;rw[bb h0,show (dA T (bm L st)).1.enc=.agg [.str (dA T (bm L st)).1.n,.str (dA T (bm L st)).1.k,.int .i64 (dA T (bm L st)).1.l] from rfl] at qb;have qs:=jR (dA T (bm L st)).1 bl;generalize dA T (bm L st)=B at *;obtain⟨o,fd⟩:=B;dsimp only at qb qs bl bk
     cases fd with
     | false=>
       rw[dU eb rfl];left;simp only[Gp];generalize aj st.names=Fs at *;generalize st.names.length=ns at *;exact⟨min md 5,by simp[an,dd,cn,dS,dR,bJ,a6,aX,cF,bY,ak,aV,aS,x1,y1,g1,g2,g3,g4,g5,g6,kx,ky,rx,ry,-af,-aq,-ag,-keeps,-cN,aL,aJ,aQ,aK,ay,aB,aP,aO,aM,aA,az,aI,ur,uc,f1,f2,f3,q0,qb,qs],trivial⟩
     | true=>
       by_cases c2:kk < o.l
       ·rw[dU eb (by simp[c2])];left;simp only[Gp];generalize aj st.names=Fs at *;generalize st.names.length=ns at *;exact⟨min md 5,by simp[an,dd,cn,dS,dR,bJ,a6,aX,cF,bY,ak,aV,aS,x1,y1,g1,g2,g3,g4,g5,g6,kx,ky,rx,ry,-af,-aq,-ag,-keeps,-cN,aL,aJ,aQ,aK,ay,aB,aP,aO,aM,aA,az,aI,ur,uc,f1,f2,f3,q0,qb,qs,c2],trivial⟩
       by_cases c3:(a7 o).1 < lv
       ·rw[dU eb (by simp[c3])];left;simp only[Gp];generalize aj st.names=Fs at *;generalize st.names.length=ns at *;exact⟨min md 5,by simp[an,dd,cn,dS,dR,bJ,a6,aX,cF,bY,ak,aV,aS,x1,y1,g1,g2,g3,g4,g5,g6,kx,ky,rx,ry,-af,-aq,-ag,-keeps,-cN,aL,aJ,aQ,aK,ay,aB,aP,aO,aM,aA,az,aI,ur,uc,f1,f2,f3,q0,qb,qs,c2,c3],trivial⟩
       have hkk:=bk rfl;have hat:=eE hc hkk;have c1:=hc.xu (by omega);have hl:=cD st;have hp:=bH hkk;have w1:=wrap_i64 (n:=(st.at_:Int)+1) (by omega) (by have:=hc.lb;omega);rw[pz eb c2 c3,ts];have qt:=da N hx hy c1 (a7 o).2 (by omega);rw[show (ax st).names=st.names from rfl,ar] at qt;have hlv:=(bK T).lv (a7 o).2 (ax st);have hln:=hlv.len;have hrc:(ae T (a7 o).2 (ax st)).1.2.2=true→RC T L (ae T (a7 o).2 (ax st)).2:=fun h=>(c1.ok ((bK T).ok _ _ h)).1
       have hnm:st.names≠[]→(ae T (a7 o).2 (ax st)).2.names≠[]:=hlv.names;have vr:=aN (ae T (a7 o).2 (ax st)).1.1;have vc:=dq (ae T (a7 o).2 (ax st)).1.1;have qc:=iq (bm L st).text [t,(ae T (a7 o).2 (ax st)).1.1] (by simp);rw[yk,List.map_cons,List.map_cons,List.map_nil,ar t,ar (ae T (a7 o).2 (ax st)).1.1] at qc;generalize ae T (a7 o).2 (ax st)=r at *;obtain⟨⟨u,lv2,ok2⟩,s1⟩:=r;dsimp only at *;have h1:=hnm h0;rw[fM h0,dn h0 h1] at qt;obtain⟨md',ih⟩:=NK n N hx hy kk M (cb (bm L st).text [t,u]) o.l ok2 s1 m (min md 0) hrc h1 (by omega) (by omega) (by omega);rw[show (cb (bm L st).text [t,u]).kind=2 from rfl,show (cb (bm L st).text [t,u]).num=0 from rfl,show (cb (bm L st).text [t,u]).name=(bm L st).text from rfl,jC] at ih;right;refine⟨md',Eq.trans ?_ ih⟩;have e1:=aG s1.names;have e2:=aF s1.names;have e3:=ah s1.names;generalize aj s1.names=Gs at *;generalize s1.names.length=gs at *;generalize aj st.names=Fs at *;generalize st.names.length=ns at *;simp[an,dd,cn,dS,dR,bJ,a6,aX,cF,bY,ak,aV,aS,x1,y1,g1,g2,g3,g4,g5,g6,kx,ky,rx,ry,-af,-aq,-ag,-keeps,-cN,aL,aJ,aQ,aK,ay,aB,aP,aO,aM,aA,az,aI,ur,uc,f1,f2,f3,e1,e2,e3,q0,qb,qs,qt,qc,c2,c3,w1,vr,vc]
theorem Bm (T:List bM) (n:Int) (st:St):ae T n st=dQ (ae T) T (st.rest.length+1) n (bo T n st).1 (bo T n st).2:=by
 have H:=mN T st.rest.length;have E:Tb st.rest.length (fu T st.rest.length) (ae T):=fun n s h=>zU T h n
 have p:=(mO H T (st.rest.length+1) n st).1.len;show fu T (st.rest.length+1) n st=_;unfold fu bo;rw[EC H E T (st.rest.length+1) (st.rest.length+1) n st (by omega) (by omega) (by omega)] at *;exact z8 H E T _ _ n _ _ (by omega) (by omega) (by omega)
theorem JV (N:Nat) {x y:AV} {T:List bM} {L:List Tok} {st:St} (hx:bD x=some T) (hy:bz y=some L) (hc:RC T L st) (hN:st.rest.length=N) (hE:bW Tryz.prog cm (bj dS (dR N))) (n:Int):
 bX Tryz.prog cm 71 [.ptr 0 0,.int .i64 n] (c8 x y st) (.tuple [(ae T n st).1.1.enc,.int .i64 (ae T n st).1.2.1,.bool (ae T n st).1.2.2]) (some (db x y st.names (ae T n st).2)):=by
 rw[Bm];have hlx:=bG hx;have hly:=bu hy;have x1:=hlx.refs;have y1:=hly.refs;have g1:=cW hlx hly;have g2:=cV hlx hly;have g3:=cU hlx hly;have g4:=cX hlx hly;have g5:=cZ hlx hly;have g6:=cY hlx hly;have kx:=fun n0 acc r=>bc n0 acc r hlx;have ky:=fun n0 acc r=>bc n0 acc r hly;have rx:=fun n0 ks=>bd n0 ks hlx;have ry:=fun n0 ks=>bd n0 ks hly
 have q:=HQ N hx hy hc n (by omega);have qn:=Gn N hx hy hc n (by omega);have hl:st.rest.length≤100000:=by rw[hc.rest,List.length_drop,fF];have:=hc.lb;omega
 have hlv:=mO (bK T) T (st.rest.length+1) n st;change Lv st (bo T n st).2∧((bo T n st).1.2.2=true→Ok st (bo T n st).2) at hlv;have hln:=hlv.1.len;have hrc:(bo T n st).1.2.2=true→RC T L (bo T n st).2:=fun h=>(hc.ok (hlv.2 h)).1
 have hnm:st.names≠[]→(bo T n st).2.names≠[]:=hlv.1.names;rw[ar] at q;generalize bo T n st=P at *;obtain⟨⟨t,lv,ok⟩,s1⟩:=P;dsimp only at q hln hrc hnm ⊢;have ur:=aN t;have uc:=dq t;have hnn:=(gY (bK T) T (st.rest.length+1) n (t,lv,ok) s1).1.names;have lC:=Sr 199998 N hx hy n (st.rest.length+1) t lv ok s1 199999 0 hrc;have lG:=RG 199998 N hx hy n (st.rest.length+1) t lv ok s1 199999 0 hrc;have lA:=NP 199998 N hx hy n (st.rest.length+1) t lv ok s1 199999 0 hrc;generalize dQ (ae T) T (st.rest.length+1) n (t,lv,ok) s1=Q at *;obtain⟨⟨u,lw,okk⟩,s2⟩:=Q;dsimp only at hnn lA lC lG ⊢;have vr:=aN u;have vc:=dq u;by_cases h0:st.names=[]
 ·rw[bh h0,h0] at q;rw[bh h0] at qn;by_cases h1:s1.names=[]
  ·rw[cH h1] at q;obtain⟨md',lp⟩:=lA h1 (by omega) (by omega) (by omega);by_cases h2:s2.names=[]
   ·rw[if_pos h2] at lp;simp only[pH,cn,jl,dS,dR] at lp;refine c7 (n:=200000) hE hlx hly h0 h2 ?_ (bn _ _ _) rfl;show (au (bj dS (dR N)) 200000 71 [.ptr 0 0,.int .i64 n] ⟨1,[.row [x,y,.int .i64 st.at_,.int .i64 st.next,.aw]],1,1⟩).map _=_;rw[ar];simp[qn,yF,an,uj,Mi,cn,dS,dR,bJ,a6,aX,cF,bY,ak,ur,uc,vr,vc,lp,q,x1,y1,g1,g2,g3,g4,g5,g6,kx,ky,rx,ry,-af,-aq,-ag,-keeps,-cN,aL,aJ,aQ,aK,ay,aB,aP,aO,aM,aA,az,aI]
   ·rw[if_neg h2] at lp;simp only[Ev,cn,jl,dS,dR] at lp;refine dv (n:=200000) hE hlx hly 3 (by decide) h0 h2 ?_ (bn _ _ _) rfl;show (au (bj dS (dR N)) 200000 71 [.ptr 0 0,.int .i64 n] ⟨1,[.row [x,y,.int .i64 st.at_,.int .i64 st.next,.aw]],1,1⟩).map _=_;rw[ar];have e1:=aG s2.names;have e2:=aF s2.names;have e3:=ah s2.names;generalize aj s2.names=Fse at *;generalize s2.names.length=nse at *;simp[qn,yF,an,uj,Mi,cn,dS,dR,bJ,a6,aX,cF,bY,ak,ur,uc,vr,vc,lp,q,e1,e2,e3,x1,y1,g1,g2,g3,g4,g5,g6,kx,ky,rx,ry,-af,-aq,-ag,-keeps,-cN,aL,aJ,aQ,aK,ay,aB,aP,aO,aM,aA,az,aI]
  ·rw[cq h1] at q;have h2:=hnn h1;rcases lC h1 (by omega) (by omega) (by omega) with⟨md',lp,eq⟩ | ⟨md',lp⟩
   ·cases eq;simp only[HV,cn,jl,dS,dR] at lp;refine dv (n:=200000) hE hlx hly 2 (by decide) h0 h1 ?_ (bn _ _ _) rfl;show (au (bj dS (dR N)) 200000 71 [.ptr 0 0,.int .i64 n] ⟨1,[.row [x,y,.int .i64 st.at_,.int .i64 st.next,.aw]],1,1⟩).map _=_;rw[ar];have d1:=aG s1.names;have d2:=aF s1.names;have d3:=ah s1.names;generalize aj s1.names=Fsd at *;generalize s1.names.length=nsd at *;simp[qn,yF,an,uj,Mi,cn,dS,dR,bJ,a6,aX,cF,bY,ak,ur,uc,vr,vc,lp,q,d1,d2,d3,x1,y1,g1,g2,g3,g4,g5,g6,kx,ky,rx,ry,-af,-aq,-ag,-keeps,-cN,aL,aJ,aQ,aK,ay,aB,aP,aO,aM,aA,az,aI]
   ·simp only[CM,cn,jl,dS,dR] at lp;refine dv (n:=200000) hE hlx hly 4 (by decide) h0 h2 ?_ (bn _ _ _) rfl;show (au (bj dS (dR N)) 200000 71 [.ptr 0 0,.int .i64 n] ⟨1,[.row [x,y,.int .i64 st.at_,.int .i64 st.next,.aw]],1,1⟩).map _=_;rw[ar];have d1:=aG s1.names;have d2:=aF s1.names;have d3:=ah s1.names;generalize aj s1.names=Fsd at *;generalize s1.names.length=nsd at *;have e1:=aG s2.names;have e2:=aF s2.names;have e3:=ah s2.names;generalize aj s2.names=Fse at *;generalize s2.names.length=nse at *;simp[qn,yF,an,uj,Mi,cn,dS,dR,bJ,a6,aX,cF,bY,ak,ur,uc,vr,vc,lp,q,d1,d2,d3,e1,e2,e3,x1,y1,g1,g2,g3,g4,g5,g6,kx,ky,rx,ry,-af,-aq,-ag,-keeps,-cN,aL,aJ,aQ,aK,ay,aB,aP,aO,aM,aA,az,aI]
 ·have h1:=hnm h0;rw[bb h0,dn h0 h1] at q;rw[bb h0] at qn;have h2:=hnn h1;rcases lG h1 (by omega) (by omega) (by omega) with⟨md',lp,eq⟩ | ⟨md',lp⟩
  ·cases eq;simp only[Gp,cn,jl,dS,dR] at lp;refine cJ (n:=200000) hE hlx hly 3 (by decide) h0 h1 ?_ (bn _ _ _) rfl;show (au (bj dS (dR N)) 200000 71 [.ptr 0 0,.int .i64 n] ⟨2,[.row (aj st.names),.row [x,y,.int .i64 st.at_,.int .i64 st.next,.vec 1 0 st.names.length 2 st.names.length]],2,2⟩).map _=_;rw[ar];have d1:=aG s1.names;have d2:=aF s1.names;have d3:=ah s1.names;generalize aj s1.names=Fsd at *;generalize s1.names.length=nsd at *;have f1:=aG st.names;have f2:=aF st.names;have f3:=ah st.names;generalize aj st.names=Fst at *;generalize st.names.length=nst at *;simp[qn,yF,an,uj,Mi,cn,dS,dR,bJ,a6,aX,cF,bY,ak,ur,uc,vr,vc,lp,q,d1,d2,d3,f1,f2,f3,x1,y1,g1,g2,g3,g4,g5,g6,kx,ky,rx,ry,-af,-aq,-ag,-keeps,-cN,aL,aJ,aQ,aK,ay,aB,aP,aO,aM,aA,az,aI]
  ·simp only[Ek,cn,jl,dS,dR] at lp;refine cJ (n:=200000) hE hlx hly 5 (by decide) h0 h2 ?_ (bn _ _ _) rfl;show (au (bj dS (dR N)) 200000 71 [.ptr 0 0,.int .i64 n] ⟨2,[.row (aj st.names),.row [x,y,.int .i64 st.at_,.int .i64 st.next,.vec 1 0 st.names.length 2 st.names.length]],2,2⟩).map _=_;rw[ar];have d1:=aG s1.names;have d2:=aF s1.names;have d3:=ah s1.names;generalize aj s1.names=Fsd at *;generalize s1.names.length=nsd at *;have e1:=aG s2.names;have e2:=aF s2.names;have e3:=ah s2.names;generalize aj s2.names=Fse at *;generalize s2.names.length=nse at *;have f1:=aG st.names;have f2:=aF st.names;have f3:=ah st.names;generalize aj st.names=Fst at *;generalize st.names.length=nst at *;simp[qn,yF,an,uj,Mi,cn,dS,dR,bJ,a6,aX,cF,bY,ak,ur,uc,vr,vc,lp,q,d1,d2,d3,e1,e2,e3,f1,f2,f3,x1,y1,g1,g2,g3,g4,g5,g6,kx,ky,rx,ry,-af,-aq,-ag,-keeps,-cN,aL,aJ,aQ,aK,ay,aB,aP,aO,aM,aA,az,aI]
theorem AK (N:Nat) (hN:dk Tryz.prog cm (fI N)):dk Tryz.prog cm (fI (N+1)):=fun args os v r hv=>by
 unfold fI at hv;dsimp only at hv;split at hv
 ·rename_i os n;split at hv
  ·rename_i R hR;split at hv
   ·rename_i hn;cases hv;obtain⟨hx,hy,rfl,h⟩:=gN hR;rw[ak];have hE:bW Tryz.prog cm (bj dS (dR N)):=eW (by simp[dS,yO.lift,rL.lift]) (by simp[dR,hN,qV,IL,Gm N hN]);by_cases hlt:R.st.rest.length < N
    ·exact hN _ _ _ _ (da N hx hy h n hlt)
    ·exact JV N hx hy h (by omega) hE n
   ·cases hv
  ·cases hv
 ·cases hv
theorem wJ:∀N,dk Tryz.prog cm (fI N)
 | 0=>fun args os v r hv=>by
   unfold fI at hv;dsimp only at hv;split at hv
   ·split at hv
    ·split at hv
     ·rename_i h;exact absurd h (by omega)
     ·cases hv
    ·cases hv
   ·cases hv
 | N+1=>AK N (wJ N)
def Te (x:Int):Prop:=-9223372036854775808≤x∧x < 9223372036854775808
instance (x:Int):Decidable (Te x):=inferInstanceAs (Decidable (_∧_))
def SR (neg:Bool) (c:UInt8):Int:=if neg then -((c.toNat:Int) - 48) else (c.toNat:Int) - 48
def Li (neg:Bool):Int→List UInt8→Option Int
 | n,[]=>some n
 | n,c::r=>if Te (n*10)∧Te (n*10+SR neg c) then Li neg (n*10+SR neg c) r else none
theorem wu:∀(l:List UInt8) (v:Nat),eN l=true→v≤9223372036854775807→Li false v l=if mX v l≤9223372036854775807 then some (mX v l:Int) else none
 | [],v,_,h=>by rw[rQ,if_pos h];rfl
 | c::r,v,hd,h=>by
   simp only[eN,dB,Bool.and_eq_true,decide_eq_true_eq] at hd;have hg:=zo r (v*10+(c.toNat - 48));have e:(v:Int)*10+SR false c=((v*10+(c.toNat - 48):Nat):Int):=by unfold SR;rw[if_neg (by simp)];omega
   rw[pf];unfold Li;rw[e];unfold Te;by_cases hx:v*10+(c.toNat - 48)≤9223372036854775807
   ·rw[if_pos (by omega)];exact wu r _ hd.2 hx
   ·rw[if_neg (by omega),if_neg (by omega)]
theorem uz (M:Nat) (hM:M≤18446744073709551615):∀(l:List UInt8) (acc:Nat),eN l=true→acc≤M→M < mX acc l→Lib.parseUintM M acc l=.range
 | [],acc,_,h1,h2=>by rw[rQ] at h2;omega
 | c::r,acc,h,h1,hv=>by
   simp only[eN,dB,Bool.and_eq_true,decide_eq_true_eq] at h;rw[pf] at hv;unfold Lib.parseUintM;rw[if_pos h.1];split
   ·rfl
   ·split
    ·rfl
    ·exact uz M hM r _ h.2 (by omega) hv
theorem wh (s:List UInt8) (hr:s≠[]) (hd:eN s=true) (hv:¬ mX 0 s≤9223372036854775807):Lib.parseIntB 64 s=.range:=by
 cases s with
 | nil=>exact absurd rfl hr
 | cons c r=>
   have hc:48≤c.toNat∧c.toNat≤57:=by
    simp only[eN,dB,Bool.and_eq_true,decide_eq_true_eq] at hd;exact hd.1
   unfold Lib.parseIntB Lib.parseUintB;simp only[show (c.toNat=43)=False from eq_false (by omega),show (c.toNat=45)=False from eq_false (by omega),or_false,if_false,hr];rw[show (2 ^ 64 - 1:Nat)=18446744073709551615 by decide];by_cases h:mX 0 (c::r)≤18446744073709551615
   ·rw[qC 18446744073709551615 (Nat.le_refl _) (c::r) 0 hd h];simp only[not_false_iff,true_and,false_and,if_false];rw[if_pos (by omega)]
   ·rw[uz 18446744073709551615 (Nat.le_refl _) (c::r) 0 hd (by omega) (by omega)]
theorem Dj (c:UInt8) (r:List UInt8) (hc:c≠45):kq (c::r)=if eN (c::r)=false then ((0:Int),(2:Int)) else match Li false 0 (c::r) with | some v=>(v,0) | none=>(0,3):=by
 unfold kq;rw[wD c r hc];dsimp only;rw[if_neg (by simp)]
 cases hd:eN (c::r) with
 | false=>rfl
 | true=>
   rw[if_neg (by simp),if_neg (by simp)];have e:=wu (c::r) 0 hd (by omega);rw[show (((0:Nat):Int))=0 by rfl] at e;rw[e];by_cases hv:mX 0 (c::r)≤9223372036854775807
   ·rw[if_pos hv,H4 (c::r) (by simp) hd hv]
   ·rw[if_neg hv,wh (c::r) (by simp) hd hv]
def og (t:Tok):Bool:=mi ⟨t.kind,t.text,t.num,t.gS,false⟩&&(decide (0≤t.at_)&&decide (t.at_ < 1000000))
theorem MZ (c:UInt8) (r:List UInt8) (hc:c≠45):0≤(kq (c::r)).1∧(kq (c::r)).1 < 9223372036854775808:=by
 rw[Dj c r hc];split
 ·exact⟨by decide,by decide⟩
 ·rename_i hd;have hd:eN (c::r)=true:=by simpa using hd
  have e:=wu (c::r) 0 hd (by omega);rw[show (((0:Nat):Int))=0 by rfl] at e;rw[e];by_cases hv:mX 0 (c::r)≤9223372036854775807
  ·rw[if_pos hv];exact⟨by dsimp only;omega,by dsimp only;omega⟩
  ·rw[if_neg hv];exact⟨by decide,by decide⟩
theorem one_num (l:List UInt8):0≤(cC l).1.num∧(cC l).1.num < 9223372036854775808:=by
 unfold cC;split
 ·exact (by decide:(0:Int)≤0∧(0:Int) < 9223372036854775808)
 rename_i c r;split
 ·exact (by decide:(0:Int)≤0∧(0:Int) < 9223372036854775808)
 split
 ·exact (by decide:(0:Int)≤0∧(0:Int) < 9223372036854775808)
 split
 ·rename_i hd;have h1:=jZ (r:=r) hd;have hc:c≠45:=fun e=>by rw[e] at hd;exact absurd hd (by decide)
  obtain⟨k,hk⟩:∃k,runN dB (c::r)=k+1:=⟨runN dB (c::r) - 1,by omega⟩
  dsimp only;rw[hk,List.take_succ_cons];exact MZ c _ hc
 repeat' split
 all_goals exact (by decide:(0:Int)≤0∧(0:Int) < 9223372036854775808)
theorem BI:∀(f:Nat) (s:List UInt8) (j:Nat) (acc:List Tok),s.length≤4096→acc.all og=true→acc.length≤1024→(oA f s j acc).1.all og=true∧(oA f s j acc).1.length≤1024
 | 0,s,j,acc,_,_,_=>⟨rfl,Nat.zero_le _⟩
 | f+1,s,j,acc,h1,h2,h3=>by
   unfold oA;split
   ·exact⟨h2,h3⟩
   rename_i hj;split
   ·exact⟨rfl,by simp⟩
   split
   ·exact⟨rfl,by simp⟩
   rename_i hl;have hl1:¬ (((cC (s.drop j)).1.kind=1∨(cC (s.drop j)).1.kind=2)∧64 < (cC (s.drop j)).1.text.length):=fun e=>hl (.inl e)
   have hl2:¬ acc.length=1024:=fun e=>hl (.inr e)
   have hn:=one_num (s.drop j);refine BI f s _ _ h1 ?_ (by simp;omega);rw[List.all_append,h2,Bool.true_and];generalize (cC (s.drop j)).1=t at *;simp only[List.all_cons,List.all_nil,Bool.and_true,og,mi,ey,Bool.and_eq_true,Bool.or_eq_true,decide_eq_true_eq,Bool.not_eq_true',Bool.or_eq_false_iff,decide_eq_false_iff_not];refine⟨⟨?_,hn.1,hn.2⟩,by omega,by omega⟩;by_cases hk:t.kind=1∨t.kind=2
   ·exact .inl (by have:=fun h=>hl1 ⟨hk,h⟩;omega)
   ·exact .inr ⟨fun e=>hk (.inl e),fun e=>hk (.inr e)⟩
theorem oP (s:List UInt8):(dJ s).1.all og=true∧(dJ s).1.length≤1024:=by
 unfold dJ;split
 ·exact⟨rfl,by simp⟩
 ·exact BI _ s _ [] (by omega) rfl (by simp)
theorem zJ:∀{L:List Tok},L.all og=true→(iR L).all mi=true
 | [],_=>rfl
 | t::r,h=>by
   rw[List.all_cons,Bool.and_eq_true] at h;unfold iR;rw[List.all_cons,Bool.and_eq_true];refine⟨?_,zJ h.2⟩;have:=h.1;unfold og at this;rw[Bool.and_eq_true] at this;exact this.1
def qf (L:List Tok) (a:Nat):St:=⟨a,(iR L).drop a,0,[]⟩
theorem R9 {T:List bM} {L:List Tok} {a:Nat} (hT:T.length < 1000000) (hL:L.all og=true) (hl:L.length≤1024) (ha:a≤L.length+1):RC T L (qf L a):=by
 have hat:(L.all fun t=>decide (0≤t.at_)&&decide (t.at_ < 1000000))=true:=by
  rw[List.all_eq_true] at hL ⊢;intro t ht;have:=hL t ht;unfold og at this;rw[Bool.and_eq_true] at this;exact this.2
 exact⟨rfl,ha,Nat.zero_le _,Nat.le_refl _,by omega,hT,zJ hL,fun p hp=>(List.not_mem_nil hp).elim,rfl,hat⟩
def fT (T:List bM) (st:St):(Tm×Int)×St:=
 let r:=ae T 1200 ⟨st.at_,st.rest,0,[]⟩
 if !r.1.2.2||!decide ((aH r.2).kind=6) then ((sW,2),r.2) else if fR r.1.1 then ((r.1.1,0),ax r.2) else ((sW,3),ax r.2)
section
variable {X:World→Prop} {P:Program} {E:Env} (hE:bW P X E) {n f:Nat} {rest:List AV} {x y v:AV} {st st':St} (hx:Laid x) (hy:Laid y)
include hE hx hy
theorem u7 (h0:st.names≠[]) (h1:st'.names=[]) (he:(au E n f (.ptr 0 0::rest) (tI [.row [x,y,.int .i64 st.at_,.int .i64 st.next,.vec 1 0 st.names.length 2 st.names.length],.row (aj st.names)])).map (fun p=>(p.1,p.2.get 0))=
 some (v,some (.row [x,y,.int .i64 st'.at_,.int .i64 st'.next,.aw])))
 (hv:v.refs=0) (hr:AV.ai rest=0):bX P X f (.ptr 0 0::rest) (c8 x y st) v (some [.row [x,y,.int .i64 st'.at_,.int .i64 st'.next,.aw],.dead]):=by
 have e1:c8 x y st=[.row [x,y,.int .i64 st.at_,.int .i64 st.next,.vec 1 0 st.names.length 2 st.names.length],.row (aj st.names)]:=by
  unfold c8 kl rz
  cases hn:st.names with
  | nil=>exact absurd hn h0
  | cons p r=>rfl
 rw[e1];obtain⟨⟨v1,h⟩,g1,g2⟩:=Option.map_eq_some_iff.1 he;simp only[Prod.mk.injEq] at g2;obtain⟨rfl,g3⟩:=g2;refine vg (qs:=[]) hE g1 hv hr (by simp) (by simp) ⟨fun i o ho hd=>?_,fun i j o o' hi hj hdi hdj e=>?_⟩
 ·match i,ho with
  | 0,ho=>
    simp only[List.getElem?_cons_zero,Option.some.injEq] at ho;subst ho;rw[pD hx hy];exact⟨g3,rX hx hy _ _ (by rfl)⟩
  | 1,ho=>
    simp only[List.getElem?_cons_succ,List.getElem?_cons_zero,Option.some.injEq] at ho;exact absurd ho.symm hd
  | i+2,ho=>simp at ho
 ·have pick:∀(i:Nat) (o:bf),([.row [x,y,.int .i64 st'.at_,.int .i64 st'.next,.aw],.dead]:List bf)[i]? =some o→(∀_:o=.dead,False)→i=0:=fun i o ho hd=>by
   match i,ho with
   | 0,_=>rfl
   | 1,ho=>
     simp only[List.getElem?_cons_succ,List.getElem?_cons_zero,Option.some.injEq] at ho;exact absurd ho.symm hd
   | i+2,ho=>simp at ho
  rw[pick i o hi hdi,pick j o' hj hdj]
end
noncomputable def nz (x y:AV) (l:List (List UInt8×Int)) (st':St):List bf:=open Classical in if l=[] then db x y l st' else if st'.names=[] then [.row [x,y,.int .i64 st'.at_,.int .i64 st'.next,.aw],.dead] else db x y l st'
theorem su {x y:AV} {st:St}:nz x y [] st=db x y [] st:=if_pos rfl
theorem vq {x y:AV} {l:List (List UInt8×Int)} {st:St} (h0:l≠[]) (h:st.names≠[]):nz x y l st=db x y l st:=by
 unfold nz;rw[if_neg h0,if_neg h]
theorem sc {x y:AV} {l:List (List UInt8×Int)} {st:St} (h0:l≠[]) (h:st.names=[]):nz x y l st=[.row [x,y,.int .i64 st.at_,.int .i64 st.next,.aw],.dead]:=by
 unfold nz;rw[if_neg h0,if_pos h]
noncomputable def gk:List aR:=[nW]
noncomputable def gg (N:Nat):List bL:=[pG,fI N]
def bx (st:St):St:=⟨st.at_,st.rest,0,[]⟩
theorem Kk {T:List bM} {L:List Tok} {st:St} (h:RC T L st):RC T L (bx st):=⟨h.rest,h.le,Nat.zero_le _,Nat.le_refl _,h.lb,h.tb,h.tk,fun p hp=>(List.not_mem_nil hp).elim,rfl,h.rF⟩
theorem JK {T:List bM} {L:List Tok} {st:St} (h:RC T L st):uS (bx st):=by
 refine⟨?_,fun p hp=>(List.not_mem_nil hp).elim,?_⟩
 ·show st.rest.all mi=true;rw[h.rest];exact List.all_eq_true.mpr fun x hx=>List.all_eq_true.mp h.tk x (List.mem_of_mem_drop hx)
 ·show 0+st.rest.length≤_;rw[h.rest,List.length_drop,fF];have:=h.lb;omega
theorem Ot (N:Nat) {x y:AV} {T:List bM} {L:List Tok} {st:St} (hx:bD x=some T) (hy:bz y=some L) (hc:RC T L st) (hN:st.rest.length < N) (hE:bW Tryz.prog cm (bj gk (gg N))) (hok:(ae T 1200 (bx st)).1.2.2=false):
 bX Tryz.prog cm 43 [.ptr 0 0] (c8 x y st) (.tuple [sW.enc,.int .i64 2]) (some (nz x y st.names (ae T 1200 (bx st)).2)):=by
 have hlx:=bG hx;have hly:=bu hy;have x1:=hlx.refs;have y1:=hly.refs;have g1:=cW hlx hly;have g2:=cV hlx hly;have g3:=cU hlx hly;have g4:=cX hlx hly;have g5:=cZ hlx hly;have g6:=cY hlx hly;have kx:=fun n0 acc r=>bc n0 acc r hlx;have ky:=fun n0 acc r=>bc n0 acc r hly;have rx:=fun n0 ks=>bd n0 ks hlx;have ry:=fun n0 ks=>bd n0 ks hly
 have hc0:=Kk hc;have q:=da N hx hy hc0 1200 hN;rw[hok,bh (st:=bx st) rfl,show (bx st).names=[] from rfl,show (bx st).at_=st.at_ from rfl,show (((bx st).next:Nat):Int)=0 from rfl,ar] at q;have ur:=aN (ae T 1200 (bx st)).1.1;have uc:=dq (ae T 1200 (bx st)).1.1;have zc:sW.enc=.agg [.int .i64 0,.int .i64 0,.str [],.aw]:=rfl;generalize (ae T 1200 (bx st)).2=s1 at *;generalize (ae T 1200 (bx st)).1.1=u at *;generalize (ae T 1200 (bx st)).1.2.1=lv at *;by_cases h0:st.names=[]
 ·rw[h0,su,←h0];by_cases h1:s1.names=[]
  ·rw[cH h1] at q;refine c7 (n:=8) hE hlx hly h0 h1 ?_ rfl rfl;show (au (bj gk (gg N)) 8 43 [.ptr 0 0] ⟨1,[.row [x,y,.int .i64 st.at_,.int .i64 st.next,.aw]],1,1⟩).map _=_;rw[zc];simp[an,ie,zf,gk,gg,dL,aX,ak,q,ur,uc,x1,y1,g1,g2,g3,g4,g5,g6,kx,ky,rx,ry,-af,-aq,-ag,-keeps,-cN,aL,aJ,aQ,aK,ay,aB,aP,aO,aM,aA,az,aI]
  ·rw[cq h1] at q;refine dv (n:=8) hE hlx hly 2 (by decide) h0 h1 ?_ rfl rfl;show (au (bj gk (gg N)) 8 43 [.ptr 0 0] ⟨1,[.row [x,y,.int .i64 st.at_,.int .i64 st.next,.aw]],1,1⟩).map _=_;rw[zc];have e1:=aG s1.names;have e2:=aF s1.names;have e3:=ah s1.names;generalize aj s1.names=Fs1 at *;generalize s1.names.length=ns1 at *;simp[an,ie,zf,gk,gg,dL,aX,ak,q,ur,uc,e1,e2,e3,x1,y1,g1,g2,g3,g4,g5,g6,kx,ky,rx,ry,-af,-aq,-ag,-keeps,-cN,aL,aJ,aQ,aK,ay,aB,aP,aO,aM,aA,az,aI]
 ·by_cases h1:s1.names=[]
  ·rw[sc h0 h1];rw[cH h1] at q;refine u7 (n:=8) hE hlx hly h0 h1 ?_ rfl rfl;show (au (bj gk (gg N)) 8 43 [.ptr 0 0] ⟨2,[.row (aj st.names),.row [x,y,.int .i64 st.at_,.int .i64 st.next,.vec 1 0 st.names.length 2 st.names.length]],2,2⟩).map _=_;rw[zc];have f1:=aG st.names;have f2:=aF st.names;have f3:=ah st.names;generalize aj st.names=Fst at *;generalize st.names.length=nst at *;simp[an,ie,zf,gk,gg,dL,aX,ak,q,ur,uc,f1,f2,f3,x1,y1,g1,g2,g3,g4,g5,g6,kx,ky,rx,ry,-af,-aq,-ag,-keeps,-cN,aL,aJ,aQ,aK,ay,aB,aP,aO,aM,aA,az,aI]
  ·rw[vq h0 h1];rw[cq h1] at q;refine cJ (n:=8) hE hlx hly 3 (by decide) h0 h1 ?_ rfl rfl;show (au (bj gk (gg N)) 8 43 [.ptr 0 0] ⟨2,[.row (aj st.names),.row [x,y,.int .i64 st.at_,.int .i64 st.next,.vec 1 0 st.names.length 2 st.names.length]],2,2⟩).map _=_;rw[zc];have e1:=aG s1.names;have e2:=aF s1.names;have e3:=ah s1.names;generalize aj s1.names=Fs1 at *;generalize s1.names.length=ns1 at *;have f1:=aG st.names;have f2:=aF st.names;have f3:=ah st.names;generalize aj st.names=Fst at *;generalize st.names.length=nst at *;simp[an,ie,zf,gk,gg,dL,aX,ak,q,ur,uc,e1,e2,e3,f1,f2,f3,x1,y1,g1,g2,g3,g4,g5,g6,kx,ky,rx,ry,-af,-aq,-ag,-keeps,-cN,aL,aJ,aQ,aK,ay,aB,aP,aO,aM,aA,az,aI]
theorem Nk (N:Nat) {x y:AV} {T:List bM} {L:List Tok} {st:St} (hx:bD x=some T) (hy:bz y=some L) (hc:RC T L st) (hN:st.rest.length < N) (hE:bW Tryz.prog cm (bj gk (gg N))) (hok:(ae T 1200 (bx st)).1.2.2=true) (hk:¬ (aH (ae T 1200 (bx st)).2).kind=6):
 bX Tryz.prog cm 43 [.ptr 0 0] (c8 x y st) (.tuple [sW.enc,.int .i64 2]) (some (nz x y st.names (ae T 1200 (bx st)).2)):=by
 have hlx:=bG hx;have hly:=bu hy;have x1:=hlx.refs;have y1:=hly.refs;have g1:=cW hlx hly;have g2:=cV hlx hly;have g3:=cU hlx hly;have g4:=cX hlx hly;have g5:=cZ hlx hly;have g6:=cY hlx hly;have kx:=fun n0 acc r=>bc n0 acc r hlx;have ky:=fun n0 acc r=>bc n0 acc r hly;have rx:=fun n0 ks=>bd n0 ks hlx;have ry:=fun n0 ks=>bd n0 ks hly
 have hc0:=Kk hc;have q:=da N hx hy hc0 1200 hN;rw[hok,bh (st:=bx st) rfl,show (bx st).names=[] from rfl,show (bx st).at_=st.at_ from rfl,show (((bx st).next:Nat):Int)=0 from rfl,ar] at q;have ur:=aN (ae T 1200 (bx st)).1.1;have uc:=dq (ae T 1200 (bx st)).1.1;have ho:=(bK T).ok 1200 (bx st) hok;obtain⟨c1,hat1⟩:=hc0.ok ho;have q1:=dc hx hy c1;have ks:(aH (ae T 1200 (bx st)).2).kind=(bm L (ae T 1200 (bx st)).2).kind:=by rw[bp c1]
 rw[ks] at hk;rw[bQ] at q1;have zc:sW.enc=.agg [.int .i64 0,.int .i64 0,.str [],.aw]:=rfl;generalize (ae T 1200 (bx st)).2=s1 at *;generalize (ae T 1200 (bx st)).1.1=u at *;generalize (ae T 1200 (bx st)).1.2.1=lv at *;by_cases h0:st.names=[]
 ·rw[h0,su,←h0];by_cases h1:s1.names=[]
  ·rw[cH h1] at q;rw[bh h1] at q1;refine c7 (n:=8) hE hlx hly h0 h1 ?_ rfl rfl;show (au (bj gk (gg N)) 8 43 [.ptr 0 0] ⟨1,[.row [x,y,.int .i64 st.at_,.int .i64 st.next,.aw]],1,1⟩).map _=_;rw[zc];simp[an,ie,zf,gk,gg,dL,aX,ak,q,ur,uc,q1,hk,x1,y1,g1,g2,g3,g4,g5,g6,kx,ky,rx,ry,-af,-aq,-ag,-keeps,-cN,aL,aJ,aQ,aK,ay,aB,aP,aO,aM,aA,az,aI]
  ·rw[cq h1] at q;rw[bb h1] at q1;refine dv (n:=8) hE hlx hly 2 (by decide) h0 h1 ?_ rfl rfl;show (au (bj gk (gg N)) 8 43 [.ptr 0 0] ⟨1,[.row [x,y,.int .i64 st.at_,.int .i64 st.next,.aw]],1,1⟩).map _=_;rw[zc];have e1:=aG s1.names;have e2:=aF s1.names;have e3:=ah s1.names;generalize aj s1.names=Fs1 at *;generalize s1.names.length=ns1 at *;simp[an,ie,zf,gk,gg,dL,aX,ak,q,ur,uc,q1,hk,e1,e2,e3,x1,y1,g1,g2,g3,g4,g5,g6,kx,ky,rx,ry,-af,-aq,-ag,-keeps,-cN,aL,aJ,aQ,aK,ay,aB,aP,aO,aM,aA,az,aI]
 ·by_cases h1:s1.names=[]
  ·rw[sc h0 h1];rw[cH h1] at q;rw[bh h1] at q1;refine u7 (n:=8) hE hlx hly h0 h1 ?_ rfl rfl;show (au (bj gk (gg N)) 8 43 [.ptr 0 0] ⟨2,[.row (aj st.names),.row [x,y,.int .i64 st.at_,.int .i64 st.next,.vec 1 0 st.names.length 2 st.names.length]],2,2⟩).map _=_;rw[zc];have f1:=aG st.names;have f2:=aF st.names;have f3:=ah st.names;generalize aj st.names=Fst at *;generalize st.names.length=nst at *;simp[an,ie,zf,gk,gg,dL,aX,ak,q,ur,uc,q1,hk,f1,f2,f3,x1,y1,g1,g2,g3,g4,g5,g6,kx,ky,rx,ry,-af,-aq,-ag,-keeps,-cN,aL,aJ,aQ,aK,ay,aB,aP,aO,aM,aA,az,aI]
  ·rw[vq h0 h1];rw[cq h1] at q;rw[bb h1] at q1;refine cJ (n:=8) hE hlx hly 3 (by decide) h0 h1 ?_ rfl rfl;show (au (bj gk (gg N)) 8 43 [.ptr 0 0] ⟨2,[.row (aj st.names),.row [x,y,.int .i64 st.at_,.int .i64 st.next,.vec 1 0 st.names.length 2 st.names.length]],2,2⟩).map _=_;rw[zc];have e1:=aG s1.names;have e2:=aF s1.names;have e3:=ah s1.names;generalize aj s1.names=Fs1 at *;generalize s1.names.length=ns1 at *;have f1:=aG st.names;have f2:=aF st.names;have f3:=ah st.names;generalize aj st.names=Fst at *;generalize st.names.length=nst at *;simp[an,ie,zf,gk,gg,dL,aX,ak,q,ur,uc,q1,hk,e1,e2,e3,f1,f2,f3,x1,y1,g1,g2,g3,g4,g5,g6,kx,ky,rx,ry,-af,-aq,-ag,-keeps,-cN,aL,aJ,aQ,aK,ay,aB,aP,aO,aM,aA,az,aI]
theorem Lz (N:Nat) {x y:AV} {T:List bM} {L:List Tok} {st:St} (hx:bD x=some T) (hy:bz y=some L) (hc:RC T L st) (hN:st.rest.length < N) (hE:bW Tryz.prog cm (bj gk (gg N))) (hok:(ae T 1200 (bx st)).1.2.2=true) (hk:(aH (ae T 1200 (bx st)).2).kind=6) (hg:fR (ae T 1200 (bx st)).1.1=false):
 bX Tryz.prog cm 43 [.ptr 0 0] (c8 x y st) (.tuple [sW.enc,.int .i64 3]) (some (nz x y st.names (ax (ae T 1200 (bx st)).2))):=by
 have hlx:=bG hx;have hly:=bu hy;have x1:=hlx.refs;have y1:=hly.refs;have g1:=cW hlx hly;have g2:=cV hlx hly;have g3:=cU hlx hly;have g4:=cX hlx hly;have g5:=cZ hlx hly;have g6:=cY hlx hly;have kx:=fun n0 acc r=>bc n0 acc r hlx;have ky:=fun n0 acc r=>bc n0 acc r hly;have rx:=fun n0 ks=>bd n0 ks hlx;have ry:=fun n0 ks=>bd n0 ks hly
 have hc0:=Kk hc;have q:=da N hx hy hc0 1200 hN;rw[hok,bh (st:=bx st) rfl,show (bx st).names=[] from rfl,show (bx st).at_=st.at_ from rfl,show (((bx st).next:Nat):Int)=0 from rfl,ar] at q;have ur:=aN (ae T 1200 (bx st)).1.1;have uc:=dq (ae T 1200 (bx st)).1.1;have ho:=(bK T).ok 1200 (bx st) hok;obtain⟨c1,hat1⟩:=hc0.ok ho;have q1:=dc hx hy c1;have ks:(aH (ae T 1200 (bx st)).2).kind=(bm L (ae T 1200 (bx st)).2).kind:=by rw[bp c1]
 rw[ks] at hk;rw[bQ] at q1;rw[hk] at q1;have w1:=wrap_i64 (n:=((ae T 1200 (bx st)).2.at_:Int)+1) (by omega) (by have:=c1.lb;omega);have hB:=(El T ((bx st).rest.length+1)).b 1200 (bx st) (JK hc) hok;have hbk:=hB.1;have hrl:st.rest.length≤100000:=by rw[hc.rest,List.length_drop,fF];have:=hc.lb;omega
 have hrl2:(bx st).rest.length=st.rest.length:=rfl;have q2:=mG (ae T 1200 (bx st)).1.1 (by change Tm.gV (ae T 1200 (bx st)).1.1≤_ at hbk;omega);rw[hg,ar] at q2;generalize (ae T 1200 (bx st)).2=s1 at *;generalize (ae T 1200 (bx st)).1.1=u at *;generalize (ae T 1200 (bx st)).1.2.1=lv at *;by_cases h0:st.names=[]
 ·rw[h0,su,←h0];by_cases h1:s1.names=[]
  ·rw[cH h1] at q;rw[bh h1] at q1;refine c7 (n:=8) hE hlx hly h0 h1 ?_ rfl rfl;show (au (bj gk (gg N)) 8 43 [.ptr 0 0] ⟨1,[.row [x,y,.int .i64 st.at_,.int .i64 st.next,.aw]],1,1⟩).map _=_;rw[fg];simp only[ig,ic,ib];simp[an,ie,zf,gk,gg,dL,aX,ak,q,ur,uc,q1,q2,w1,x1,y1,g1,g2,g3,g4,g5,g6,kx,ky,rx,ry,-af,-aq,-ag,-keeps,-cN,aL,aJ,aQ,aK,ay,aB,aP,aO,aM,aA,az,aI]
  ·rw[cq h1] at q;rw[bb h1] at q1;refine dv (n:=8) hE hlx hly 2 (by decide) h0 h1 ?_ rfl rfl;show (au (bj gk (gg N)) 8 43 [.ptr 0 0] ⟨1,[.row [x,y,.int .i64 st.at_,.int .i64 st.next,.aw]],1,1⟩).map _=_;rw[fg];simp only[ig,ic,ib];have e1:=aG s1.names;have e2:=aF s1.names;have e3:=ah s1.names;generalize aj s1.names=Fs1 at *;generalize s1.names.length=ns1 at *;simp[an,ie,zf,gk,gg,dL,aX,ak,q,ur,uc,q1,q2,w1,e1,e2,e3,x1,y1,g1,g2,g3,g4,g5,g6,kx,ky,rx,ry,-af,-aq,-ag,-keeps,-cN,aL,aJ,aQ,aK,ay,aB,aP,aO,aM,aA,az,aI]
 ·by_cases h1:s1.names=[]
  ·rw[sc (st:=ax s1) h0 h1];rw[cH h1] at q;rw[bh h1] at q1;refine u7 (n:=8) hE hlx hly h0 h1 ?_ rfl rfl;show (au (bj gk (gg N)) 8 43 [.ptr 0 0] ⟨2,[.row (aj st.names),.row [x,y,.int .i64 st.at_,.int .i64 st.next,.vec 1 0 st.names.length 2 st.names.length]],2,2⟩).map _=_;rw[fg];simp only[ig,ic,ib];have f1:=aG st.names;have f2:=aF st.names;have f3:=ah st.names;generalize aj st.names=Fst at *;generalize st.names.length=nst at *;simp[an,ie,zf,gk,gg,dL,aX,ak,q,ur,uc,q1,q2,w1,f1,f2,f3,x1,y1,g1,g2,g3,g4,g5,g6,kx,ky,rx,ry,-af,-aq,-ag,-keeps,-cN,aL,aJ,aQ,aK,ay,aB,aP,aO,aM,aA,az,aI]
  ·rw[vq (st:=ax s1) h0 h1];rw[cq h1] at q;rw[bb h1] at q1;refine cJ (n:=8) hE hlx hly 3 (by decide) h0 h1 ?_ rfl rfl;show (au (bj gk (gg N)) 8 43 [.ptr 0 0] ⟨2,[.row (aj st.names),.row [x,y,.int .i64 st.at_,.int .i64 st.next,.vec 1 0 st.names.length 2 st.names.length]],2,2⟩).map _=_;rw[fg];simp only[ig,ic,ib];have e1:=aG s1.names;have e2:=aF s1.names;have e3:=ah s1.names;generalize aj s1.names=Fs1 at *;generalize s1.names.length=ns1 at *;have f1:=aG st.names;have f2:=aF st.names;have f3:=ah st.names;generalize aj st.names=Fst at *;generalize st.names.length=nst at *;simp[an,ie,zf,gk,gg,dL,aX,ak,q,ur,uc,q1,q2,w1,e1,e2,e3,f1,f2,f3,x1,y1,g1,g2,g3,g4,g5,g6,kx,ky,rx,ry,-af,-aq,-ag,-keeps,-cN,aL,aJ,aQ,aK,ay,aB,aP,aO,aM,aA,az,aI]
theorem PV (N:Nat) {x y:AV} {T:List bM} {L:List Tok} {st:St} (hx:bD x=some T) (hy:bz y=some L) (hc:RC T L st) (hN:st.rest.length < N) (hE:bW Tryz.prog cm (bj gk (gg N))) (hok:(ae T 1200 (bx st)).1.2.2=true) (hk:(aH (ae T 1200 (bx st)).2).kind=6) (hg:fR (ae T 1200 (bx st)).1.1=true):
 bX Tryz.prog cm 43 [.ptr 0 0] (c8 x y st) (.tuple [(ae T 1200 (bx st)).1.1.enc,.int .i64 0]) (some (nz x y st.names (ax (ae T 1200 (bx st)).2))):=by
 have hlx:=bG hx;have hly:=bu hy;have x1:=hlx.refs;have y1:=hly.refs;have g1:=cW hlx hly;have g2:=cV hlx hly;have g3:=cU hlx hly;have g4:=cX hlx hly;have g5:=cZ hlx hly;have g6:=cY hlx hly;have kx:=fun n0 acc r=>bc n0 acc r hlx;have ky:=fun n0 acc r=>bc n0 acc r hly;have rx:=fun n0 ks=>bd n0 ks hlx;have ry:=fun n0 ks=>bd n0 ks hly
 have hc0:=Kk hc;have q:=da N hx hy hc0 1200 hN;rw[hok,bh (st:=bx st) rfl,show (bx st).names=[] from rfl,show (bx st).at_=st.at_ from rfl,show (((bx st).next:Nat):Int)=0 from rfl,ar] at q;have ur:=aN (ae T 1200 (bx st)).1.1;have uc:=dq (ae T 1200 (bx st)).1.1;have ho:=(bK T).ok 1200 (bx st) hok;obtain⟨c1,hat1⟩:=hc0.ok ho;have q1:=dc hx hy c1;have ks:(aH (ae T 1200 (bx st)).2).kind=(bm L (ae T 1200 (bx st)).2).kind:=by rw[bp c1]
 rw[ks] at hk;rw[bQ] at q1;rw[hk] at q1;have w1:=wrap_i64 (n:=((ae T 1200 (bx st)).2.at_:Int)+1) (by omega) (by have:=c1.lb;omega);have hB:=(El T ((bx st).rest.length+1)).b 1200 (bx st) (JK hc) hok;have hbk:=hB.1;have hrl:st.rest.length≤100000:=by rw[hc.rest,List.length_drop,fF];have:=hc.lb;omega
 have hrl2:(bx st).rest.length=st.rest.length:=rfl;have q2:=mG (ae T 1200 (bx st)).1.1 (by change Tm.gV (ae T 1200 (bx st)).1.1≤_ at hbk;omega);rw[hg,ar] at q2;generalize (ae T 1200 (bx st)).2=s1 at *;generalize (ae T 1200 (bx st)).1.1=u at *;generalize (ae T 1200 (bx st)).1.2.1=lv at *;by_cases h0:st.names=[]
 ·rw[h0,su,←h0];by_cases h1:s1.names=[]
  ·rw[cH h1] at q;rw[bh h1] at q1;refine c7 (n:=8) hE hlx hly h0 h1 ?_ (by simp[AV.refs,AV.ai,Tm.cT]) rfl;show (au (bj gk (gg N)) 8 43 [.ptr 0 0] ⟨1,[.row [x,y,.int .i64 st.at_,.int .i64 st.next,.aw]],1,1⟩).map _=_;rw[ar];simp only[ig,ic,ib];simp[an,ie,zf,gk,gg,dL,aX,ak,q,ur,uc,q1,q2,w1,x1,y1,g1,g2,g3,g4,g5,g6,kx,ky,rx,ry,-af,-aq,-ag,-keeps,-cN,aL,aJ,aQ,aK,ay,aB,aP,aO,aM,aA,az,aI]
  ·rw[cq h1] at q;rw[bb h1] at q1;refine dv (n:=8) hE hlx hly 2 (by decide) h0 h1 ?_ (by simp[AV.refs,AV.ai,Tm.cT]) rfl;show (au (bj gk (gg N)) 8 43 [.ptr 0 0] ⟨1,[.row [x,y,.int .i64 st.at_,.int .i64 st.next,.aw]],1,1⟩).map _=_;rw[ar];simp only[ig,ic,ib];have e1:=aG s1.names;have e2:=aF s1.names;have e3:=ah s1.names;generalize aj s1.names=Fs1 at *;generalize s1.names.length=ns1 at *;simp[an,ie,zf,gk,gg,dL,aX,ak,q,ur,uc,q1,q2,w1,e1,e2,e3,x1,y1,g1,g2,g3,g4,g5,g6,kx,ky,rx,ry,-af,-aq,-ag,-keeps,-cN,aL,aJ,aQ,aK,ay,aB,aP,aO,aM,aA,az,aI]
 ·by_cases h1:s1.names=[]
  ·rw[sc (st:=ax s1) h0 h1];rw[cH h1] at q;rw[bh h1] at q1;refine u7 (n:=8) hE hlx hly h0 h1 ?_ (by simp[AV.refs,AV.ai,Tm.cT]) rfl;show (au (bj gk (gg N)) 8 43 [.ptr 0 0] ⟨2,[.row (aj st.names),.row [x,y,.int .i64 st.at_,.int .i64 st.next,.vec 1 0 st.names.length 2 st.names.length]],2,2⟩).map _=_;rw[ar];simp only[ig,ic,ib];have f1:=aG st.names;have f2:=aF st.names;have f3:=ah st.names;generalize aj st.names=Fst at *;generalize st.names.length=nst at *;simp[an,ie,zf,gk,gg,dL,aX,ak,q,ur,uc,q1,q2,w1,f1,f2,f3,x1,y1,g1,g2,g3,g4,g5,g6,kx,ky,rx,ry,-af,-aq,-ag,-keeps,-cN,aL,aJ,aQ,aK,ay,aB,aP,aO,aM,aA,az,aI]
  ·rw[vq (st:=ax s1) h0 h1];rw[cq h1] at q;rw[bb h1] at q1;refine cJ (n:=8) hE hlx hly 3 (by decide) h0 h1 ?_ (by simp[AV.refs,AV.ai,Tm.cT]) rfl;show (au (bj gk (gg N)) 8 43 [.ptr 0 0] ⟨2,[.row (aj st.names),.row [x,y,.int .i64 st.at_,.int .i64 st.next,.vec 1 0 st.names.length 2 st.names.length]],2,2⟩).map _=_;rw[ar];simp only[ig,ic,ib];have e1:=aG s1.names;have e2:=aF s1.names;have e3:=ah s1.names;generalize aj s1.names=Fs1 at *;generalize s1.names.length=ns1 at *;have f1:=aG st.names;have f2:=aF st.names;have f3:=ah st.names;generalize aj st.names=Fst at *;generalize st.names.length=nst at *;simp[an,ie,zf,gk,gg,dL,aX,ak,q,ur,uc,q1,q2,w1,e1,e2,e3,f1,f2,f3,x1,y1,g1,g2,g3,g4,g5,g6,kx,ky,rx,ry,-af,-aq,-ag,-keeps,-cN,aL,aJ,aQ,aK,ay,aB,aP,aO,aM,aA,az,aI]
noncomputable def yP:bL:=⟨43,fun
 | [.ptr 0 0],os=>(match qh os with
   | some R=>some (.tuple [(fT R.T R.st).1.1.enc,.int .i64 (fT R.T R.st).1.2],some (nz R.x R.y R.st.names (fT R.T R.st).2))
   | none=>none)
 | _,_=>none⟩
theorem iY:yP.f=43:=(rfl)
theorem Jm {x y:AV} {T:List bM} {L:List Tok} {st:St} (hx:bD x=some T) (hy:bz y=some L) (h:RC T L st):
 yP.S [.ptr 0 0] (c8 x y st)=some (.tuple [(fT T st).1.1.enc,.int .i64 (fT T st).1.2],some (nz x y st.names (fT T st).2)):=by
 simp only[yP,iy hx hy h]
theorem Jj:dk Tryz.prog cm yP:=fun args os v r hv=>by
 unfold yP at hv;dsimp only at hv;split at hv
 ·rename_i os;split at hv
  ·rename_i R hR;cases hv;obtain⟨hx,hy,rfl,h⟩:=gN hR;rw[iY];have hE:bW Tryz.prog cm (bj gk (gg (R.st.rest.length+1))):=eW (by simp[gk,tA.lift]) (by simp[gg,qV,wJ]);have hn:R.st.rest.length < R.st.rest.length+1:=by omega
   unfold fT;dsimp only;change bX Tryz.prog cm 43 [.ptr 0 0] _ (.tuple [(if (!(ae R.T 1200 (bx R.st)).1.2.2||!decide ((aH (ae R.T 1200 (bx R.st)).2).kind=6))=true then ((sW,(2:Int)),(ae R.T 1200 (bx R.st)).2) else if fR (ae R.T 1200 (bx R.st)).1.1=true then (((ae R.T 1200 (bx R.st)).1.1,0),ax (ae R.T 1200 (bx R.st)).2) else ((sW,3),ax (ae R.T 1200 (bx R.st)).2)).1.1.enc,.int .i64 (if (!(ae R.T 1200 (bx R.st)).1.2.2||!decide ((aH (ae R.T 1200 (bx R.st)).2).kind=6))=true then ((sW,(2:Int)),(ae R.T 1200 (bx R.st)).2) else if fR (ae R.T 1200 (bx R.st)).1.1=true then (((ae R.T 1200 (bx R.st)).1.1,0),ax (ae R.T 1200 (bx R.st)).2) else ((sW,3),ax (ae R.T 1200 (bx R.st)).2)).1.2]) (some (nz R.x R.y R.st.names (if (!(ae R.T 1200 (bx R.st)).1.2.2||!decide ((aH (ae R.T 1200 (bx R.st)).2).kind=6))=true then ((sW,(2:Int)),(ae R.T 1200 (bx R.st)).2) else if fR (ae R.T 1200 (bx R.st)).1.1=true then (((ae R.T 1200 (bx R.st)).1.1,0),ax (ae R.T 1200 (bx R.st)).2) else ((sW,3),ax (ae R.T 1200 (bx R.st)).2)).2))
   cases hok:(ae R.T 1200 (bx R.st)).1.2.2 with
   | false=>
     rw[if_pos (by rfl)];exact Ot _ hx hy h hn hE hok
   | true=>
     by_cases hk:(aH (ae R.T 1200 (bx R.st)).2).kind=6
     ·rw[if_neg (by simp[hk])]
      cases hg:fR (ae R.T 1200 (bx R.st)).1.1 with
      | false=>
        rw[if_neg (by simp)];exact Lz _ hx hy h hn hE hok hk hg
      | true=>
        rw[if_pos rfl];exact PV _ hx hy h hn hE hok hk hg
     ·rw[if_pos (by simp[hk])];exact Nk _ hx hy h hn hE hok hk
  ·cases hv
 ·cases hv
def IA (p:List UInt8×Int):AV:=.agg [.str p.1,.int .i64 p.2]
def eA:List (List UInt8×Int)→AV
 | []=>.aw
 | p::r=>.sl ((p::r).map IA)
theorem xN {l:List (List UInt8×Int)} (h:l≠[]):eA l=.sl (l.map IA):=by
 cases l with
 | nil=>exact absurd rfl h
 | cons p r=>rfl
theorem CI (l:List (List UInt8×Int)):∀x ∈ l.map IA,xI 2 x:=by
 intro x hx;obtain⟨o,_,rfl⟩:=List.mem_map.1 hx;exact⟨rfl,rfl,(fun h=>by cases h),fun _=>rfl,rfl⟩
theorem Ec (l:List (List UInt8×Int)):(l.map IA).flatMap AV.cells=aj l:=by
 induction l with
 | nil=>rfl
 | cons t r ih=>
   unfold aj at ih ⊢;rw[List.map_cons,List.flatMap_cons,List.flatMap_cons,ih];rfl
theorem CR (l:List (List UInt8×Int)):AV.ai (l.map IA)=0:=by
 induction l with
 | nil=>rfl
 | cons t r ih=>simp[AV.ai,ih,IA,AV.refs]
theorem BY (l:List (List UInt8×Int)):(eA l).refs=0:=by
 cases l with
 | nil=>rfl
 | cons p r=>simp[eA,AV.refs]
theorem SM {h:aa} {n0 d id:Nat} {l:List (List UInt8×Int)} (hid:n0≤id) (hg:h.get id=some (.row (aj l))):
 hO h n0 (d+2) (.vec id 0 l.length 2 l.length)=some (.sl (l.map IA),[id]):=
 vl hid hg (by omega) (CI l) (by simp) (by rw[mu];exact Nat.le_refl _) (by rw[Ec,List.take_of_length_le];rw[mu];exact Nat.le_refl _)
theorem P0 {x y:AV} (hx:Laid x) (hy:Laid y) (a b:Int) (τ:List Nat):fc [x,y,.int .i64 a,.int .i64 b,.aw] τ=τ:=by
 simp only[fc,hx.top,hy.top];rfl
def ll (T:List bM) (s:List UInt8):(Tm×List (List UInt8×Int))×Int:=
 if iJ T=false then ((sW,[]),1)
 else if (dJ s).2.2≠0 then ((sW,[]),(dJ s).2.2)
 else if (fT T (qf (dJ s).1 0)).1.2=2∨((fT T (qf (dJ s).1 0)).2.at_:Int) < (dJ s).1.length then ((sW,[]),2)
 else if (fT T (qf (dJ s).1 0)).1.2≠0 then ((sW,[]),(fT T (qf (dJ s).1 0)).1.2)
 else (((fT T (qf (dJ s).1 0)).1.1,(fT T (qf (dJ s).1 0)).2.names),0)
def jw (r:(Tm×List (List UInt8×Int))×Int):AV:=.tuple [r.1.1.enc,eA r.1.2,.int .i64 r.2]
theorem D7 (r:(Tm×List (List UInt8×Int))×Int):(jw r).refs=0:=by simp[jw,AV.refs,AV.ai,Tm.cT,BY]
noncomputable def tY:List aR:=[o4,HN]
noncomputable def tP:List bL:=[yP]
theorem I3 {x:AV} {T:List bM} (hx:bD x=some T) (hT:T.length < 1000000) (s:List UInt8):∃h',au (bj tY tP) 30 14 [.agg [x],.str s] h0=some (jw (ll T s),h'):=by
 have qg:=Dc hx (by omega);have qc:=Ez s;have hgd:=oP s;have hy:=tz (dJ s).1;unfold uU at qc;unfold ll;have hlx:=bG hx;have hly:=bu hy;have x1:=hlx.refs;have y1:=hly.refs;have g1:=cW hlx hly;have g2:=cV hlx hly;have g3:=cU hlx hly;have g4:=cX hlx hly;have g5:=cZ hlx hly;have g6:=cY hlx hly;have kx:=fun n0 acc r=>bc n0 acc r hlx;have ky:=fun n0 acc r=>bc n0 acc r hly;have rx:=fun n0 ks=>bd n0 ks hlx;have ry:=fun n0 ks=>bd n0 ks hly
 have hfx:=fun h=>hlx.fr h 0 6
 have hxc:=hlx.UB;have u1:=P0 hlx hly;have hyc:=hly.UB;have hln:=oZ hy
 cases hg:iJ T with
 | false=>
   rw[if_pos rfl];rw[hg] at qg;exact⟨_,by simp[u1,lS,lP,Gk,G3,tY,tP,gm,fJ,iY,qg,qc,hxc,hyc,hfx,jw,eA,fg,x1,y1,g1,g2,g3,g4,g5,g6,kx,ky,rx,ry,-af,-aq,-ag,-keeps,-cN,aL,aJ,aQ,aK,ay,aB,aP,aO,aM,aA,az,aI];with_reducible rfl⟩
 | true=>
   rw[if_neg (by simp)];rw[hg] at qg;by_cases he:(dJ s).2.2=0
   ·rw[if_neg (fun h=>h he)];have hc:=R9 (T:=T) (a:=0) hT hgd.1 hgd.2 (Nat.zero_le _);have q:=Jm hx hy hc;rw[bh (st:=qf (dJ s).1 0) rfl,show (qf (dJ s).1 0).names=[] from rfl,su,show (((qf (dJ s).1 0).at_:Nat):Int)=0 from rfl,show (((qf (dJ s).1 0).next:Nat):Int)=0 from rfl,ar] at q;rw[he] at qc;generalize jz (dJ s).1=y at *;generalize (dJ s).1.length=n at *;generalize (dJ s).2.1=pp at *;generalize fT T (qf (dJ s).1 0)=r at *;obtain⟨⟨t,e⟩,s1⟩:=r;dsimp only at *;have ur:=aN t;have uc:=dq t;by_cases h1:s1.names=[]
    ·rw[cH h1] at q;by_cases a1:e=2
     ·rw[if_pos (.inl a1)];exact⟨_,by simp[u1,lS,lP,Gk,G3,tY,tP,gm,fJ,iY,qg,qc,hxc,hyc,hfx,jw,eA,fg,x1,y1,g1,g2,g3,g4,g5,g6,kx,ky,rx,ry,-af,-aq,-ag,-keeps,-cN,aL,aJ,aQ,aK,ay,aB,aP,aO,aM,aA,az,aI,an,q,hln,ur,uc,aV,a1];with_reducible rfl⟩
     by_cases a2:(s1.at_:Int) < (n:Int)
     ·rw[if_pos (.inr a2)];exact⟨_,by simp[u1,lS,lP,Gk,G3,tY,tP,gm,fJ,iY,qg,qc,hxc,hyc,hfx,jw,eA,fg,x1,y1,g1,g2,g3,g4,g5,g6,kx,ky,rx,ry,-af,-aq,-ag,-keeps,-cN,aL,aJ,aQ,aK,ay,aB,aP,aO,aM,aA,az,aI,an,q,hln,ur,uc,aV,a1,a2];with_reducible rfl⟩
     rw[if_neg (fun h=>h.elim a1 a2)];by_cases a3:e=0
     ·rw[if_neg (fun h=>h a3)];have tc:=ar t;rw[h1];exact⟨_,by simp[u1,lS,lP,Gk,G3,tY,tP,gm,fJ,iY,qg,qc,hxc,hyc,hfx,jw,eA,fg,x1,y1,g1,g2,g3,g4,g5,g6,kx,ky,rx,ry,-af,-aq,-ag,-keeps,-cN,aL,aJ,aQ,aK,ay,aB,aP,aO,aM,aA,az,aI,an,q,hln,ur,uc,aV,a1,a2,a3,tc];with_reducible rfl⟩
     ·rw[if_pos a3];exact⟨_,by simp[u1,lS,lP,Gk,G3,tY,tP,gm,fJ,iY,qg,qc,hxc,hyc,hfx,jw,eA,fg,x1,y1,g1,g2,g3,g4,g5,g6,kx,ky,rx,ry,-af,-aq,-ag,-keeps,-cN,aL,aJ,aQ,aK,ay,aB,aP,aO,aM,aA,az,aI,an,q,hln,ur,uc,aV,a1,a2,a3];with_reducible rfl⟩
    ·rw[cq h1] at q;have e1:=aG s1.names;have e2:=aF s1.names;have e3:=ah s1.names;have fk:∀(h:aa) (n0 d id:Nat),n0≤id→h.get id=some (.row (aj s1.names))→hO h n0 (d+2) (.vec id 0 s1.names.length 2 s1.names.length)=some (.sl (s1.names.map IA),[id]):=fun h n0 d id a b=>SM a b
     have nr:=CR s1.names;have nl:=xN h1;by_cases a1:e=2
     ·rw[if_pos (.inl a1)];generalize aj s1.names=Fs1 at *;generalize s1.names.length=ns1 at *;exact⟨_,by simp[u1,lS,lP,Gk,G3,tY,tP,gm,fJ,iY,qg,qc,hxc,hyc,hfx,jw,eA,fg,x1,y1,g1,g2,g3,g4,g5,g6,kx,ky,rx,ry,-af,-aq,-ag,-keeps,-cN,aL,aJ,aQ,aK,ay,aB,aP,aO,aM,aA,az,aI,an,q,hln,ur,uc,aV,e1,e2,e3,a1];with_reducible rfl⟩
     by_cases a2:(s1.at_:Int) < (n:Int)
     ·rw[if_pos (.inr a2)];generalize aj s1.names=Fs1 at *;generalize s1.names.length=ns1 at *;exact⟨_,by simp[u1,lS,lP,Gk,G3,tY,tP,gm,fJ,iY,qg,qc,hxc,hyc,hfx,jw,eA,fg,x1,y1,g1,g2,g3,g4,g5,g6,kx,ky,rx,ry,-af,-aq,-ag,-keeps,-cN,aL,aJ,aQ,aK,ay,aB,aP,aO,aM,aA,az,aI,an,q,hln,ur,uc,aV,e1,e2,e3,a1,a2];with_reducible rfl⟩
     rw[if_neg (fun h=>h.elim a1 a2)];by_cases a3:e=0
     ·rw[if_neg (fun h=>h a3)];have tc:=ar t;unfold jw;dsimp only;rw[nl];generalize s1.names.map IA=NL at *;generalize aj s1.names=Fs1 at *;generalize s1.names.length=ns1 at *;exact⟨_,by simp[u1,lS,lP,Gk,G3,tY,tP,gm,fJ,iY,qg,qc,hxc,hyc,hfx,jw,eA,fg,x1,y1,g1,g2,g3,g4,g5,g6,kx,ky,rx,ry,-af,-aq,-ag,-keeps,-cN,aL,aJ,aQ,aK,ay,aB,aP,aO,aM,aA,az,aI,an,q,hln,ur,uc,aV,e1,e2,e3,a1,a2,a3,tc,fk,nr,-mB];with_reducible rfl⟩
     ·rw[if_pos a3];generalize aj s1.names=Fs1 at *;generalize s1.names.length=ns1 at *;exact⟨_,by simp[u1,lS,lP,Gk,G3,tY,tP,gm,fJ,iY,qg,qc,hxc,hyc,hfx,jw,eA,fg,x1,y1,g1,g2,g3,g4,g5,g6,kx,ky,rx,ry,-af,-aq,-ag,-keeps,-cN,aL,aJ,aQ,aK,ay,aB,aP,aO,aM,aA,az,aI,an,q,hln,ur,uc,aV,e1,e2,e3,a1,a2,a3];with_reducible rfl⟩
   ·rw[if_pos he];exact⟨_,by simp[u1,lS,lP,Gk,G3,tY,tP,gm,fJ,iY,qg,qc,hxc,hyc,hfx,jw,eA,fg,x1,y1,g1,g2,g3,g4,g5,g6,kx,ky,rx,ry,-af,-aq,-ag,-keeps,-cN,aL,aJ,aQ,aK,ay,aB,aP,aO,aM,aA,az,aI,he];with_reducible rfl⟩
noncomputable def qz:aR:=⟨14,fun
 | [.agg [x],.str s]=>(match bD x with | some T=>if T.length < 1000000 then some (jw (ll T s)) else none | none=>none)
 | _=>none⟩
theorem gJ:qz.f=14:=(rfl)
theorem tp {x:AV} {T:List bM} (hx:bD x=some T) (hT:T.length < 1000000) (s:List UInt8):qz.S [.agg [x],.str s]=some (jw (ll T s)):=by
 simp only[qz,hx,if_pos hT]
theorem yo:eK Tryz.prog cm qz:=fun args v hv=>by
 unfold qz at hv ⊢;dsimp only at hv ⊢;split at hv
 ·rename_i x s;split at hv
  ·rename_i T hx;split at hv
   ·rename_i hT;cases hv;obtain⟨h',e⟩:=I3 hx hT s;exact ct (eW (ss:=tY) (ms:=tP) (by simp[tY,DU.lift,F4]) (by simp[tP,Jj])) e (D7 _) (by simp[AV.refs,AV.ai,ot hx])
   ·cases hv
  ·cases hv
 ·cases hv
section
variable {T:List bM} {n M:Nat} {acc:List Tm} {st:St}
end
theorem wK {T:List bM} {st:St} (h:(fT T st).1.2=0):(ae T 1200 (bx st)).1.2.2=true∧(aH (ae T 1200 (bx st)).2).kind=6∧fR (ae T 1200 (bx st)).1.1=true∧fT T st=(((ae T 1200 (bx st)).1.1,0),ax (ae T 1200 (bx st)).2):=by
 unfold fT at h ⊢;dsimp only at h ⊢;change (if (!(ae T 1200 (bx st)).1.2.2||!decide ((aH (ae T 1200 (bx st)).2).kind=6))=true then ((sW,(2:Int)),(ae T 1200 (bx st)).2) else if fR (ae T 1200 (bx st)).1.1=true then (((ae T 1200 (bx st)).1.1,0),ax (ae T 1200 (bx st)).2) else ((sW,3),ax (ae T 1200 (bx st)).2)).1.2=0 at h;change _∧_∧_∧(if (!(ae T 1200 (bx st)).1.2.2||!decide ((aH (ae T 1200 (bx st)).2).kind=6))=true then ((sW,(2:Int)),(ae T 1200 (bx st)).2) else if fR (ae T 1200 (bx st)).1.1=true then (((ae T 1200 (bx st)).1.1,0),ax (ae T 1200 (bx st)).2) else ((sW,3),ax (ae T 1200 (bx st)).2))=_;by_cases c1:(!(ae T 1200 (bx st)).1.2.2||!decide ((aH (ae T 1200 (bx st)).2).kind=6))=true
 ·rw[if_pos c1] at h;cases h
 ·rw[if_neg c1] at h ⊢;by_cases c2:fR (ae T 1200 (bx st)).1.1=true
  ·rw[if_pos c2];simp only[Bool.or_eq_true,Bool.not_eq_true',decide_eq_false_iff_not,not_or,Decidable.not_not,Bool.not_eq_false] at c1;exact⟨c1.1,c1.2,c2,rfl⟩
  ·rw[if_neg c2] at h;cases h
theorem L8 {T:List bM} {L:List Tok} {st:St} (hc:RC T L st) (h:(fT T st).1.2=0):RC T L (fT T st).2∧st.at_ < (fT T st).2.at_:=by
 obtain⟨h1,h2,_,e⟩:=wK h;rw[e];have ho:=(bK T).ok 1200 (bx st) h1;obtain⟨c1,hat⟩:=(Kk hc).ok ho;refine⟨c1.xu hat,?_⟩;have h3:=ho.Rs;have h4:=ho.pos;have h5:(bx st).at_=st.at_:=rfl;show st.at_ < (ae T 1200 (bx st)).2.at_+1;omega
theorem Mj {T:List bM} {s:St} (h:(fT T s).1.2=0):s.at_ < (fT T s).2.at_∧(fT T s).2.rest.length < s.rest.length∧(fT T s).2.at_+(fT T s).2.rest.length=s.at_+s.rest.length:=by
 obtain⟨h1,h2,_,e⟩:=wK h;rw[e];have ho:=(bK T).ok 1200 (bx s) h1;have h3:=ho.Rs;have h4:=ho.pos;have h5:(bx s).at_=s.at_:=rfl;have h6:(bx s).rest=s.rest:=rfl;have h7:=bH (st:=(ae T 1200 (bx s)).2) (by rw[h2];decide);have h8:=cD (ae T 1200 (bx s)).2;rw[h6] at h3 h4;refine⟨?_,?_,?_⟩
 ·show s.at_ < (ae T 1200 (bx s)).2.at_+1;omega
 ·show (ax (ae T 1200 (bx s)).2).rest.length < _;omega
 ·show (ae T 1200 (bx s)).2.at_+1+(ax (ae T 1200 (bx s)).2).rest.length=_;omega
def nK:eS:=⟨6,[],0,false,false⟩
def iG:List UInt8:=[32,46]
theorem FB:fA 32=true:=by decide
theorem Sy:∀m acc k,(eP m (32::[46]) acc k).1=none
 | 0,_,_=>rfl
 | 1,_,_=>by rw[nV (by decide) (by decide) (by decide)];rfl
 | 2,_,_=>by rw[nV (by decide) (by decide) (by decide),nV (by decide) (by decide) (by decide)];rfl
 | m+3,_,_=>by rw[nV (by decide) (by decide) (by decide),nV (by decide) (by decide) (by decide),si]
theorem Fw:∀x:List UInt8,(runN fj x < x.length∧runN fj (x++iG)=runN fj x)∨(runN fj x=x.length∧runN fj (x++iG)=x.length+2)
 | []=>.inr ⟨rfl,rfl⟩
 | c::r=>by
   have e1:runN fj (c::r)=if fj c then runN fj r+1 else 0:=rfl
   have e2:runN fj (c::r++iG)=if fj c then runN fj (r++iG)+1 else 0:=rfl
   rw[e1,e2,List.length_cons];by_cases h:fj c=true
   ·rw[if_pos h,if_pos h];rcases Fw r with⟨a,b⟩ | ⟨a,b⟩
    ·exact .inl ⟨by omega,by omega⟩
    ·exact .inr ⟨by omega,by omega⟩
   ·rw[if_neg h,if_neg h];exact .inl ⟨by omega,rfl⟩
theorem vk:∀(n:Nat) (x:List UInt8),x.length < n→(eF x≠[]∧eF (x++iG)=eF x++iG)∨(eF x=[]∧(eF (x++iG)=[46]∨eF (x++iG)=[]))
 | 0,_,h=>by omega
 | n+1,[],_=>.inr ⟨rfl,.inl rfl⟩
 | n+1,c::r,h=>by
   simp only[List.length_cons] at h;rw[List.cons_append];by_cases h1:fA c=true
   ·rw[j6 h1,j6 h1];exact vk n r (by omega)
   by_cases h2:c.toNat=37
   ·have hp:1≤runN fj (c::r):=jZ (by unfold fj;rw[h2];rfl);have e:=Fw (c::r);rw[o7 h2,o7 h2];rw[List.cons_append] at e;rcases e with⟨a,b⟩ | ⟨a,b⟩
    ·rw[b,←List.cons_append,List.drop_append_of_le_length (by omega)];exact vk n _ (by rw[List.length_drop];simp;omega)
    ·rw[b,a,List.drop_length,List.drop_of_length_le (by simp[iG])];exact .inr ⟨rfl,.inr rfl⟩
   ·rw[l4 h1 h2,l4 h1 h2];exact .inl ⟨by simp,rfl⟩
theorem FT (n:Nat):jf (n+2) [46]=some [nK]:=by
 show (if (cC [46]).2.2=0 then (jf (n+1) (ew [46])).map (ku [46]::·) else none)=_;rw[if_pos (by decide),show ew [46]=[] from by kernel_rfl,show ku [46]=nK from by kernel_rfl];rfl
theorem Nu:∀(n:Nat) (u:List UInt8) (L':List eS) (m:Nat),u≠[]→u.length < n→u.length+2 < m→jf m (u++iG)=some L'→∃L,jf n u=some L∧(L'=L++[nK]∨L'=L)
 | 0,_,_,_,_,h,_,_=>by omega
 | n+1,[],_,_,h,_,_,_=>absurd rfl h
 | n+1,c::r,L',0,hu,h1,h2,h=>by omega
 | n+1,c::r,L',m+1,hu,h1,h2,h=>by
   have ed:jf (m+1) (c::r++iG)=if (cC (c::r++iG)).2.2=0 then (jf m (ew (c::r++iG))).map (ku (c::r++iG)::·) else none:=rfl
   rw[ed] at h;by_cases he:(cC (c::r++iG)).2.2=0
   ·rw[if_pos he,Option.map_eq_some_iff] at h;obtain⟨K',h3,rfl⟩:=h;have hz:(cC (c::r)).2.2=0:=Kf FB [46] Sy (u:=c::r) (by simp) he;have e1:cC (c::r++iG)=cC (c::r):=va FB [46] (by simp) hz
    have e2:km (c::r++iG)=km (c::r)++iG:=by
     unfold km;rw[e1,List.drop_append_of_le_length (iH (c::r)).1]
    have l1:=kO hz;have es:=vk _ (km (c::r)) (Nat.lt_succ_self _);rw[←e2] at es;change (ew (c::r)≠[]∧ew (c::r++iG)=ew (c::r)++iG)∨(ew (c::r)=[]∧(ew (c::r++iG)=[46]∨ew (c::r++iG)=[])) at es;have hw:(c::r++iG).length=(c::r).length+2:=by simp[iG]
    have et:ku (c::r++iG)=ku (c::r):=by
     unfold ku;rw[e1,e2,hw];congr 1
     ·cases hn:km (c::r) with
      | nil=>rfl
      | cons d w=>rfl
     ·rcases es with⟨a,b⟩ | ⟨a,b | b⟩
      ·rw[b];have h4:(ew (c::r)++iG).length=(ew (c::r)).length+2:=by simp[iG]
       rw[h4];refine decide_eq_decide.2 ⟨fun g=>⟨by omega,a⟩,fun g=>⟨by omega,by simp[iG]⟩⟩
      ·rw[b,a];rw[decide_eq_false (fun g=>by have:=g.1;simp only[List.length_cons,List.length_nil] at this;omega),decide_eq_false (fun g=>g.2 rfl)]
      ·rw[b,a];rw[decide_eq_false (fun g=>g.2 rfl),decide_eq_false (fun g=>g.2 rfl)]
    have ec:jf (n+1) (c::r)=if (cC (c::r)).2.2=0 then (jf n (ew (c::r))).map (ku (c::r)::·) else none:=rfl
    rw[ec,if_pos hz,et];simp only[List.length_cons] at h1 h2 l1;rcases es with⟨a,b⟩ | ⟨a,b | b⟩
    ·rw[b] at h3;obtain⟨K,k1,k2⟩:=Nu n (ew (c::r)) K' m a (by omega) (by omega) h3;refine⟨ku (c::r)::K,by rw[k1];rfl,?_⟩;rcases k2 with k2 | k2
     ·exact .inl (by rw[k2];rfl)
     ·exact .inr (by rw[k2])
    ·rw[b] at h3;obtain⟨p,rfl⟩:∃p,m=p+2:=⟨m - 2,by omega⟩
     obtain⟨q,rfl⟩:∃q,n=q+1:=⟨n - 1,by omega⟩
     rw[FT] at h3;cases h3;rw[a];exact⟨[ku (c::r)],rfl,.inl rfl⟩
    ·rw[b] at h3;obtain⟨p,rfl⟩:∃p,m=p+1:=⟨m - 1,by omega⟩
     obtain⟨q,rfl⟩:∃q,n=q+1:=⟨n - 1,by omega⟩
     cases h3;rw[a];exact⟨[ku (c::r)],rfl,.inr rfl⟩
   ·rw[if_neg he] at h;cases h
theorem OT {s:List UInt8} {L':List eS} (h:oD (s++iG)=some L'):∃L,oD s=some L∧(L'=L++[nK]∨L'=L):=by
 have l1:=iN s;have lw:(s++iG).length=s.length+2:=by simp[iG]
 unfold oD at h ⊢;rw[lw] at h;rcases vk _ s (Nat.lt_succ_self _) with⟨a,b⟩ | ⟨a,b | b⟩
 ·rw[b] at h;exact Nu (s.length+1) (eF s) L' _ a (by omega) (by omega) h
 ·rw[b,FT] at h;cases h;rw[a];exact⟨[],rfl,.inl rfl⟩
 ·rw[b] at h;cases h;rw[a];exact⟨[],rfl,.inr rfl⟩
theorem E7:∀(n:Nat) (u:List UInt8) (L:List eS),jf n u=some L→L.length≤u.length
 | 0,_,_,h=>by cases h
 | n+1,[],L,h=>by cases h;exact Nat.le_refl _
 | n+1,c::r,L,h=>by
   have ec:jf (n+1) (c::r)=if (cC (c::r)).2.2=0 then (jf n (ew (c::r))).map (ku (c::r)::·) else none:=rfl
   rw[ec] at h;by_cases hz:(cC (c::r)).2.2=0
   ·rw[if_pos hz,Option.map_eq_some_iff] at h;obtain⟨K,h1,rfl⟩:=h;have:=E7 n _ K h1;have:=(kO hz).2;simp only[List.length_cons] at *;omega
   ·rw[if_neg hz] at h;cases h
theorem Cj:∀(f:Nat) (s:List UInt8) (j:Nat) (acc:List Tok) (L:List eS),j≤s.length→s.length - j < f→jf f (s.drop j)=some L→L.all mi=true→acc.length+L.length≤1024→(oA f s j acc).2.2=0
 | 0,_,_,_,_,_,h,_,_,_=>by omega
 | f+1,s,j,acc,L,hj,hf,h,hk,hn=>by
   unfold oA;by_cases h1:s.length≤j
   ·rw[if_pos h1]
   rw[if_neg h1]
   cases hd:s.drop j with
   | nil=>exact absurd (congrArg List.length hd) (by simp;omega)
   | cons c r=>
     rw[←hd];have e:jf (f+1) (s.drop j)=if (cC (s.drop j)).2.2=0 then (jf f (ew (s.drop j))).map (ku (s.drop j)::·) else none:=by rw[hd];rfl
     rw[e] at h;by_cases h2:(cC (s.drop j)).2.2=0
     ·rw[if_neg (fun g=>g h2)];rw[if_pos h2,Option.map_eq_some_iff] at h;obtain⟨K,h4,rfl⟩:=h;rw[List.all_cons,Bool.and_eq_true] at hk;simp only[List.length_cons] at hn;have hk1:mi (ku (s.drop j))=true:=hk.1
      have h3:¬ ((((cC (s.drop j)).1.kind=1∨(cC (s.drop j)).1.kind=2)∧64 < (cC (s.drop j)).1.text.length)∨acc.length=1024):=fun g=>by
       rcases g with⟨g1,g2⟩ | g
       ·unfold mi ey ku at hk1;simp only[Bool.and_eq_true,Bool.or_eq_true,decide_eq_true_eq,Bool.not_eq_true',Bool.or_eq_false_iff,decide_eq_false_iff_not] at hk1;rcases hk1.1 with g3 | ⟨g3,g4⟩
        ·omega
        ·rcases g1 with g1 | g1
         ·exact g3 g1
         ·exact g4 g1
       ·omega
      rw[if_neg h3];have l1:=kO h2;have l2:=iH (s.drop j);have l3:=l2.2 h2;have ld:(s.drop j).length=s.length - j:=List.length_drop;have en:km (s.drop j)=s.drop (j+(cC (s.drop j)).2.1):=by unfold km;rw[List.drop_drop]
      have ek:dx (s.length+1) (s.drop (j+(cC (s.drop j)).2.1))=dx ((km (s.drop j)).length+1) (km (s.drop j)):=by
       rw[en];exact lf _ _ _ (by rw[List.length_drop];omega) (Nat.lt_succ_self _)
      have er:ew (s.drop j)=s.drop (j+(cC (s.drop j)).2.1+dx (s.length+1) (s.drop (j+(cC (s.drop j)).2.1))):=by
       unfold ew eF;rw[←ek,en,List.drop_drop]
      have lk:=ja (s.length+1) (s.drop (j+(cC (s.drop j)).2.1));rw[List.length_drop] at lk;rw[er] at h4;exact Cj f s _ _ K (by omega) (by omega) h4 hk.2 (by simp;omega)
     ·rw[if_neg h2] at h;cases h
theorem yE {s:List UInt8} {L:List eS} (h:oD s=some L) (hs:s.length≤4096) (hk:L.all mi=true) (hn:L.length≤1024):(dJ s).2.2=0:=by
 unfold dJ;rw[if_neg (by omega)];exact Cj (s.length+1) s _ [] L (ja (s.length+1) s) (by omega) h hk (by simp;omega)
def DP:eS:=⟨5,[41],0,false,false⟩
theorem LR:oD [41,32,46]=some [DP,nK]:=by kernel_rfl
theorem M3 (x:List UInt8) (hx:x≠[]):(cC (40::x)).2.2=0∧(cC (40::x)).2.1=1∧(cC (40::x)).1=⟨5,[40],0,false,0⟩:=by
 cases x with
 | nil=>exact absurd rfl hx
 | cons d r=>
   have e:cC (40::d::r)=(⟨5,[40],0,false,0⟩,1,0):=by
    unfold cC;dsimp only;rw[if_neg (show ¬ jM 40=true by decide),if_neg (show ¬ jN 40=true by decide),if_neg (show ¬ dB 40=true by decide),if_neg (show ¬ (40:UInt8).toNat=39 by decide),if_neg (show ¬ jj (40::d::r)=true by unfold jj;simp),if_neg (show ¬ pF 40=true by decide),if_neg (show ¬ ((40:UInt8).toNat=59∨(40:UInt8).toNat=33) by decide),if_neg (show ¬ (((40:UInt8).toNat=91∧d.toNat=93)∨((40:UInt8).toNat=123∧d.toNat=125)) from fun g=>by rcases g with⟨g,_⟩ | ⟨g,_⟩<;>exact absurd g (by decide)),if_pos (show kX 40=true by decide)]
   rw[e];exact⟨rfl,rfl,rfl⟩
theorem M6 {x:List UInt8} {L:List eS} (hx:x≠[]) (h:oD x=some L):∃b a,oD (40::x)=some (⟨5,[40],0,b,a⟩::L):=by
 obtain⟨h1,h2,h3⟩:=M3 x hx;have en:km (40::x)=x:=by unfold km;rw[h2];rfl
 have es:eF (40::x)=40::x:=l4 (by decide) (by decide);refine⟨(ku (40::x)).gS,(ku (40::x)).Nx,?_⟩;unfold oD;rw[es];show (if (cC (40::x)).2.2=0 then (jf (x.length+1) (ew (40::x))).map (ku (40::x)::·) else none)=_;rw[if_pos h1];have er:ew (40::x)=eF x:=by unfold ew;rw[en]
 rw[er];have:jf (x.length+1) (eF x)=some L:=h;rw[this];show some (ku (40::x)::L)=some (_::L);refine congrArg some (congrArg (·::L) ?_);unfold ku;rw[h3]
theorem EK:∀{L:List eS} {K Q:List eS} {x:eS},(∀t ∈ L,t.kind≠6)→x.kind=6→(∃R,L++[nK]=R++x::Q)→Q=[]∧x=nK
 | [],K,Q,x,_,hx,⟨R,e⟩=>by
   cases R with
   | nil=>
     rw[List.nil_append,List.nil_append,List.cons.injEq] at e;exact⟨e.2.symm,e.1.symm⟩
   | cons y R=>simp at e
 | t::L,K,Q,x,h,hx,⟨R,e⟩=>by
   cases R with
   | nil=>
     rw[List.nil_append,List.cons_append,List.cons.injEq] at e;exact absurd (by rw[e.1];exact hx) (h t (by simp))
   | cons y R=>
     rw[List.cons_append,List.cons_append,List.cons.injEq] at e;exact EK (K:=K) (fun t ht=>h t (by simp[ht])) hx ⟨R,e.2⟩
theorem xH {T:List bM} {L:List eS} {s s':St} {b a:Bool} (hr:s.rest=L++[nK]) (hk:∀t ∈ L,t.kind≠6) (hr':s'.rest=⟨5,[40],0,b,a⟩::(L++[DP,nK])) (ha:s.at_=s'.at_) (h:(fT T s).1.2=0):
 (fT T s').1=(fT T s).1∧(fT T s').2.names=(fT T s).2.names∧(fT T s').2.rest=[]:=by
 obtain⟨h1,h2,h3,e⟩:=wK h;have hlv:=(bK T).lv 1200 (bx s);obtain⟨k,hkk⟩:=hlv.Oj;have hp:=bH (st:=(ae T 1200 (bx s)).2) (by rw[h2];decide)
 obtain⟨x,Q1,hq⟩:∃x Q1,(ae T 1200 (bx s)).2.rest=x::Q1:=by
  cases hh:(ae T 1200 (bx s)).2.rest with
  | nil=>rw[hh] at hp;simp at hp
  | cons x Q1=>exact⟨x,Q1,rfl⟩
 have hx:x.kind=6:=by
  unfold aH at h2;rw[hq] at h2;exact h2
 obtain⟨rfl,rfl⟩:=EK (K:=[]) hk hx ⟨s.rest.take k,by
  rw[←hr,←hq,hkk];exact (List.take_append_drop k s.rest).symm⟩
 have hs:Sw (nK::[]) (DP::[nK]) 1 (bx s) (ax (bx s')):=by
  refine⟨L,hr,?_,?_,rfl,rfl⟩
  ·show s'.rest.tail=_;rw[hr'];rfl
  ·show s'.at_+1=s.at_+1;omega
 obtain⟨a1,R,b1,b2,b3,b4,b5⟩:=Jg (.inl rfl) (.inr ⟨rfl,rfl⟩) T hs h1 (by rw[hq];simp)
 have hR:R=[]:=by
  have:=congrArg List.length b1;rw[hq] at this;simp at this;exact this
 subst hR;have hq2:(ae T 1200 (ax (bx s'))).2.rest=[DP,nK]:=b2
 have hsee:aH (bx s')=⟨5,[40],0,b,a⟩:=by
  show s'.rest.headD FG=_;rw[hr'];rfl
 have hclo:a8 [41] (ae T 1200 (ax (bx s'))).2=(true,ax (ae T 1200 (ax (bx s'))).2):=by
  unfold a8 aH;rw[hq2];exact if_pos ⟨rfl,rfl⟩
 have hpr:bo T 1200 (bx s')=(((ae T 1200 (bx s)).1.1,0,true),ax (ae T 1200 (ax (bx s'))).2):=by
  unfold bo dI;rw[hsee];rw[if_neg (show ¬ (5:Int)=4 by decide),if_neg (show ¬ (5:Int)=3 by decide),if_pos ⟨rfl,rfl⟩];unfold eH;rw[a1,h1,if_pos rfl,hclo]
 have hend:(ax (ae T 1200 (ax (bx s'))).2).rest=[nK]:=by
  show (ae T 1200 (ax (bx s'))).2.rest.tail=_;rw[hq2];rfl
 have hse:aH (ax (ae T 1200 (ax (bx s'))).2)=nK:=by unfold aH;rw[hend,List.headD_cons]
 have ht:ae T 1200 (bx s')=(((ae T 1200 (bx s)).1.1,0,true),ax (ae T 1200 (ax (bx s'))).2):=by
  rw[Bm,hpr];exact dU (B:=(gj,false)) (by rw[hse];exact oQ (.inl rfl) T) rfl
 have e2:fT T s'=(((ae T 1200 (bx s)).1.1,0),ax (ax (ae T 1200 (ax (bx s'))).2)):=by
  unfold fT;dsimp only;change (if (!(ae T 1200 (bx s')).1.2.2||!decide ((aH (ae T 1200 (bx s')).2).kind=6))=true then ((sW,(2:Int)),(ae T 1200 (bx s')).2) else if fR (ae T 1200 (bx s')).1.1=true then (((ae T 1200 (bx s')).1.1,0),ax (ae T 1200 (bx s')).2) else ((sW,3),ax (ae T 1200 (bx s')).2))=_;rw[ht];dsimp only;rw[hse,h3];rfl
 rw[e,e2];refine⟨rfl,b5,?_⟩;show (ax (ae T 1200 (ax (bx s'))).2).rest.tail=[];rw[hend];rfl
theorem AH:∀{L:List Tok} {x:eS},x ∈ iR L→∃t ∈ L,t.kind=x.kind
 | [],x,h=>absurd h List.not_mem_nil
 | t::r,x,h=>by
   unfold iR at h;rcases List.mem_cons.1 h with rfl | h
   ·exact⟨t,by simp,rfl⟩
   ·obtain⟨u,hu,e⟩:=AH h;exact⟨u,by simp[hu],e⟩
theorem xC {T:List bM} {s:List UInt8} {a:Tm} {n:List (List UInt8×Int)} (hl:s.length≤800) (h:ll T (s++[32,46])=((a,n),0)) (hk:∀t ∈ (dJ s).1,t.kind≠6):ll T (40::(s++[10,41,32,46]))=((a,n),0):=by
 unfold ll at h ⊢;by_cases hg:iJ T=false
 ·rw[if_pos hg] at h;cases h
 rw[if_neg hg] at h ⊢;by_cases hc:(dJ (s++[32,46])).2.2=0
 ·rw[if_neg (fun g=>g hc)] at h;by_cases h2:(fT T (qf (dJ (s++[32,46])).1 0)).1.2=2∨((fT T (qf (dJ (s++[32,46])).1 0)).2.at_:Int) < (dJ (s++[32,46])).1.length
  ·rw[if_pos h2] at h;cases h
  rw[if_neg h2] at h;by_cases h3:(fT T (qf (dJ (s++[32,46])).1 0)).1.2=0
  ·rw[if_neg (fun g=>g h3)] at h;simp only[Prod.mk.injEq] at h;obtain⟨⟨rfl,rfl⟩,_⟩:=h;have hL':=vC hc;obtain⟨L,hL,hLL⟩:=OT hL';have hgd:=oP (s++[32,46]);have hok:=zJ hgd.1
   have hLok:L.all mi=true:=by
    rcases hLL with g | g<;>rw[g] at hok
    ·rw[List.all_append,Bool.and_eq_true] at hok;exact hok.1
    ·exact hok
   have hLlen:L.length≤800:=by
    have:=E7 _ _ _ hL;have:=iN s;omega
   have hcs:=yE hL (by omega) hLok (by omega);have hLs:=vC hcs;rw[hL] at hLs
   have hLk:∀t ∈ L,t.kind≠6:=fun t ht=>by
    rw[Option.some.inj hLs] at ht;obtain⟨u,hu,e⟩:=AH ht;rw[←e];exact hk u hu
   obtain⟨o1,o2,_,oe⟩:=wK h3;have hrest:(qf (dJ (s++[32,46])).1 0).rest=iR (dJ (s++[32,46])).1:=List.drop_zero
   have hLe:iR (dJ (s++[32,46])).1=L++[nK]:=by
    rcases hLL with g | g
    ·exact g
    ·obtain⟨k,hkk⟩:=((bK T).lv 1200 (bx (qf (dJ (s++[32,46])).1 0))).Oj;have hp:=bH (st:=(ae T 1200 (bx (qf (dJ (s++[32,46])).1 0))).2) (by rw[o2];decide);exfalso
     cases hq:(ae T 1200 (bx (qf (dJ (s++[32,46])).1 0))).2.rest with
     | nil=>rw[hq] at hp;simp at hp
     | cons x Q=>
       have hx:x.kind=6:=by
        unfold aH at o2;rw[hq] at o2;exact o2
       have hm:x ∈ L:=by
        rw[←g,←hrest]
        have:x ∈ (qf (dJ (s++[32,46])).1 0).rest.drop k:=by
         have e:(bx (qf (dJ (s++[32,46])).1 0)).rest=(qf (dJ (s++[32,46])).1 0).rest:=rfl;rw[←e,←hkk,hq];simp
        exact List.mem_of_mem_drop this
       exact hLk x hm hx
   have h10:=Jy (b:=10) rfl [41,32,46] hL LR;obtain⟨b,ad,hB⟩:=M6 (by simp) h10
   have hBok:(⟨5,[40],0,b,ad⟩::(L++[DP,nK]):List eS).all mi=true:=by
    rw[List.all_cons,List.all_append,hLok];rfl
   have hcB:=yE hB (by simp;omega) hBok (by simp;omega);have hLB:=vC hcB;rw[hB] at hLB;have hBr:iR (dJ (40::(s++[10,41,32,46]))).1=⟨5,[40],0,b,ad⟩::(L++[DP,nK]):=(Option.some.inj hLB).symm
   have hrB:(qf (dJ (40::(s++[10,41,32,46]))).1 0).rest=⟨5,[40],0,b,ad⟩::(L++[DP,nK]):=by
    rw[←hBr];exact List.drop_zero
   obtain⟨r1,r2,r3⟩:=xH (T:=T) (L:=L) (s:=qf (dJ (s++[32,46])).1 0) (s':=qf (dJ (40::(s++[10,41,32,46]))).1 0) (by rw[hrest,hLe]) hLk hrB rfl h3;have hat:=Mj (T:=T) (s:=qf (dJ (40::(s++[10,41,32,46]))).1 0) (by rw[r1];exact h3)
   have hz:(qf (dJ (40::(s++[10,41,32,46]))).1 0).rest.length=(dJ (40::(s++[10,41,32,46]))).1.length:=by
    show ((iR _).drop 0).length=_;rw[List.drop_zero,fF]
   have h00:(qf (dJ (40::(s++[10,41,32,46]))).1 0).at_=0:=rfl;rw[r3,List.length_nil] at hat
   rw[if_neg (fun g=>g hcB),r1,h3,if_neg (by
    rintro (g | g)
    ·exact absurd g (by decide)
    ·omega),if_neg (by simp),r2]
  ·rw[if_pos h3] at h;exact absurd (congrArg Prod.snd h) h3
 ·rw[if_pos hc] at h;exact absurd (congrArg Prod.snd h) hc
def hZ (N:Nat):aR:=⟨38,fun | [v]=>(match jm v with | some t=>if t.size < N then some (fY t).enc else none | none=>none) | _=>none⟩
theorem mF (N:Nat):(hZ N).f=38:=(rfl)
theorem oM (N:Nat) (x:Tm) (h:x.size < N):(hZ N).S [x.enc]=some (fY x).enc:=by
 simp only[hZ,fH,if_pos h]
theorem Hs (N:Nat) (x:Tm) (h:N≤x.size):(hZ N).S [x.enc]=none:=by
 simp only[hZ,fH];rw[if_neg (by omega)]
theorem AY (n N:Nat) (us:List Tm) (hN:N≤1000000000) (h1:Tm.de us < N) (K M:Int) (s:List UInt8):∀(post pre acc:List Tm) (k:Nat),us=pre++post→acc.length=pre.length→acc≠[]→post.length < k→
 ∃md,ju 3 0 (cM (aT (au (dP [hZ N]) (n+1)) (n+1) om) lQ 3 k (CT (.ptr 0 0) (.ptr 1 0) (.ptr 2 0) (.int .i64 pre.length)) ⟨4,[.row (aZ acc),.row [.int .i64 K,.int .i64 M,.str s,.vec 3 0 acc.length 4 acc.length],.row zT,.row [.int .i64 K,.int .i64 M,.str s,.sl (us.map Tm.enc)]],2,0⟩)=
   some (.exit 0,FM 31 [(2,.ptr 1 0),(3,.ptr 2 0)],⟨4,[.row (aZ (acc++post.map fY)),.row [.int .i64 K,.int .i64 M,.str s,.vec 3 0 (acc++post.map fY).length 4 (acc++post.map fY).length],.row zT,.row [.int .i64 K,.int .i64 M,.str s,.sl (us.map Tm.enc)]],0,md⟩)
 | [],pre,acc,k+1,e,ea,_,_=>by
   simp at e;subst e;have h5:AV.ai (us.map Tm.enc)=0:=bN _;have hf:=bP acc;exact⟨0,by simp[aC,om,h5,hf,zT]⟩
 | x::post,pre,acc,k+1,e,ea,hne,hk=>by
   have hlu:=gq us;have g1:us[pre.length]? =some x:=by rw[e];simp
   have h5:AV.ai (us.map Tm.enc)=0:=bN _;have hf:=bP acc;have hpl:pre.length < us.length:=by rw[e];simp
   have h6:((pre.length:Int) < (us.length:Int))=True:=eq_true (by omega);have h3:IntKind.i64.wrap ((pre.length:Int)+1)=(pre.length:Int)+1:=wrap_i64 (by omega) (by omega);have hxe:=Tm.cw x;have hxc:=Tm.cf x;have hxr:=aN x;have hx:x ∈ us:=by rw[e];simp
   have hs:=oM N x (by have:=oO hx;omega);obtain⟨md,ih⟩:=AY n N us hN h1 K M s post (pre++[x]) (acc++[fY x]) k (by simp[e]) (by simp[ea]) (by simp) (by rw[List.length_cons] at hk;omega);refine⟨md,?_⟩;have hye:(fY x).enc=.agg (fY x).cells:=Tm.cw _;have hyr:=aN (fY x);have hf2:AV.ai (aZ acc++(fY x).cells)=0:=by rw[←qp];exact bP _
   rw[hxe,hxc] at hs;have em:(x::post).map fY=fY x::post.map fY:=rfl;rw[em];generalize fY x=y at *;have hyc:=Tm.cf y;rw[hyc] at hf2;have h8:(acc.length+1)*56≤140737488355328:=by omega
   have h9:acc.length+1 < 9223372036854775808:=by omega
   have h10:(aZ acc).take (acc.length*4)=aZ acc:=by rw[List.take_of_length_le];rw[dD];exact Nat.le_refl _
   have h11:=dD acc;simp only[List.length_append,List.length_cons,List.length_nil,Nat.zero_add,qp,hyc,List.append_assoc] at ih;rw[show ((pre.length+1:Nat):Int)=(pre.length:Int)+1 by omega] at ih;rw[aC];simp[om,lQ,g1,h3,h5,h6,hf,hf2,h8,h9,h10,h11,hxe,hxc,hxr,hye,hyc,hyr,hs,an,mF,aS,zT];simp only[zT] at ih;refine Eq.trans ih ?_;simp[aZ,hyc,Nat.add_comm,Nat.add_left_comm,Nat.add_assoc]
theorem DM (C:Nat→List AV→aa→Option (AV×aa)) (n k:Nat) (K M:Int) (s:List UInt8) (A:AV) (hA:A=.aw∨A=.sl []):
 ju 3 0 (cM (aT C n om) lQ 3 (k+1) (CT (.ptr 0 0) (.ptr 1 0) (.ptr 2 0) (.int .i64 0)) ⟨3,[.row [.int .i64 K,.int .i64 M,.str s,.aw],.row zT,.row [.int .i64 K,.int .i64 M,.str s,A]],3,0⟩)=
  some (.exit 0,FM 31 [(2,.ptr 1 0),(3,.ptr 2 0)],⟨3,[.row [.int .i64 K,.int .i64 M,.str s,.aw],.row zT,.row [.int .i64 K,.int .i64 M,.str s,A]],0,0⟩):=by
 rcases hA with rfl | rfl<;>simp[aC,om,zT]
theorem GM (n N:Nat) (x:Tm) (r:List Tm) (hN:N≤1000000000) (h1:Tm.de (x::r) < N) (K M:Int) (s:List UInt8) (k:Nat) (hk:r.length+1 < k):
 ∃md,ju 3 0 (cM (aT (au (dP [hZ N]) (n+1)) (n+1) om) lQ 3 k (CT (.ptr 0 0) (.ptr 1 0) (.ptr 2 0) (.int .i64 0)) ⟨3,[.row [.int .i64 K,.int .i64 M,.str s,.aw],.row zT,.row [.int .i64 K,.int .i64 M,.str s,.sl ((x::r).map Tm.enc)]],3,0⟩)=
   some (.exit 0,FM 31 [(2,.ptr 1 0),(3,.ptr 2 0)],⟨4,[.row (aZ ((x::r).map fY)),.row [.int .i64 K,.int .i64 M,.str s,.vec 3 0 (r.length+1) 4 (r.length+1)],.row zT,.row [.int .i64 K,.int .i64 M,.str s,.sl ((x::r).map Tm.enc)]],0,md⟩):=by
 obtain⟨k,rfl⟩:∃k',k=k'+1:=⟨k - 1,by omega⟩
 have h5:AV.ai (r.map Tm.enc)=0:=bN _;have h6:((0:Int) < (r.length:Int)+1)=True:=eq_true (by omega);have h3:IntKind.i64.wrap (0+1)=1:=rfl;have h3':IntKind.i64.wrap 1=1:=rfl;have hxe:=Tm.cw x;have hxc:=Tm.cf x;have hxr:=aN x;have hs:=oM N x (by simp only[Tm.de] at h1;omega);obtain⟨md,ih⟩:=AY n N (x::r) hN h1 K M s r [x] [fY x] k rfl rfl (by simp) (by omega);refine⟨md,?_⟩;have hye:(fY x).enc=.agg (fY x).cells:=Tm.cw _;have hyr:=aN (fY x);rw[hxe,hxc] at hs;have em:(x::r).map fY=fY x::r.map fY:=rfl;rw[em];generalize fY x=y at *;have hyc:=Tm.cf y;simp only[List.length_append,List.length_cons,List.length_nil,Nat.zero_add,hyc,zT,aZ,List.flatMap_cons,List.flatMap_nil,List.append_nil,List.map_cons,hxe,hxc] at ih;rw[aC];simp[om,lQ,h3,h3',h5,h6,hxe,hxc,hxr,hye,hyc,hyr,hs,an,mF,aS,zT];refine Eq.trans ih ?_;simp[aZ,hyc,Nat.add_comm,Nat.add_left_comm,Nat.add_assoc]
theorem B8 (N:Nat) (hN:N≤1000000000) (hp:bC Tryz.prog (hZ N)):bC Tryz.prog (hZ (N+1)):=fun args v hv=>by
 unfold hZ at hv;dsimp only at hv;split at hv
 ·rename_i a;split at hv
  ·rename_i x ha;split at hv
   ·rename_i hc;rcases Nat.lt_or_ge x.size N with hlt | hge
    ·refine hp _ _ ?_;rw[fa ha,oM N x hlt];exact hv
    cases hv;rw[mF,fa ha];have hno:=Hs N x hge;have s1:=gR x;have hla:=gq x.args;refine ct (n:=x.size+5) (h':=h0) (b8 (ss:=[hZ N]) (by simp[hp])) ?_ (Tm.cT _) (by simp[AV.ai,AV.refs,Tm.cT]);have hxe:=Tm.cw x;have hxc:=Tm.cf x;rw[LB];rw[hxe,hxc] at hno ⊢;by_cases hne:x.args=[]
    ·have a1:x.cp=.aw∨x.cp=.sl []:=by
      cases x with
      | nl k n s=>exact .inl rfl
      | mk k n s us=>simp only[Tm.args] at hne;subst hne;exact .inr rfl
     have lp:=DM (au (dP [hZ N]) (x.size+4)) (x.size+4) (x.size+3) x.kind x.num x.name x.cp a1;simp only[lQ,zT] at lp;rw[hne];have em:(Ru x.kind x.num x.name (List.map fY [])).enc=.agg [.int .i64 x.kind,.int .i64 x.num,.str x.name,.aw]:=rfl;rw[em];rcases a1 with a1 | a1<;>rw[a1] at hno lp ⊢<;>simp[NA,Sp,lQ,hno,mF,lp]
    ·obtain⟨y,r,ha⟩:∃y r,x.args=y::r:=by
      cases h:x.args with
      | nil=>exact absurd h hne
      | cons y r=>exact⟨y,r,rfl⟩
     have a1:x.cp=.sl (x.args.map Tm.enc):=by
      cases x with
      | nl k n s=>exact absurd rfl hne
      | mk k n s us=>rfl
     have h5:=bN x.args;rw[ha] at s1 hla h5;obtain⟨md,lp⟩:=GM (x.size+3) N y r hN (by omega) x.kind x.num x.name (x.size+4) (by simp at hla;omega);simp only[lQ,zT] at lp;have hf2:=bP ((y::r).map fY);have em:(Ru x.kind x.num x.name ((y::r).map fY)).enc=.agg [.int .i64 x.kind,.int .i64 x.num,.str x.name,.sl (((y::r).map fY).map Tm.enc)]:=by simp[Ru,Tm.enc,jc,Tm.pI]
     have hf:∀(A B C:bf) (wl md d:Nat),hO ⟨4,[.row (aZ ((y::r).map fY)),A,B,C],wl,md⟩ 0 (d+2) (.vec 3 0 (r.length+1) 4 (r.length+1))=some (.sl (((y::r).map fY).map Tm.enc),[3]):=fun A B C wl md d=>by
      have:=ND (h:=⟨4,[.row (aZ ((y::r).map fY)),A,B,C],wl,md⟩) (n0:=0) (d:=d) (id:=3) (fY y) (r.map fY) (by omega) rfl;simpa using this
     rw[a1] at hno ⊢;rw[ha,em];rw[ha] at hno;generalize (y::r).map fY=Z at *;generalize (y::r).map Tm.enc=E at *;simp[NA,Sp,lQ,hno,h5,hf2,hf,lp,mF,uC]
   ·cases hv
  ·cases hv
 ·cases hv
theorem Cp:bC Tryz.prog (hZ 0):=fun args v hv=>by
 unfold hZ at hv;dsimp only at hv;split at hv
 ·split at hv
  ·split at hv
   ·rename_i hc;omega
   ·cases hv
  ·cases hv
 ·cases hv
theorem wU:∀N,N≤1000000001→bC Tryz.prog (hZ N)
 | 0,_=>Cp
 | N+1,h=>B8 N (by omega) (wU N (by omega))
def AQ:List UInt8:=[120,102,120]
def Td:List UInt8:=[120,102,121]
def Iy:List UInt8:=[121,102,120]
def TK:List UInt8:=[102,121]
def fN:List bM:=[⟨[58,45],AQ,1200⟩,⟨[59],Td,1100⟩,⟨[45,62],Td,1050⟩,⟨[44],Td,1000⟩,⟨[92,43],TK,900⟩,
 ⟨[61],AQ,700⟩,⟨[92,61],AQ,700⟩,⟨[61,61],AQ,700⟩,⟨[92,61,61],AQ,700⟩,⟨[64,60],AQ,700⟩,⟨[64,62],AQ,700⟩,⟨[64,61,60],AQ,700⟩,⟨[64,62,61],AQ,700⟩,
 ⟨[61,46,46],AQ,700⟩,⟨[105,115],AQ,700⟩,⟨[61,58,61],AQ,700⟩,⟨[61,92,61],AQ,700⟩,⟨[60],AQ,700⟩,⟨[62],AQ,700⟩,⟨[61,60],AQ,700⟩,⟨[62,61],AQ,700⟩,
 ⟨[43],Iy,500⟩,⟨[45],Iy,500⟩,⟨[47,92],Iy,500⟩,⟨[92,47],Iy,500⟩,⟨[120,111,114],Iy,500⟩,
 ⟨[42],Iy,400⟩,⟨[47,47],Iy,400⟩,⟨[109,111,100],Iy,400⟩,⟨[114,101,109],Iy,400⟩,⟨[62,62],Iy,400⟩,⟨[60,60],Iy,400⟩,
 ⟨[94],Td,200⟩,⟨[45],TK,200⟩,⟨[92],TK,200⟩]
def mm:aR:=⟨12,fun | []=>some (.agg [.sl (fN.map bM.enc)]) | _=>none⟩
theorem eY:mm.f=12:=(rfl)
theorem uy:mm.S []=some (.agg [.sl (fN.map bM.enc)]):=(rfl)
theorem A3:(au (dP []) 60 12 [] h0).map (·.1)=some (.agg [.sl (fN.map bM.enc)]):=by kernel_rfl
theorem ux:bC Tryz.prog mm:=fun args v hv=>by
 unfold mm at hv ⊢;dsimp only at hv ⊢;split at hv
 ·cases hv;obtain⟨p,h1,h2⟩:=Option.map_eq_some_iff.1 A3;obtain⟨a,h'⟩:=p;dsimp only at h2;subst h2;exact ct (n:=60) (h':=h') (b8 (ss:=[]) (by simp)) h1 (by decide+kernel) rfl
 ·cases hv
def Tj:List UInt8:=[88,32,61,32,97,32,43,32,89,46]
def NM:Tm:=.mk 2 0 [61] [.nl 0 0 [],.mk 2 0 [43] [.nl 2 0 [97],.nl 0 1 []]]
theorem P3:ll fN Tj=((NM,[([88],0),([89],1)]),0):=by kernel_rfl
def UG:AV:=.agg [.int .i64 2,.int .i64 0,.str [61],.sl [.agg [.int .i64 0,.int .i64 0,.str [],.aw],.agg [.int .i64 2,.int .i64 0,.str [43],.sl [.agg [.int .i64 2,.int .i64 0,.str [97],.aw],.agg [.int .i64 0,.int .i64 1,.str [],.aw]]]]]
theorem QJ:(au (dP []) 60 25 [.agg [.int .i64 2,.int .i64 0,.str [61],.sl [.agg [.int .i64 0,.int .i64 0,.str [],.aw],.agg [.int .i64 2,.int .i64 0,.str [43],.sl [.agg [.int .i64 2,.int .i64 0,.str [97],.aw],.agg [.int .i64 0,.int .i64 1,.str [],.aw]]]]]] h0).map (fun p=>p.1)=some (.tuple [.str [61,40,95,48,44,43,40,97,44,95,49,41,41],.int .i64 0]):=by kernel_rfl
def sy:aR:=⟨25,fun | [v]=>if v.Am UG then some (.tuple [.str [61,40,95,48,44,43,40,97,44,95,49,41,41],.int .i64 0]) else none | _=>none⟩
theorem HL:sy.f=25:=(rfl)
theorem DW:bC Tryz.prog sy:=fun args v hv=>by
 unfold sy at hv ⊢;dsimp only at hv ⊢;split at hv
 ·rename_i x;split at hv
  ·rename_i hx;cases hv;rw[AV.DO _ _ hx];obtain⟨⟨w,h'⟩,e1,e2⟩:=Option.map_eq_some_iff.1 QJ;dsimp only at e2;subst e2;exact ct (n:=60) (h':=h') (b8 (ss:=[]) (by simp)) e1 rfl rfl
  ·cases hv
 ·cases hv
noncomputable def Qk:List aR:=[mm,qz,nW,hZ 1000000000,sy]
theorem Ly:∀s ∈ Qk,eK Tryz.prog cm s:=by simp[Qk,ux.lift,yo,tA.lift,(wU 1000000000 (by omega)).lift,DW.lift]
def qU:aR:=⟨13,fun | []=>some (.bool true) | _=>none⟩
theorem gp:qU.f=13:=(rfl)
theorem De:qU.S []=some (.bool true):=(rfl)
theorem Ed:eK Tryz.prog cm qU:=fun args v hv=>by
 unfold qU at hv ⊢;dsimp only at hv ⊢;split at hv
 ·cases hv;refine ct (n:=10) (h':=h0) (mI Ly) ?_ rfl rfl;have q0:=uy;have q1:=tp (tX fN) (by decide) Tj;rw[P3] at q1;have e1:jw ((NM,[([88],0),([89],1)]),0)=.tuple [.agg [.int .i64 2,.int .i64 0,.str [61],.sl [.agg [.int .i64 0,.int .i64 0,.str [],.aw],.agg [.int .i64 2,.int .i64 0,.str [43],.sl [.agg [.int .i64 2,.int .i64 0,.str [97],.aw],.agg [.int .i64 0,.int .i64 1,.str [],.aw]]]]],.sl [.agg [.str [88],.int .i64 0],.agg [.str [89],.int .i64 1]],.int .i64 0]:=by kernel_rfl
  have e2:NM.enc=.agg [.int .i64 2,.int .i64 0,.str [61],.sl [.agg [.int .i64 0,.int .i64 0,.str [],.aw],.agg [.int .i64 2,.int .i64 0,.str [43],.sl [.agg [.int .i64 2,.int .i64 0,.str [97],.aw],.agg [.int .i64 0,.int .i64 1,.str [],.aw]]]]]:=by kernel_rfl
  have e3:(fY NM).enc=NM.enc:=by kernel_rfl
  rw[e1] at q1;unfold Tj at q1;have q2:=mG NM (by decide+kernel);rw[show fR NM=true by decide+kernel,e2] at q2;have q3:=oM 1000000000 NM (by decide+kernel);rw[e3,e2] at q3;have q4:sy.S [.agg [.int .i64 2,.int .i64 0,.str [61],.sl [.agg [.int .i64 0,.int .i64 0,.str [],.aw],.agg [.int .i64 2,.int .i64 0,.str [43],.sl [.agg [.int .i64 2,.int .i64 0,.str [97],.aw],.agg [.int .i64 0,.int .i64 1,.str [],.aw]]]]]]=some (.tuple [.str [61,40,95,48,44,43,40,97,44,95,49,41,41],.int .i64 0]):=by kernel_rfl
  generalize fN.map bM.enc=pt at *;have c1:gz [2,1] [.str [88],.int .i64 0] [.str [88],.int .i64 0]=some true:=by kernel_rfl
  have c2:gz [2,1] [.str [89],.int .i64 1] [.str [89],.int .i64 1]=some true:=by kernel_rfl
  simp[c1,c2,RH,RE,S7,SW,Qk,eY,gJ,dL,mF,HL,q0,q1,q2,q3,q4]
 ·cases hv
theorem BU {t:Tm} (h:oB t=true):t.name.length≤64:=by
 unfold oB at h;split at h
 ·simp only[Bool.and_eq_true,decide_eq_true_eq] at h;rw[h.1.2];simp
 split at h
 ·simp only[Bool.and_eq_true,decide_eq_true_eq] at h;rw[h.1];simp
 split at h
 ·simp only[Bool.and_eq_true,decide_eq_true_eq,uh] at h;exact h.1.2.2
 ·cases h
mutual
theorem vN:∀t:Tm,t.tD oB=true→t.gV≤66*t.size
 | .nl k n s,h=>by
   rw[tu,Bool.and_eq_true] at h;have h1:=BU h.1;simp only[Tm.gV,Tm.size,Tm.name] at h1 ⊢;omega
 | .mk k n s us,h=>by
   rw[tu,Bool.and_eq_true] at h;have h1:=BU h.1;have h2:=xe us h.2;simp only[Tm.gV,Tm.size,Tm.name] at h1 ⊢;omega
theorem xe:∀us:List Tm,Tm.gU oB us=true→Tm.eZ us≤66*Tm.de us
 | [],_=>Nat.zero_le _
 | t::r,h=>by
   simp only[Tm.gU,Bool.and_eq_true] at h;have h1:=vN t h.1;have h2:=xe r h.2;simp only[Tm.eZ,Tm.de];omega
end
theorem xP {t:Tm} (h:fR t=true):t.gV < 1000000000:=by
 unfold fR at h;simp only[Bool.and_eq_true,decide_eq_true_eq] at h;have:=vN t h.2;omega
mutual
theorem FL:∀t:Tm,nC t t=true
 | .nl k n s=>by rw[vS];simp[Tm.args,kH]
 | .mk k n s us=>by
   rw[vS];simp[Tm.args,By us]
theorem By:∀us:List Tm,jA us us=true
 | []=>by simp[kH]
 | t::r=>by rw[nj,FL t,By r];rfl
end
theorem LS {t:Tm} (h:fR t=true):vF.S [t.enc,t.enc]=some (.bool true):=by
 rw[J9 t t ⟨xP h,xP h⟩,h,FL];rfl
theorem Ks {T:List bM} {s:List UInt8} {a:Tm} {n:List (List UInt8×Int)} (hT:T.length < 1000000) (h:ll T s=((a,n),0)):fR a=true∧n.length≤1025:=by
 unfold ll at h;by_cases hg:iJ T=false
 ·rw[if_pos hg] at h;cases h
 rw[if_neg hg] at h;by_cases hc:(dJ s).2.2=0
 ·rw[if_neg (fun g=>g hc)] at h;by_cases h2:(fT T (qf (dJ s).1 0)).1.2=2∨((fT T (qf (dJ s).1 0)).2.at_:Int) < (dJ s).1.length
  ·rw[if_pos h2] at h;cases h
  rw[if_neg h2] at h;by_cases h3:(fT T (qf (dJ s).1 0)).1.2=0
  ·rw[if_neg (fun g=>g h3)] at h;simp only[Prod.mk.injEq] at h;obtain⟨⟨rfl,rfl⟩,_⟩:=h;have hgd:=oP s;have hrc:=R9 (T:=T) (a:=0) hT hgd.1 hgd.2 (Nat.zero_le _);have hr:=(L8 hrc h3).1;obtain⟨_,_,g,e⟩:=wK h3;refine⟨by rw[e];exact g,?_⟩;have h4:=hr.nm;have h5:=hr.nx;have h6:=hr.le;have h7:=hgd.2;omega
  ·rw[if_pos h3] at h;exact absurd (congrArg Prod.snd h) h3
 ·rw[if_pos hc] at h;exact absurd (congrArg Prod.snd h) hc
noncomputable def Ad:List aR:=[qU,mm,qz,HN,vF]
theorem P8:∀s ∈ Ad,eK Tryz.prog cm s:=by simp[Ad,Ed,ux.lift,yo,F4,J1.lift]
theorem Jd {l:List Tok} (h:l≠[]):jz l=.sl (l.map Tok.enc):=by
 cases l with
 | nil=>exact absurd rfl h
 | cons x r=>rfl
theorem Bu (n:Nat) (s:List UInt8) (A:List AV) (hA:AV.ai A=0) (v4:AV) (hv4:v4=.aw∨∃W,v4=.sl W) (L:List Tok) (hl:L.length≤1024):∀(post pre:List Tok) (k md:Nat),L=pre++post→post.length < k→
 (∃h',ju 1 0 (cM (aT (au (dP Ad) (n+1)) (n+1) xf) nY 1 k (FC (.str s) (.ptr 0 0) v4 (jz L) (.int .i64 pre.length)) ⟨1,[.row A],1,md⟩)=some (.ret,FM 91 [(2,.bool true)],h'))∨
 (∃md',ju 1 0 (cM (aT (au (dP Ad) (n+1)) (n+1) xf) nY 1 k (FC (.str s) (.ptr 0 0) v4 (jz L) (.int .i64 pre.length)) ⟨1,[.row A],1,md⟩)=some (.exit 0,FM 91 [(0,.str s),(3,.ptr 0 0),(4,v4)],⟨1,[.row A],0,md'⟩)∧∀t ∈ post,t.kind≠6)
 | _,_,0,_,_,h=>by omega
 | [],pre,k+1,md,e,_=>by
   rw[List.append_nil] at e;subst e;rw[aC];right;have lz:=oZ (tz L)
   have sz:jz L=.aw∨∃W,jz L=.sl W:=by
    cases L with
    | nil=>exact .inl rfl
    | cons x r=>exact .inr ⟨_,rfl⟩
   generalize jz L=vz at *;rcases sz with rfl | ⟨W,rfl⟩<;>rcases hv4 with rfl | ⟨W4,rfl⟩<;>exact⟨_,by simp[-eC,xf,nY,Ad,gp,eY,gJ,fJ,jS,lz,hA];with_reducible rfl,fun t ht=>absurd ht List.not_mem_nil⟩
 | t::post,pre,k+1,md,e,hk=>by
   have hlen:L.length=pre.length+post.length+1:=by rw[e];simp;omega
   have ht:L[pre.length]? =some t:=by rw[e];simp
   have ih:=Bu n s A hA v4 hv4 L hl post (pre++[t]) k md (by rw[e];simp) (by simp only[List.length_cons] at hk;omega);rw[List.length_append,List.length_cons,List.length_nil] at ih;rw[aC];have lz:=oZ (tz L);have hz:L≠[]:=by rw[e];simp
   have sz:=Jd hz;have w1:=wrap_i64 (n:=(pre.length:Int)+1) (by omega) (by omega);have ht2:(L.map Tok.enc)[pre.length]? =some (.agg [.int .i64 t.kind,.str t.text,.int .i64 t.num,.bool t.gS,.int .i64 t.at_]):=by rw[List.getElem?_map,ht];rfl
   have hlt:(pre.length:Int) < (L.length:Int):=by omega
   rw[sz] at lz ih ⊢;generalize L.map Tok.enc=Z at *;by_cases h6:t.kind=6
   ·left;rcases hv4 with rfl | ⟨W4,rfl⟩<;>exact⟨_,by simp[-eC,xf,nY,Ad,gp,eY,gJ,fJ,jS,lz,hlt,ht2,h6,w1,hA];with_reducible rfl⟩
   ·rcases ih with⟨h',ih⟩ | ⟨md',ih,hp⟩
    ·left;refine⟨h',Eq.trans ?_ ih⟩;rcases hv4 with rfl | ⟨W4,rfl⟩<;>simp[-eC,xf,nY,Ad,gp,eY,gJ,fJ,jS,lz,hlt,ht2,h6,w1,hA]
    ·right;refine⟨md',Eq.trans ?_ ih,fun u hu=>?_⟩
     ·rcases hv4 with rfl | ⟨W4,rfl⟩<;>simp[-eC,xf,nY,Ad,gp,eY,gJ,fJ,jS,lz,hlt,ht2,h6,w1,hA]
     ·rcases List.mem_cons.1 hu with rfl | hu
      ·exact h6
      ·exact hp u hu
theorem qB (l:List (List UInt8×Int)):∀(fr:List AV) (h:aa) (o:cI),o.ev fr=eA l→bE fr h (.uR o)=some (.int .i64 l.length,h):=fun fr h o ho=>by
 rw[eC,ho]
 cases l with
 | nil=>rfl
 | cons x r=>simp[eA]
theorem Bg (n:Nat) (A B:List AV) (hA:AV.ai A=0) (hB:AV.ai B=0) (L:List (List UInt8×Int)) (hl:L.length≤1025):∀(post pre:List (List UInt8×Int)) (k md:Nat),L=pre++post→post.length < k→
 ∃md',ju 2 0 (cM (aT (au (dP Ad) (n+1)) (n+1) EF) x5 2 k (NC (eA L) (eA L) (.int .i64 pre.length)) ⟨2,[.row B,.row A],2,md⟩)=some (.exit 2,FM 91 [],⟨2,[.row B,.row A],0,md'⟩)
 | _,_,0,_,_,h=>by omega
 | [],pre,k+1,md,e,_=>by
   rw[List.append_nil] at e;subst e;rw[aC];have lz:=qB L
   have sz:eA L=.aw∨∃W,eA L=.sl W:=by
    cases L with
    | nil=>exact .inl rfl
    | cons x r=>exact .inr ⟨_,rfl⟩
   generalize eA L=vz at *;rcases sz with rfl | ⟨W,rfl⟩<;>exact⟨_,by simp[-eC,EF,x5,Ad,gp,eY,gJ,fJ,jS,lz,hA,hB];with_reducible rfl⟩
 | t::post,pre,k+1,md,e,hk=>by
   have hlen:L.length=pre.length+post.length+1:=by rw[e];simp;omega
   have ht:L[pre.length]? =some t:=by rw[e];simp
   obtain⟨md',ih⟩:=Bg n A B hA hB L hl post (pre++[t]) k md (by rw[e];simp) (by simp only[List.length_cons] at hk;omega);rw[List.length_append,List.length_cons,List.length_nil] at ih;rw[aC];have lz:=qB L;have hz:L≠[]:=by rw[e];simp
   have sz:=xN hz;have w1:=wrap_i64 (n:=(pre.length:Int)+1) (by omega) (by omega);have ht2:(L.map IA)[pre.length]? =some (.agg [.str t.1,.int .i64 t.2]):=by rw[List.getElem?_map,ht];rfl
   have hlt:(pre.length:Int) < (L.length:Int):=by omega
   have hq:gz [2,1] [.str t.1,.int .i64 t.2] [.str t.1,.int .i64 t.2]=some true:=by simp[gz,ij]
   rw[sz] at lz ih ⊢;generalize L.map IA=Z at *;refine⟨md',Eq.trans ?_ ih⟩;simp[-eC,EF,x5,Ad,gp,eY,gJ,fJ,jS,lz,hlt,ht2,hq,w1,hA,hB]
theorem Tryz.own:ownKnob Tryz.prog.godebug=none:=by kernel_rfl
theorem Tryz.laidOut:laidOutB Tryz.prog=true:=by kernel_rfl
theorem LC {l:List (String×DataW Unit)} {W:World} (hL:laidMetH Tryz.prog l W)
 (h:(l.filter fun x=>x.1== "internal/strconv.uint64pow10")=[("internal/strconv.uint64pow10",Lib.tabData .u64 Lib.pow10Tab)]∧(l.filter fun x=>x.1== "strconv.ErrRange")=[("strconv.ErrRange",Rows.laid_strconv_ErrRange)]):cm W:=by
 have h1:=hL.filter fun x=>x.1== "internal/strconv.uint64pow10"
 rw[h.1,MakeChecks.laidMetH_plain _ _ _ (by kernel_rfl)] at h1;have h2:=hL.filter fun x=>x.1== "strconv.ErrRange"
 rw[h.2,MakeChecks.laidMetH_plain _ _ _ (by kernel_rfl)] at h2;refine⟨Lib.tabIs_of_head (g:=5) (by kernel_rfl) (t:=251) (by kernel_rfl) (e:=213) (n:=20) (by kernel_rfl) (by kernel_rfl) (by kernel_rfl) (by kernel_rfl) h1,?_⟩;exact xM (g:=2) (t:=170) (ms:=#[("Error",139)]) (by kernel_rfl) (by kernel_rfl) (by kernel_rfl) h2
end Go.Proofs.YtjmeonoabiliiaaGreatDoor

namespace Go.Proofs.YtjmeonoabiliiaaGreatDoor
open Go Sz Go.ChangeShapes Go.WideShapes Go.ChangeAt Go.RowKit
mutual
def vb:AV→Nat
 | .bool _=>1
 | .int ..=>1
 | .str s=>s.length+1
 | .sl xs=>TX xs+1
 | .agg cs=>TX cs
 | _=>0
def TX:List AV→Nat
 | []=>0
 | v::r=>vb v+TX r
end
end Go.Proofs.YtjmeonoabiliiaaGreatDoor

namespace Go.Proofs.YtjmeonoabiliiaaGreatDoor
open Go Sz
theorem MG (us:List (List UInt8×Int)):eA us=.aw∨∃W,eA us=.sl W:=by
 cases us with
 | nil=>exact .inl rfl
 | cons x r=>exact .inr ⟨_,rfl⟩
theorem Js (us:List Tok):jz us=.aw∨∃W,jz us=.sl W:=by
 cases us with
 | nil=>exact .inl rfl
 | cons x r=>exact .inr ⟨_,rfl⟩
theorem zw (s:List UInt8):∃h',au (dP Ad) 200000 4 [.str s] h0=some (.bool true,h'):=by
 have q0:=uy;have q1:=De;by_cases la:(800:Int) < (s.length:Int)
 ·exact⟨_,by simp[Md,c4,Ad,gp,eY,gJ,fJ,jS,q0,q1,la];with_reducible rfl⟩
 have m1:s.length+2 < 9223372036854775808:=by omega
 have m2:s.length+1 < 9223372036854775808:=by omega
 have m3:s.length+1+4 < 9223372036854775808:=by omega
 have m4:1+s.length < 9223372036854775808:=by omega
 have m5:s.length+4+1 < 9223372036854775808:=by omega
 have qa:=tp (tX fN) (by decide) (s++[32,46]);have qb:=tp (tX fN) (by decide) (40::(s++[10,41,32,46]));have qc:=Ez s;have hgd:=oP s;have hok:=fun a n (h:ll fN (s++[32,46])=((a,n),0))=>Ks (by decide) h
 have hbr:=fun a n (h:ll fN (s++[32,46])=((a,n),0)) (hk:∀t ∈ (dJ s).1,t.kind≠6)=>xC (by omega) h hk
 generalize ll fN (s++[32,46])=ra at *;generalize ll fN (40::(s++[10,41,32,46]))=rb at *;obtain⟨⟨a,n⟩,ea⟩:=ra;unfold jw at qa qb;unfold uU at qc;dsimp only at qa;rw[ar] at qa;have ur:=aN a;have uc:=dq a;have sn:=MG n;have st:=Js (dJ s).1;generalize fN.map bM.enc=pt at *;by_cases h1:ea=0
 ·subst h1;obtain⟨hga,hnl⟩:=hok a n rfl;have hA:AV.ai [.int .i64 a.kind,.int .i64 a.num,.str a.name,a.cp]=0:=by simp[AV.ai,AV.refs,ur]
  rcases Bu 199998 s [.int .i64 a.kind,.int .i64 a.num,.str a.name,a.cp] hA (eA n) sn (dJ s).1 hgd.2 (dJ s).1 [] 199999 0 rfl (by have:=hgd.2;omega) with⟨⟨nx,os,wl,md⟩,lp⟩ | ⟨md,lp,hk⟩
  ·rw[List.length_nil,show (((0:Nat):Int))=0 from rfl] at lp;simp only[nY,FC,Ad] at lp;generalize eA n=vn at *;generalize jz (dJ s).1=vt at *;rcases sn with rfl | ⟨W,rfl⟩<;>rcases st with rfl | ⟨W2,rfl⟩<;>exact⟨_,by simp[-eC,Md,c4,nY,Ad,gp,eY,gJ,fJ,jS,q0,q1,qa,qc,la,m1,lp,ur,uc];with_reducible rfl⟩
  ·have hb:=hbr a n rfl hk;subst hb;dsimp only at qb;rw[ar] at qb;have qs:=LS hga;rw[ar] at qs;have lz:=qB n;obtain⟨md2,lp2⟩:=Bg 199998 [.int .i64 a.kind,.int .i64 a.num,.str a.name,a.cp] [.int .i64 a.kind,.int .i64 a.num,.str a.name,a.cp] hA hA n hnl n [] 199999 (min md 1) rfl (by omega);rw[List.length_nil,show (((0:Nat):Int))=0 from rfl] at lp lp2;simp only[nY,FC,Ad] at lp;simp only[x5,NC,Ad] at lp2;generalize eA n=vn at *;generalize jz (dJ s).1=vt at *;rcases sn with rfl | ⟨W,rfl⟩<;>rcases st with rfl | ⟨W2,rfl⟩<;>exact⟨_,by simp[-eC,an,Md,c4,nY,x5,Ad,gp,eY,gJ,fJ,jS,q0,q1,qa,qb,qc,qs,la,m1,m2,m3,m4,m5,lp,lp2,lz,ur,uc];with_reducible rfl⟩
 ·generalize eA n=vn at *;rcases sn with rfl | ⟨W,rfl⟩<;>exact⟨_,by simp[-eC,Md,c4,Ad,gp,eY,gJ,fJ,jS,q0,q1,qa,la,m1,h1,ur,uc];with_reducible rfl⟩
theorem xv (s:List UInt8):fX Tryz.prog cm 4 [.str s] (.bool true):=by
 obtain⟨h',e⟩:=zw s;exact ct (mI P8) e rfl (by simp[AV.ai,AV.refs])
theorem qY {H:Type} (ds:List (DataW H)) (h:qd Tryz.prog Tryz.f4.params.toList (ds.map kB)) (_:(DataW.weightsEach Tryz.prog Tryz.f4.params.toList ds).all (·≤reachBytes)=true):fX Tryz.prog cm 4 (ds.map kB) (.bool true):=by
 rw[Tryz.params4] at h
 match ds,h with
 | [d1],.cons h1 .nil=>
   obtain⟨a,e1,_⟩:=Px Tryz.underlying9 h1;simp only[List.map_cons,List.map_nil,e1];exact xv a
end Go.Proofs.YtjmeonoabiliiaaGreatDoor
