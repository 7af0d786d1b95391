import Derived.Test.YtjmeonoabiliiaaGreatDoorAt
import Derived.Test.YtjmeonoabiliiaaGreatDoorBd3
import Derived.Test.YtjmeonoabiliiaaGreatDoorBd2
import Derived.Test.YtjmeonoabiliiaaGreatDoorBd1
import Derived.Test.YtjmeonoabiliiaaGreatDoorArg
import Derived.Test.YtjmeonoabiliiaaGreatDoorRows
import Derived.ProofKit
set_option linter.unusedVariables false
set_option linter.unusedSimpArgs false
set_option linter.unusedSectionVars false
set_option maxHeartbeats 16000000
set_option maxRecDepth 100000

namespace Go.Proofs.YtjmeonoabiliiaaGreatDoor
open Go Sz
noncomputable def tq (N:Nat):bM:=⟨120,fun
 | [.ptr 0 0,.int .i64 n],os=>(match qJ os with
   | some R=>if R.st.rest.length≤N then some (.tuple [(bp R.T n R.st).1.1.enc,.int .i64 (bp R.T n R.st).1.2.1,.bool (bp R.T n R.st).1.2.2],some (dm R.x R.y R.st.names (bp R.T n R.st).2)) else none
   | none=>none)
 | _,_=>none⟩
theorem cg (N:Nat):(tq N).f=120:=(rfl)
theorem Hf (N:Nat) {x y:AV} {T:List bO} {L:List Tok} {st:St} (hx:bx x=some T) (hy:br y=some L) (h:RC T L st) (n:Int) (hn:st.rest.length≤N):
 (tq N).S [.ptr 0 0,.int .i64 n] (dj x y st)=some (.tuple [(bp T n st).1.1.enc,.int .i64 (bp T n st).1.2.1,.bool (bp T n st).1.2.2],some (dm x y st.names (bp T n st).2)):=by
 simp only[tq,iG hx hy h];rw[if_pos hn]
theorem JG (N:Nat) {x y:AV} {T:List bO} {L:List Tok} {st:St} (hx:bx x=some T) (hy:br y=some L) (h:RC T L st) (hN:st.rest.length≤N) (hE:b8 Tryz.prog cq (bh cw (ct N))) (n:Int):
 b9 Tryz.prog cq 120 [.ptr 0 0,.int .i64 n] (dj x y st) (.tuple [(bp T n st).1.1.enc,.int .i64 (bp T n st).1.2.1,.bool (bp T n st).1.2.2]) (some (dm x y st.names (bp T n st).2)):=by
 by_cases k4:(bm L st).kind=4
 ·exact Jq N hx hy h hN hE n k4
 by_cases k3:(bm L st).kind=3
 ·exact JS N hx hy h hN hE n k3
 by_cases k5:(bm L st).kind=5
 ·by_cases t1:(bm L st).text=[40]
  ·cases hok:(af T 1200 (aC st)).1.2.2 with
   | true=>exact Ea N hx hy h hN hE n k5 t1 hok
   | false=>exact DU N hx hy h hN hE n k5 t1 hok
  by_cases t2:(bm L st).text=[91]
  ·exact Iz N hx hy h hN hE n k5 t2
  by_cases t3:(bm L st).text=[123]
  ·cases hok:(af T 1200 (aC st)).1.2.2 with
   | true=>exact CS N hx hy h hN hE n k5 t3 hok
   | false=>exact Cy N hx hy h hN hE n k5 t3 hok
  exact Kh N hx hy h hN hE n k5 t1 t2 t3
 cases kn:(decide ((bm L st).kind=1)||decide ((bm L st).kind=2)) with
 | false=>
   rw[Bool.or_eq_false_iff,decide_eq_false_iff_not,decide_eq_false_iff_not] at kn;exact HL N hx hy h hN hE n kn.1 kn.2 k3 k4 k5
 | true=>
   cases ko:(bm L st).ig with
   | true=>
     cases hok:(aO T (aC (aC st))).1.2 with
     | true=>exact Co N hx hy h hN hE n kn ko hok
     | false=>exact CE N hx hy h hN hE n kn ko hok
   | false=>
     by_cases k1:(bm L st).kind=1
     ·by_cases kt:(bm L st).text=[45]
      ·by_cases k44:(bm L (aC st)).kind=4
       ·by_cases ka:(bm L (aC st)).at_=(bm L st).at_+1
        ·exact IN N hx hy h hN hE n k1 kt ko k44 ka
        ·exact B4 N hx hy h hN hE n kn ko k1 kt k44 ka
       ·exact B8 N hx hy h hN hE n kn ko k1 kt k44
      ·exact AJ N hx hy h hN hE n kn ko k1 kt
     ·exact BR N hx hy h hN hE n kn ko k1
theorem G1 (N:Nat) (hN:dy Tryz.prog cq (fO N)):dy Tryz.prog cq (tq N):=fun args os v r hv=>by
 unfold tq at hv;dsimp only at hv;split at hv
 ·rename_i os n;split at hv
  ·rename_i R hR;split at hv
   ·rename_i hn;cases hv;obtain⟨hx,hy,rfl,h⟩:=gN hR;rw[cg];have hE:b8 Tryz.prog cq (bh cw (ct N)):=eV (by simp[cw,Nt.lift,wD.lift,rJ.lift]) (by simp[ct,hN,rZ,NM,wm,DT N hN,uP N hN,DD N hN]);exact JG N hx hy h hn hE n
   ·cases hv
  ·cases hv
 ·cases hv
section
variable {rec:Int→St→PR×St} {T:List bO}
theorem pO (M:Nat) (n:Int) (t:Tm) (lv:Int) (st:St):dZ rec T M n (t,lv,false) st=((t,lv,false),st):=by
 cases M with
 | zero=>rfl
 | succ M=>rfl
theorem eJ {M:Nat} {n:Int} {t:Tm} {lv:Int} {st:St} {B:bO×Bool} (hb:db T (aQ st)=B) (h:(!B.2||decide (n < B.1.l)||decide ((a7 B.1).1 < lv))=true):dZ rec T M n (t,lv,true) st=((t,lv,true),st):=by
 cases M with
 | zero=>rfl
 | succ M=>
   unfold dZ;rw[hb,if_neg (by simp),if_pos h]
theorem pF {M:Nat} {n:Int} {t:Tm} {lv:Int} {st:St} {o:bO} (hb:db T (aQ st)=(o,true)) (h1:¬ n < o.l) (h2:¬ (a7 o).1 < lv):dZ rec T (M+1) n (t,lv,true) st=dZ rec T M n (cm (aQ st).text [t,(rec (a7 o).2 (aC st)).1.1],o.l,(rec (a7 o).2 (aC st)).1.2.2) (rec (a7 o).2 (aC st)).2:=by
 conv=>lhs;unfold dZ
 rw[hb,if_neg (by simp),if_neg (by simp[h1,h2])]
end
theorem mM (T:List bO) (x:gk):0≤(db T x).1.l∧(db T x).1.l≤1200:=by
 unfold db;split
 ·exact⟨by decide,by decide⟩
 ·exact tR T x.text false
theorem kP {T:List bO} {x:gk} (h:(db T x).2=true):x.kind≠0:=fun e=>by
 unfold db eN at h;rw[e] at h;cases h
theorem jS (s:List UInt8) (u v:Tm):(cm s [u,v]).cE=.sl [.agg [.int .i64 u.kind,.int .i64 u.num,.str u.name,u.cE],.agg [.int .i64 v.kind,.int .i64 v.num,.str v.name,v.cE]]:=by
 rw[←ar,←ar];rfl
noncomputable def ee:List aS:=[uk,rU]
noncomputable def ef (N:Nat):List bM:=[pY,zh,tq N,fO N]
def pZ (x y:AV) (r:PR×St) (md:Nat):Option (Ex×List AV×aa):=some (.exit 0,FM 75 [(4,.ptr 1 0),(7,.ptr 2 0),(8,.int .i64 r.1.2.1),(9,.bool r.1.2.2)],⟨3,[.row [.int .i64 r.1.1.kind,.int .i64 r.1.1.num,.str r.1.1.name,r.1.1.cE],.row [.int .i64 0,.int .i64 0,.str [],.aA],.row [x,y,.int .i64 r.2.at_,.int .i64 r.2.next,.aA]],1,md⟩)
def D5 (x y:AV) (r:PR×St) (md:Nat):Option (Ex×List AV×aa):=some (.exit 0,FM 75 [(4,.ptr 1 0),(7,.ptr 2 0),(8,.int .i64 r.1.2.1),(9,.bool r.1.2.2)],⟨4,[.row (ak r.2.names),.row [.int .i64 r.1.1.kind,.int .i64 r.1.1.num,.str r.1.1.name,r.1.1.cE],.row [.int .i64 0,.int .i64 0,.str [],.aA],.row [x,y,.int .i64 r.2.at_,.int .i64 r.2.next,.vec 3 0 r.2.names.length 2 r.2.names.length]],0,md⟩)
def Hl (x y:AV) (r:PR×St) (md:Nat):Option (Ex×List AV×aa):=some (.exit 0,FM 75 [(4,.ptr 1 0),(7,.ptr 3 0),(8,.int .i64 r.1.2.1),(9,.bool r.1.2.2)],⟨4,[.row [.int .i64 r.1.1.kind,.int .i64 r.1.1.num,.str r.1.1.name,r.1.1.cE],.row (ak r.2.names),.row [.int .i64 0,.int .i64 0,.str [],.aA],.row [x,y,.int .i64 r.2.at_,.int .i64 r.2.next,.vec 2 0 r.2.names.length 2 r.2.names.length]],0,md⟩)
def DP (x y:AV) (r:PR×St) (md:Nat):Option (Ex×List AV×aa):=some (.exit 0,FM 75 [(4,.ptr 1 0),(7,.ptr 3 0),(8,.int .i64 r.1.2.1),(9,.bool r.1.2.2)],⟨5,[.row (ak r.2.names),.row [.int .i64 r.1.1.kind,.int .i64 r.1.1.num,.str r.1.1.name,r.1.1.cE],.dead,.row [.int .i64 0,.int .i64 0,.str [],.aA],.row [x,y,.int .i64 r.2.at_,.int .i64 r.2.next,.vec 4 0 r.2.names.length 2 r.2.names.length]],0,md⟩)
def HA (x y:AV) (r:PR×St) (md:Nat):Option (Ex×List AV×aa):=some (.exit 0,FM 75 [(4,.ptr 2 0),(7,.ptr 4 0),(8,.int .i64 r.1.2.1),(9,.bool r.1.2.2)],⟨5,[.row [.int .i64 r.1.1.kind,.int .i64 r.1.1.num,.str r.1.1.name,r.1.1.cE],.row (ak r.2.names),.row [.int .i64 0,.int .i64 0,.str [],.aA],.dead,.row [x,y,.int .i64 r.2.at_,.int .i64 r.2.next,.vec 3 0 r.2.names.length 2 r.2.names.length]],0,md⟩)
def EF (x y:AV) (r:PR×St) (md:Nat):Option (Ex×List AV×aa):=some (.exit 0,FM 75 [(4,.ptr 2 0),(7,.ptr 4 0),(8,.int .i64 r.1.2.1),(9,.bool r.1.2.2)],⟨6,[.row (ak r.2.names),.row [.int .i64 r.1.1.kind,.int .i64 r.1.1.num,.str r.1.1.name,r.1.1.cE],.dead,.row [.int .i64 0,.int .i64 0,.str [],.aA],.dead,.row [x,y,.int .i64 r.2.at_,.int .i64 r.2.next,.vec 5 0 r.2.names.length 2 r.2.names.length]],0,md⟩)
theorem NP (n N:Nat) {x y:AV} {T:List bO} {L:List Tok} (hx:bx x=some T) (hy:br y=some L) (kk:Int):∀(M:Nat) (t:Tm) (lv:Int) (ok:Bool) (st:St) (m md:Nat),(ok=true→RC T L st)→st.names≠[]→st.rest.length≤N→st.rest.length < M→M≤m→
 ∃md',jf 3 1 (cO (aT (az (bh ee (ef N)) (n+1)) (n+1) dt) cC 3 m (jv (.ptr 0 0) (.int .i64 kk) (.ptr 1 0) (.ptr 2 0) (.int .i64 lv) (.bool ok)) ⟨4,[.row (ak st.names),.row [.int .i64 t.kind,.int .i64 t.num,.str t.name,t.cE],.row [.int .i64 0,.int .i64 0,.str [],.aA],.row [x,y,.int .i64 st.at_,.int .i64 st.next,.vec 3 0 st.names.length 2 st.names.length]],0,md⟩)=
   D5 x y (dZ (af T) T M kk (t,lv,ok) st) md'
 | 0,_,_,_,_,_,_,_,_,_,h,_=>by omega
 | _+1,_,_,_,_,0,_,_,_,_,_,h=>by omega
 | M+1,t,lv,ok,st,m+1,md,hcc,h0,hN,hM,hm=>by
   have hlx:=bD hx;have hly:=bo hy;have x1:=hlx.refs;have y1:=hly.refs;have g1:=cT hlx hly;have g2:=cR hlx hly;have g3:=cU hlx hly;have g4:=cS hlx hly;have g5:=cV hlx hly;have g6:=cQ hlx hly;have kx:=fun n0 acc r=>a8 n0 acc r hlx;have ky:=fun n0 acc r=>a8 n0 acc r hly;have rx:=fun n0 ks=>ba n0 ks hlx;have ry:=fun n0 ks=>ba n0 ks hly
   rw[aB];have ur:=aP t;have uc:=cL t;have f1:=aF st.names;have f2:=aE st.names;have f3:=ah st.names
   cases ok with
   | false=>
     rw[pO];simp only[D5];generalize ak st.names=Fs at *;generalize st.names.length=ns at *;exact⟨0,by simp[ai,dt,cC,ee,ef,bL,a6,aY,cM,cg,an,aW,aR,x1,y1,g1,g2,g3,g4,g5,g6,kx,ky,rx,ry,-ae,-aj,-ag,-keeps,-cF,aH,aG,aL,aJ,ay,au,aN,aK,aM,aw,ax,aI,ur,uc,f1,f2,f3]⟩
   | true=>
     have hc:=hcc rfl;have q0:=dp hx hy hc;have qb:=mT hx hy hc (bm L st);have eb:=mB hc;have bl:=mM T (aQ st);have bk:=kP (T:=T) (x:=aQ st);have ts:(aQ st).text=(bm L st).text:=by rw[bu hc]
     rw[eb] at bl bk;rw[bY,bd h0] at q0;rw[bd h0,show (dJ T (bm L st)).1.enc=.agg [.str (dJ T (bm L st)).1.n,.str (dJ T (bm L st)).1.k,.int .i64 (dJ T (bm L st)).1.l] from rfl] at qb;have qs:=jK (dJ T (bm L st)).1 bl;generalize dJ T (bm L st)=B at *;obtain⟨o,fd⟩:=B;dsimp only at qb qs bl bk
     cases fd with
     | false=>
       rw[eJ eb rfl];simp only[D5];generalize ak st.names=Fs at *;generalize st.names.length=ns at *;exact⟨0,by simp[ai,dt,cC,ee,ef,bL,a6,aY,cM,cg,an,aW,aR,x1,y1,g1,g2,g3,g4,g5,g6,kx,ky,rx,ry,-ae,-aj,-ag,-keeps,-cF,aH,aG,aL,aJ,ay,au,aN,aK,aM,aw,ax,aI,ur,uc,f1,f2,f3,q0,qb,qs]⟩
     | true=>
       by_cases c2:kk < o.l
       ·rw[eJ eb (by simp[c2])];simp only[D5];generalize ak st.names=Fs at *;generalize st.names.length=ns at *;exact⟨0,by simp[ai,dt,cC,ee,ef,bL,a6,aY,cM,cg,an,aW,aR,x1,y1,g1,g2,g3,g4,g5,g6,kx,ky,rx,ry,-ae,-aj,-ag,-keeps,-cF,aH,aG,aL,aJ,ay,au,aN,aK,aM,aw,ax,aI,ur,uc,f1,f2,f3,q0,qb,qs,c2]⟩
       by_cases c3:(a7 o).1 < lv
       ·rw[eJ eb (by simp[c3])];simp only[D5];generalize ak st.names=Fs at *;generalize st.names.length=ns at *;exact⟨0,by simp[ai,dt,cC,ee,ef,bL,a6,aY,cM,cg,an,aW,aR,x1,y1,g1,g2,g3,g4,g5,g6,kx,ky,rx,ry,-ae,-aj,-ag,-keeps,-cF,aH,aG,aL,aJ,ay,au,aN,aK,aM,aw,ax,aI,ur,uc,f1,f2,f3,q0,qb,qs,c2,c3]⟩
       have hkk:=bk rfl;have hat:=eP hc hkk;have c1:=hc.xJ (by omega);have hl:=cI st;have hp:=bN hkk;have w1:=wrap_i64 (n:=(st.at_:Int)+1) (by omega) (by have:=hc.lb;omega);rw[pF eb c2 c3,ts];have qt:=dk N hx hy c1 (a7 o).2 (by omega);rw[show (aC st).names=st.names from rfl,ar] at qt;have hlv:=(bP T).lv (a7 o).2 (aC st);have hln:=hlv.len;have hrc:(af T (a7 o).2 (aC st)).1.2.2=true→RC T L (af T (a7 o).2 (aC st)).2:=fun h=>(c1.ok ((bP T).ok _ _ h)).1
       have hnm:st.names≠[]→(af T (a7 o).2 (aC st)).2.names≠[]:=hlv.names;have vr:=aP (af T (a7 o).2 (aC st)).1.1;have vc:=cL (af T (a7 o).2 (aC st)).1.1;have qc:=iD (bm L st).text [t,(af T (a7 o).2 (aC st)).1.1] (by simp);rw[yw,List.map_cons,List.map_cons,List.map_nil,ar t,ar (af T (a7 o).2 (aC st)).1.1] at qc;generalize af T (a7 o).2 (aC st)=r at *;obtain⟨⟨u,lv2,ok2⟩,s1⟩:=r;dsimp only at *;have h1:=hnm h0;rw[fU h0,dq h0 h1] at qt;obtain⟨md',ih⟩:=NP n N hx hy kk M (cm (bm L st).text [t,u]) o.l ok2 s1 m (min md 0) hrc h1 (by omega) (by omega) (by omega);rw[show (cm (bm L st).text [t,u]).kind=2 from rfl,show (cm (bm L st).text [t,u]).num=0 from rfl,show (cm (bm L st).text [t,u]).name=(bm L st).text from rfl,jS] at ih;refine⟨md',Eq.trans ?_ ih⟩;have e1:=aF s1.names;have e2:=aE s1.names;have e3:=ah s1.names;generalize ak s1.names=Gs at *;generalize s1.names.length=gs at *;generalize ak st.names=Fs at *;generalize st.names.length=ns at *;simp[ai,dt,cC,ee,ef,bL,a6,aY,cM,cg,an,aW,aR,x1,y1,g1,g2,g3,g4,g5,g6,kx,ky,rx,ry,-ae,-aj,-ag,-keeps,-cF,aH,aG,aL,aJ,ay,au,aN,aK,aM,aw,ax,aI,ur,uc,f1,f2,f3,e1,e2,e3,q0,qb,qs,qt,qc,c2,c3,w1,vr,vc]
theorem NY (n N:Nat) {x y:AV} {T:List bO} {L:List Tok} (hx:bx x=some T) (hy:br y=some L) (kk:Int):∀(M:Nat) (t:Tm) (lv:Int) (ok:Bool) (st:St) (m md:Nat),(ok=true→RC T L st)→st.names=[]→st.rest.length≤N→st.rest.length < M→M≤m→
 ∃md',jf 3 1 (cO (aT (az (bh ee (ef N)) (n+1)) (n+1) dt) cC 3 m (jv (.ptr 0 0) (.int .i64 kk) (.ptr 1 0) (.ptr 2 0) (.int .i64 lv) (.bool ok)) ⟨3,[.row [.int .i64 t.kind,.int .i64 t.num,.str t.name,t.cE],.row [.int .i64 0,.int .i64 0,.str [],.aA],.row [x,y,.int .i64 st.at_,.int .i64 st.next,.aA]],3,md⟩)=
   (if (dZ (af T) T M kk (t,lv,ok) st).2.names=[] then pZ x y (dZ (af T) T M kk (t,lv,ok) st) md' else D5 x y (dZ (af T) T M kk (t,lv,ok) st) md')
 | 0,_,_,_,_,_,_,_,_,_,h,_=>by omega
 | _+1,_,_,_,_,0,_,_,_,_,_,h=>by omega
 | M+1,t,lv,ok,st,m+1,md,hcc,h0,hN,hM,hm=>by
   have hlx:=bD hx;have hly:=bo hy;have x1:=hlx.refs;have y1:=hly.refs;have g1:=cT hlx hly;have g2:=cR hlx hly;have g3:=cU hlx hly;have g4:=cS hlx hly;have g5:=cV hlx hly;have g6:=cQ hlx hly;have kx:=fun n0 acc r=>a8 n0 acc r hlx;have ky:=fun n0 acc r=>a8 n0 acc r hly;have rx:=fun n0 ks=>ba n0 ks hlx;have ry:=fun n0 ks=>ba n0 ks hly
   rw[aB];have ur:=aP t;have uc:=cL t
   cases ok with
   | false=>
     rw[pO];simp only[if_pos h0];simp only[pZ];exact⟨md,by simp[ai,dt,cC,ee,ef,bL,a6,aY,cM,cg,an,aW,aR,x1,y1,g1,g2,g3,g4,g5,g6,kx,ky,rx,ry,-ae,-aj,-ag,-keeps,-cF,aH,aG,aL,aJ,ay,au,aN,aK,aM,aw,ax,aI,ur,uc]⟩
   | true=>
     have hc:=hcc rfl;have q0:=dp hx hy hc;have qb:=mT hx hy hc (bm L st);have eb:=mB hc;have bl:=mM T (aQ st);have bk:=kP (T:=T) (x:=aQ st);have ts:(aQ st).text=(bm L st).text:=by rw[bu hc]
     rw[eb] at bl bk;rw[bY,bf h0] at q0;rw[bf h0,show (dJ T (bm L st)).1.enc=.agg [.str (dJ T (bm L st)).1.n,.str (dJ T (bm L st)).1.k,.int .i64 (dJ T (bm L st)).1.l] from rfl] at qb;have qs:=jK (dJ T (bm L st)).1 bl;generalize dJ T (bm L st)=B at *;obtain⟨o,fd⟩:=B;dsimp only at qb qs bl bk
     cases fd with
     | false=>
       rw[eJ eb rfl];simp only[if_pos h0];simp only[pZ];exact⟨min md 3,by simp[ai,dt,cC,ee,ef,bL,a6,aY,cM,cg,an,aW,aR,x1,y1,g1,g2,g3,g4,g5,g6,kx,ky,rx,ry,-ae,-aj,-ag,-keeps,-cF,aH,aG,aL,aJ,ay,au,aN,aK,aM,aw,ax,aI,ur,uc,q0,qb,qs]⟩
     | true=>
       by_cases c2:kk < o.l
       ·rw[eJ eb (by simp[c2])];simp only[if_pos h0];simp only[pZ];exact⟨min md 3,by simp[ai,dt,cC,ee,ef,bL,a6,aY,cM,cg,an,aW,aR,x1,y1,g1,g2,g3,g4,g5,g6,kx,ky,rx,ry,-ae,-aj,-ag,-keeps,-cF,aH,aG,aL,aJ,ay,au,aN,aK,aM,aw,ax,aI,ur,uc,q0,qb,qs,c2]⟩
       by_cases c3:(a7 o).1 < lv
       ·rw[eJ eb (by simp[c3])];simp only[if_pos h0];simp only[pZ];exact⟨min md 3,by simp[ai,dt,cC,ee,ef,bL,a6,aY,cM,cg,an,aW,aR,x1,y1,g1,g2,g3,g4,g5,g6,kx,ky,rx,ry,-ae,-aj,-ag,-keeps,-cF,aH,aG,aL,aJ,ay,au,aN,aK,aM,aw,ax,aI,ur,uc,q0,qb,qs,c2,c3]⟩
       have hkk:=bk rfl;have hat:=eP hc hkk;have c1:=hc.xJ (by omega);have hl:=cI st;have hp:=bN hkk;have w1:=wrap_i64 (n:=(st.at_:Int)+1) (by omega) (by have:=hc.lb;omega);rw[pF eb c2 c3,ts];have qt:=dk N hx hy c1 (a7 o).2 (by omega);rw[show (aC st).names=st.names from rfl,ar] at qt;have hlv:=(bP T).lv (a7 o).2 (aC st);have hln:=hlv.len;have hrc:(af T (a7 o).2 (aC st)).1.2.2=true→RC T L (af T (a7 o).2 (aC st)).2:=fun h=>(c1.ok ((bP T).ok _ _ h)).1
       have hnm:st.names≠[]→(af T (a7 o).2 (aC st)).2.names≠[]:=hlv.names;have vr:=aP (af T (a7 o).2 (aC st)).1.1;have vc:=cL (af T (a7 o).2 (aC st)).1.1;have qc:=iD (bm L st).text [t,(af T (a7 o).2 (aC st)).1.1] (by simp);rw[yw,List.map_cons,List.map_cons,List.map_nil,ar t,ar (af T (a7 o).2 (aC st)).1.1] at qc;generalize af T (a7 o).2 (aC st)=r at *;obtain⟨⟨u,lv2,ok2⟩,s1⟩:=r;dsimp only at *;by_cases h1:s1.names=[]
       ·rw[dX h0,h0,cA h1] at qt;obtain⟨md',ih⟩:=NY n N hx hy kk M (cm (bm L st).text [t,u]) o.l ok2 s1 m (min md 0) hrc h1 (by omega) (by omega) (by omega);rw[show (cm (bm L st).text [t,u]).kind=2 from rfl,show (cm (bm L st).text [t,u]).num=0 from rfl,show (cm (bm L st).text [t,u]).name=(bm L st).text from rfl,jS] at ih;refine⟨md',Eq.trans ?_ ih⟩;simp[ai,dt,cC,ee,ef,bL,a6,aY,cM,cg,an,aW,aR,x1,y1,g1,g2,g3,g4,g5,g6,kx,ky,rx,ry,-ae,-aj,-ag,-keeps,-cF,aH,aG,aL,aJ,ay,au,aN,aK,aM,aw,ax,aI,ur,uc,q0,qb,qs,qt,qc,c2,c3,w1,vr,vc]
       ·rw[dX h0,h0,bX h1] at qt;obtain⟨md',ih⟩:=NP n N hx hy kk M (cm (bm L st).text [t,u]) o.l ok2 s1 m (min md 0) hrc h1 (by omega) (by omega) (by omega);rw[show (cm (bm L st).text [t,u]).kind=2 from rfl,show (cm (bm L st).text [t,u]).num=0 from rfl,show (cm (bm L st).text [t,u]).name=(bm L st).text from rfl,jS] at ih;have hnn:¬ (dZ (af T) T M kk (cm (bm L st).text [t,u],o.l,ok2) s1).2.names=[]:=((ib (bP T) T M kk (cm (bm L st).text [t,u],o.l,ok2) s1).1.names h1)
        simp only[if_neg hnn];refine⟨md',Eq.trans ?_ ih⟩;have e1:=aF s1.names;have e2:=aE s1.names;have e3:=ah s1.names;generalize ak s1.names=Gs at *;generalize s1.names.length=gs at *;simp[ai,dt,cC,ee,ef,bL,a6,aY,cM,cg,an,aW,aR,x1,y1,g1,g2,g3,g4,g5,g6,kx,ky,rx,ry,-ae,-aj,-ag,-keeps,-cF,aH,aG,aL,aJ,ay,au,aN,aK,aM,aw,ax,aI,ur,uc,e1,e2,e3,q0,qb,qs,qt,qc,c2,c3,w1,vr,vc]
theorem Og (n N:Nat) {x y:AV} {T:List bO} {L:List Tok} (hx:bx x=some T) (hy:br y=some L) (kk:Int):∀(M:Nat) (t:Tm) (lv:Int) (ok:Bool) (st:St) (m md:Nat),(ok=true→RC T L st)→st.names≠[]→st.rest.length≤N→st.rest.length < M→M≤m→
 ∃md',jf 4 0 (cO (aT (az (bh ee (ef N)) (n+1)) (n+1) dt) cC 4 m (jv (.ptr 0 0) (.int .i64 kk) (.ptr 1 0) (.ptr 3 0) (.int .i64 lv) (.bool ok)) ⟨5,[.row (ak st.names),.row [.int .i64 t.kind,.int .i64 t.num,.str t.name,t.cE],.dead,.row [.int .i64 0,.int .i64 0,.str [],.aA],.row [x,y,.int .i64 st.at_,.int .i64 st.next,.vec 4 0 st.names.length 2 st.names.length]],0,md⟩)=
   DP x y (dZ (af T) T M kk (t,lv,ok) st) md'
 | 0,_,_,_,_,_,_,_,_,_,h,_=>by omega
 | _+1,_,_,_,_,0,_,_,_,_,_,h=>by omega
 | M+1,t,lv,ok,st,m+1,md,hcc,h0,hN,hM,hm=>by
   have hlx:=bD hx;have hly:=bo hy;have x1:=hlx.refs;have y1:=hly.refs;have g1:=cT hlx hly;have g2:=cR hlx hly;have g3:=cU hlx hly;have g4:=cS hlx hly;have g5:=cV hlx hly;have g6:=cQ hlx hly;have kx:=fun n0 acc r=>a8 n0 acc r hlx;have ky:=fun n0 acc r=>a8 n0 acc r hly;have rx:=fun n0 ks=>ba n0 ks hlx;have ry:=fun n0 ks=>ba n0 ks hly
   rw[aB];have ur:=aP t;have uc:=cL t;have f1:=aF st.names;have f2:=aE st.names;have f3:=ah st.names
   cases ok with
   | false=>
     rw[pO];simp only[DP];generalize ak st.names=Fs at *;generalize st.names.length=ns at *;exact⟨0,by simp[ai,dt,cC,ee,ef,bL,a6,aY,cM,cg,an,aW,aR,x1,y1,g1,g2,g3,g4,g5,g6,kx,ky,rx,ry,-ae,-aj,-ag,-keeps,-cF,aH,aG,aL,aJ,ay,au,aN,aK,aM,aw,ax,aI,ur,uc,f1,f2,f3]⟩
   | true=>
     have hc:=hcc rfl;have q0:=dp hx hy hc;have qb:=mT hx hy hc (bm L st);have eb:=mB hc;have bl:=mM T (aQ st);have bk:=kP (T:=T) (x:=aQ st);have ts:(aQ st).text=(bm L st).text:=by rw[bu hc]
     rw[eb] at bl bk;rw[bY,bd h0] at q0;rw[bd h0,show (dJ T (bm L st)).1.enc=.agg [.str (dJ T (bm L st)).1.n,.str (dJ T (bm L st)).1.k,.int .i64 (dJ T (bm L st)).1.l] from rfl] at qb;have qs:=jK (dJ T (bm L st)).1 bl;generalize dJ T (bm L st)=B at *;obtain⟨o,fd⟩:=B;dsimp only at qb qs bl bk
     cases fd with
     | false=>
       rw[eJ eb rfl];simp only[DP];generalize ak st.names=Fs at *;generalize st.names.length=ns at *;exact⟨0,by simp[ai,dt,cC,ee,ef,bL,a6,aY,cM,cg,an,aW,aR,x1,y1,g1,g2,g3,g4,g5,g6,kx,ky,rx,ry,-ae,-aj,-ag,-keeps,-cF,aH,aG,aL,aJ,ay,au,aN,aK,aM,aw,ax,aI,ur,uc,f1,f2,f3,q0,qb,qs]⟩
     | true=>
       by_cases c2:kk < o.l
       ·rw[eJ eb (by simp[c2])];simp only[DP];generalize ak st.names=Fs at *;generalize st.names.length=ns at *;exact⟨0,by simp[ai,dt,cC,ee,ef,bL,a6,aY,cM,cg,an,aW,aR,x1,y1,g1,g2,g3,g4,g5,g6,kx,ky,rx,ry,-ae,-aj,-ag,-keeps,-cF,aH,aG,aL,aJ,ay,au,aN,aK,aM,aw,ax,aI,ur,uc,f1,f2,f3,q0,qb,qs,c2]⟩
       by_cases c3:(a7 o).1 < lv
       ·rw[eJ eb (by simp[c3])];simp only[DP];generalize ak st.names=Fs at *;generalize st.names.length=ns at *;exact⟨0,by simp[ai,dt,cC,ee,ef,bL,a6,aY,cM,cg,an,aW,aR,x1,y1,g1,g2,g3,g4,g5,g6,kx,ky,rx,ry,-ae,-aj,-ag,-keeps,-cF,aH,aG,aL,aJ,ay,au,aN,aK,aM,aw,ax,aI,ur,uc,f1,f2,f3,q0,qb,qs,c2,c3]⟩
       have hkk:=bk rfl;have hat:=eP hc hkk;have c1:=hc.xJ (by omega);have hl:=cI st;have hp:=bN hkk;have w1:=wrap_i64 (n:=(st.at_:Int)+1) (by omega) (by have:=hc.lb;omega);rw[pF eb c2 c3,ts];have qt:=dk N hx hy c1 (a7 o).2 (by omega);rw[show (aC st).names=st.names from rfl,ar] at qt;have hlv:=(bP T).lv (a7 o).2 (aC st);have hln:=hlv.len;have hrc:(af T (a7 o).2 (aC st)).1.2.2=true→RC T L (af T (a7 o).2 (aC st)).2:=fun h=>(c1.ok ((bP T).ok _ _ h)).1
       have hnm:st.names≠[]→(af T (a7 o).2 (aC st)).2.names≠[]:=hlv.names;have vr:=aP (af T (a7 o).2 (aC st)).1.1;have vc:=cL (af T (a7 o).2 (aC st)).1.1;have qc:=iD (bm L st).text [t,(af T (a7 o).2 (aC st)).1.1] (by simp);rw[yw,List.map_cons,List.map_cons,List.map_nil,ar t,ar (af T (a7 o).2 (aC st)).1.1] at qc;generalize af T (a7 o).2 (aC st)=r at *;obtain⟨⟨u,lv2,ok2⟩,s1⟩:=r;dsimp only at *;have h1:=hnm h0;rw[fU h0,dq h0 h1] at qt;obtain⟨md',ih⟩:=Og n N hx hy kk M (cm (bm L st).text [t,u]) o.l ok2 s1 m (min md 0) hrc h1 (by omega) (by omega) (by omega);rw[show (cm (bm L st).text [t,u]).kind=2 from rfl,show (cm (bm L st).text [t,u]).num=0 from rfl,show (cm (bm L st).text [t,u]).name=(bm L st).text from rfl,jS] at ih;refine⟨md',Eq.trans ?_ ih⟩;have e1:=aF s1.names;have e2:=aE s1.names;have e3:=ah s1.names;generalize ak s1.names=Gs at *;generalize s1.names.length=gs at *;generalize ak st.names=Fs at *;generalize st.names.length=ns at *;simp[ai,dt,cC,ee,ef,bL,a6,aY,cM,cg,an,aW,aR,x1,y1,g1,g2,g3,g4,g5,g6,kx,ky,rx,ry,-ae,-aj,-ag,-keeps,-cF,aH,aG,aL,aJ,ay,au,aN,aK,aM,aw,ax,aI,ur,uc,f1,f2,f3,e1,e2,e3,q0,qb,qs,qt,qc,c2,c3,w1,vr,vc]
theorem R7 (n N:Nat) {x y:AV} {T:List bO} {L:List Tok} (hx:bx x=some T) (hy:br y=some L) (kk:Int):∀(M:Nat) (t:Tm) (lv:Int) (ok:Bool) (st:St) (m md:Nat),(ok=true→RC T L st)→st.names≠[]→st.rest.length≤N→st.rest.length < M→M≤m→
 (∃md',jf 4 0 (cO (aT (az (bh ee (ef N)) (n+1)) (n+1) dt) cC 4 m (jv (.ptr 0 0) (.int .i64 kk) (.ptr 1 0) (.ptr 3 0) (.int .i64 lv) (.bool ok)) ⟨4,[.row [.int .i64 t.kind,.int .i64 t.num,.str t.name,t.cE],.row (ak st.names),.row [.int .i64 0,.int .i64 0,.str [],.aA],.row [x,y,.int .i64 st.at_,.int .i64 st.next,.vec 2 0 st.names.length 2 st.names.length]],4,md⟩)=
  Hl x y ((t,lv,ok),st) md'∧dZ (af T) T M kk (t,lv,ok) st=((t,lv,ok),st))∨∃md',jf 4 0 (cO (aT (az (bh ee (ef N)) (n+1)) (n+1) dt) cC 4 m (jv (.ptr 0 0) (.int .i64 kk) (.ptr 1 0) (.ptr 3 0) (.int .i64 lv) (.bool ok)) ⟨4,[.row [.int .i64 t.kind,.int .i64 t.num,.str t.name,t.cE],.row (ak st.names),.row [.int .i64 0,.int .i64 0,.str [],.aA],.row [x,y,.int .i64 st.at_,.int .i64 st.next,.vec 2 0 st.names.length 2 st.names.length]],4,md⟩)=
  DP x y (dZ (af T) T M kk (t,lv,ok) st) md'
 | 0,_,_,_,_,_,_,_,_,_,h,_=>by omega
 | _+1,_,_,_,_,0,_,_,_,_,_,h=>by omega
 | M+1,t,lv,ok,st,m+1,md,hcc,h0,hN,hM,hm=>by
   have hlx:=bD hx;have hly:=bo hy;have x1:=hlx.refs;have y1:=hly.refs;have g1:=cT hlx hly;have g2:=cR hlx hly;have g3:=cU hlx hly;have g4:=cS hlx hly;have g5:=cV hlx hly;have g6:=cQ hlx hly;have kx:=fun n0 acc r=>a8 n0 acc r hlx;have ky:=fun n0 acc r=>a8 n0 acc r hly;have rx:=fun n0 ks=>ba n0 ks hlx;have ry:=fun n0 ks=>ba n0 ks hly
   rw[aB];have ur:=aP t;have uc:=cL t;have f1:=aF st.names;have f2:=aE st.names;have f3:=ah st.names
   cases ok with
   | false=>
     rw[pO];left;simp only[Hl];generalize ak st.names=Fs at *;generalize st.names.length=ns at *;exact⟨md,by simp[ai,dt,cC,ee,ef,bL,a6,aY,cM,cg,an,aW,aR,x1,y1,g1,g2,g3,g4,g5,g6,kx,ky,rx,ry,-ae,-aj,-ag,-keeps,-cF,aH,aG,aL,aJ,ay,au,aN,aK,aM,aw,ax,aI,ur,uc,f1,f2,f3],trivial⟩
   | true=>
     have hc:=hcc rfl;have q0:=dp hx hy hc;have qb:=mT hx hy hc (bm L st);have eb:=mB hc;have bl:=mM T (aQ st);have bk:=kP (T:=T) (x:=aQ st);have ts:(aQ st).text=(bm L st).text:=by rw[bu hc]
     rw[eb] at bl bk;rw[bY,bd h0] at q0;rw[bd h0,show (dJ T (bm L st)).1.enc=.agg [.str (dJ T (bm L st)).1.n,.str (dJ T (bm L st)).1.k,.int .i64 (dJ T (bm L st)).1.l] from rfl] at qb;have qs:=jK (dJ T (bm L st)).1 bl;generalize dJ T (bm L st)=B at *;obtain⟨o,fd⟩:=B;dsimp only at qb qs bl bk
     cases fd with
     | false=>
       rw[eJ eb rfl];left;simp only[Hl];generalize ak st.names=Fs at *;generalize st.names.length=ns at *;exact⟨min md 4,by simp[ai,dt,cC,ee,ef,bL,a6,aY,cM,cg,an,aW,aR,x1,y1,g1,g2,g3,g4,g5,g6,kx,ky,rx,ry,-ae,-aj,-ag,-keeps,-cF,aH,aG,aL,aJ,ay,au,aN,aK,aM,aw,ax,aI,ur,uc,f1,f2,f3,q0,qb,qs],trivial⟩
     | true=>
       by_cases c2:kk < o.l
       ·rw[eJ eb (by simp[c2])];left;simp only[Hl];generalize ak st.names=Fs at *;generalize st.names.length=ns at *;exact⟨min md 4,by simp[ai,dt,cC,ee,ef,bL,a6,aY,cM,cg,an,aW,aR,x1,y1,g1,g2,g3,g4,g5,g6,kx,ky,rx,ry,-ae,-aj,-ag,-keeps,-cF,aH,aG,aL,aJ,ay,au,aN,aK,aM,aw,ax,aI,ur,uc,f1,f2,f3,q0,qb,qs,c2],trivial⟩
       by_cases c3:(a7 o).1 < lv
       ·rw[eJ eb (by simp[c3])];left;simp only[Hl];generalize ak st.names=Fs at *;generalize st.names.length=ns at *;exact⟨min md 4,by simp[ai,dt,cC,ee,ef,bL,a6,aY,cM,cg,an,aW,aR,x1,y1,g1,g2,g3,g4,g5,g6,kx,ky,rx,ry,-ae,-aj,-ag,-keeps,-cF,aH,aG,aL,aJ,ay,au,aN,aK,aM,aw,ax,aI,ur,uc,f1,f2,f3,q0,qb,qs,c2,c3],trivial⟩
       have hkk:=bk rfl;have hat:=eP hc hkk;have c1:=hc.xJ (by omega);have hl:=cI st;have hp:=bN hkk;have w1:=wrap_i64 (n:=(st.at_:Int)+1) (by omega) (by have:=hc.lb;omega);rw[pF eb c2 c3,ts];have qt:=dk N hx hy c1 (a7 o).2 (by omega);rw[show (aC st).names=st.names from rfl,ar] at qt;have hlv:=(bP T).lv (a7 o).2 (aC st);have hln:=hlv.len;have hrc:(af T (a7 o).2 (aC st)).1.2.2=true→RC T L (af T (a7 o).2 (aC st)).2:=fun h=>(c1.ok ((bP T).ok _ _ h)).1
       have hnm:st.names≠[]→(af T (a7 o).2 (aC st)).2.names≠[]:=hlv.names;have vr:=aP (af T (a7 o).2 (aC st)).1.1;have vc:=cL (af T (a7 o).2 (aC st)).1.1;have qc:=iD (bm L st).text [t,(af T (a7 o).2 (aC st)).1.1] (by simp);rw[yw,List.map_cons,List.map_cons,List.map_nil,ar t,ar (af T (a7 o).2 (aC st)).1.1] at qc;generalize af T (a7 o).2 (aC st)=r at *;obtain⟨⟨u,lv2,ok2⟩,s1⟩:=r;dsimp only at *;have h1:=hnm h0;rw[fU h0,dq h0 h1] at qt;obtain⟨md',ih⟩:=Og n N hx hy kk M (cm (bm L st).text [t,u]) o.l ok2 s1 m (min md 0) hrc h1 (by omega) (by omega) (by omega);rw[show (cm (bm L st).text [t,u]).kind=2 from rfl,show (cm (bm L st).text [t,u]).num=0 from rfl,show (cm (bm L st).text [t,u]).name=(bm L st).text from rfl,jS] at ih;right;refine⟨md',Eq.trans ?_ ih⟩;have e1:=aF s1.names;have e2:=aE s1.names;have e3:=ah s1.names;generalize ak s1.names=Gs at *;generalize s1.names.length=gs at *;generalize ak st.names=Fs at *;generalize st.names.length=ns at *;simp[ai,dt,cC,ee,ef,bL,a6,aY,cM,cg,an,aW,aR,x1,y1,g1,g2,g3,g4,g5,g6,kx,ky,rx,ry,-ae,-aj,-ag,-keeps,-cF,aH,aG,aL,aJ,ay,au,aN,aK,aM,aw,ax,aI,ur,uc,f1,f2,f3,e1,e2,e3,q0,qb,qs,qt,qc,c2,c3,w1,vr,vc]
theorem NQ (n N:Nat) {x y:AV} {T:List bO} {L:List Tok} (hx:bx x=some T) (hy:br y=some L) (kk:Int):∀(M:Nat) (t:Tm) (lv:Int) (ok:Bool) (st:St) (m md:Nat),(ok=true→RC T L st)→st.names≠[]→st.rest.length≤N→st.rest.length < M→M≤m→
 ∃md',jf 5 0 (cO (aT (az (bh ee (ef N)) (n+1)) (n+1) dt) cC 5 m (jv (.ptr 0 0) (.int .i64 kk) (.ptr 2 0) (.ptr 4 0) (.int .i64 lv) (.bool ok)) ⟨6,[.row (ak st.names),.row [.int .i64 t.kind,.int .i64 t.num,.str t.name,t.cE],.dead,.row [.int .i64 0,.int .i64 0,.str [],.aA],.dead,.row [x,y,.int .i64 st.at_,.int .i64 st.next,.vec 5 0 st.names.length 2 st.names.length]],0,md⟩)=
   EF x y (dZ (af T) T M kk (t,lv,ok) st) md'
 | 0,_,_,_,_,_,_,_,_,_,h,_=>by omega
 | _+1,_,_,_,_,0,_,_,_,_,_,h=>by omega
 | M+1,t,lv,ok,st,m+1,md,hcc,h0,hN,hM,hm=>by
   have hlx:=bD hx;have hly:=bo hy;have x1:=hlx.refs;have y1:=hly.refs;have g1:=cT hlx hly;have g2:=cR hlx hly;have g3:=cU hlx hly;have g4:=cS hlx hly;have g5:=cV hlx hly;have g6:=cQ hlx hly;have kx:=fun n0 acc r=>a8 n0 acc r hlx;have ky:=fun n0 acc r=>a8 n0 acc r hly;have rx:=fun n0 ks=>ba n0 ks hlx;have ry:=fun n0 ks=>ba n0 ks hly
   rw[aB];have ur:=aP t;have uc:=cL t;have f1:=aF st.names;have f2:=aE st.names;have f3:=ah st.names
   cases ok with
   | false=>
     rw[pO];simp only[EF];generalize ak st.names=Fs at *;generalize st.names.length=ns at *;exact⟨0,by simp[ai,dt,cC,ee,ef,bL,a6,aY,cM,cg,an,aW,aR,x1,y1,g1,g2,g3,g4,g5,g6,kx,ky,rx,ry,-ae,-aj,-ag,-keeps,-cF,aH,aG,aL,aJ,ay,au,aN,aK,aM,aw,ax,aI,ur,uc,f1,f2,f3]⟩
   | true=>
     have hc:=hcc rfl;have q0:=dp hx hy hc;have qb:=mT hx hy hc (bm L st);have eb:=mB hc;have bl:=mM T (aQ st);have bk:=kP (T:=T) (x:=aQ st);have ts:(aQ st).text=(bm L st).text:=by rw[bu hc]
     rw[eb] at bl bk;rw[bY,bd h0] at q0;rw[bd h0,show (dJ T (bm L st)).1.enc=.agg [.str (dJ T (bm L st)).1.n,.str (dJ T (bm L st)).1.k,.int .i64 (dJ T (bm L st)).1.l] from rfl] at qb;have qs:=jK (dJ T (bm L st)).1 bl;generalize dJ T (bm L st)=B at *;obtain⟨o,fd⟩:=B;dsimp only at qb qs bl bk
     cases fd with
     | false=>
       rw[eJ eb rfl];simp only[EF];generalize ak st.names=Fs at *;generalize st.names.length=ns at *;exact⟨0,by simp[ai,dt,cC,ee,ef,bL,a6,aY,cM,cg,an,aW,aR,x1,y1,g1,g2,g3,g4,g5,g6,kx,ky,rx,ry,-ae,-aj,-ag,-keeps,-cF,aH,aG,aL,aJ,ay,au,aN,aK,aM,aw,ax,aI,ur,uc,f1,f2,f3,q0,qb,qs]⟩
     | true=>
       by_cases c2:kk < o.l
       ·rw[eJ eb (by simp[c2])];simp only[EF];generalize ak st.names=Fs at *;generalize st.names.length=ns at *;exact⟨0,by simp[ai,dt,cC,ee,ef,bL,a6,aY,cM,cg,an,aW,aR,x1,y1,g1,g2,g3,g4,g5,g6,kx,ky,rx,ry,-ae,-aj,-ag,-keeps,-cF,aH,aG,aL,aJ,ay,au,aN,aK,aM,aw,ax,aI,ur,uc,f1,f2,f3,q0,qb,qs,c2]⟩
       by_cases c3:(a7 o).1 < lv
       ·rw[eJ eb (by simp[c3])];simp only[EF];generalize ak st.names=Fs at *;generalize st.names.length=ns at *;exact⟨0,by simp[ai,dt,cC,ee,ef,bL,a6,aY,cM,cg,an,aW,aR,x1,y1,g1,g2,g3,g4,g5,g6,kx,ky,rx,ry,-ae,-aj,-ag,-keeps,-cF,aH,aG,aL,aJ,ay,au,aN,aK,aM,aw,ax,aI,ur,uc,f1,f2,f3,q0,qb,qs,c2,c3]⟩
       have hkk:=bk rfl;have hat:=eP hc hkk;have c1:=hc.xJ (by omega);have hl:=cI st;have hp:=bN hkk;have w1:=wrap_i64 (n:=(st.at_:Int)+1) (by omega) (by have:=hc.lb;omega);rw[pF eb c2 c3,ts];have qt:=dk N hx hy c1 (a7 o).2 (by omega);rw[show (aC st).names=st.names from rfl,ar] at qt;have hlv:=(bP T).lv (a7 o).2 (aC st);have hln:=hlv.len;have hrc:(af T (a7 o).2 (aC st)).1.2.2=true→RC T L (af T (a7 o).2 (aC st)).2:=fun h=>(c1.ok ((bP T).ok _ _ h)).1
       have hnm:st.names≠[]→(af T (a7 o).2 (aC st)).2.names≠[]:=hlv.names;have vr:=aP (af T (a7 o).2 (aC st)).1.1;have vc:=cL (af T (a7 o).2 (aC st)).1.1;have qc:=iD (bm L st).text [t,(af T (a7 o).2 (aC st)).1.1] (by simp);rw[yw,List.map_cons,List.map_cons,List.map_nil,ar t,ar (af T (a7 o).2 (aC st)).1.1] at qc;generalize af T (a7 o).2 (aC st)=r at *;obtain⟨⟨u,lv2,ok2⟩,s1⟩:=r;dsimp only at *;have h1:=hnm h0;rw[fU h0,dq h0 h1] at qt;obtain⟨md',ih⟩:=NQ n N hx hy kk M (cm (bm L st).text [t,u]) o.l ok2 s1 m (min md 0) hrc h1 (by omega) (by omega) (by omega);rw[show (cm (bm L st).text [t,u]).kind=2 from rfl,show (cm (bm L st).text [t,u]).num=0 from rfl,show (cm (bm L st).text [t,u]).name=(bm L st).text from rfl,jS] at ih;refine⟨md',Eq.trans ?_ ih⟩;have e1:=aF s1.names;have e2:=aE s1.names;have e3:=ah s1.names;generalize ak s1.names=Gs at *;generalize s1.names.length=gs at *;generalize ak st.names=Fs at *;generalize st.names.length=ns at *;simp[ai,dt,cC,ee,ef,bL,a6,aY,cM,cg,an,aW,aR,x1,y1,g1,g2,g3,g4,g5,g6,kx,ky,rx,ry,-ae,-aj,-ag,-keeps,-cF,aH,aG,aL,aJ,ay,au,aN,aK,aM,aw,ax,aI,ur,uc,f1,f2,f3,e1,e2,e3,q0,qb,qs,qt,qc,c2,c3,w1,vr,vc]
theorem R9 (n N:Nat) {x y:AV} {T:List bO} {L:List Tok} (hx:bx x=some T) (hy:br y=some L) (kk:Int):∀(M:Nat) (t:Tm) (lv:Int) (ok:Bool) (st:St) (m md:Nat),(ok=true→RC T L st)→st.names≠[]→st.rest.length≤N→st.rest.length < M→M≤m→
 (∃md',jf 5 0 (cO (aT (az (bh ee (ef N)) (n+1)) (n+1) dt) cC 5 m (jv (.ptr 0 0) (.int .i64 kk) (.ptr 2 0) (.ptr 4 0) (.int .i64 lv) (.bool ok)) ⟨5,[.row [.int .i64 t.kind,.int .i64 t.num,.str t.name,t.cE],.row (ak st.names),.row [.int .i64 0,.int .i64 0,.str [],.aA],.dead,.row [x,y,.int .i64 st.at_,.int .i64 st.next,.vec 3 0 st.names.length 2 st.names.length]],5,md⟩)=
  HA x y ((t,lv,ok),st) md'∧dZ (af T) T M kk (t,lv,ok) st=((t,lv,ok),st))∨∃md',jf 5 0 (cO (aT (az (bh ee (ef N)) (n+1)) (n+1) dt) cC 5 m (jv (.ptr 0 0) (.int .i64 kk) (.ptr 2 0) (.ptr 4 0) (.int .i64 lv) (.bool ok)) ⟨5,[.row [.int .i64 t.kind,.int .i64 t.num,.str t.name,t.cE],.row (ak st.names),.row [.int .i64 0,.int .i64 0,.str [],.aA],.dead,.row [x,y,.int .i64 st.at_,.int .i64 st.next,.vec 3 0 st.names.length 2 st.names.length]],5,md⟩)=
  EF x y (dZ (af T) T M kk (t,lv,ok) st) md'
 | 0,_,_,_,_,_,_,_,_,_,h,_=>by omega
 | _+1,_,_,_,_,0,_,_,_,_,_,h=>by omega
 | M+1,t,lv,ok,st,m+1,md,hcc,h0,hN,hM,hm=>by
   have hlx:=bD hx;have hly:=bo hy;have x1:=hlx.refs;have y1:=hly.refs;have g1:=cT hlx hly;have g2:=cR hlx hly;have g3:=cU hlx hly;have g4:=cS hlx hly;have g5:=cV hlx hly;have g6:=cQ hlx hly;have kx:=fun n0 acc r=>a8 n0 acc r hlx;have ky:=fun n0 acc r=>a8 n0 acc r hly;have rx:=fun n0 ks=>ba n0 ks hlx;have ry:=fun n0 ks=>ba n0 ks hly
   rw[aB];have ur:=aP t;have uc:=cL t;have f1:=aF st.names;have f2:=aE st.names;have f3:=ah st.names
   cases ok with
   | false=>
     rw[pO];left;simp only[HA];generalize ak st.names=Fs at *;generalize st.names.length=ns at *;exact⟨md,by simp[ai,dt,cC,ee,ef,bL,a6,aY,cM,cg,an,aW,aR,x1,y1,g1,g2,g3,g4,g5,g6,kx,ky,rx,ry,-ae,-aj,-ag,-keeps,-cF,aH,aG,aL,aJ,ay,au,aN,aK,aM,aw,ax,aI,ur,uc,f1,f2,f3],trivial⟩
   | true=>
     have hc:=hcc rfl;have q0:=dp hx hy hc;have qb:=mT hx hy hc (bm L st);have eb:=mB hc;have bl:=mM T (aQ st);have bk:=kP (T:=T) (x:=aQ st);have ts:(aQ st).text=(bm L st).text:=by rw[bu hc]
     rw[eb] at bl bk;rw[bY,bd h0] at q0;rw[bd h0,show (dJ T (bm L st)).1.enc=.agg [.str (dJ T (bm L st)).1.n,.str (dJ T (bm L st)).1.k,.int .i64 (dJ T (bm L st)).1.l] from rfl] at qb;have qs:=jK (dJ T (bm L st)).1 bl;generalize dJ T (bm L st)=B at *;obtain⟨o,fd⟩:=B;dsimp only at qb qs bl bk
     cases fd with
     | false=>
       rw[eJ eb rfl];left;simp only[HA];generalize ak st.names=Fs at *;generalize st.names.length=ns at *;exact⟨min md 5,by simp[ai,dt,cC,ee,ef,bL,a6,aY,cM,cg,an,aW,aR,x1,y1,g1,g2,g3,g4,g5,g6,kx,ky,rx,ry,-ae,-aj,-ag,-keeps,-cF,aH,aG,aL,aJ,ay,au,aN,aK,aM,aw,ax,aI,ur,uc,f1,f2,f3,q0,qb,qs],trivial⟩
     | true=>
       by_cases c2:kk < o.l
       ·rw[eJ eb (by simp[c2])];left;simp only[HA];generalize ak st.names=Fs at *;generalize st.names.length=ns at *;exact⟨min md 5,by simp[ai,dt,cC,ee,ef,bL,a6,aY,cM,cg,an,aW,aR,x1,y1,g1,g2,g3,g4,g5,g6,kx,ky,rx,ry,-ae,-aj,-ag,-keeps,-cF,aH,aG,aL,aJ,ay,au,aN,aK,aM,aw,ax,aI,ur,uc,f1,f2,f3,q0,qb,qs,c2],trivial⟩
       by_cases c3:(a7 o).1 < lv
       ·rw[eJ eb (by simp[c3])];left;simp only[HA];generalize ak st.names=Fs at *;generalize st.names.length=ns at *;exact⟨min md 5,by simp[ai,dt,cC,ee,ef,bL,a6,aY,cM,cg,an,aW,aR,x1,y1,g1,g2,g3,g4,g5,g6,kx,ky,rx,ry,-ae,-aj,-ag,-keeps,-cF,aH,aG,aL,aJ,ay,au,aN,aK,aM,aw,ax,aI,ur,uc,f1,f2,f3,q0,qb,qs,c2,c3],trivial⟩
       have hkk:=bk rfl;have hat:=eP hc hkk;have c1:=hc.xJ (by omega);have hl:=cI st;have hp:=bN hkk;have w1:=wrap_i64 (n:=(st.at_:Int)+1) (by omega) (by have:=hc.lb;omega);rw[pF eb c2 c3,ts];have qt:=dk N hx hy c1 (a7 o).2 (by omega);rw[show (aC st).names=st.names from rfl,ar] at qt;have hlv:=(bP T).lv (a7 o).2 (aC st);have hln:=hlv.len;have hrc:(af T (a7 o).2 (aC st)).1.2.2=true→RC T L (af T (a7 o).2 (aC st)).2:=fun h=>(c1.ok ((bP T).ok _ _ h)).1
       have hnm:st.names≠[]→(af T (a7 o).2 (aC st)).2.names≠[]:=hlv.names;have vr:=aP (af T (a7 o).2 (aC st)).1.1;have vc:=cL (af T (a7 o).2 (aC st)).1.1;have qc:=iD (bm L st).text [t,(af T (a7 o).2 (aC st)).1.1] (by simp);rw[yw,List.map_cons,List.map_cons,List.map_nil,ar t,ar (af T (a7 o).2 (aC st)).1.1] at qc;generalize af T (a7 o).2 (aC st)=r at *;obtain⟨⟨u,lv2,ok2⟩,s1⟩:=r;dsimp only at *;have h1:=hnm h0;rw[fU h0,dq h0 h1] at qt;obtain⟨md',ih⟩:=NQ n N hx hy kk M (cm (bm L st).text [t,u]) o.l ok2 s1 m (min md 0) hrc h1 (by omega) (by omega) (by omega);rw[show (cm (bm L st).text [t,u]).kind=2 from rfl,show (cm (bm L st).text [t,u]).num=0 from rfl,show (cm (bm L st).text [t,u]).name=(bm L st).text from rfl,jS] at ih;right;refine⟨md',Eq.trans ?_ ih⟩;have e1:=aF s1.names;have e2:=aE s1.names;have e3:=ah s1.names;generalize ak s1.names=Gs at *;generalize s1.names.length=gs at *;generalize ak st.names=Fs at *;generalize st.names.length=ns at *;simp[ai,dt,cC,ee,ef,bL,a6,aY,cM,cg,an,aW,aR,x1,y1,g1,g2,g3,g4,g5,g6,kx,ky,rx,ry,-ae,-aj,-ag,-keeps,-cF,aH,aG,aL,aJ,ay,au,aN,aK,aM,aw,ax,aI,ur,uc,f1,f2,f3,e1,e2,e3,q0,qb,qs,qt,qc,c2,c3,w1,vr,vc]
theorem JT (T:List bO) (n:Int) (st:St):af T n st=dZ (af T) T (st.rest.length+1) n (bp T n st).1 (bp T n st).2:=by
 have H:=nv T st.rest.length;have E:Tb st.rest.length (fE T st.rest.length) (af T):=fun n s h=>zx T h n
 have p:=(nH H T (st.rest.length+1) n st).1.len;show fE T (st.rest.length+1) n st=_;unfold fE bp;rw[Gw H E T (st.rest.length+1) (st.rest.length+1) n st (by omega) (by omega) (by omega)] at *;exact zI H E T _ _ n _ _ (by omega) (by omega) (by omega)
theorem K3 (N:Nat) {x y:AV} {T:List bO} {L:List Tok} {st:St} (hx:bx x=some T) (hy:br y=some L) (hc:RC T L st) (hN:st.rest.length=N) (hE:b8 Tryz.prog cq (bh ee (ef N))) (n:Int):
 b9 Tryz.prog cq 71 [.ptr 0 0,.int .i64 n] (dj x y st) (.tuple [(af T n st).1.1.enc,.int .i64 (af T n st).1.2.1,.bool (af T n st).1.2.2]) (some (dm x y st.names (af T n st).2)):=by
 rw[JT];have hlx:=bD hx;have hly:=bo hy;have x1:=hlx.refs;have y1:=hly.refs;have g1:=cT hlx hly;have g2:=cR hlx hly;have g3:=cU hlx hly;have g4:=cS hlx hly;have g5:=cV hlx hly;have g6:=cQ hlx hly;have kx:=fun n0 acc r=>a8 n0 acc r hlx;have ky:=fun n0 acc r=>a8 n0 acc r hly;have rx:=fun n0 ks=>ba n0 ks hlx;have ry:=fun n0 ks=>ba n0 ks hly
 have q:=Hf N hx hy hc n (by omega);have qn:=G6 N hx hy hc n (by omega);have hl:st.rest.length≤100000:=by rw[hc.rest,List.length_drop,eG];have:=hc.lb;omega
 have hlv:=nH (bP T) T (st.rest.length+1) n st;change Lv st (bp T n st).2∧((bp T n st).1.2.2=true→Ok st (bp T n st).2) at hlv;have hln:=hlv.1.len;have hrc:(bp T n st).1.2.2=true→RC T L (bp T n st).2:=fun h=>(hc.ok (hlv.2 h)).1
 have hnm:st.names≠[]→(bp T n st).2.names≠[]:=hlv.1.names;rw[ar] at q;generalize bp T n st=P at *;obtain⟨⟨t,lv,ok⟩,s1⟩:=P;dsimp only at q hln hrc hnm ⊢;have ur:=aP t;have uc:=cL t;have hnn:=(ib (bP T) T (st.rest.length+1) n (t,lv,ok) s1).1.names;have lC:=R7 199998 N hx hy n (st.rest.length+1) t lv ok s1 199999 0 hrc;have lG:=R9 199998 N hx hy n (st.rest.length+1) t lv ok s1 199999 0 hrc;have lA:=NY 199998 N hx hy n (st.rest.length+1) t lv ok s1 199999 0 hrc;generalize dZ (af T) T (st.rest.length+1) n (t,lv,ok) s1=Q at *;obtain⟨⟨u,lw,okk⟩,s2⟩:=Q;dsimp only at hnn lA lC lG ⊢;have vr:=aP u;have vc:=cL u;by_cases h0:st.names=[]
 ·rw[bf h0,h0] at q;rw[bf h0] at qn;by_cases h1:s1.names=[]
  ·rw[cA h1] at q;obtain⟨md',lp⟩:=lA h1 (by omega) (by omega) (by omega);by_cases h2:s2.names=[]
   ·rw[if_pos h2] at lp;simp only[pZ,cC,jv,ee,ef] at lp;refine di (n:=200000) hE hlx hly h0 h2 ?_ (bn _ _ _) rfl;show (az (bh ee (ef N)) 200000 71 [.ptr 0 0,.int .i64 n] ⟨1,[.row [x,y,.int .i64 st.at_,.int .i64 st.next,.aA]],1,1⟩).map _=_;rw[ar];simp[qn,yt,ai,uo,Mq,cC,ee,ef,bL,a6,aY,cM,cg,an,ur,uc,vr,vc,lp,q,x1,y1,g1,g2,g3,g4,g5,g6,kx,ky,rx,ry,-ae,-aj,-ag,-keeps,-cF,aH,aG,aL,aJ,ay,au,aN,aK,aM,aw,ax,aI]
   ·rw[if_neg h2] at lp;simp only[D5,cC,jv,ee,ef] at lp;refine dE (n:=200000) hE hlx hly 3 (by decide) h0 h2 ?_ (bn _ _ _) rfl;show (az (bh ee (ef N)) 200000 71 [.ptr 0 0,.int .i64 n] ⟨1,[.row [x,y,.int .i64 st.at_,.int .i64 st.next,.aA]],1,1⟩).map _=_;rw[ar];have e1:=aF s2.names;have e2:=aE s2.names;have e3:=ah s2.names;generalize ak s2.names=Fse at *;generalize s2.names.length=nse at *;simp[qn,yt,ai,uo,Mq,cC,ee,ef,bL,a6,aY,cM,cg,an,ur,uc,vr,vc,lp,q,e1,e2,e3,x1,y1,g1,g2,g3,g4,g5,g6,kx,ky,rx,ry,-ae,-aj,-ag,-keeps,-cF,aH,aG,aL,aJ,ay,au,aN,aK,aM,aw,ax,aI]
  ·rw[bX h1] at q;have h2:=hnn h1;rcases lC h1 (by omega) (by omega) (by omega) with⟨md',lp,eq⟩ | ⟨md',lp⟩
   ·cases eq;simp only[Hl,cC,jv,ee,ef] at lp;refine dE (n:=200000) hE hlx hly 2 (by decide) h0 h1 ?_ (bn _ _ _) rfl;show (az (bh ee (ef N)) 200000 71 [.ptr 0 0,.int .i64 n] ⟨1,[.row [x,y,.int .i64 st.at_,.int .i64 st.next,.aA]],1,1⟩).map _=_;rw[ar];have d1:=aF s1.names;have d2:=aE s1.names;have d3:=ah s1.names;generalize ak s1.names=Fsd at *;generalize s1.names.length=nsd at *;simp[qn,yt,ai,uo,Mq,cC,ee,ef,bL,a6,aY,cM,cg,an,ur,uc,vr,vc,lp,q,d1,d2,d3,x1,y1,g1,g2,g3,g4,g5,g6,kx,ky,rx,ry,-ae,-aj,-ag,-keeps,-cF,aH,aG,aL,aJ,ay,au,aN,aK,aM,aw,ax,aI]
   ·simp only[DP,cC,jv,ee,ef] at lp;refine dE (n:=200000) hE hlx hly 4 (by decide) h0 h2 ?_ (bn _ _ _) rfl;show (az (bh ee (ef N)) 200000 71 [.ptr 0 0,.int .i64 n] ⟨1,[.row [x,y,.int .i64 st.at_,.int .i64 st.next,.aA]],1,1⟩).map _=_;rw[ar];have d1:=aF s1.names;have d2:=aE s1.names;have d3:=ah s1.names;generalize ak s1.names=Fsd at *;generalize s1.names.length=nsd at *;have e1:=aF s2.names;have e2:=aE s2.names;have e3:=ah s2.names;generalize ak s2.names=Fse at *;generalize s2.names.length=nse at *;simp[qn,yt,ai,uo,Mq,cC,ee,ef,bL,a6,aY,cM,cg,an,ur,uc,vr,vc,lp,q,d1,d2,d3,e1,e2,e3,x1,y1,g1,g2,g3,g4,g5,g6,kx,ky,rx,ry,-ae,-aj,-ag,-keeps,-cF,aH,aG,aL,aJ,ay,au,aN,aK,aM,aw,ax,aI]
 ·have h1:=hnm h0;rw[bd h0,dq h0 h1] at q;rw[bd h0] at qn;have h2:=hnn h1;rcases lG h1 (by omega) (by omega) (by omega) with⟨md',lp,eq⟩ | ⟨md',lp⟩
  ·cases eq;simp only[HA,cC,jv,ee,ef] at lp;refine cX (n:=200000) hE hlx hly 3 (by decide) h0 h1 ?_ (bn _ _ _) rfl;show (az (bh ee (ef N)) 200000 71 [.ptr 0 0,.int .i64 n] ⟨2,[.row (ak st.names),.row [x,y,.int .i64 st.at_,.int .i64 st.next,.vec 1 0 st.names.length 2 st.names.length]],2,2⟩).map _=_;rw[ar];have d1:=aF s1.names;have d2:=aE s1.names;have d3:=ah s1.names;generalize ak s1.names=Fsd at *;generalize s1.names.length=nsd at *;have f1:=aF st.names;have f2:=aE st.names;have f3:=ah st.names;generalize ak st.names=Fst at *;generalize st.names.length=nst at *;simp[qn,yt,ai,uo,Mq,cC,ee,ef,bL,a6,aY,cM,cg,an,ur,uc,vr,vc,lp,q,d1,d2,d3,f1,f2,f3,x1,y1,g1,g2,g3,g4,g5,g6,kx,ky,rx,ry,-ae,-aj,-ag,-keeps,-cF,aH,aG,aL,aJ,ay,au,aN,aK,aM,aw,ax,aI]
  ·simp only[EF,cC,jv,ee,ef] at lp;refine cX (n:=200000) hE hlx hly 5 (by decide) h0 h2 ?_ (bn _ _ _) rfl;show (az (bh ee (ef N)) 200000 71 [.ptr 0 0,.int .i64 n] ⟨2,[.row (ak st.names),.row [x,y,.int .i64 st.at_,.int .i64 st.next,.vec 1 0 st.names.length 2 st.names.length]],2,2⟩).map _=_;rw[ar];have d1:=aF s1.names;have d2:=aE s1.names;have d3:=ah s1.names;generalize ak s1.names=Fsd at *;generalize s1.names.length=nsd at *;have e1:=aF s2.names;have e2:=aE s2.names;have e3:=ah s2.names;generalize ak s2.names=Fse at *;generalize s2.names.length=nse at *;have f1:=aF st.names;have f2:=aE st.names;have f3:=ah st.names;generalize ak st.names=Fst at *;generalize st.names.length=nst at *;simp[qn,yt,ai,uo,Mq,cC,ee,ef,bL,a6,aY,cM,cg,an,ur,uc,vr,vc,lp,q,d1,d2,d3,e1,e2,e3,f1,f2,f3,x1,y1,g1,g2,g3,g4,g5,g6,kx,ky,rx,ry,-ae,-aj,-ag,-keeps,-cF,aH,aG,aL,aJ,ay,au,aN,aK,aM,aw,ax,aI]
theorem CG (N:Nat) (hN:dy Tryz.prog cq (fO N)):dy Tryz.prog cq (fO (N+1)):=fun args os v r hv=>by
 unfold fO at hv;dsimp only at hv;split at hv
 ·rename_i os n;split at hv
  ·rename_i R hR;split at hv
   ·rename_i hn;cases hv;obtain⟨hx,hy,rfl,h⟩:=gN hR;rw[an];have hE:b8 Tryz.prog cq (bh ee (ef N)):=eV (by simp[ee,yo.lift,rJ.lift]) (by simp[ef,hN,rZ,Lq,G1 N hN]);by_cases hlt:R.st.rest.length < N
    ·exact hN _ _ _ _ (dk N hx hy h n hlt)
    ·exact K3 N hx hy h (by omega) hE n
   ·cases hv
  ·cases hv
 ·cases hv
theorem xn:∀N,dy Tryz.prog cq (fO N)
 | 0=>fun args os v r hv=>by
   unfold fO at hv;dsimp only at hv;split at hv
   ·split at hv
    ·split at hv
     ·rename_i h;exact absurd h (by omega)
     ·cases hv
    ·cases hv
   ·cases hv
 | N+1=>CG N (xn N)
def Tx (x:Int):Prop:=-9223372036854775808≤x∧x < 9223372036854775808
instance (x:Int):Decidable (Tx x):=inferInstanceAs (Decidable (_∧_))
def Te (neg:Bool) (c:UInt8):Int:=if neg then -((c.toNat:Int) - 48) else (c.toNat:Int) - 48
def M8 (neg:Bool):Int→List UInt8→Option Int
 | n,[]=>some n
 | n,c::r=>if Tx (n*10)∧Tx (n*10+Te neg c) then M8 neg (n*10+Te neg c) r else none
theorem wq:∀(l:List UInt8) (v:Nat),fc l=true→v≤9223372036854775807→M8 false v l=if nq v l≤9223372036854775807 then some (nq v l:Int) else none
 | [],v,_,h=>by rw[ru,if_pos h];rfl
 | c::r,v,hd,h=>by
   simp only[fc,dW,Bool.and_eq_true,decide_eq_true_eq] at hd;have hg:=Ao r (v*10+(c.toNat - 48));have e:(v:Int)*10+Te false c=((v*10+(c.toNat - 48):Nat):Int):=by unfold Te;rw[if_neg (by simp)];omega
   rw[pS];unfold M8;rw[e];unfold Tx;by_cases hx:v*10+(c.toNat - 48)≤9223372036854775807
   ·rw[if_pos (by omega)];exact wq r _ hd.2 hx
   ·rw[if_neg (by omega),if_neg (by omega)]
theorem uR (M:Nat) (hM:M≤18446744073709551615):∀(l:List UInt8) (acc:Nat),fc l=true→acc≤M→M < nq acc l→Lib.parseUintM M acc l=.range
 | [],acc,_,h1,h2=>by rw[ru] at h2;omega
 | c::r,acc,h,h1,hv=>by
   simp only[fc,dW,Bool.and_eq_true,decide_eq_true_eq] at h;rw[pS] at hv;unfold Lib.parseUintM;rw[if_pos h.1];split
   ·rfl
   ·split
    ·rfl
    ·exact uR M hM r _ h.2 (by omega) hv
theorem wh (s:List UInt8) (hr:s≠[]) (hd:fc s=true) (hv:¬ nq 0 s≤9223372036854775807):Lib.parseIntB 64 s=.range:=by
 cases s with
 | nil=>exact absurd rfl hr
 | cons c r=>
   have hc:48≤c.toNat∧c.toNat≤57:=by
    simp only[fc,dW,Bool.and_eq_true,decide_eq_true_eq] at hd;exact hd.1
   unfold Lib.parseIntB Lib.parseUintB;simp only[show (c.toNat=43)=False from eq_false (by omega),show (c.toNat=45)=False from eq_false (by omega),or_false,if_false,hr];rw[show (2 ^ 64 - 1:Nat)=18446744073709551615 by decide];by_cases h:nq 0 (c::r)≤18446744073709551615
   ·rw[qR 18446744073709551615 (Nat.le_refl _) (c::r) 0 hd h];simp only[not_false_iff,true_and,false_and,if_false];rw[if_pos (by omega)]
   ·rw[uR 18446744073709551615 (Nat.le_refl _) (c::r) 0 hd (by omega) (by omega)]
theorem E1 (c:UInt8) (r:List UInt8) (hc:c≠45):ku (c::r)=if fc (c::r)=false then ((0:Int),(2:Int)) else match M8 false 0 (c::r) with | some v=>(v,0) | none=>(0,3):=by
 unfold ku;rw[wP c r hc];dsimp only;rw[if_neg (by simp)]
 cases hd:fc (c::r) with
 | false=>rfl
 | true=>
   rw[if_neg (by simp),if_neg (by simp)];have e:=wq (c::r) 0 hd (by omega);rw[show (((0:Nat):Int))=0 by rfl] at e;rw[e];by_cases hv:nq 0 (c::r)≤9223372036854775807
   ·rw[if_pos hv,HQ (c::r) (by simp) hd hv]
   ·rw[if_neg hv,wh (c::r) (by simp) hd hv]
def oY (t:Tok):Bool:=sA ⟨t.kind,t.text,t.num,t.ig,false⟩&&(decide (0≤t.at_)&&decide (t.at_ < 1000000))
theorem M4 (c:UInt8) (r:List UInt8) (hc:c≠45):0≤(ku (c::r)).1∧(ku (c::r)).1 < 9223372036854775808:=by
 rw[E1 c r hc];split
 ·exact⟨by decide,by decide⟩
 ·rename_i hd;have hd:fc (c::r)=true:=by simpa using hd
  have e:=wq (c::r) 0 hd (by omega);rw[show (((0:Nat):Int))=0 by rfl] at e;rw[e];by_cases hv:nq 0 (c::r)≤9223372036854775807
  ·rw[if_pos hv];exact⟨by dsimp only;omega,by dsimp only;omega⟩
  ·rw[if_neg hv];exact⟨by decide,by decide⟩
theorem one_num (l:List UInt8):0≤(dr l).1.num∧(dr l).1.num < 9223372036854775808:=by
 unfold dr;split
 ·exact (by decide:(0:Int)≤0∧(0:Int) < 9223372036854775808)
 rename_i c r;split
 ·exact (by decide:(0:Int)≤0∧(0:Int) < 9223372036854775808)
 split
 ·exact (by decide:(0:Int)≤0∧(0:Int) < 9223372036854775808)
 split
 ·rename_i hd;have h1:=lg (r:=r) hd;have hc:c≠45:=fun e=>by rw[e] at hd;exact absurd hd (by decide)
  obtain⟨k,hk⟩:∃k,runN dW (c::r)=k+1:=⟨runN dW (c::r) - 1,by omega⟩
  dsimp only;rw[hk,List.take_succ_cons];exact M4 c _ hc
 repeat' split
 all_goals exact (by decide:(0:Int)≤0∧(0:Int) < 9223372036854775808)
theorem Bl:∀(f:Nat) (s:List UInt8) (j:Nat) (acc:List Tok),s.length≤4096→acc.all oY=true→acc.length≤1024→(n7 f s j acc).1.all oY=true∧(n7 f s j acc).1.length≤1024
 | 0,s,j,acc,_,_,_=>⟨rfl,Nat.zero_le _⟩
 | f+1,s,j,acc,h1,h2,h3=>by
   unfold n7;split
   ·exact⟨h2,h3⟩
   rename_i hj;split
   ·exact⟨rfl,by simp⟩
   split
   ·exact⟨rfl,by simp⟩
   rename_i hl;have hl1:¬ (((dr (s.drop j)).1.kind=1∨(dr (s.drop j)).1.kind=2)∧64 < (dr (s.drop j)).1.text.length):=fun e=>hl (.inl e)
   have hl2:¬ acc.length=1024:=fun e=>hl (.inr e)
   have hn:=one_num (s.drop j);refine Bl f s _ _ h1 ?_ (by simp;omega);rw[List.all_append,h2,Bool.true_and];generalize (dr (s.drop j)).1=t at *;simp only[List.all_cons,List.all_nil,Bool.and_true,oY,sA,eN,Bool.and_eq_true,Bool.or_eq_true,decide_eq_true_eq,Bool.not_eq_true',Bool.or_eq_false_iff,decide_eq_false_iff_not];refine⟨⟨?_,hn.1,hn.2⟩,by omega,by omega⟩;by_cases hk:t.kind=1∨t.kind=2
   ·exact .inl (by have:=fun h=>hl1 ⟨hk,h⟩;omega)
   ·exact .inr ⟨fun e=>hk (.inl e),fun e=>hk (.inr e)⟩
theorem tE (s:List UInt8):(dn s).1.all oY=true∧(dn s).1.length≤1024:=by
 unfold dn;split
 ·exact⟨rfl,by simp⟩
 ·exact Bl _ s _ [] (by omega) rfl (by simp)
theorem Fh:∀{L:List Tok},L.all oY=true→(iO L).all sA=true
 | [],_=>rfl
 | t::r,h=>by
   rw[List.all_cons,Bool.and_eq_true] at h;unfold iO;rw[List.all_cons,Bool.and_eq_true];refine⟨?_,Fh h.2⟩;have:=h.1;unfold oY at this;rw[Bool.and_eq_true] at this;exact this.1
def tp (L:List Tok) (a:Nat):St:=⟨a,(iO L).drop a,0,[]⟩
theorem Sg {T:List bO} {L:List Tok} {a:Nat} (hT:T.length < 1000000) (hL:L.all oY=true) (hl:L.length≤1024) (ha:a≤L.length+1):RC T L (tp L a):=by
 have hat:(L.all fun t=>decide (0≤t.at_)&&decide (t.at_ < 1000000))=true:=by
  rw[List.all_eq_true] at hL ⊢;intro t ht;have:=hL t ht;unfold oY at this;rw[Bool.and_eq_true] at this;exact this.2
 exact⟨rfl,ha,Nat.zero_le _,Nat.le_refl _,by omega,hT,Fh hL,fun p hp=>(List.not_mem_nil hp).elim,rfl,hat⟩
def bJ (T:List bO) (st:St):(Tm×Int)×St:=
 let r:=af T 1200 ⟨st.at_,st.rest,0,[]⟩
 if !r.1.2.2||!decide ((aQ r.2).kind=6) then ((tg,2),r.2) else if fw r.1.1 then ((r.1.1,0),aC r.2) else ((tg,3),aC r.2)
section
variable {X:World→Prop} {P:Program} {E:Env} (hE:b8 P X E) {n f:Nat} {rest:List AV} {x y v:AV} {st st':St} (hx:Laid x) (hy:Laid y)
include hE hx hy
theorem vh (h0:st.names≠[]) (h1:st'.names=[]) (he:(az E n f (.ptr 0 0::rest) (tP [.row [x,y,.int .i64 st.at_,.int .i64 st.next,.vec 1 0 st.names.length 2 st.names.length],.row (ak st.names)])).map (fun p=>(p.1,p.2.get 0))=
 some (v,some (.row [x,y,.int .i64 st'.at_,.int .i64 st'.next,.aA])))
 (hv:v.refs=0) (hr:AV.aq rest=0):b9 P X f (.ptr 0 0::rest) (dj x y st) v (some [.row [x,y,.int .i64 st'.at_,.int .i64 st'.next,.aA],.dead]):=by
 have e1:dj x y st=[.row [x,y,.int .i64 st.at_,.int .i64 st.next,.vec 1 0 st.names.length 2 st.names.length],.row (ak st.names)]:=by
  unfold dj kA s8
  cases hn:st.names with
  | nil=>exact absurd hn h0
  | cons p r=>rfl
 rw[e1];obtain⟨⟨v1,h⟩,g1,g2⟩:=Option.map_eq_some_iff.1 he;simp only[Prod.mk.injEq] at g2;obtain⟨rfl,g3⟩:=g2;refine vq (qs:=[]) hE g1 hv hr (by simp) (by simp) ⟨fun i o ho hd=>?_,fun i j o o' hi hj hdi hdj e=>?_⟩
 ·match i,ho with
  | 0,ho=>
    simp only[List.getElem?_cons_zero,Option.some.injEq] at ho;subst ho;rw[o9 hx hy];exact⟨g3,s0 hx hy _ _ (by rfl)⟩
  | 1,ho=>
    simp only[List.getElem?_cons_succ,List.getElem?_cons_zero,Option.some.injEq] at ho;exact absurd ho.symm hd
  | i+2,ho=>simp at ho
 ·have pick:∀(i:Nat) (o:bj),([.row [x,y,.int .i64 st'.at_,.int .i64 st'.next,.aA],.dead]:List bj)[i]? =some o→(∀_:o=.dead,False)→i=0:=fun i o ho hd=>by
   match i,ho with
   | 0,_=>rfl
   | 1,ho=>
     simp only[List.getElem?_cons_succ,List.getElem?_cons_zero,Option.some.injEq] at ho;exact absurd ho.symm hd
   | i+2,ho=>simp at ho
  rw[pick i o hi hdi,pick j o' hj hdj]
end
noncomputable def nZ (x y:AV) (l:List (List UInt8×Int)) (st':St):List bj:=open Classical in if l=[] then dm x y l st' else if st'.names=[] then [.row [x,y,.int .i64 st'.at_,.int .i64 st'.next,.aA],.dead] else dm x y l st'
theorem lU {x y:AV} {st:St}:nZ x y [] st=dm x y [] st:=if_pos rfl
theorem pw {x y:AV} {l:List (List UInt8×Int)} {st:St} (h0:l≠[]) (h:st.names≠[]):nZ x y l st=dm x y l st:=by
 unfold nZ;rw[if_neg h0,if_neg h]
theorem mm {x y:AV} {l:List (List UInt8×Int)} {st:St} (h0:l≠[]) (h:st.names=[]):nZ x y l st=[.row [x,y,.int .i64 st.at_,.int .i64 st.next,.aA],.dead]:=by
 unfold nZ;rw[if_neg h0,if_pos h]
noncomputable def gj:List aS:=[oO]
noncomputable def gn (N:Nat):List bM:=[pY,fO N]
def bG (st:St):St:=⟨st.at_,st.rest,0,[]⟩
theorem Ln {T:List bO} {L:List Tok} {st:St} (h:RC T L st):RC T L (bG st):=⟨h.rest,h.le,Nat.zero_le _,Nat.le_refl _,h.lb,h.tb,h.tk,fun p hp=>(List.not_mem_nil hp).elim,rfl,h.rj⟩
theorem I1 {T:List bO} {L:List Tok} {st:St} (h:RC T L st):uX (bG st):=by
 refine⟨?_,fun p hp=>(List.not_mem_nil hp).elim,?_⟩
 ·show st.rest.all sA=true;rw[h.rest];exact List.all_eq_true.mpr fun x hx=>List.all_eq_true.mp h.tk x (List.mem_of_mem_drop hx)
 ·show 0+st.rest.length≤_;rw[h.rest,List.length_drop,eG];have:=h.lb;omega
theorem Pp (N:Nat) {x y:AV} {T:List bO} {L:List Tok} {st:St} (hx:bx x=some T) (hy:br y=some L) (hc:RC T L st) (hN:st.rest.length < N) (hE:b8 Tryz.prog cq (bh gj (gn N))) (hok:(af T 1200 (bG st)).1.2.2=false):
 b9 Tryz.prog cq 43 [.ptr 0 0] (dj x y st) (.tuple [tg.enc,.int .i64 2]) (some (nZ x y st.names (af T 1200 (bG st)).2)):=by
 have hlx:=bD hx;have hly:=bo hy;have x1:=hlx.refs;have y1:=hly.refs;have g1:=cT hlx hly;have g2:=cR hlx hly;have g3:=cU hlx hly;have g4:=cS hlx hly;have g5:=cV hlx hly;have g6:=cQ hlx hly;have kx:=fun n0 acc r=>a8 n0 acc r hlx;have ky:=fun n0 acc r=>a8 n0 acc r hly;have rx:=fun n0 ks=>ba n0 ks hlx;have ry:=fun n0 ks=>ba n0 ks hly
 have hc0:=Ln hc;have q:=dk N hx hy hc0 1200 hN;rw[hok,bf (st:=bG st) rfl,show (bG st).names=[] from rfl,show (bG st).at_=st.at_ from rfl,show (((bG st).next:Nat):Int)=0 from rfl,ar] at q;have ur:=aP (af T 1200 (bG st)).1.1;have uc:=cL (af T 1200 (bG st)).1.1;have zc:tg.enc=.agg [.int .i64 0,.int .i64 0,.str [],.aA]:=rfl;generalize (af T 1200 (bG st)).2=s1 at *;generalize (af T 1200 (bG st)).1.1=u at *;generalize (af T 1200 (bG st)).1.2.1=lv at *;by_cases h0:st.names=[]
 ·rw[h0,lU,←h0];by_cases h1:s1.names=[]
  ·rw[cA h1] at q;refine di (n:=8) hE hlx hly h0 h1 ?_ rfl rfl;show (az (bh gj (gn N)) 8 43 [.ptr 0 0] ⟨1,[.row [x,y,.int .i64 st.at_,.int .i64 st.next,.aA]],1,1⟩).map _=_;rw[zc];simp[ai,im,zw,gj,gn,dU,aY,an,q,ur,uc,x1,y1,g1,g2,g3,g4,g5,g6,kx,ky,rx,ry,-ae,-aj,-ag,-keeps,-cF,aH,aG,aL,aJ,ay,au,aN,aK,aM,aw,ax,aI]
  ·rw[bX h1] at q;refine dE (n:=8) hE hlx hly 2 (by decide) h0 h1 ?_ rfl rfl;show (az (bh gj (gn N)) 8 43 [.ptr 0 0] ⟨1,[.row [x,y,.int .i64 st.at_,.int .i64 st.next,.aA]],1,1⟩).map _=_;rw[zc];have e1:=aF s1.names;have e2:=aE s1.names;have e3:=ah s1.names;generalize ak s1.names=Fs1 at *;generalize s1.names.length=ns1 at *;simp[ai,im,zw,gj,gn,dU,aY,an,q,ur,uc,e1,e2,e3,x1,y1,g1,g2,g3,g4,g5,g6,kx,ky,rx,ry,-ae,-aj,-ag,-keeps,-cF,aH,aG,aL,aJ,ay,au,aN,aK,aM,aw,ax,aI]
 ·by_cases h1:s1.names=[]
  ·rw[mm h0 h1];rw[cA h1] at q;refine vh (n:=8) hE hlx hly h0 h1 ?_ rfl rfl;show (az (bh gj (gn N)) 8 43 [.ptr 0 0] ⟨2,[.row (ak st.names),.row [x,y,.int .i64 st.at_,.int .i64 st.next,.vec 1 0 st.names.length 2 st.names.length]],2,2⟩).map _=_;rw[zc];have f1:=aF st.names;have f2:=aE st.names;have f3:=ah st.names;generalize ak st.names=Fst at *;generalize st.names.length=nst at *;simp[ai,im,zw,gj,gn,dU,aY,an,q,ur,uc,f1,f2,f3,x1,y1,g1,g2,g3,g4,g5,g6,kx,ky,rx,ry,-ae,-aj,-ag,-keeps,-cF,aH,aG,aL,aJ,ay,au,aN,aK,aM,aw,ax,aI]
  ·rw[pw h0 h1];rw[bX h1] at q;refine cX (n:=8) hE hlx hly 3 (by decide) h0 h1 ?_ rfl rfl;show (az (bh gj (gn N)) 8 43 [.ptr 0 0] ⟨2,[.row (ak st.names),.row [x,y,.int .i64 st.at_,.int .i64 st.next,.vec 1 0 st.names.length 2 st.names.length]],2,2⟩).map _=_;rw[zc];have e1:=aF s1.names;have e2:=aE s1.names;have e3:=ah s1.names;generalize ak s1.names=Fs1 at *;generalize s1.names.length=ns1 at *;have f1:=aF st.names;have f2:=aE st.names;have f3:=ah st.names;generalize ak st.names=Fst at *;generalize st.names.length=nst at *;simp[ai,im,zw,gj,gn,dU,aY,an,q,ur,uc,e1,e2,e3,f1,f2,f3,x1,y1,g1,g2,g3,g4,g5,g6,kx,ky,rx,ry,-ae,-aj,-ag,-keeps,-cF,aH,aG,aL,aJ,ay,au,aN,aK,aM,aw,ax,aI]
theorem Nk (N:Nat) {x y:AV} {T:List bO} {L:List Tok} {st:St} (hx:bx x=some T) (hy:br y=some L) (hc:RC T L st) (hN:st.rest.length < N) (hE:b8 Tryz.prog cq (bh gj (gn N))) (hok:(af T 1200 (bG st)).1.2.2=true) (hk:¬ (aQ (af T 1200 (bG st)).2).kind=6):
 b9 Tryz.prog cq 43 [.ptr 0 0] (dj x y st) (.tuple [tg.enc,.int .i64 2]) (some (nZ x y st.names (af T 1200 (bG st)).2)):=by
 have hlx:=bD hx;have hly:=bo hy;have x1:=hlx.refs;have y1:=hly.refs;have g1:=cT hlx hly;have g2:=cR hlx hly;have g3:=cU hlx hly;have g4:=cS hlx hly;have g5:=cV hlx hly;have g6:=cQ hlx hly;have kx:=fun n0 acc r=>a8 n0 acc r hlx;have ky:=fun n0 acc r=>a8 n0 acc r hly;have rx:=fun n0 ks=>ba n0 ks hlx;have ry:=fun n0 ks=>ba n0 ks hly
 have hc0:=Ln hc;have q:=dk N hx hy hc0 1200 hN;rw[hok,bf (st:=bG st) rfl,show (bG st).names=[] from rfl,show (bG st).at_=st.at_ from rfl,show (((bG st).next:Nat):Int)=0 from rfl,ar] at q;have ur:=aP (af T 1200 (bG st)).1.1;have uc:=cL (af T 1200 (bG st)).1.1;have ho:=(bP T).ok 1200 (bG st) hok;obtain⟨c1,hat1⟩:=hc0.ok ho;have q1:=dp hx hy c1;have ks:(aQ (af T 1200 (bG st)).2).kind=(bm L (af T 1200 (bG st)).2).kind:=by rw[bu c1]
 rw[ks] at hk;rw[bY] at q1;have zc:tg.enc=.agg [.int .i64 0,.int .i64 0,.str [],.aA]:=rfl;generalize (af T 1200 (bG st)).2=s1 at *;generalize (af T 1200 (bG st)).1.1=u at *;generalize (af T 1200 (bG st)).1.2.1=lv at *;by_cases h0:st.names=[]
 ·rw[h0,lU,←h0];by_cases h1:s1.names=[]
  ·rw[cA h1] at q;rw[bf h1] at q1;refine di (n:=8) hE hlx hly h0 h1 ?_ rfl rfl;show (az (bh gj (gn N)) 8 43 [.ptr 0 0] ⟨1,[.row [x,y,.int .i64 st.at_,.int .i64 st.next,.aA]],1,1⟩).map _=_;rw[zc];simp[ai,im,zw,gj,gn,dU,aY,an,q,ur,uc,q1,hk,x1,y1,g1,g2,g3,g4,g5,g6,kx,ky,rx,ry,-ae,-aj,-ag,-keeps,-cF,aH,aG,aL,aJ,ay,au,aN,aK,aM,aw,ax,aI]
  ·rw[bX h1] at q;rw[bd h1] at q1;refine dE (n:=8) hE hlx hly 2 (by decide) h0 h1 ?_ rfl rfl;show (az (bh gj (gn N)) 8 43 [.ptr 0 0] ⟨1,[.row [x,y,.int .i64 st.at_,.int .i64 st.next,.aA]],1,1⟩).map _=_;rw[zc];have e1:=aF s1.names;have e2:=aE s1.names;have e3:=ah s1.names;generalize ak s1.names=Fs1 at *;generalize s1.names.length=ns1 at *;simp[ai,im,zw,gj,gn,dU,aY,an,q,ur,uc,q1,hk,e1,e2,e3,x1,y1,g1,g2,g3,g4,g5,g6,kx,ky,rx,ry,-ae,-aj,-ag,-keeps,-cF,aH,aG,aL,aJ,ay,au,aN,aK,aM,aw,ax,aI]
 ·by_cases h1:s1.names=[]
  ·rw[mm h0 h1];rw[cA h1] at q;rw[bf h1] at q1;refine vh (n:=8) hE hlx hly h0 h1 ?_ rfl rfl;show (az (bh gj (gn N)) 8 43 [.ptr 0 0] ⟨2,[.row (ak st.names),.row [x,y,.int .i64 st.at_,.int .i64 st.next,.vec 1 0 st.names.length 2 st.names.length]],2,2⟩).map _=_;rw[zc];have f1:=aF st.names;have f2:=aE st.names;have f3:=ah st.names;generalize ak st.names=Fst at *;generalize st.names.length=nst at *;simp[ai,im,zw,gj,gn,dU,aY,an,q,ur,uc,q1,hk,f1,f2,f3,x1,y1,g1,g2,g3,g4,g5,g6,kx,ky,rx,ry,-ae,-aj,-ag,-keeps,-cF,aH,aG,aL,aJ,ay,au,aN,aK,aM,aw,ax,aI]
  ·rw[pw h0 h1];rw[bX h1] at q;rw[bd h1] at q1;refine cX (n:=8) hE hlx hly 3 (by decide) h0 h1 ?_ rfl rfl;show (az (bh gj (gn N)) 8 43 [.ptr 0 0] ⟨2,[.row (ak st.names),.row [x,y,.int .i64 st.at_,.int .i64 st.next,.vec 1 0 st.names.length 2 st.names.length]],2,2⟩).map _=_;rw[zc];have e1:=aF s1.names;have e2:=aE s1.names;have e3:=ah s1.names;generalize ak s1.names=Fs1 at *;generalize s1.names.length=ns1 at *;have f1:=aF st.names;have f2:=aE st.names;have f3:=ah st.names;generalize ak st.names=Fst at *;generalize st.names.length=nst at *;simp[ai,im,zw,gj,gn,dU,aY,an,q,ur,uc,q1,hk,e1,e2,e3,f1,f2,f3,x1,y1,g1,g2,g3,g4,g5,g6,kx,ky,rx,ry,-ae,-aj,-ag,-keeps,-cF,aH,aG,aL,aJ,ay,au,aN,aK,aM,aw,ax,aI]
theorem L2 (N:Nat) {x y:AV} {T:List bO} {L:List Tok} {st:St} (hx:bx x=some T) (hy:br y=some L) (hc:RC T L st) (hN:st.rest.length < N) (hE:b8 Tryz.prog cq (bh gj (gn N))) (hok:(af T 1200 (bG st)).1.2.2=true) (hk:(aQ (af T 1200 (bG st)).2).kind=6) (hg:fw (af T 1200 (bG st)).1.1=false):
 b9 Tryz.prog cq 43 [.ptr 0 0] (dj x y st) (.tuple [tg.enc,.int .i64 3]) (some (nZ x y st.names (aC (af T 1200 (bG st)).2))):=by
 have hlx:=bD hx;have hly:=bo hy;have x1:=hlx.refs;have y1:=hly.refs;have g1:=cT hlx hly;have g2:=cR hlx hly;have g3:=cU hlx hly;have g4:=cS hlx hly;have g5:=cV hlx hly;have g6:=cQ hlx hly;have kx:=fun n0 acc r=>a8 n0 acc r hlx;have ky:=fun n0 acc r=>a8 n0 acc r hly;have rx:=fun n0 ks=>ba n0 ks hlx;have ry:=fun n0 ks=>ba n0 ks hly
 have hc0:=Ln hc;have q:=dk N hx hy hc0 1200 hN;rw[hok,bf (st:=bG st) rfl,show (bG st).names=[] from rfl,show (bG st).at_=st.at_ from rfl,show (((bG st).next:Nat):Int)=0 from rfl,ar] at q;have ur:=aP (af T 1200 (bG st)).1.1;have uc:=cL (af T 1200 (bG st)).1.1;have ho:=(bP T).ok 1200 (bG st) hok;obtain⟨c1,hat1⟩:=hc0.ok ho;have q1:=dp hx hy c1;have ks:(aQ (af T 1200 (bG st)).2).kind=(bm L (af T 1200 (bG st)).2).kind:=by rw[bu c1]
 rw[ks] at hk;rw[bY] at q1;rw[hk] at q1;have w1:=wrap_i64 (n:=((af T 1200 (bG st)).2.at_:Int)+1) (by omega) (by have:=c1.lb;omega);have hB:=(Eh T ((bG st).rest.length+1)).b 1200 (bG st) (I1 hc) hok;have hbk:=hB.1;have hrl:st.rest.length≤100000:=by rw[hc.rest,List.length_drop,eG];have:=hc.lb;omega
 have hrl2:(bG st).rest.length=st.rest.length:=rfl;have q2:=mw (af T 1200 (bG st)).1.1 (by change Tm.gU (af T 1200 (bG st)).1.1≤_ at hbk;omega);rw[hg,ar] at q2;generalize (af T 1200 (bG st)).2=s1 at *;generalize (af T 1200 (bG st)).1.1=u at *;generalize (af T 1200 (bG st)).1.2.1=lv at *;by_cases h0:st.names=[]
 ·rw[h0,lU,←h0];by_cases h1:s1.names=[]
  ·rw[cA h1] at q;rw[bf h1] at q1;refine di (n:=8) hE hlx hly h0 h1 ?_ rfl rfl;show (az (bh gj (gn N)) 8 43 [.ptr 0 0] ⟨1,[.row [x,y,.int .i64 st.at_,.int .i64 st.next,.aA]],1,1⟩).map _=_;rw[cN];simp only[ir,iu,il];simp[ai,im,zw,gj,gn,dU,aY,an,q,ur,uc,q1,q2,w1,x1,y1,g1,g2,g3,g4,g5,g6,kx,ky,rx,ry,-ae,-aj,-ag,-keeps,-cF,aH,aG,aL,aJ,ay,au,aN,aK,aM,aw,ax,aI]
  ·rw[bX h1] at q;rw[bd h1] at q1;refine dE (n:=8) hE hlx hly 2 (by decide) h0 h1 ?_ rfl rfl;show (az (bh gj (gn N)) 8 43 [.ptr 0 0] ⟨1,[.row [x,y,.int .i64 st.at_,.int .i64 st.next,.aA]],1,1⟩).map _=_;rw[cN];simp only[ir,iu,il];have e1:=aF s1.names;have e2:=aE s1.names;have e3:=ah s1.names;generalize ak s1.names=Fs1 at *;generalize s1.names.length=ns1 at *;simp[ai,im,zw,gj,gn,dU,aY,an,q,ur,uc,q1,q2,w1,e1,e2,e3,x1,y1,g1,g2,g3,g4,g5,g6,kx,ky,rx,ry,-ae,-aj,-ag,-keeps,-cF,aH,aG,aL,aJ,ay,au,aN,aK,aM,aw,ax,aI]
 ·by_cases h1:s1.names=[]
  ·rw[mm (st:=aC s1) h0 h1];rw[cA h1] at q;rw[bf h1] at q1;refine vh (n:=8) hE hlx hly h0 h1 ?_ rfl rfl;show (az (bh gj (gn N)) 8 43 [.ptr 0 0] ⟨2,[.row (ak st.names),.row [x,y,.int .i64 st.at_,.int .i64 st.next,.vec 1 0 st.names.length 2 st.names.length]],2,2⟩).map _=_;rw[cN];simp only[ir,iu,il];have f1:=aF st.names;have f2:=aE st.names;have f3:=ah st.names;generalize ak st.names=Fst at *;generalize st.names.length=nst at *;simp[ai,im,zw,gj,gn,dU,aY,an,q,ur,uc,q1,q2,w1,f1,f2,f3,x1,y1,g1,g2,g3,g4,g5,g6,kx,ky,rx,ry,-ae,-aj,-ag,-keeps,-cF,aH,aG,aL,aJ,ay,au,aN,aK,aM,aw,ax,aI]
  ·rw[pw (st:=aC s1) h0 h1];rw[bX h1] at q;rw[bd h1] at q1;refine cX (n:=8) hE hlx hly 3 (by decide) h0 h1 ?_ rfl rfl;show (az (bh gj (gn N)) 8 43 [.ptr 0 0] ⟨2,[.row (ak st.names),.row [x,y,.int .i64 st.at_,.int .i64 st.next,.vec 1 0 st.names.length 2 st.names.length]],2,2⟩).map _=_;rw[cN];simp only[ir,iu,il];have e1:=aF s1.names;have e2:=aE s1.names;have e3:=ah s1.names;generalize ak s1.names=Fs1 at *;generalize s1.names.length=ns1 at *;have f1:=aF st.names;have f2:=aE st.names;have f3:=ah st.names;generalize ak st.names=Fst at *;generalize st.names.length=nst at *;simp[ai,im,zw,gj,gn,dU,aY,an,q,ur,uc,q1,q2,w1,e1,e2,e3,f1,f2,f3,x1,y1,g1,g2,g3,g4,g5,g6,kx,ky,rx,ry,-ae,-aj,-ag,-keeps,-cF,aH,aG,aL,aJ,ay,au,aN,aK,aM,aw,ax,aI]
theorem ON (N:Nat) {x y:AV} {T:List bO} {L:List Tok} {st:St} (hx:bx x=some T) (hy:br y=some L) (hc:RC T L st) (hN:st.rest.length < N) (hE:b8 Tryz.prog cq (bh gj (gn N))) (hok:(af T 1200 (bG st)).1.2.2=true) (hk:(aQ (af T 1200 (bG st)).2).kind=6) (hg:fw (af T 1200 (bG st)).1.1=true):
 b9 Tryz.prog cq 43 [.ptr 0 0] (dj x y st) (.tuple [(af T 1200 (bG st)).1.1.enc,.int .i64 0]) (some (nZ x y st.names (aC (af T 1200 (bG st)).2))):=by
 have hlx:=bD hx;have hly:=bo hy;have x1:=hlx.refs;have y1:=hly.refs;have g1:=cT hlx hly;have g2:=cR hlx hly;have g3:=cU hlx hly;have g4:=cS hlx hly;have g5:=cV hlx hly;have g6:=cQ hlx hly;have kx:=fun n0 acc r=>a8 n0 acc r hlx;have ky:=fun n0 acc r=>a8 n0 acc r hly;have rx:=fun n0 ks=>ba n0 ks hlx;have ry:=fun n0 ks=>ba n0 ks hly
 have hc0:=Ln hc;have q:=dk N hx hy hc0 1200 hN;rw[hok,bf (st:=bG st) rfl,show (bG st).names=[] from rfl,show (bG st).at_=st.at_ from rfl,show (((bG st).next:Nat):Int)=0 from rfl,ar] at q;have ur:=aP (af T 1200 (bG st)).1.1;have uc:=cL (af T 1200 (bG st)).1.1;have ho:=(bP T).ok 1200 (bG st) hok;obtain⟨c1,hat1⟩:=hc0.ok ho;have q1:=dp hx hy c1;have ks:(aQ (af T 1200 (bG st)).2).kind=(bm L (af T 1200 (bG st)).2).kind:=by rw[bu c1]
 rw[ks] at hk;rw[bY] at q1;rw[hk] at q1;have w1:=wrap_i64 (n:=((af T 1200 (bG st)).2.at_:Int)+1) (by omega) (by have:=c1.lb;omega);have hB:=(Eh T ((bG st).rest.length+1)).b 1200 (bG st) (I1 hc) hok;have hbk:=hB.1;have hrl:st.rest.length≤100000:=by rw[hc.rest,List.length_drop,eG];have:=hc.lb;omega
 have hrl2:(bG st).rest.length=st.rest.length:=rfl;have q2:=mw (af T 1200 (bG st)).1.1 (by change Tm.gU (af T 1200 (bG st)).1.1≤_ at hbk;omega);rw[hg,ar] at q2;generalize (af T 1200 (bG st)).2=s1 at *;generalize (af T 1200 (bG st)).1.1=u at *;generalize (af T 1200 (bG st)).1.2.1=lv at *;by_cases h0:st.names=[]
 ·rw[h0,lU,←h0];by_cases h1:s1.names=[]
  ·rw[cA h1] at q;rw[bf h1] at q1;refine di (n:=8) hE hlx hly h0 h1 ?_ (by simp[AV.refs,AV.aq,Tm.dh]) rfl;show (az (bh gj (gn N)) 8 43 [.ptr 0 0] ⟨1,[.row [x,y,.int .i64 st.at_,.int .i64 st.next,.aA]],1,1⟩).map _=_;rw[ar];simp only[ir,iu,il];simp[ai,im,zw,gj,gn,dU,aY,an,q,ur,uc,q1,q2,w1,x1,y1,g1,g2,g3,g4,g5,g6,kx,ky,rx,ry,-ae,-aj,-ag,-keeps,-cF,aH,aG,aL,aJ,ay,au,aN,aK,aM,aw,ax,aI]
  ·rw[bX h1] at q;rw[bd h1] at q1;refine dE (n:=8) hE hlx hly 2 (by decide) h0 h1 ?_ (by simp[AV.refs,AV.aq,Tm.dh]) rfl;show (az (bh gj (gn N)) 8 43 [.ptr 0 0] ⟨1,[.row [x,y,.int .i64 st.at_,.int .i64 st.next,.aA]],1,1⟩).map _=_;rw[ar];simp only[ir,iu,il];have e1:=aF s1.names;have e2:=aE s1.names;have e3:=ah s1.names;generalize ak s1.names=Fs1 at *;generalize s1.names.length=ns1 at *;simp[ai,im,zw,gj,gn,dU,aY,an,q,ur,uc,q1,q2,w1,e1,e2,e3,x1,y1,g1,g2,g3,g4,g5,g6,kx,ky,rx,ry,-ae,-aj,-ag,-keeps,-cF,aH,aG,aL,aJ,ay,au,aN,aK,aM,aw,ax,aI]
 ·by_cases h1:s1.names=[]
  ·rw[mm (st:=aC s1) h0 h1];rw[cA h1] at q;rw[bf h1] at q1;refine vh (n:=8) hE hlx hly h0 h1 ?_ (by simp[AV.refs,AV.aq,Tm.dh]) rfl;show (az (bh gj (gn N)) 8 43 [.ptr 0 0] ⟨2,[.row (ak st.names),.row [x,y,.int .i64 st.at_,.int .i64 st.next,.vec 1 0 st.names.length 2 st.names.length]],2,2⟩).map _=_;rw[ar];simp only[ir,iu,il];have f1:=aF st.names;have f2:=aE st.names;have f3:=ah st.names;generalize ak st.names=Fst at *;generalize st.names.length=nst at *;simp[ai,im,zw,gj,gn,dU,aY,an,q,ur,uc,q1,q2,w1,f1,f2,f3,x1,y1,g1,g2,g3,g4,g5,g6,kx,ky,rx,ry,-ae,-aj,-ag,-keeps,-cF,aH,aG,aL,aJ,ay,au,aN,aK,aM,aw,ax,aI]
  ·rw[pw (st:=aC s1) h0 h1];rw[bX h1] at q;rw[bd h1] at q1;refine cX (n:=8) hE hlx hly 3 (by decide) h0 h1 ?_ (by simp[AV.refs,AV.aq,Tm.dh]) rfl;show (az (bh gj (gn N)) 8 43 [.ptr 0 0] ⟨2,[.row (ak st.names),.row [x,y,.int .i64 st.at_,.int .i64 st.next,.vec 1 0 st.names.length 2 st.names.length]],2,2⟩).map _=_;rw[ar];simp only[ir,iu,il];have e1:=aF s1.names;have e2:=aE s1.names;have e3:=ah s1.names;generalize ak s1.names=Fs1 at *;generalize s1.names.length=ns1 at *;have f1:=aF st.names;have f2:=aE st.names;have f3:=ah st.names;generalize ak st.names=Fst at *;generalize st.names.length=nst at *;simp[ai,im,zw,gj,gn,dU,aY,an,q,ur,uc,q1,q2,w1,e1,e2,e3,f1,f2,f3,x1,y1,g1,g2,g3,g4,g5,g6,kx,ky,rx,ry,-ae,-aj,-ag,-keeps,-cF,aH,aG,aL,aJ,ay,au,aN,aK,aM,aw,ax,aI]
noncomputable def wO:bM:=⟨43,fun
 | [.ptr 0 0],os=>(match qJ os with
   | some R=>some (.tuple [(bJ R.T R.st).1.1.enc,.int .i64 (bJ R.T R.st).1.2],some (nZ R.x R.y R.st.names (bJ R.T R.st).2))
   | none=>none)
 | _,_=>none⟩
theorem cW:wO.f=43:=(rfl)
theorem oR {x y:AV} {T:List bO} {L:List Tok} {st:St} (hx:bx x=some T) (hy:br y=some L) (h:RC T L st):
 wO.S [.ptr 0 0] (dj x y st)=some (.tuple [(bJ T st).1.1.enc,.int .i64 (bJ T st).1.2],some (nZ x y st.names (bJ T st).2)):=by
 simp only[wO,iG hx hy h]
theorem CU:dy Tryz.prog cq wO:=fun args os v r hv=>by
 unfold wO at hv;dsimp only at hv;split at hv
 ·rename_i os;split at hv
  ·rename_i R hR;cases hv;obtain⟨hx,hy,rfl,h⟩:=gN hR;rw[cW];have hE:b8 Tryz.prog cq (bh gj (gn (R.st.rest.length+1))):=eV (by simp[gj,ti.lift]) (by simp[gn,rZ,xn]);have hn:R.st.rest.length < R.st.rest.length+1:=by omega
   unfold bJ;dsimp only;change b9 Tryz.prog cq 43 [.ptr 0 0] _ (.tuple [(if (!(af R.T 1200 (bG R.st)).1.2.2||!decide ((aQ (af R.T 1200 (bG R.st)).2).kind=6))=true then ((tg,(2:Int)),(af R.T 1200 (bG R.st)).2) else if fw (af R.T 1200 (bG R.st)).1.1=true then (((af R.T 1200 (bG R.st)).1.1,0),aC (af R.T 1200 (bG R.st)).2) else ((tg,3),aC (af R.T 1200 (bG R.st)).2)).1.1.enc,.int .i64 (if (!(af R.T 1200 (bG R.st)).1.2.2||!decide ((aQ (af R.T 1200 (bG R.st)).2).kind=6))=true then ((tg,(2:Int)),(af R.T 1200 (bG R.st)).2) else if fw (af R.T 1200 (bG R.st)).1.1=true then (((af R.T 1200 (bG R.st)).1.1,0),aC (af R.T 1200 (bG R.st)).2) else ((tg,3),aC (af R.T 1200 (bG R.st)).2)).1.2]) (some (nZ R.x R.y R.st.names (if (!(af R.T 1200 (bG R.st)).1.2.2||!decide ((aQ (af R.T 1200 (bG R.st)).2).kind=6))=true then ((tg,(2:Int)),(af R.T 1200 (bG R.st)).2) else if fw (af R.T 1200 (bG R.st)).1.1=true then (((af R.T 1200 (bG R.st)).1.1,0),aC (af R.T 1200 (bG R.st)).2) else ((tg,3),aC (af R.T 1200 (bG R.st)).2)).2))
   cases hok:(af R.T 1200 (bG R.st)).1.2.2 with
   | false=>
     rw[if_pos (by rfl)];exact Pp _ hx hy h hn hE hok
   | true=>
     by_cases hk:(aQ (af R.T 1200 (bG R.st)).2).kind=6
     ·rw[if_neg (by simp[hk])]
      cases hg:fw (af R.T 1200 (bG R.st)).1.1 with
      | false=>
        rw[if_neg (by simp)];exact L2 _ hx hy h hn hE hok hk hg
      | true=>
        rw[if_pos rfl];exact ON _ hx hy h hn hE hok hk hg
     ·rw[if_pos (by simp[hk])];exact Nk _ hx hy h hn hE hok hk
  ·cases hv
 ·cases hv
def Mu (p:List UInt8×Int):AV:=.agg [.str p.1,.int .i64 p.2]
def jn:List (List UInt8×Int)→AV
 | []=>.aA
 | p::r=>.sl ((p::r).map Mu)
theorem HU {l:List (List UInt8×Int)} (h:l≠[]):jn l=.sl (l.map Mu):=by
 cases l with
 | nil=>exact absurd rfl h
 | cons p r=>rfl
theorem EK (l:List (List UInt8×Int)):∀x ∈ l.map Mu,xM 2 x:=by
 intro x hx;obtain⟨o,_,rfl⟩:=List.mem_map.1 hx;exact⟨rfl,rfl,(fun h=>by cases h),fun _=>rfl,rfl⟩
theorem Dd (l:List (List UInt8×Int)):(l.map Mu).flatMap AV.cells=ak l:=by
 induction l with
 | nil=>rfl
 | cons t r ih=>
   unfold ak at ih ⊢;rw[List.map_cons,List.flatMap_cons,List.flatMap_cons,ih];rfl
theorem Em (l:List (List UInt8×Int)):AV.aq (l.map Mu)=0:=by
 induction l with
 | nil=>rfl
 | cons t r ih=>simp[AV.aq,ih,Mu,AV.refs]
theorem Bn (l:List (List UInt8×Int)):(jn l).refs=0:=by
 cases l with
 | nil=>rfl
 | cons p r=>simp[jn,AV.refs]
theorem Q7 {h:aa} {n0 d id:Nat} {l:List (List UInt8×Int)} (hid:n0≤id) (hg:h.get id=some (.row (ak l))):
 hZ h n0 (d+2) (.vec id 0 l.length 2 l.length)=some (.sl (l.map Mu),[id]):=
 vD hid hg (by omega) (EK l) (by simp) (by rw[mU];exact Nat.le_refl _) (by rw[Dd,List.take_of_length_le];rw[mU];exact Nat.le_refl _)
theorem wi {x y:AV} (hx:Laid x) (hy:Laid y) (a b:Int) (τ:List Nat):fb [x,y,.int .i64 a,.int .i64 b,.aA] τ=τ:=by
 simp only[fb,hx.top,hy.top];rfl
theorem En {x y:AV} (hx:Laid x) (hy:Laid y) (a b:Int) (k l j:Nat) (hk:(j=k)=False):fb [x,y,.int .i64 a,.int .i64 b,.vec k 0 l 2 l] [j]=[j,k]:=by
 simp only[fb,hx.top,hy.top];show (if oF [j] k then ([j]:List Nat) else [j,k])=_;simp only[oF,hk,if_false];rfl
def Cl (T:List bO) (s:List UInt8):(Tm×List (List UInt8×Int))×Int:=
 if iq T=false then ((tg,[]),1)
 else if (dn s).2.2≠0 then ((tg,[]),(dn s).2.2)
 else if (bJ T (tp (dn s).1 0)).1.2=2∨((bJ T (tp (dn s).1 0)).2.at_:Int) < (dn s).1.length then ((tg,[]),2)
 else if (bJ T (tp (dn s).1 0)).1.2≠0 then ((tg,[]),(bJ T (tp (dn s).1 0)).1.2)
 else (((bJ T (tp (dn s).1 0)).1.1,(bJ T (tp (dn s).1 0)).2.names),0)
def j9 (r:(Tm×List (List UInt8×Int))×Int):AV:=.tuple [r.1.1.enc,jn r.1.2,.int .i64 r.2]
theorem Et (r:(Tm×List (List UInt8×Int))×Int):(j9 r).refs=0:=by simp[j9,AV.refs,AV.aq,Tm.dh,Bn]
noncomputable def tG:List aS:=[nu,GZ]
noncomputable def tv:List bM:=[wO]
theorem IH {x:AV} {T:List bO} (hx:bx x=some T) (hT:T.length < 1000000) (s:List UInt8):∃h',az (bh tG tv) 30 14 [.agg [x],.str s] h0=some (j9 (Cl T s),h'):=by
 have qg:=wJ hx (by omega);have qc:=FJ s;have hgd:=tE s;have hy:=yH (dn s).1;unfold u4 at qc;unfold Cl;have hlx:=bD hx;have hly:=bo hy;have x1:=hlx.refs;have y1:=hly.refs;have g1:=cT hlx hly;have g2:=cR hlx hly;have g3:=cU hlx hly;have g4:=cS hlx hly;have g5:=cV hlx hly;have g6:=cQ hlx hly;have kx:=fun n0 acc r=>a8 n0 acc r hlx;have ky:=fun n0 acc r=>a8 n0 acc r hly;have rx:=fun n0 ks=>ba n0 ks hlx;have ry:=fun n0 ks=>ba n0 ks hly
 have hfx:=fun h=>hlx.fr h 0 6
 have hxc:=hlx.Lx;have u1:=wi hlx hly;have hyc:=hly.Lx;have hln:=mJ hy
 cases hg:iq T with
 | false=>
   rw[if_pos rfl];rw[hg] at qg;exact⟨_,by simp[u1,me,iP,Hu,AG,tG,tv,bW,dI,cW,qg,qc,hxc,hyc,hfx,j9,jn,cN,x1,y1,g1,g2,g3,g4,g5,g6,kx,ky,rx,ry,-ae,-aj,-ag,-keeps,-cF,aH,aG,aL,aJ,ay,au,aN,aK,aM,aw,ax,aI];with_reducible rfl⟩
 | true=>
   rw[if_neg (by simp)];rw[hg] at qg;by_cases he:(dn s).2.2=0
   ·rw[if_neg (fun h=>h he)];have hc:=Sg (T:=T) (a:=0) hT hgd.1 hgd.2 (Nat.zero_le _);have q:=oR hx hy hc;rw[bf (st:=tp (dn s).1 0) rfl,show (tp (dn s).1 0).names=[] from rfl,lU,show (((tp (dn s).1 0).at_:Nat):Int)=0 from rfl,show (((tp (dn s).1 0).next:Nat):Int)=0 from rfl,ar] at q;rw[he] at qc;generalize sj (dn s).1=y at *;generalize (dn s).1.length=n at *;generalize (dn s).2.1=pp at *;generalize bJ T (tp (dn s).1 0)=r at *;obtain⟨⟨t,e⟩,s1⟩:=r;dsimp only at *;have ur:=aP t;have uc:=cL t;by_cases h1:s1.names=[]
    ·rw[cA h1] at q;by_cases a1:e=2
     ·rw[if_pos (.inl a1)];exact⟨_,by simp[u1,me,iP,Hu,AG,tG,tv,bW,dI,cW,qg,qc,hxc,hyc,hfx,j9,jn,cN,x1,y1,g1,g2,g3,g4,g5,g6,kx,ky,rx,ry,-ae,-aj,-ag,-keeps,-cF,aH,aG,aL,aJ,ay,au,aN,aK,aM,aw,ax,aI,ai,q,hln,ur,uc,aW,a1];with_reducible rfl⟩
     by_cases a2:(s1.at_:Int) < (n:Int)
     ·rw[if_pos (.inr a2)];exact⟨_,by simp[u1,me,iP,Hu,AG,tG,tv,bW,dI,cW,qg,qc,hxc,hyc,hfx,j9,jn,cN,x1,y1,g1,g2,g3,g4,g5,g6,kx,ky,rx,ry,-ae,-aj,-ag,-keeps,-cF,aH,aG,aL,aJ,ay,au,aN,aK,aM,aw,ax,aI,ai,q,hln,ur,uc,aW,a1,a2];with_reducible rfl⟩
     rw[if_neg (fun h=>h.elim a1 a2)];by_cases a3:e=0
     ·rw[if_neg (fun h=>h a3)];have tc:=ar t;rw[h1];exact⟨_,by simp[u1,me,iP,Hu,AG,tG,tv,bW,dI,cW,qg,qc,hxc,hyc,hfx,j9,jn,cN,x1,y1,g1,g2,g3,g4,g5,g6,kx,ky,rx,ry,-ae,-aj,-ag,-keeps,-cF,aH,aG,aL,aJ,ay,au,aN,aK,aM,aw,ax,aI,ai,q,hln,ur,uc,aW,a1,a2,a3,tc];with_reducible rfl⟩
     ·rw[if_pos a3];exact⟨_,by simp[u1,me,iP,Hu,AG,tG,tv,bW,dI,cW,qg,qc,hxc,hyc,hfx,j9,jn,cN,x1,y1,g1,g2,g3,g4,g5,g6,kx,ky,rx,ry,-ae,-aj,-ag,-keeps,-cF,aH,aG,aL,aJ,ay,au,aN,aK,aM,aw,ax,aI,ai,q,hln,ur,uc,aW,a1,a2,a3];with_reducible rfl⟩
    ·rw[bX h1] at q;have e1:=aF s1.names;have e2:=aE s1.names;have e3:=ah s1.names;have fk:∀(h:aa) (n0 d id:Nat),n0≤id→h.get id=some (.row (ak s1.names))→hZ h n0 (d+2) (.vec id 0 s1.names.length 2 s1.names.length)=some (.sl (s1.names.map Mu),[id]):=fun h n0 d id a b=>Q7 a b
     have nr:=Em s1.names;have nl:=HU h1;by_cases a1:e=2
     ·rw[if_pos (.inl a1)];generalize ak s1.names=Fs1 at *;generalize s1.names.length=ns1 at *;exact⟨_,by simp[u1,me,iP,Hu,AG,tG,tv,bW,dI,cW,qg,qc,hxc,hyc,hfx,j9,jn,cN,x1,y1,g1,g2,g3,g4,g5,g6,kx,ky,rx,ry,-ae,-aj,-ag,-keeps,-cF,aH,aG,aL,aJ,ay,au,aN,aK,aM,aw,ax,aI,ai,q,hln,ur,uc,aW,e1,e2,e3,a1];with_reducible rfl⟩
     by_cases a2:(s1.at_:Int) < (n:Int)
     ·rw[if_pos (.inr a2)];generalize ak s1.names=Fs1 at *;generalize s1.names.length=ns1 at *;exact⟨_,by simp[u1,me,iP,Hu,AG,tG,tv,bW,dI,cW,qg,qc,hxc,hyc,hfx,j9,jn,cN,x1,y1,g1,g2,g3,g4,g5,g6,kx,ky,rx,ry,-ae,-aj,-ag,-keeps,-cF,aH,aG,aL,aJ,ay,au,aN,aK,aM,aw,ax,aI,ai,q,hln,ur,uc,aW,e1,e2,e3,a1,a2];with_reducible rfl⟩
     rw[if_neg (fun h=>h.elim a1 a2)];by_cases a3:e=0
     ·rw[if_neg (fun h=>h a3)];have tc:=ar t;unfold j9;dsimp only;rw[nl];generalize s1.names.map Mu=NL at *;generalize ak s1.names=Fs1 at *;generalize s1.names.length=ns1 at *;exact⟨_,by simp[u1,me,iP,Hu,AG,tG,tv,bW,dI,cW,qg,qc,hxc,hyc,hfx,j9,jn,cN,x1,y1,g1,g2,g3,g4,g5,g6,kx,ky,rx,ry,-ae,-aj,-ag,-keeps,-cF,aH,aG,aL,aJ,ay,au,aN,aK,aM,aw,ax,aI,ai,q,hln,ur,uc,aW,e1,e2,e3,a1,a2,a3,tc,fk,nr,-lH];with_reducible rfl⟩
     ·rw[if_pos a3];generalize ak s1.names=Fs1 at *;generalize s1.names.length=ns1 at *;exact⟨_,by simp[u1,me,iP,Hu,AG,tG,tv,bW,dI,cW,qg,qc,hxc,hyc,hfx,j9,jn,cN,x1,y1,g1,g2,g3,g4,g5,g6,kx,ky,rx,ry,-ae,-aj,-ag,-keeps,-cF,aH,aG,aL,aJ,ay,au,aN,aK,aM,aw,ax,aI,ai,q,hln,ur,uc,aW,e1,e2,e3,a1,a2,a3];with_reducible rfl⟩
   ·rw[if_pos he];exact⟨_,by simp[u1,me,iP,Hu,AG,tG,tv,bW,dI,cW,qg,qc,hxc,hyc,hfx,j9,jn,cN,x1,y1,g1,g2,g3,g4,g5,g6,kx,ky,rx,ry,-ae,-aj,-ag,-keeps,-cF,aH,aG,aL,aJ,ay,au,aN,aK,aM,aw,ax,aI,he];with_reducible rfl⟩
noncomputable def tF:aS:=⟨14,fun
 | [.agg [x],.str s]=>(match bx x with | some T=>if T.length < 1000000 then some (j9 (Cl T s)) else none | none=>none)
 | _=>none⟩
theorem Km:tF.f=14:=(rfl)
theorem HS {x:AV} {T:List bO} (hx:bx x=some T) (hT:T.length < 1000000) (s:List UInt8):tF.S [.agg [x],.str s]=some (j9 (Cl T s)):=by
 simp only[tF,hx,if_pos hT]
theorem HV:eR Tryz.prog cq tF:=fun args v hv=>by
 unfold tF at hv ⊢;dsimp only at hv ⊢;split at hv
 ·rename_i x s;split at hv
  ·rename_i T hx;split at hv
   ·rename_i hT;cases hv;obtain⟨h',e⟩:=IH hx hT s;exact cB (eV (ss:=tG) (ms:=tv) (by simp[tG,xt.lift,FK]) (by simp[tv,CU])) e (Et _) (by simp[AV.refs,AV.aq,l6 hx])
   ·cases hv
  ·cases hv
 ·cases hv
def kj (T:List bO) (n:Nat):Nat→List Tm→St→List Tm×Int
 | 0,acc,_=>(acc,0)
 | M+1,acc,st=>if (st.at_:Int) < n then (if (bJ T st).1.2=0 then kj T n M (acc++[(bJ T st).1.1]) (bJ T st).2 else ([],(bJ T st).1.2)) else (acc,0)
section
variable {T:List bO} {n M:Nat} {acc:List Tm} {st:St}
theorem fR (h:¬ (st.at_:Int) < n):kj T n (M+1) acc st=(acc,0):=by
 conv=>lhs;unfold kj
 rw[if_neg h]
theorem iy (h:(st.at_:Int) < n) (h2:¬ (bJ T st).1.2=0):kj T n (M+1) acc st=([],(bJ T st).1.2):=by
 conv=>lhs;unfold kj
 rw[if_pos h,if_neg h2]
theorem jz (h:(st.at_:Int) < n) (h2:(bJ T st).1.2=0):kj T n (M+1) acc st=kj T n M (acc++[(bJ T st).1.1]) (bJ T st).2:=by
 conv=>lhs;unfold kj
 rw[if_pos h,if_pos h2]
end
theorem Aw {T:List bO} {st:St} (h:(bJ T st).1.2=0):(af T 1200 (bG st)).1.2.2=true∧(aQ (af T 1200 (bG st)).2).kind=6∧fw (af T 1200 (bG st)).1.1=true∧bJ T st=(((af T 1200 (bG st)).1.1,0),aC (af T 1200 (bG st)).2):=by
 unfold bJ at h ⊢;dsimp only at h ⊢;change (if (!(af T 1200 (bG st)).1.2.2||!decide ((aQ (af T 1200 (bG st)).2).kind=6))=true then ((tg,(2:Int)),(af T 1200 (bG st)).2) else if fw (af T 1200 (bG st)).1.1=true then (((af T 1200 (bG st)).1.1,0),aC (af T 1200 (bG st)).2) else ((tg,3),aC (af T 1200 (bG st)).2)).1.2=0 at h;change _∧_∧_∧(if (!(af T 1200 (bG st)).1.2.2||!decide ((aQ (af T 1200 (bG st)).2).kind=6))=true then ((tg,(2:Int)),(af T 1200 (bG st)).2) else if fw (af T 1200 (bG st)).1.1=true then (((af T 1200 (bG st)).1.1,0),aC (af T 1200 (bG st)).2) else ((tg,3),aC (af T 1200 (bG st)).2))=_;by_cases c1:(!(af T 1200 (bG st)).1.2.2||!decide ((aQ (af T 1200 (bG st)).2).kind=6))=true
 ·rw[if_pos c1] at h;cases h
 ·rw[if_neg c1] at h ⊢;by_cases c2:fw (af T 1200 (bG st)).1.1=true
  ·rw[if_pos c2];simp only[Bool.or_eq_true,Bool.not_eq_true',decide_eq_false_iff_not,not_or,Decidable.not_not,Bool.not_eq_false] at c1;exact⟨c1.1,c1.2,c2,rfl⟩
  ·rw[if_neg c2] at h;cases h
theorem vj {T:List bO} {L:List Tok} {st:St} (hc:RC T L st) (h:(bJ T st).1.2=0):RC T L (bJ T st).2∧st.at_ < (bJ T st).2.at_:=by
 obtain⟨h1,h2,_,e⟩:=Aw h;rw[e];have ho:=(bP T).ok 1200 (bG st) h1;obtain⟨c1,hat⟩:=(Ln hc).ok ho;refine⟨c1.xJ hat,?_⟩;have h3:=ho.RR;have h4:=ho.pos;have h5:(bG st).at_=st.at_:=rfl;show st.at_ < (af T 1200 (bG st)).2.at_+1;omega
def CA (lhs:Option (Ex×List AV×aa)) (r:List Tm×Int):Prop:=
 (∃h',lhs=some (.ret,FM 43 [(4,.aA),(5,.int .i64 r.2)],h')∧r.2≠0∧r.1=[])∨
 (∃h',lhs=some (.exit 0,FM 43 [(8,.vec 3 0 r.1.length 4 r.1.length)],h')∧r.2=0∧r.1≠[]∧h'.get 3=some (.row (aU r.1)))
noncomputable def gW:List aS:=[nu,GZ]
noncomputable def gZ:List bM:=[wO]
theorem uT {a b:Option (Ex×List AV×aa)} {r:List Tm×Int} (h:CA a r) (e:b=a):CA b r:=by rw[e];exact h
theorem DG (n:Nat) {x y:AV} {T:List bO} {L:List Tok} (hx:bx x=some T) (hy:br y=some L):∀M:Nat,(∀(acc:List Tm) (st:St) (m md:Nat),RC T L st→st.names≠[]→acc≠[]→acc.length+(L.length - st.at_)≤100000→L.length - st.at_ < M→M≤m→CA (jf 3 0 (cO (aT (az (bh gW gZ) (n+1)) (n+1) eQ) dT 3 m (tj (.ptr 2 0) (.vec 3 0 acc.length 4 acc.length)) ⟨5,[.row (ak st.names),.row (aU acc),.row [x,y,.int .i64 st.at_,.int .i64 st.next,.vec 4 0 st.names.length 2 st.names.length],.row [x],.row [x]],2,md⟩)) (kj T L.length M acc st))∧(∀(acc:List Tm) (st:St) (m md:Nat),RC T L st→st.names=[]→acc≠[]→acc.length+(L.length - st.at_)≤100000→L.length - st.at_ < M→M≤m→CA (jf 3 0 (cO (aT (az (bh gW gZ) (n+1)) (n+1) eQ) dT 3 m (tj (.ptr 2 0) (.vec 3 0 acc.length 4 acc.length)) ⟨4,[.row (aU acc),.row [x,y,.int .i64 st.at_,.int .i64 st.next,.aA],.row [x],.row [x]],2,md⟩)) (kj T L.length M acc st))
 | 0=>⟨fun _ _ _ _ _ _ _ _ h _=>by omega,fun _ _ _ _ _ _ _ _ h _=>by omega⟩
 | M+1=>by
   obtain⟨iN,iE⟩:=DG n hx hy M;have hlx:=bD hx;have hly:=bo hy;have x1:=hlx.refs;have y1:=hly.refs;have g1:=cT hlx hly;have g2:=cR hlx hly;have g3:=cU hlx hly;have g4:=cS hlx hly;have g5:=cV hlx hly;have g6:=cQ hlx hly;have kx:=fun n0 acc r=>a8 n0 acc r hlx;have ky:=fun n0 acc r=>a8 n0 acc r hly;have rx:=fun n0 ks=>ba n0 ks hlx;have ry:=fun n0 ks=>ba n0 ks hly
   have hxc:=hlx.Lx;have hyc:=hly.Lx;have u1:=wi hlx hly;have u2:=En hlx hly;have hln:=mJ hy;have xr:x.refs=0:=hlx.refs;refine⟨?_,?_⟩
   ·intro acc st m md hc h0 ha hl hM hm;obtain⟨m,rfl⟩:∃k,m=k+1:=⟨m - 1,by omega⟩
    rw[aB];have q:=oR hx hy hc;rw[bd h0,ar] at q;have hf:=bE acc;have h8:(acc.length+1)*56≤140737488355328:=by omega
    have h9:acc.length+1 < 9223372036854775808:=by omega
    have h10:(aU acc).take (acc.length*4)=aU acc:=by rw[List.take_of_length_le];rw[c8];exact Nat.le_refl _
    have h11:=c8 acc;have f1:=aF st.names;have f2:=aE st.names;have f3:=ah st.names;by_cases hlt:(st.at_:Int) < (L.length:Int)
    ·have htc:=bK acc (bJ T st).1.1;by_cases he:(bJ T st).1.2=0
     ·rw[jz hlt he];obtain⟨c1,hat⟩:=vj hc he;rw[he] at q;have hf2:=bE (acc++[(bJ T st).1.1]);have ur:=aP (bJ T st).1.1;have uc:=cL (bJ T st).1.1;by_cases h1:(bJ T st).2.names=[]
      ·rw[mm h0 h1] at q;have ih:=iE (acc++[(bJ T st).1.1]) (bJ T st).2 m (min md 2) c1 h1 (by simp) (by simp;omega) (by omega) (by omega);rw[←bK,List.length_append,List.length_cons,List.length_nil] at ih;rw[←bK] at hf2;refine uT ih ?_;generalize (bJ T st).1.1=t at *;generalize (bJ T st).2=s1 at *;generalize ak st.names=Fs at *;generalize st.names.length=ns at *;generalize aU acc=A at *;simp[ai,eQ,dT,gW,gZ,bW,dI,cW,q,hln,x1,y1,g1,g2,g3,g4,g5,g6,kx,ky,rx,ry,-ae,-aj,-ag,-keeps,-cF,aH,aG,aL,aJ,ay,au,aN,aK,aM,aw,ax,aI,u1,u2,cN,hlt,ur,uc,xr,hf2,aR,hf,h8,h9,h10,h11,f1,f2,f3]
      ·rw[pw h0 h1,dq h0 h1] at q;have ih:=iN (acc++[(bJ T st).1.1]) (bJ T st).2 m (min md 2) c1 h1 (by simp) (by simp;omega) (by omega) (by omega);rw[←bK,List.length_append,List.length_cons,List.length_nil] at ih;rw[←bK] at hf2;refine uT ih ?_;generalize (bJ T st).1.1=t at *;generalize (bJ T st).2=s1 at *;have e1:=aF s1.names;have e2:=aE s1.names;have e3:=ah s1.names;generalize ak s1.names=Gs at *;generalize s1.names.length=gs at *;generalize ak st.names=Fs at *;generalize st.names.length=ns at *;generalize aU acc=A at *;simp[ai,eQ,dT,gW,gZ,bW,dI,cW,q,hln,x1,y1,g1,g2,g3,g4,g5,g6,kx,ky,rx,ry,-ae,-aj,-ag,-keeps,-cF,aH,aG,aL,aJ,ay,au,aN,aK,aM,aw,ax,aI,u1,u2,cN,hlt,ur,uc,xr,hf2,aR,hf,h8,h9,h10,h11,f1,f2,f3,e1,e2,e3]
     ·rw[iy hlt he];refine .inl ?_;have ur:=aP (bJ T st).1.1;have uc:=cL (bJ T st).1.1;by_cases h1:(bJ T st).2.names=[]
      ·rw[mm h0 h1] at q;generalize (bJ T st).1.2=e at *;generalize (bJ T st).1.1=t at *;generalize (bJ T st).2=s1 at *;generalize ak st.names=Fs at *;generalize st.names.length=ns at *;generalize aU acc=A at *;exact⟨_,by simp[ai,eQ,dT,gW,gZ,bW,dI,cW,q,hln,x1,y1,g1,g2,g3,g4,g5,g6,kx,ky,rx,ry,-ae,-aj,-ag,-keeps,-cF,aH,aG,aL,aJ,ay,au,aN,aK,aM,aw,ax,aI,u1,u2,cN,hlt,he,ur,uc,xr,hf,h8,h9,h10,h11,f1,f2,f3];with_reducible rfl,he,rfl⟩
      ·rw[pw h0 h1,dq h0 h1] at q;generalize (bJ T st).1.2=e at *;generalize (bJ T st).1.1=t at *;generalize (bJ T st).2=s1 at *;have e1:=aF s1.names;have e2:=aE s1.names;have e3:=ah s1.names;generalize ak s1.names=Gs at *;generalize s1.names.length=gs at *;generalize ak st.names=Fs at *;generalize st.names.length=ns at *;generalize aU acc=A at *;exact⟨_,by simp[ai,eQ,dT,gW,gZ,bW,dI,cW,q,hln,x1,y1,g1,g2,g3,g4,g5,g6,kx,ky,rx,ry,-ae,-aj,-ag,-keeps,-cF,aH,aG,aL,aJ,ay,au,aN,aK,aM,aw,ax,aI,u1,u2,cN,hlt,he,ur,uc,xr,hf,h8,h9,h10,h11,f1,f2,f3,e1,e2,e3];with_reducible rfl,he,rfl⟩
    ·rw[fR hlt];exact .inr ⟨_,by simp[ai,eQ,dT,gW,gZ,bW,dI,cW,q,hln,x1,y1,g1,g2,g3,g4,g5,g6,kx,ky,rx,ry,-ae,-aj,-ag,-keeps,-cF,aH,aG,aL,aJ,ay,au,aN,aK,aM,aw,ax,aI,u1,u2,cN,hlt,xr,hf,h8,h9,h10,h11,f1,f2,f3];with_reducible rfl,rfl,ha,rfl⟩
   ·intro acc st m md hc h0 ha hl hM hm;obtain⟨m,rfl⟩:∃k,m=k+1:=⟨m - 1,by omega⟩
    rw[aB];have q:=oR hx hy hc;rw[bf h0,h0,lU,ar] at q;have hf:=bE acc;have h8:(acc.length+1)*56≤140737488355328:=by omega
    have h9:acc.length+1 < 9223372036854775808:=by omega
    have h10:(aU acc).take (acc.length*4)=aU acc:=by rw[List.take_of_length_le];rw[c8];exact Nat.le_refl _
    have h11:=c8 acc;by_cases hlt:(st.at_:Int) < (L.length:Int)
    ·have htc:=bK acc (bJ T st).1.1;by_cases he:(bJ T st).1.2=0
     ·rw[jz hlt he];obtain⟨c1,hat⟩:=vj hc he;rw[he] at q;have hf2:=bE (acc++[(bJ T st).1.1]);have ur:=aP (bJ T st).1.1;have uc:=cL (bJ T st).1.1;by_cases h1:(bJ T st).2.names=[]
      ·rw[cA h1] at q;have ih:=iE (acc++[(bJ T st).1.1]) (bJ T st).2 m (min md 2) c1 h1 (by simp) (by simp;omega) (by omega) (by omega);rw[←bK,List.length_append,List.length_cons,List.length_nil] at ih;rw[←bK] at hf2;refine uT ih ?_;generalize (bJ T st).1.1=t at *;generalize (bJ T st).2=s1 at *;generalize aU acc=A at *;simp[ai,eQ,dT,gW,gZ,bW,dI,cW,q,hln,x1,y1,g1,g2,g3,g4,g5,g6,kx,ky,rx,ry,-ae,-aj,-ag,-keeps,-cF,aH,aG,aL,aJ,ay,au,aN,aK,aM,aw,ax,aI,u1,u2,cN,hlt,ur,uc,xr,hf2,aR,hf,h8,h9,h10,h11]
      ·rw[bX h1] at q;have ih:=iN (acc++[(bJ T st).1.1]) (bJ T st).2 m (min md 2) c1 h1 (by simp) (by simp;omega) (by omega) (by omega);rw[←bK,List.length_append,List.length_cons,List.length_nil] at ih;rw[←bK] at hf2;refine uT ih ?_;generalize (bJ T st).1.1=t at *;generalize (bJ T st).2=s1 at *;have e1:=aF s1.names;have e2:=aE s1.names;have e3:=ah s1.names;generalize ak s1.names=Gs at *;generalize s1.names.length=gs at *;generalize aU acc=A at *;simp[ai,eQ,dT,gW,gZ,bW,dI,cW,q,hln,x1,y1,g1,g2,g3,g4,g5,g6,kx,ky,rx,ry,-ae,-aj,-ag,-keeps,-cF,aH,aG,aL,aJ,ay,au,aN,aK,aM,aw,ax,aI,u1,u2,cN,hlt,ur,uc,xr,hf2,aR,hf,h8,h9,h10,h11,e1,e2,e3]
     ·rw[iy hlt he];refine .inl ?_;have ur:=aP (bJ T st).1.1;have uc:=cL (bJ T st).1.1;by_cases h1:(bJ T st).2.names=[]
      ·rw[cA h1] at q;generalize (bJ T st).1.2=e at *;generalize (bJ T st).1.1=t at *;generalize (bJ T st).2=s1 at *;generalize aU acc=A at *;exact⟨_,by simp[ai,eQ,dT,gW,gZ,bW,dI,cW,q,hln,x1,y1,g1,g2,g3,g4,g5,g6,kx,ky,rx,ry,-ae,-aj,-ag,-keeps,-cF,aH,aG,aL,aJ,ay,au,aN,aK,aM,aw,ax,aI,u1,u2,cN,hlt,he,ur,uc,xr,hf,h8,h9,h10,h11];with_reducible rfl,he,rfl⟩
      ·rw[bX h1] at q;generalize (bJ T st).1.2=e at *;generalize (bJ T st).1.1=t at *;generalize (bJ T st).2=s1 at *;have e1:=aF s1.names;have e2:=aE s1.names;have e3:=ah s1.names;generalize ak s1.names=Gs at *;generalize s1.names.length=gs at *;generalize aU acc=A at *;exact⟨_,by simp[ai,eQ,dT,gW,gZ,bW,dI,cW,q,hln,x1,y1,g1,g2,g3,g4,g5,g6,kx,ky,rx,ry,-ae,-aj,-ag,-keeps,-cF,aH,aG,aL,aJ,ay,au,aN,aK,aM,aw,ax,aI,u1,u2,cN,hlt,he,ur,uc,xr,hf,h8,h9,h10,h11,e1,e2,e3];with_reducible rfl,he,rfl⟩
    ·rw[fR hlt];exact .inr ⟨_,by simp[ai,eQ,dT,gW,gZ,bW,dI,cW,q,hln,x1,y1,g1,g2,g3,g4,g5,g6,kx,ky,rx,ry,-ae,-aj,-ag,-keeps,-cF,aH,aG,aL,aJ,ay,au,aN,aK,aM,aw,ax,aI,u1,u2,cN,hlt,xr,hf,h8,h9,h10,h11];with_reducible rfl,rfl,ha,rfl⟩
theorem Jk (n:Nat) {x y:AV} {T:List bO} {L:List Tok} (hx:bx x=some T) (hy:br y=some L):∀M:Nat,∀(acc:List Tm) (st:St) (m md:Nat),RC T L st→st.names=[]→acc≠[]→acc.length+(L.length - st.at_)≤100000→L.length - st.at_ < M→M≤m→CA (jf 3 0 (cO (aT (az (bh gW gZ) (n+1)) (n+1) eQ) dT 3 m (tj (.ptr 2 0) (.vec 3 0 acc.length 4 acc.length)) ⟨4,[.row (aU acc),.row [x,y,.int .i64 st.at_,.int .i64 st.next,.aA],.row [x],.row [x]],3,md⟩)) (kj T L.length M acc st)
 | 0=>fun _ _ _ _ _ _ _ _ h _=>by omega
 | M+1=>by
   have iN:=(DG n hx hy M).1;have iE:=Jk n hx hy M;have hlx:=bD hx;have hly:=bo hy;have x1:=hlx.refs;have y1:=hly.refs;have g1:=cT hlx hly;have g2:=cR hlx hly;have g3:=cU hlx hly;have g4:=cS hlx hly;have g5:=cV hlx hly;have g6:=cQ hlx hly;have kx:=fun n0 acc r=>a8 n0 acc r hlx;have ky:=fun n0 acc r=>a8 n0 acc r hly;have rx:=fun n0 ks=>ba n0 ks hlx;have ry:=fun n0 ks=>ba n0 ks hly
   have hxc:=hlx.Lx;have hyc:=hly.Lx;have u1:=wi hlx hly;have u2:=En hlx hly;have hln:=mJ hy;have xr:x.refs=0:=hlx.refs;intro acc st m md hc h0 ha hl hM hm;obtain⟨m,rfl⟩:∃k,m=k+1:=⟨m - 1,by omega⟩
   rw[aB];have q:=oR hx hy hc;rw[bf h0,h0,lU,ar] at q;have hf:=bE acc;have h8:(acc.length+1)*56≤140737488355328:=by omega
   have h9:acc.length+1 < 9223372036854775808:=by omega
   have h10:(aU acc).take (acc.length*4)=aU acc:=by rw[List.take_of_length_le];rw[c8];exact Nat.le_refl _
   have h11:=c8 acc;by_cases hlt:(st.at_:Int) < (L.length:Int)
   ·have htc:=bK acc (bJ T st).1.1;by_cases he:(bJ T st).1.2=0
    ·rw[jz hlt he];obtain⟨c1,hat⟩:=vj hc he;rw[he] at q;have hf2:=bE (acc++[(bJ T st).1.1]);have ur:=aP (bJ T st).1.1;have uc:=cL (bJ T st).1.1;by_cases h1:(bJ T st).2.names=[]
     ·rw[cA h1] at q;have ih:=iE (acc++[(bJ T st).1.1]) (bJ T st).2 m (min md 2) c1 h1 (by simp) (by simp;omega) (by omega) (by omega);rw[←bK,List.length_append,List.length_cons,List.length_nil] at ih;rw[←bK] at hf2;refine uT ih ?_;generalize (bJ T st).1.1=t at *;generalize (bJ T st).2=s1 at *;generalize aU acc=A at *;simp[ai,eQ,dT,gW,gZ,bW,dI,cW,q,hln,x1,y1,g1,g2,g3,g4,g5,g6,kx,ky,rx,ry,-ae,-aj,-ag,-keeps,-cF,aH,aG,aL,aJ,ay,au,aN,aK,aM,aw,ax,aI,u1,u2,cN,hlt,ur,uc,xr,hf2,aR,hf,h8,h9,h10,h11]
     ·rw[bX h1] at q;have ih:=iN (acc++[(bJ T st).1.1]) (bJ T st).2 m (min md 2) c1 h1 (by simp) (by simp;omega) (by omega) (by omega);rw[←bK,List.length_append,List.length_cons,List.length_nil] at ih;rw[←bK] at hf2;refine uT ih ?_;generalize (bJ T st).1.1=t at *;generalize (bJ T st).2=s1 at *;have e1:=aF s1.names;have e2:=aE s1.names;have e3:=ah s1.names;generalize ak s1.names=Gs at *;generalize s1.names.length=gs at *;generalize aU acc=A at *;simp[ai,eQ,dT,gW,gZ,bW,dI,cW,q,hln,x1,y1,g1,g2,g3,g4,g5,g6,kx,ky,rx,ry,-ae,-aj,-ag,-keeps,-cF,aH,aG,aL,aJ,ay,au,aN,aK,aM,aw,ax,aI,u1,u2,cN,hlt,ur,uc,xr,hf2,aR,hf,h8,h9,h10,h11,e1,e2,e3]
    ·rw[iy hlt he];refine .inl ?_;have ur:=aP (bJ T st).1.1;have uc:=cL (bJ T st).1.1;by_cases h1:(bJ T st).2.names=[]
     ·rw[cA h1] at q;generalize (bJ T st).1.2=e at *;generalize (bJ T st).1.1=t at *;generalize (bJ T st).2=s1 at *;generalize aU acc=A at *;exact⟨_,by simp[ai,eQ,dT,gW,gZ,bW,dI,cW,q,hln,x1,y1,g1,g2,g3,g4,g5,g6,kx,ky,rx,ry,-ae,-aj,-ag,-keeps,-cF,aH,aG,aL,aJ,ay,au,aN,aK,aM,aw,ax,aI,u1,u2,cN,hlt,he,ur,uc,xr,hf,h8,h9,h10,h11];with_reducible rfl,he,rfl⟩
     ·rw[bX h1] at q;generalize (bJ T st).1.2=e at *;generalize (bJ T st).1.1=t at *;generalize (bJ T st).2=s1 at *;have e1:=aF s1.names;have e2:=aE s1.names;have e3:=ah s1.names;generalize ak s1.names=Gs at *;generalize s1.names.length=gs at *;generalize aU acc=A at *;exact⟨_,by simp[ai,eQ,dT,gW,gZ,bW,dI,cW,q,hln,x1,y1,g1,g2,g3,g4,g5,g6,kx,ky,rx,ry,-ae,-aj,-ag,-keeps,-cF,aH,aG,aL,aJ,ay,au,aN,aK,aM,aw,ax,aI,u1,u2,cN,hlt,he,ur,uc,xr,hf,h8,h9,h10,h11,e1,e2,e3];with_reducible rfl,he,rfl⟩
   ·rw[fR hlt];exact .inr ⟨_,by simp[ai,eQ,dT,gW,gZ,bW,dI,cW,q,hln,x1,y1,g1,g2,g3,g4,g5,g6,kx,ky,rx,ry,-ae,-aj,-ag,-keeps,-cF,aH,aG,aL,aJ,ay,au,aN,aK,aM,aw,ax,aI,u1,u2,cN,hlt,xr,hf,h8,h9,h10,h11];with_reducible rfl,rfl,ha,rfl⟩
theorem RQ (n:Nat) {x y:AV} {T:List bO} {L:List Tok} (hx:bx x=some T) (hy:br y=some L) (M:Nat):∀(st:St) (m md:Nat),RC T L st→st.names=[]→(L.length - st.at_)≤100000→L.length - st.at_ < M+1→M+1≤m→(CA (jf 3 0 (cO (aT (az (bh gW gZ) (n+1)) (n+1) eQ) dT 3 m (tj (.ptr 2 0) .aA) ⟨3,[.row [x,y,.int .i64 st.at_,.int .i64 st.next,.aA],.row [x],.row [x]],3,md⟩)) (kj T L.length (M+1) [] st)∨∃h',(jf 3 0 (cO (aT (az (bh gW gZ) (n+1)) (n+1) eQ) dT 3 m (tj (.ptr 2 0) .aA) ⟨3,[.row [x,y,.int .i64 st.at_,.int .i64 st.next,.aA],.row [x],.row [x]],3,md⟩))=some (.exit 0,FM 43 [(8,.aA)],h')∧kj T L.length (M+1) [] st=([],0)):=by
 have iN:=(DG n hx hy M).1;have iE:=Jk n hx hy M;have hlx:=bD hx;have hly:=bo hy;have x1:=hlx.refs;have y1:=hly.refs;have g1:=cT hlx hly;have g2:=cR hlx hly;have g3:=cU hlx hly;have g4:=cS hlx hly;have g5:=cV hlx hly;have g6:=cQ hlx hly;have kx:=fun n0 acc r=>a8 n0 acc r hlx;have ky:=fun n0 acc r=>a8 n0 acc r hly;have rx:=fun n0 ks=>ba n0 ks hlx;have ry:=fun n0 ks=>ba n0 ks hly
 have hxc:=hlx.Lx;have hyc:=hly.Lx;have u1:=wi hlx hly;have u2:=En hlx hly;have hln:=mJ hy;have xr:x.refs=0:=hlx.refs;intro st m md hc h0 hl hM hm;obtain⟨m,rfl⟩:∃k,m=k+1:=⟨m - 1,by omega⟩
 rw[aB];have q:=oR hx hy hc;rw[bf h0,h0,lU,ar] at q;by_cases hlt:(st.at_:Int) < (L.length:Int)
 ·have htc:=bK [] (bJ T st).1.1;by_cases he:(bJ T st).1.2=0
  ·rw[jz hlt he];obtain⟨c1,hat⟩:=vj hc he;rw[he] at q;have hf2:=bE ([]++[(bJ T st).1.1]);have ur:=aP (bJ T st).1.1;have uc:=cL (bJ T st).1.1;by_cases h1:(bJ T st).2.names=[]
   ·rw[cA h1] at q;have ih:=iE ([]++[(bJ T st).1.1]) (bJ T st).2 m (min md 2) c1 h1 (by simp) (by simp;omega) (by omega) (by omega);rw[←bK,List.length_append,List.length_cons,List.length_nil] at ih;rw[←bK] at hf2;refine .inl ?_;refine uT ih ?_;generalize (bJ T st).1.1=t at *;generalize (bJ T st).2=s1 at *;simp[ai,eQ,dT,gW,gZ,bW,dI,cW,q,hln,x1,y1,g1,g2,g3,g4,g5,g6,kx,ky,rx,ry,-ae,-aj,-ag,-keeps,-cF,aH,aG,aL,aJ,ay,au,aN,aK,aM,aw,ax,aI,u1,u2,cN,hlt,ur,uc,xr,hf2,aR,aU]
   ·rw[bX h1] at q;have ih:=iN ([]++[(bJ T st).1.1]) (bJ T st).2 m (min md 2) c1 h1 (by simp) (by simp;omega) (by omega) (by omega);rw[←bK,List.length_append,List.length_cons,List.length_nil] at ih;rw[←bK] at hf2;refine .inl ?_;refine uT ih ?_;generalize (bJ T st).1.1=t at *;generalize (bJ T st).2=s1 at *;have e1:=aF s1.names;have e2:=aE s1.names;have e3:=ah s1.names;generalize ak s1.names=Gs at *;generalize s1.names.length=gs at *;simp[ai,eQ,dT,gW,gZ,bW,dI,cW,q,hln,x1,y1,g1,g2,g3,g4,g5,g6,kx,ky,rx,ry,-ae,-aj,-ag,-keeps,-cF,aH,aG,aL,aJ,ay,au,aN,aK,aM,aw,ax,aI,u1,u2,cN,hlt,ur,uc,xr,hf2,aR,e1,e2,e3,aU]
  ·rw[iy hlt he];refine .inl (.inl ?_);have ur:=aP (bJ T st).1.1;have uc:=cL (bJ T st).1.1;by_cases h1:(bJ T st).2.names=[]
   ·rw[cA h1] at q;generalize (bJ T st).1.2=e at *;generalize (bJ T st).1.1=t at *;generalize (bJ T st).2=s1 at *;exact⟨_,by simp[ai,eQ,dT,gW,gZ,bW,dI,cW,q,hln,x1,y1,g1,g2,g3,g4,g5,g6,kx,ky,rx,ry,-ae,-aj,-ag,-keeps,-cF,aH,aG,aL,aJ,ay,au,aN,aK,aM,aw,ax,aI,u1,u2,cN,hlt,he,ur,uc,xr];with_reducible rfl,he,rfl⟩
   ·rw[bX h1] at q;generalize (bJ T st).1.2=e at *;generalize (bJ T st).1.1=t at *;generalize (bJ T st).2=s1 at *;have e1:=aF s1.names;have e2:=aE s1.names;have e3:=ah s1.names;generalize ak s1.names=Gs at *;generalize s1.names.length=gs at *;exact⟨_,by simp[ai,eQ,dT,gW,gZ,bW,dI,cW,q,hln,x1,y1,g1,g2,g3,g4,g5,g6,kx,ky,rx,ry,-ae,-aj,-ag,-keeps,-cF,aH,aG,aL,aJ,ay,au,aN,aK,aM,aw,ax,aI,u1,u2,cN,hlt,he,ur,uc,xr,e1,e2,e3];with_reducible rfl,he,rfl⟩
 ·rw[fR hlt];exact .inr ⟨_,by simp[ai,eQ,dT,gW,gZ,bW,dI,cW,q,hln,x1,y1,g1,g2,g3,g4,g5,g6,kx,ky,rx,ry,-ae,-aj,-ag,-keeps,-cF,aH,aG,aL,aJ,ay,au,aN,aK,aM,aw,ax,aI,u1,u2,cN,hlt,xr];with_reducible rfl,rfl⟩
def eF (T:List bO) (s:List UInt8):List Tm×Int:=
 if iq T=false then ([],1)
 else if (dn s).2.2≠0 then ([],(dn s).2.2)
 else kj T (dn s).1.length ((dn s).1.length+1) [] (tp (dn s).1 0)
def kz (r:List Tm×Int):AV:=.tuple [ng r.1,.int .i64 r.2]
theorem CJ (r:List Tm×Int):(kz r).refs=0:=by simp[kz,AV.refs,AV.aq,BB]
theorem AX {x:AV} {T:List bO} (hx:bx x=some T) (hT:T.length < 1000000) (s:List UInt8):∃h',az (bh gW gZ) 200000 17 [.agg [x],.str s] h0=some (kz (eF T s),h'):=by
 have qg:=wJ hx (by omega);have qc:=FJ s;have hgd:=tE s;have hy:=yH (dn s).1;unfold u4 at qc;unfold eF;have hlx:=bD hx;have hly:=bo hy;have x1:=hlx.refs;have y1:=hly.refs;have g1:=cT hlx hly;have g2:=cR hlx hly;have g3:=cU hlx hly;have g4:=cS hlx hly;have g5:=cV hlx hly;have g6:=cQ hlx hly;have kx:=fun n0 acc r=>a8 n0 acc r hlx;have ky:=fun n0 acc r=>a8 n0 acc r hly;have rx:=fun n0 ks=>ba n0 ks hlx;have ry:=fun n0 ks=>ba n0 ks hly
 have hfx:=fun h=>hlx.fr h 0 6
 have hxc:=hlx.Lx;have hyc:=hly.Lx;have u1:=wi hlx hly;have xr:x.refs=0:=hlx.refs
 cases hg:iq T with
 | false=>
   rw[if_pos rfl];rw[hg] at qg;exact⟨_,by simp[u1,vW,iP,NX,AG,dT,gW,gZ,bW,dI,cW,qg,qc,hxc,hyc,hfx,xr,kz,x1,y1,g1,g2,g3,g4,g5,g6,kx,ky,rx,ry,-ae,-aj,-ag,-keeps,-cF,aH,aG,aL,aJ,ay,au,aN,aK,aM,aw,ax,aI,ng];with_reducible rfl⟩
 | true=>
   rw[if_neg (by simp)];rw[hg] at qg;by_cases he:(dn s).2.2=0
   ·rw[if_neg (fun h=>h he)];have hc:=Sg (T:=T) (a:=0) hT hgd.1 hgd.2 (Nat.zero_le _);rw[he] at qc;have lp:=RQ 199998 hx hy (dn s).1.length (tp (dn s).1 0) 199999 0 hc rfl (by have:=hgd.2;show _ - 0≤_;omega) (by show _ - 0 < _;omega) (by have:=hgd.2;omega);rw[show (((tp (dn s).1 0).at_:Nat):Int)=0 from rfl,show (((tp (dn s).1 0).next:Nat):Int)=0 from rfl] at lp;generalize sj (dn s).1=y at *;generalize kj T (dn s).1.length ((dn s).1.length+1) [] (tp (dn s).1 0)=r at *;generalize (dn s).2.1=pp at *;obtain⟨l,e⟩:=r;simp only[dT,tj,gW,gZ] at lp;rcases lp with (⟨⟨nx,os,wl,md⟩,lp,h1,h2⟩ | ⟨⟨nx,os,wl,md⟩,lp,h1,h2,h3⟩) | ⟨⟨nx,os,wl,md⟩,lp,h1⟩
    ·dsimp only at lp h1 h2;subst h2;exact⟨_,by simp[u1,vW,iP,NX,AG,dT,gW,gZ,bW,dI,cW,qg,qc,hxc,hyc,hfx,xr,kz,x1,y1,g1,g2,g3,g4,g5,g6,kx,ky,rx,ry,-ae,-aj,-ag,-keeps,-cF,aH,aG,aL,aJ,ay,au,aN,aK,aM,aw,ax,aI,ng,lp];with_reducible rfl⟩
    ·dsimp only at lp h1 h2 h3;subst h1;have fk:∀d,hZ ⟨nx,os,wl,md⟩ 0 (d+2) (.vec 3 0 l.length 4 l.length)=some (.sl (l.map Tm.enc),[3]):=fun d=>zr h2 (Nat.zero_le 3) h3
     have hr:=bQ l;have hs:=l9 h2;unfold kz;dsimp only;rw[hs];generalize l.map Tm.enc=U at *;generalize l.length=k at *;exact⟨_,by simp[u1,vW,iP,NX,AG,dT,gW,gZ,bW,dI,cW,qg,qc,hxc,hyc,hfx,xr,kz,x1,y1,g1,g2,g3,g4,g5,g6,kx,ky,rx,ry,-ae,-aj,-ag,-keeps,-cF,aH,aG,aL,aJ,ay,au,aN,aK,aM,aw,ax,aI,lp,fk,hr,-lH];with_reducible rfl⟩
    ·cases h1;exact⟨_,by simp[u1,vW,iP,NX,AG,dT,gW,gZ,bW,dI,cW,qg,qc,hxc,hyc,hfx,xr,kz,x1,y1,g1,g2,g3,g4,g5,g6,kx,ky,rx,ry,-ae,-aj,-ag,-keeps,-cF,aH,aG,aL,aJ,ay,au,aN,aK,aM,aw,ax,aI,ng,lp];with_reducible rfl⟩
   ·rw[if_pos he];exact⟨_,by simp[u1,vW,iP,NX,AG,dT,gW,gZ,bW,dI,cW,qg,qc,hxc,hyc,hfx,xr,kz,x1,y1,g1,g2,g3,g4,g5,g6,kx,ky,rx,ry,-ae,-aj,-ag,-keeps,-cF,aH,aG,aL,aJ,ay,au,aN,aK,aM,aw,ax,aI,he,ng];with_reducible rfl⟩
noncomputable def mW:aS:=⟨17,fun
 | [.agg [x],.str s]=>(match bx x with | some T=>if T.length < 1000000 then some (kz (eF T s)) else none | none=>none)
 | _=>none⟩
theorem ez:mW.f=17:=(rfl)
theorem oU {x:AV} {T:List bO} (hx:bx x=some T) (hT:T.length < 1000000) (s:List UInt8):mW.S [.agg [x],.str s]=some (kz (eF T s)):=by
 simp only[mW,hx,if_pos hT]
theorem Bv:eR Tryz.prog cq mW:=fun args v hv=>by
 unfold mW at hv ⊢;dsimp only at hv ⊢;split at hv
 ·rename_i x s;split at hv
  ·rename_i T hx;split at hv
   ·rename_i hT;cases hv;obtain⟨h',e⟩:=AX hx hT s;exact cB (eV (ss:=gW) (ms:=gZ) (by simp[gW,xt.lift,FK]) (by simp[gZ,CU])) e (CJ _) (by simp[AV.refs,AV.aq,l6 hx])
   ·cases hv
  ·cases hv
 ·cases hv
theorem Fu {T:List bO} {s:St} (h:(bJ T s).1.2=0):s.at_ < (bJ T s).2.at_∧(bJ T s).2.rest.length < s.rest.length∧(bJ T s).2.at_+(bJ T s).2.rest.length=s.at_+s.rest.length:=by
 obtain⟨h1,h2,_,e⟩:=Aw h;rw[e];have ho:=(bP T).ok 1200 (bG s) h1;have h3:=ho.RR;have h4:=ho.pos;have h5:(bG s).at_=s.at_:=rfl;have h6:(bG s).rest=s.rest:=rfl;have h7:=bN (st:=(af T 1200 (bG s)).2) (by rw[h2];decide);have h8:=cI (af T 1200 (bG s)).2;rw[h6] at h3 h4;refine⟨?_,?_,?_⟩
 ·show s.at_ < (af T 1200 (bG s)).2.at_+1;omega
 ·show (aC (af T 1200 (bG s)).2).rest.length < _;omega
 ·show (af T 1200 (bG s)).2.at_+1+(aC (af T 1200 (bG s)).2).rest.length=_;omega
theorem Ko {T:List bO} {s s':St} {Q:List gk} {d:Nat} (h:(bJ T s).1.2=0) (hr:s'.rest=s.rest++Q) (ha:s'.at_=s.at_+d):
 (bJ T s').1=(bJ T s).1∧(bJ T s').2.rest=(bJ T s).2.rest++Q∧(bJ T s').2.at_=(bJ T s).2.at_+d∧(bJ T s').2.names=(bJ T s).2.names:=by
 obtain⟨h1,h2,h3,e⟩:=Aw h;have hlv:=(bP T).lv 1200 (bG s);obtain⟨k,hk⟩:=hlv.QV;have hp:=bN (st:=(af T 1200 (bG s)).2) (by rw[h2];decide)
 obtain⟨x,Q1,hq⟩:∃x Q1,(af T 1200 (bG s)).2.rest=x::Q1:=by
  cases hh:(af T 1200 (bG s)).2.rest with
  | nil=>rw[hh] at hp;simp at hp
  | cons x Q1=>exact⟨x,Q1,rfl⟩
 have hx:x.kind=6:=by
  unfold aQ at h2;rw[hq] at h2;exact h2
 have hs:Sw (x::Q1) (x::(Q1++Q)) d (bG s) (bG s'):=by
  refine⟨s.rest.take k,?_,?_,ha,rfl,rfl⟩
  ·show s.rest=_;rw[←hq,hk];exact (List.take_append_drop k s.rest).symm
  ·show s'.rest=_;rw[hr];have:x::(Q1++Q)=(bG s).rest.drop k++Q:=by rw[←hk,hq];rfl
   rw[this,←List.append_assoc];show _=(s.rest.take k++s.rest.drop k)++Q;rw[List.take_append_drop]
 obtain⟨a1,R,b1,b2,b3,b4,b5⟩:=I5 (.inl hx) (.inl hx) T hs h1 (by rw[hq];simp)
 have hR:R=[]:=by
  have:=congrArg List.length b1;rw[hq] at this;simp at this;exact this
 subst hR;have hq2:(af T 1200 (bG s')).2.rest=x::(Q1++Q):=b2
 have e2:bJ T s'=(((af T 1200 (bG s)).1.1,0),aC (af T 1200 (bG s')).2):=by
  unfold bJ;dsimp only;change (if (!(af T 1200 (bG s')).1.2.2||!decide ((aQ (af T 1200 (bG s')).2).kind=6))=true then ((tg,(2:Int)),(af T 1200 (bG s')).2) else if fw (af T 1200 (bG s')).1.1=true then (((af T 1200 (bG s')).1.1,0),aC (af T 1200 (bG s')).2) else ((tg,3),aC (af T 1200 (bG s')).2))=_;have hsee:(aQ (af T 1200 (bG s')).2).kind=6:=by unfold aQ;rw[hq2];exact hx
  rw[hsee,a1,h1,h3];rfl
 rw[e,e2];refine⟨rfl,?_,?_,b5⟩
 ·show (af T 1200 (bG s')).2.rest.tail=(af T 1200 (bG s)).2.rest.tail++Q;rw[hq,hq2];rfl
 ·show (af T 1200 (bG s')).2.at_+1=(af T 1200 (bG s)).2.at_+1+d;omega
theorem yO {T:List bO} {n:Nat}:∀(M M':Nat) (acc:List Tm) (s:St),s.at_+s.rest.length=n→s.rest.length < M→s.rest.length < M'→kj T n M acc s=kj T n M' acc s
 | 0,_,_,_,_,h,_=>by omega
 | _+1,0,_,_,_,_,h=>by omega
 | M+1,M'+1,acc,s,h0,h1,h2=>by
   by_cases hlt:(s.at_:Int) < n
   ·by_cases he:(bJ T s).1.2=0
    ·rw[jz hlt he,jz hlt he];have:=Fu he;exact yO M M' _ _ (by omega) (by omega) (by omega)
    ·rw[iy hlt he,iy hlt he]
   ·rw[fR hlt,fR hlt]
theorem Ba {T:List bO} {n:Nat}:∀(M:Nat) (acc pre x:List Tm) (s:St),kj T n M acc s=(x,0)→kj T n M (pre++acc) s=(pre++x,0)
 | 0,acc,pre,x,s,h=>by cases h;rfl
 | M+1,acc,pre,x,s,h=>by
   by_cases hlt:(s.at_:Int) < n
   ·by_cases he:(bJ T s).1.2=0
    ·rw[jz hlt he] at h ⊢;rw[List.append_assoc];exact Ba M _ pre x _ h
    ·rw[iy hlt he] at h;exact absurd (congrArg Prod.snd h) he
   ·rw[fR hlt] at h ⊢;cases h;rfl
theorem wR {T:List bO} {n n' d:Nat} {Q:List gk} (hn:n'=n+d+Q.length):∀(M:Nat) (acc x:List Tm) (s s':St),s.at_+s.rest.length=n→s'.rest=s.rest++Q→s'.at_=s.at_+d→kj T n M acc s=(x,0)→s.rest.length < M→∀M2,∃k s'',kj T n' (M+M2) acc s'=kj T n' (k+1+M2) x s''∧s''.rest=Q∧s''.at_=n+d
 | 0,_,_,_,_,_,_,_,_,h,_=>by omega
 | M+1,acc,x,s,s',h0,hr,ha,h,hM,M2=>by
   by_cases hlt:(s.at_:Int) < n
   ·by_cases he:(bJ T s).1.2=0
    ·rw[jz hlt he] at h;obtain⟨a1,a2,a3,_⟩:=Ko he hr ha;have ht:=Fu he;have he2:(bJ T s').1.2=0:=by rw[a1];exact he
     have:=wR hn M (acc++[(bJ T s).1.1]) x (bJ T s).2 (bJ T s').2 (by omega) a2 a3 h (by omega) M2;rw[show M+1+M2=(M+M2)+1 by omega,jz (by omega) he2,a1];exact this
    ·rw[iy hlt he] at h;exact absurd (congrArg Prod.snd h) he
   ·rw[fR hlt] at h;cases h;have hz:s.rest=[]:=List.length_eq_zero_iff.1 (by omega);exact⟨M,s',rfl,by rw[hr,hz];rfl,by omega⟩
theorem HT {T:List bO} {a b:List UInt8} {c:UInt8} (hc:c.toNat=10) {x y:List Tm} (ha:eF T a=(x,0)) (hb:eF T b=(y,0)):eF T (a++c::b)=(x++y,0)∨(eF T (a++c::b)).2=3:=by
 unfold eF at ha hb ⊢;by_cases hg:iq T=false
 ·rw[if_pos hg] at ha;cases ha
 rw[if_neg hg] at ha hb ⊢;by_cases ca:(dn a).2.2=0
 ·by_cases cb:(dn b).2.2=0
  ·rw[if_neg (fun h=>h ca)] at ha;rw[if_neg (fun h=>h cb)] at hb;have hl:=Ks hc b (xw ca) (xw cb);rcases Kr hl with cc | cc
   ·rw[if_neg (fun h=>h cc)];left;have hL:=xw cc;rw[hl] at hL;have eL:=(Option.some.inj hL).symm;have n1:=congrArg List.length eL;rw[List.length_append,eG,eG,eG] at n1
    have r1:(tp (dn (a++c::b)).1 0).rest=(tp (dn a).1 0).rest++iO (dn b).1:=by
     show (iO _).drop 0=(iO _).drop 0++_;rw[List.drop_zero,List.drop_zero,eL]
    have l1:(tp (dn a).1 0).rest.length=(dn a).1.length:=by show ((iO _).drop 0).length=_;rw[List.drop_zero,eG]
    have l2:(tp (dn b).1 0).rest.length=(dn b).1.length:=by show ((iO _).drop 0).length=_;rw[List.drop_zero,eG]
    obtain⟨k,s2,e1,e2,e3⟩:=wR (T:=T) (n:=(dn a).1.length) (n':=(dn (a++c::b)).1.length) (d:=0) (Q:=iO (dn b).1) (by rw[eG];omega) ((dn a).1.length+1) [] x (tp (dn a).1 0) (tp (dn (a++c::b)).1 0) (by rw[l1];exact Nat.zero_add _) r1 rfl ha (by omega) (dn b).1.length;rw[show (dn (a++c::b)).1.length+1=(dn a).1.length+1+(dn b).1.length by omega,e1]
    have hb2:kj T (dn b).1.length (k+1+(dn b).1.length) [] (tp (dn b).1 0)=(y,0):=by
     rw[yO (k+1+(dn b).1.length) ((dn b).1.length+1) [] (tp (dn b).1 0) (by rw[l2];exact Nat.zero_add _) (by omega) (by omega)];exact hb
    have hb3:=Ba _ [] x y _ hb2;rw[List.append_nil] at hb3;obtain⟨k3,s3,f1,f2,f3⟩:=wR (T:=T) (n:=(dn b).1.length) (n':=(dn (a++c::b)).1.length) (d:=(dn a).1.length) (Q:=[]) (by simp;omega) (k+1+(dn b).1.length) x (x++y) (tp (dn b).1 0) s2 (by rw[l2];exact Nat.zero_add _) (by rw[e2,List.append_nil];show _=(iO _).drop 0;rw[List.drop_zero]) (by rw[e3];show _=0+_;omega) hb3 (by omega) 0;rw[Nat.add_zero] at f1;rw[f1,show k3+1+0=k3+1 by omega,fR (by omega)]
   ·rw[if_pos (by rw[cc];decide)];exact .inr cc
  ·rw[if_pos cb] at hb;exact absurd (congrArg Prod.snd hb) cb
 ·rw[if_pos ca] at ha;exact absurd (congrArg Prod.snd ha) ca
theorem yl {T:List bO} {n:Nat}:∀(M:Nat) (acc:List Tm) (s:St),acc.all fw=true→(kj T n M acc s).1.all fw=true
 | 0,acc,s,h=>h
 | M+1,acc,s,h=>by
   by_cases hlt:(s.at_:Int) < n
   ·by_cases he:(bJ T s).1.2=0
    ·rw[jz hlt he];refine yl M _ _ ?_;obtain⟨_,_,h3,e⟩:=Aw he;rw[List.all_append,h,Bool.true_and,e];simp[h3]
    ·rw[iy hlt he];rfl
   ·rw[fR hlt];exact h
theorem sr (T:List bO) (s:List UInt8):(eF T s).1.all fw=true:=by
 unfold eF;split
 ·rfl
 split
 ·rfl
 ·exact yl _ [] _ rfl
def ik (N:Nat):aS:=⟨38,fun | [v]=>(match jm v with | some t=>if t.size < N then some (fZ t).enc else none | none=>none) | _=>none⟩
theorem mN (N:Nat):(ik N).f=38:=(rfl)
theorem pc (N:Nat) (x:Tm) (h:x.size < N):(ik N).S [x.enc]=some (fZ x).enc:=by
 simp only[ik,fN,if_pos h]
theorem G2 (N:Nat) (x:Tm) (h:N≤x.size):(ik N).S [x.enc]=none:=by
 simp only[ik,fN];rw[if_neg (by omega)]
theorem BV (n N:Nat) (us:List Tm) (hN:N≤1000000000) (h1:Tm.dv us < N) (K M:Int) (s:List UInt8):∀(post pre acc:List Tm) (k:Nat),us=pre++post→acc.length=pre.length→acc≠[]→post.length < k→
 ∃md,jf 3 0 (cO (aT (az (ew [ik N]) (n+1)) (n+1) oi) mc 3 k (C7 (.ptr 0 0) (.ptr 1 0) (.ptr 2 0) (.int .i64 pre.length)) ⟨4,[.row (aU acc),.row [.int .i64 K,.int .i64 M,.str s,.vec 3 0 acc.length 4 acc.length],.row zT,.row [.int .i64 K,.int .i64 M,.str s,.sl (us.map Tm.enc)]],2,0⟩)=
   some (.exit 0,FM 31 [(2,.ptr 1 0),(3,.ptr 2 0)],⟨4,[.row (aU (acc++post.map fZ)),.row [.int .i64 K,.int .i64 M,.str s,.vec 3 0 (acc++post.map fZ).length 4 (acc++post.map fZ).length],.row zT,.row [.int .i64 K,.int .i64 M,.str s,.sl (us.map Tm.enc)]],0,md⟩)
 | [],pre,acc,k+1,e,ea,_,_=>by
   simp at e;subst e;have h5:AV.aq (us.map Tm.enc)=0:=bQ _;have hf:=bE acc;exact⟨0,by simp[aB,oi,h5,hf,zT]⟩
 | x::post,pre,acc,k+1,e,ea,hne,hk=>by
   have hlu:=gu us;have g1:us[pre.length]? =some x:=by rw[e];simp
   have h5:AV.aq (us.map Tm.enc)=0:=bQ _;have hf:=bE acc;have hpl:pre.length < us.length:=by rw[e];simp
   have h6:((pre.length:Int) < (us.length:Int))=True:=eq_true (by omega);have h3:IntKind.i64.wrap ((pre.length:Int)+1)=(pre.length:Int)+1:=wrap_i64 (by omega) (by omega);have hxe:=Tm.cG x;have hxc:=Tm.cr x;have hxr:=aP x;have hx:x ∈ us:=by rw[e];simp
   have hs:=pc N x (by have:=pg hx;omega);obtain⟨md,ih⟩:=BV n N us hN h1 K M s post (pre++[x]) (acc++[fZ x]) k (by simp[e]) (by simp[ea]) (by simp) (by rw[List.length_cons] at hk;omega);refine⟨md,?_⟩;have hye:(fZ x).enc=.agg (fZ x).cells:=Tm.cG _;have hyr:=aP (fZ x);have hf2:AV.aq (aU acc++(fZ x).cells)=0:=by rw[←qV];exact bE _
   rw[hxe,hxc] at hs;have em:(x::post).map fZ=fZ x::post.map fZ:=rfl;rw[em];generalize fZ x=y at *;have hyc:=Tm.cr y;rw[hyc] at hf2;have h8:(acc.length+1)*56≤140737488355328:=by omega
   have h9:acc.length+1 < 9223372036854775808:=by omega
   have h10:(aU acc).take (acc.length*4)=aU acc:=by rw[List.take_of_length_le];rw[c8];exact Nat.le_refl _
   have h11:=c8 acc;simp only[List.length_append,List.length_cons,List.length_nil,Nat.zero_add,qV,hyc,List.append_assoc] at ih;rw[show ((pre.length+1:Nat):Int)=(pre.length:Int)+1 by omega] at ih;rw[aB];simp[oi,mc,g1,h3,h5,h6,hf,hf2,h8,h9,h10,h11,hxe,hxc,hxr,hye,hyc,hyr,hs,ai,mN,aR,zT];simp only[zT] at ih;refine Eq.trans ih ?_;simp[aU,hyc,Nat.add_comm,Nat.add_left_comm,Nat.add_assoc]
theorem DB (C:Nat→List AV→aa→Option (AV×aa)) (n k:Nat) (K M:Int) (s:List UInt8) (A:AV) (hA:A=.aA∨A=.sl []):
 jf 3 0 (cO (aT C n oi) mc 3 (k+1) (C7 (.ptr 0 0) (.ptr 1 0) (.ptr 2 0) (.int .i64 0)) ⟨3,[.row [.int .i64 K,.int .i64 M,.str s,.aA],.row zT,.row [.int .i64 K,.int .i64 M,.str s,A]],3,0⟩)=
  some (.exit 0,FM 31 [(2,.ptr 1 0),(3,.ptr 2 0)],⟨3,[.row [.int .i64 K,.int .i64 M,.str s,.aA],.row zT,.row [.int .i64 K,.int .i64 M,.str s,A]],0,0⟩):=by
 rcases hA with rfl | rfl<;>simp[aB,oi,zT]
theorem Ht (n N:Nat) (x:Tm) (r:List Tm) (hN:N≤1000000000) (h1:Tm.dv (x::r) < N) (K M:Int) (s:List UInt8) (k:Nat) (hk:r.length+1 < k):
 ∃md,jf 3 0 (cO (aT (az (ew [ik N]) (n+1)) (n+1) oi) mc 3 k (C7 (.ptr 0 0) (.ptr 1 0) (.ptr 2 0) (.int .i64 0)) ⟨3,[.row [.int .i64 K,.int .i64 M,.str s,.aA],.row zT,.row [.int .i64 K,.int .i64 M,.str s,.sl ((x::r).map Tm.enc)]],3,0⟩)=
   some (.exit 0,FM 31 [(2,.ptr 1 0),(3,.ptr 2 0)],⟨4,[.row (aU ((x::r).map fZ)),.row [.int .i64 K,.int .i64 M,.str s,.vec 3 0 (r.length+1) 4 (r.length+1)],.row zT,.row [.int .i64 K,.int .i64 M,.str s,.sl ((x::r).map Tm.enc)]],0,md⟩):=by
 obtain⟨k,rfl⟩:∃k',k=k'+1:=⟨k - 1,by omega⟩
 have h5:AV.aq (r.map Tm.enc)=0:=bQ _;have h6:((0:Int) < (r.length:Int)+1)=True:=eq_true (by omega);have h3:IntKind.i64.wrap (0+1)=1:=rfl;have h3':IntKind.i64.wrap 1=1:=rfl;have hxe:=Tm.cG x;have hxc:=Tm.cr x;have hxr:=aP x;have hs:=pc N x (by simp only[Tm.dv] at h1;omega);obtain⟨md,ih⟩:=BV n N (x::r) hN h1 K M s r [x] [fZ x] k rfl rfl (by simp) (by omega);refine⟨md,?_⟩;have hye:(fZ x).enc=.agg (fZ x).cells:=Tm.cG _;have hyr:=aP (fZ x);rw[hxe,hxc] at hs;have em:(x::r).map fZ=fZ x::r.map fZ:=rfl;rw[em];generalize fZ x=y at *;have hyc:=Tm.cr y;simp only[List.length_append,List.length_cons,List.length_nil,Nat.zero_add,hyc,zT,aU,List.flatMap_cons,List.flatMap_nil,List.append_nil,List.map_cons,hxe,hxc] at ih;rw[aB];simp[oi,mc,h3,h3',h5,h6,hxe,hxc,hxr,hye,hyc,hyr,hs,ai,mN,aR,zT];refine Eq.trans ih ?_;simp[aU,hyc,Nat.add_comm,Nat.add_left_comm,Nat.add_assoc]
theorem Cs (N:Nat) (hN:N≤1000000000) (hp:bC Tryz.prog (ik N)):bC Tryz.prog (ik (N+1)):=fun args v hv=>by
 unfold ik at hv;dsimp only at hv;split at hv
 ·rename_i a;split at hv
  ·rename_i x ha;split at hv
   ·rename_i hc;rcases Nat.lt_or_ge x.size N with hlt | hge
    ·refine hp _ _ ?_;rw[fo ha,pc N x hlt];exact hv
    cases hv;rw[mN,fo ha];have hno:=G2 N x hge;have s1:=hO x;have hla:=gu x.args;refine cB (n:=x.size+5) (h':=h0) (cf (ss:=[ik N]) (by simp[hp])) ?_ (Tm.dh _) (by simp[AV.aq,AV.refs,Tm.dh]);have hxe:=Tm.cG x;have hxc:=Tm.cr x;rw[Nl];rw[hxe,hxc] at hno ⊢;by_cases hne:x.args=[]
    ·have a1:x.cE=.aA∨x.cE=.sl []:=by
      cases x with
      | nl k n s=>exact .inl rfl
      | mk k n s us=>simp only[Tm.args] at hne;subst hne;exact .inr rfl
     have lp:=DB (az (ew [ik N]) (x.size+4)) (x.size+4) (x.size+3) x.kind x.num x.name x.cE a1;simp only[mc,zT] at lp;rw[hne];have em:(SJ x.kind x.num x.name (List.map fZ [])).enc=.agg [.int .i64 x.kind,.int .i64 x.num,.str x.name,.aA]:=rfl;rw[em];rcases a1 with a1 | a1<;>rw[a1] at hno lp ⊢<;>simp[N2,RF,mc,hno,mN,lp]
    ·obtain⟨y,r,ha⟩:∃y r,x.args=y::r:=by
      cases h:x.args with
      | nil=>exact absurd h hne
      | cons y r=>exact⟨y,r,rfl⟩
     have a1:x.cE=.sl (x.args.map Tm.enc):=by
      cases x with
      | nl k n s=>exact absurd rfl hne
      | mk k n s us=>rfl
     have h5:=bQ x.args;rw[ha] at s1 hla h5;obtain⟨md,lp⟩:=Ht (x.size+3) N y r hN (by omega) x.kind x.num x.name (x.size+4) (by simp at hla;omega);simp only[mc,zT] at lp;have hf2:=bE ((y::r).map fZ);have em:(SJ x.kind x.num x.name ((y::r).map fZ)).enc=.agg [.int .i64 x.kind,.int .i64 x.num,.str x.name,.sl (((y::r).map fZ).map Tm.enc)]:=by simp[SJ,Tm.enc,jq,Tm.pX]
     have hf:∀(A B C:bj) (wl md d:Nat),hZ ⟨4,[.row (aU ((y::r).map fZ)),A,B,C],wl,md⟩ 0 (d+2) (.vec 3 0 (r.length+1) 4 (r.length+1))=some (.sl (((y::r).map fZ).map Tm.enc),[3]):=fun A B C wl md d=>by
      have:=NR (h:=⟨4,[.row (aU ((y::r).map fZ)),A,B,C],wl,md⟩) (n0:=0) (d:=d) (id:=3) (fZ y) (r.map fZ) (by omega) rfl;simpa using this
     rw[a1] at hno ⊢;rw[ha,em];rw[ha] at hno;generalize (y::r).map fZ=Z at *;generalize (y::r).map Tm.enc=E at *;simp[N2,RF,mc,hno,h5,hf2,hf,lp,mN,uC]
   ·cases hv
  ·cases hv
 ·cases hv
theorem A6:bC Tryz.prog (ik 0):=fun args v hv=>by
 unfold ik at hv;dsimp only at hv;split at hv
 ·split at hv
  ·split at hv
   ·rename_i hc;omega
   ·cases hv
  ·cases hv
 ·cases hv
theorem xH:∀N,N≤1000000001→bC Tryz.prog (ik N)
 | 0,_=>A6
 | N+1,h=>Cs N (by omega) (xH N (by omega))
def Cf:List UInt8:=[120,102,120]
def Tg:List UInt8:=[120,102,121]
def KK:List UInt8:=[121,102,120]
def TO:List UInt8:=[102,121]
def ey:List bO:=[⟨[58,45],Cf,1200⟩,⟨[59],Tg,1100⟩,⟨[45,62],Tg,1050⟩,⟨[44],Tg,1000⟩,⟨[92,43],TO,900⟩,
 ⟨[61],Cf,700⟩,⟨[92,61],Cf,700⟩,⟨[61,61],Cf,700⟩,⟨[92,61,61],Cf,700⟩,⟨[64,60],Cf,700⟩,⟨[64,62],Cf,700⟩,⟨[64,61,60],Cf,700⟩,⟨[64,62,61],Cf,700⟩,
 ⟨[61,46,46],Cf,700⟩,⟨[105,115],Cf,700⟩,⟨[61,58,61],Cf,700⟩,⟨[61,92,61],Cf,700⟩,⟨[60],Cf,700⟩,⟨[62],Cf,700⟩,⟨[61,60],Cf,700⟩,⟨[62,61],Cf,700⟩,
 ⟨[43],KK,500⟩,⟨[45],KK,500⟩,⟨[47,92],KK,500⟩,⟨[92,47],KK,500⟩,⟨[120,111,114],KK,500⟩,
 ⟨[42],KK,400⟩,⟨[47,47],KK,400⟩,⟨[109,111,100],KK,400⟩,⟨[114,101,109],KK,400⟩,⟨[62,62],KK,400⟩,⟨[60,60],KK,400⟩,
 ⟨[94],Tg,200⟩,⟨[45],TO,200⟩,⟨[92],TO,200⟩]
def mH:aS:=⟨12,fun | []=>some (.agg [.sl (ey.map bO.enc)]) | _=>none⟩
theorem dY:mH.f=12:=(rfl)
theorem uy:mH.S []=some (.agg [.sl (ey.map bO.enc)]):=(rfl)
theorem CV:(az (ew []) 60 12 [] h0).map (·.1)=some (.agg [.sl (ey.map bO.enc)]):=by kernel_rfl
theorem uN:bC Tryz.prog mH:=fun args v hv=>by
 unfold mH at hv ⊢;dsimp only at hv ⊢;split at hv
 ·cases hv;obtain⟨p,h1,h2⟩:=Option.map_eq_some_iff.1 CV;obtain⟨a,h'⟩:=p;dsimp only at h2;subst h2;exact cB (n:=60) (h':=h') (cf (ss:=[]) (by simp)) h1 (by decide+kernel) rfl
 ·cases hv
def TG:List UInt8:=[88,32,61,32,97,32,43,32,89,46]
def Od:Tm:=.mk 2 0 [61] [.nl 0 0 [],.mk 2 0 [43] [.nl 2 0 [97],.nl 0 1 []]]
theorem QR:Cl ey TG=((Od,[([88],0),([89],1)]),0):=by kernel_rfl
def U2:AV:=.agg [.int .i64 2,.int .i64 0,.str [61],.sl [.agg [.int .i64 0,.int .i64 0,.str [],.aA],.agg [.int .i64 2,.int .i64 0,.str [43],.sl [.agg [.int .i64 2,.int .i64 0,.str [97],.aA],.agg [.int .i64 0,.int .i64 1,.str [],.aA]]]]]
theorem RG:(az (ew []) 60 25 [.agg [.int .i64 2,.int .i64 0,.str [61],.sl [.agg [.int .i64 0,.int .i64 0,.str [],.aA],.agg [.int .i64 2,.int .i64 0,.str [43],.sl [.agg [.int .i64 2,.int .i64 0,.str [97],.aA],.agg [.int .i64 0,.int .i64 1,.str [],.aA]]]]]] h0).map (fun p=>p.1)=some (.tuple [.str [61,40,95,48,44,43,40,97,44,95,49,41,41],.int .i64 0]):=by kernel_rfl
def tf:aS:=⟨25,fun | [v]=>if v.AH U2 then some (.tuple [.str [61,40,95,48,44,43,40,97,44,95,49,41,41],.int .i64 0]) else none | _=>none⟩
theorem GR:tf.f=25:=(rfl)
theorem El:bC Tryz.prog tf:=fun args v hv=>by
 unfold tf at hv ⊢;dsimp only at hv ⊢;split at hv
 ·rename_i x;split at hv
  ·rename_i hx;cases hv;rw[AV.Dn _ _ hx];obtain⟨⟨w,h'⟩,e1,e2⟩:=Option.map_eq_some_iff.1 RG;dsimp only at e2;subst e2;exact cB (n:=60) (h':=h') (cf (ss:=[]) (by simp)) e1 rfl rfl
  ·cases hv
 ·cases hv
noncomputable def OG:List aS:=[mH,tF,oO,ik 1000000000,tf]
theorem L5:∀s ∈ OG,eR Tryz.prog cq s:=by simp[OG,uN.lift,HV,ti.lift,(xH 1000000000 (by omega)).lift,El.lift]
def rF:aS:=⟨13,fun | []=>some (.bool true) | _=>none⟩
theorem eS:rF.f=13:=(rfl)
theorem D3:rF.S []=some (.bool true):=(rfl)
theorem EZ:eR Tryz.prog cq rF:=fun args v hv=>by
 unfold rF at hv ⊢;dsimp only at hv ⊢;split at hv
 ·cases hv;refine cB (n:=10) (h':=h0) (mA L5) ?_ rfl rfl;have q0:=uy;have q1:=HS (pN ey) (by decide) TG;rw[QR] at q1;have e1:j9 ((Od,[([88],0),([89],1)]),0)=.tuple [.agg [.int .i64 2,.int .i64 0,.str [61],.sl [.agg [.int .i64 0,.int .i64 0,.str [],.aA],.agg [.int .i64 2,.int .i64 0,.str [43],.sl [.agg [.int .i64 2,.int .i64 0,.str [97],.aA],.agg [.int .i64 0,.int .i64 1,.str [],.aA]]]]],.sl [.agg [.str [88],.int .i64 0],.agg [.str [89],.int .i64 1]],.int .i64 0]:=by kernel_rfl
  have e2:Od.enc=.agg [.int .i64 2,.int .i64 0,.str [61],.sl [.agg [.int .i64 0,.int .i64 0,.str [],.aA],.agg [.int .i64 2,.int .i64 0,.str [43],.sl [.agg [.int .i64 2,.int .i64 0,.str [97],.aA],.agg [.int .i64 0,.int .i64 1,.str [],.aA]]]]]:=by kernel_rfl
  have e3:(fZ Od).enc=Od.enc:=by kernel_rfl
  rw[e1] at q1;unfold TG at q1;have q2:=mw Od (by decide+kernel);rw[show fw Od=true by decide+kernel,e2] at q2;have q3:=pc 1000000000 Od (by decide+kernel);rw[e3,e2] at q3;have q4:tf.S [.agg [.int .i64 2,.int .i64 0,.str [61],.sl [.agg [.int .i64 0,.int .i64 0,.str [],.aA],.agg [.int .i64 2,.int .i64 0,.str [43],.sl [.agg [.int .i64 2,.int .i64 0,.str [97],.aA],.agg [.int .i64 0,.int .i64 1,.str [],.aA]]]]]]=some (.tuple [.str [61,40,95,48,44,43,40,97,44,95,49,41,41],.int .i64 0]):=by kernel_rfl
  generalize ey.map bO.enc=pt at *;have c1:iK [2,1] [.str [88],.int .i64 0] [.str [88],.int .i64 0]=some true:=by kernel_rfl
  have c2:iK [2,1] [.str [89],.int .i64 1] [.str [89],.int .i64 1]=some true:=by kernel_rfl
  simp[c1,c2,SG,Rl,Tk,Tl,OG,dY,Km,dU,mN,GR,q0,q1,q2,q3,q4]
 ·cases hv
theorem Cb {t:Tm} (h:oI t=true):t.name.length≤64:=by
 unfold oI at h;split at h
 ·simp only[Bool.and_eq_true,decide_eq_true_eq] at h;rw[h.1.2];simp
 split at h
 ·simp only[Bool.and_eq_true,decide_eq_true_eq] at h;rw[h.1];simp
 split at h
 ·simp only[Bool.and_eq_true,decide_eq_true_eq,tI] at h;exact h.1.2.2
 ·cases h
mutual
theorem wG:∀t:Tm,t.ui oI=true→t.gU≤66*t.size
 | .nl k n s,h=>by
   rw[uv,Bool.and_eq_true] at h;have h1:=Cb h.1;simp only[Tm.gU,Tm.size,Tm.name] at h1 ⊢;omega
 | .mk k n s us,h=>by
   rw[uv,Bool.and_eq_true] at h;have h1:=Cb h.1;have h2:=xm us h.2;simp only[Tm.gU,Tm.size,Tm.name] at h1 ⊢;omega
theorem xm:∀us:List Tm,Tm.hU oI us=true→Tm.fi us≤66*Tm.dv us
 | [],_=>Nat.zero_le _
 | t::r,h=>by
   simp only[Tm.hU,Bool.and_eq_true] at h;have h1:=wG t h.1;have h2:=xm r h.2;simp only[Tm.fi,Tm.dv];omega
end
theorem zl {t:Tm} (h:fw t=true):t.gU < 1000000000:=by
 unfold fw at h;simp only[Bool.and_eq_true,decide_eq_true_eq] at h;have:=wG t h.2;omega
mutual
theorem Gm:∀t:Tm,nT t t=true
 | .nl k n s=>by rw[w8];simp[Tm.args,kR]
 | .mk k n s us=>by
   rw[w8];simp[Tm.args,BY us]
theorem BY:∀us:List Tm,jE us us=true
 | []=>by simp[kR]
 | t::r=>by rw[mX,Gm t,BY r];rfl
end
theorem M6 {t:Tm} (h:fw t=true):vX.S [t.enc,t.enc]=some (.bool true):=by
 rw[JH t t ⟨zl h,zl h⟩,h,Gm];rfl
noncomputable def Az:List aS:=[rF,mH,mW,vX]
theorem Pv:∀s ∈ Az,eR Tryz.prog cq s:=by simp[Az,EZ,uN.lift,Bv,Ji.lift]
theorem lu (us:List Tm):∀(fr:List AV) (h:aa) (o:cY),o.ev fr=ng us→bF fr h (.u0 o)=some (.int .i64 us.length,h):=fun fr h o ho=>by
 rw[dP,ho]
 cases us with
 | nil=>rfl
 | cons x r=>simp[ng]
theorem o8 (us:List Tm):ng us=.aA∨∃W,ng us=.sl W:=by
 cases us with
 | nil=>exact .inl rfl
 | cons x r=>exact .inr ⟨_,rfl⟩
theorem FB (n:Nat) (x y:List Tm) (hg:(x++y).all fw=true) (hl:(x++y).length < 1000000):∀(post pre:List Tm) (k md:Nat),x++y=pre++post→post.length < k→
 ∃md',jf 0 0 (cO (aT (az (ew Az) (n+1)) (n+1) vZ) lE 0 k (N4 (ng x) (ng y) (ng (x++y)) (.int .i64 pre.length)) ⟨0,[],0,md⟩)=some (.exit 0,FM 104 [],⟨0,[],0,md'⟩)
 | _,_,0,_,_,h=>by omega
 | [],pre,k+1,md,e,_=>by
   rw[List.append_nil] at e;rw[aB];have lz:=lu (x++y);rw[e] at lz ⊢;rcases o8 x with sx | ⟨W,sx⟩<;>rcases o8 y with sy | ⟨W2,sy⟩<;>rcases o8 pre with sp | ⟨W3,sp⟩<;>rw[sx,sy,sp]<;>rw[sp] at lz<;>exact⟨_,by simp[-dP,vZ,lE,Az,eS,dY,ez,gy,lz];with_reducible rfl⟩
 | t::post,pre,k+1,md,e,hk=>by
   have hlen:(x++y).length=pre.length+post.length+1:=by rw[e];simp;omega
   have ht:(x++y)[pre.length]? =some t:=by rw[e];simp
   have hgt:fw t=true:=List.all_eq_true.1 hg t (by rw[e];simp);have qs:=M6 hgt;obtain⟨md',ih⟩:=FB n x y hg hl post (pre++[t]) k md (by rw[e];simp) (by simp only[List.length_cons] at hk;omega);rw[List.length_append,List.length_cons,List.length_nil] at ih;rw[aB];have lz:=lu (x++y);have lx:=lu x;have ly:=lu y;have hz:x++y≠[]:=by rw[e];simp
   have sz:=l9 hz;have w1:=wrap_i64 (n:=(pre.length:Int)+1) (by omega) (by omega);have ht2:((x++y).map Tm.enc)[pre.length]? =some t.enc:=by rw[List.getElem?_map,ht];rfl
   have hll:(x++y).length=x.length+y.length:=List.length_append;have hlt:(pre.length:Int) < (x.length:Int)+(y.length:Int):=by omega
   refine⟨md',Eq.trans ?_ ih⟩;rw[ar] at qs ht2;have tr:=aP t;have tcl:=cL t;by_cases hx:pre.length < x.length
   ·have hxn:x≠[]:=fun h=>by rw[h] at hx;simp at hx
    have sx:=l9 hxn
    have hx2:(x.map Tm.enc)[pre.length]? =some (.agg [.int .i64 t.kind,.int .i64 t.num,.str t.name,t.cE]):=by
     rw[List.getElem?_append_left hx] at ht;rw[List.getElem?_map,ht,←ar];rfl
    have hxi:(pre.length:Int) < (x.length:Int):=by omega
    have hxj:¬ (x.length:Int)≤(pre.length:Int):=by omega
    rw[sz] at lz ⊢;rw[sx] at lx ⊢;rw[List.length_append] at lz;have mz:((x++y).map Tm.enc).length=x.length+y.length:=by simp
    have mx:(x.map Tm.enc).length=x.length:=by simp
    generalize (x++y).map Tm.enc=Z at *;generalize x.map Tm.enc=U at *;generalize pre.length=i at *;rcases o8 y with sy | ⟨W,sy⟩
    ·rw[sy];simp[-dP,vZ,lE,Az,eS,dY,ez,gy,lz,lx,ly,w1,hlt,ht2,hx2,hxi,hxj,qs,tr,tcl,ai]
    ·rw[sy];simp[-dP,vZ,lE,Az,eS,dY,ez,gy,lz,lx,ly,w1,hlt,ht2,hx2,hxi,hxj,qs,tr,tcl,ai]
   ·have hy:y[pre.length - x.length]? =some t:=by
     rw[List.getElem?_append_right (by omega)] at ht;exact ht
    have hyn:y≠[]:=fun h=>by rw[h] at hy;simp at hy
    have sy:=l9 hyn
    have hy2:(y.map Tm.enc)[pre.length - x.length]? =some (.agg [.int .i64 t.kind,.int .i64 t.num,.str t.name,t.cE]):=by
     rw[List.getElem?_map,hy,←ar];rfl
    have hxi:¬ (pre.length:Int) < (x.length:Int):=by omega
    have hxj:(x.length:Int)≤(pre.length:Int):=by omega
    have w2:=wrap_i64 (n:=(pre.length:Int) - (x.length:Int)) (by omega) (by omega);have hyi:pre.length - x.length < y.length:=(List.getElem?_eq_some_iff.1 hy).1;have hn1:((pre.length:Int) - (x.length:Int)).toNat=pre.length - x.length:=by omega
    have hn2:(0:Int)≤(pre.length:Int) - (x.length:Int):=by omega
    rw[sz] at lz ⊢;rw[sy] at ly ⊢;rw[List.length_append] at lz;have mz:((x++y).map Tm.enc).length=x.length+y.length:=by simp
    have my:(y.map Tm.enc).length=y.length:=by simp
    generalize (x++y).map Tm.enc=Z at *;generalize y.map Tm.enc=U at *;generalize pre.length=i at *;rcases o8 x with sx | ⟨W,sx⟩
    ·rw[sx] at lx ⊢;simp[-dP,vZ,lE,Az,eS,dY,ez,gy,lz,lx,ly,w1,w2,hlt,ht2,hy2,hxi,hxj,hn1,hn2,qs,tr,tcl,ai]
    ·rw[sx] at lx ⊢;simp[-dP,vZ,lE,Az,eS,dY,ez,gy,lz,lx,ly,w1,w2,hlt,ht2,hy2,hxi,hxj,hn1,hn2,qs,tr,tcl,ai]
theorem Tryz.own:ownKnob Tryz.prog.godebug=none:=by kernel_rfl
theorem Tryz.laidOut:laidOutB Tryz.prog=true:=by kernel_rfl
theorem NH {l:List (String×DataW Unit)} {W:World} (hL:laidMetH Tryz.prog l W)
 (h:(l.filter fun x=>x.1== "internal/strconv.uint64pow10")=[("internal/strconv.uint64pow10",Lib.tabData .u64 Lib.pow10Tab)]∧(l.filter fun x=>x.1== "strconv.ErrRange")=[("strconv.ErrRange",Rows.laid_strconv_ErrRange)]):cq W:=by
 have h1:=hL.filter fun x=>x.1== "internal/strconv.uint64pow10"
 rw[h.1,MakeChecks.laidMetH_plain _ _ _ (by kernel_rfl)] at h1;have h2:=hL.filter fun x=>x.1== "strconv.ErrRange"
 rw[h.2,MakeChecks.laidMetH_plain _ _ _ (by kernel_rfl)] at h2;refine⟨Lib.tabIs_of_head (g:=5) (by kernel_rfl) (t:=251) (by kernel_rfl) (e:=213) (n:=20) (by kernel_rfl) (by kernel_rfl) (by kernel_rfl) (by kernel_rfl) h1,?_⟩;exact xN (g:=2) (t:=170) (ms:=#[("Error",139)]) (by kernel_rfl) (by kernel_rfl) (by kernel_rfl) h2
end Go.Proofs.YtjmeonoabiliiaaGreatDoor

namespace Go.Proofs.YtjmeonoabiliiaaGreatDoor
open Go Sz Go.ChangeShapes Go.WideShapes Go.ChangeAt Go.RowKit
mutual
def vb:AV→Nat
 | .bool _=>1
 | .int ..=>1
 | .str s=>s.length+1
 | .sl xs=>Ue xs+1
 | .agg cs=>Ue cs
 | _=>0
def Ue:List AV→Nat
 | []=>0
 | v::r=>vb v+Ue r
end
end Go.Proofs.YtjmeonoabiliiaaGreatDoor

namespace Go.Proofs.YtjmeonoabiliiaaGreatDoor
open Go Sz
theorem Bs {T:List bO} {n:Nat}:∀(M:Nat) (acc:List Tm) (s:St),(kj T n M acc s).1.length≤acc.length+M
 | 0,acc,s=>Nat.le_refl _
 | M+1,acc,s=>by
   by_cases hlt:(s.at_:Int) < n
   ·by_cases he:(bJ T s).1.2=0
    ·rw[jz hlt he];have:=Bs (T:=T) (n:=n) M (acc++[(bJ T s).1.1]) (bJ T s).2;rw[List.length_append,List.length_cons,List.length_nil] at this;omega
    ·rw[iy hlt he];simp
   ·rw[fR hlt];simp
theorem uM (T:List bO) (s:List UInt8):(eF T s).1.length≤1025:=by
 unfold eF;split
 ·simp
 split
 ·simp
 ·have h1:=Bs (T:=T) (n:=(dn s).1.length) ((dn s).1.length+1) [] (tp (dn s).1 0);have h2:=(tE s).2;simp only[List.length_nil] at h1;omega
theorem Aa (us:List Tm):(ng us=.aA∧us.length=0)∨∃W,ng us=.sl W∧0 < us.length:=by
 cases us with
 | nil=>exact .inl ⟨rfl,rfl⟩
 | cons x r=>exact .inr ⟨_,rfl,by simp⟩
theorem He (a b:List UInt8):∃h',az (ew Az) 200000 5 [.str a,.str b] h0=some (.bool true,h'):=by
 have q0:=uy;have q1:=D3;by_cases la:(800:Int) < (a.length:Int)
 ·exact⟨_,by simp[AF,c5,Az,eS,dY,ez,gy,q0,q1,la];with_reducible rfl⟩
 by_cases lb:(800:Int) < (b.length:Int)
 ·exact⟨_,by simp[AF,c5,Az,eS,dY,ez,gy,q0,q1,la,lb];with_reducible rfl⟩
 have m1:a.length+1 < 9223372036854775808:=by omega
 have m2:a.length+1+b.length < 9223372036854775808:=by omega
 have m3:a.length+(b.length+1) < 9223372036854775808:=by omega
 have qa:=oU (pN ey) (by decide) a;have qb:=oU (pN ey) (by decide) b;have qc:=oU (pN ey) (by decide) (a++10::b);have ga:=sr ey a;have gb:=sr ey b;have na:=uM ey a;have nb:=uM ey b;have hz:=fun x y (h1:eF ey a=(x,0)) (h2:eF ey b=(y,0))=>HT (c:=10) rfl h1 h2
 generalize eF ey a=ra at *;generalize eF ey b=rb at *;generalize eF ey (a++10::b)=rc at *;obtain⟨x,ea⟩:=ra;obtain⟨y,eb⟩:=rb;obtain⟨z,ec⟩:=rc;unfold kz at qa qb qc;dsimp only at qa qb qc ga gb na nb hz;have lx:=lu x;have ly:=lu y;have lz:=lu z;have sx:=o8 x;have sy:=o8 y;have sz:=o8 z;generalize ey.map bO.enc=pt at *;by_cases h1:ea=0
 ·by_cases h2:eb=0
  ·subst h1 h2;rcases hz x y rfl rfl with h3 | h3
   ·cases h3;obtain⟨md,lp⟩:=FB 199998 x y (by rw[List.all_append,ga,gb];rfl) (by rw[List.length_append];omega) (x++y) [] 199999 0 (by simp) (by rw[List.length_append];omega);rw[List.length_nil,show (((0:Nat):Int))=0 from rfl] at lp;have w0:=wrap_i64 (n:=(x.length:Int)+(y.length:Int)) (by omega) (by omega);have w1:=wrap_i64 (n:=(x.length:Int)) (by omega) (by omega);have w2:=wrap_i64 (n:=(y.length:Int)) (by omega) (by omega);have w3:=wrap_i64 (n:=0) (by omega) (by omega);rw[List.length_append] at lz;simp only[lE,N4,Az] at lp;have sx:=Aa x;have sy:=Aa y;have sz:=Aa (x++y);rw[List.length_append] at sz;generalize ng (x++y)=vz at *;generalize ng x=vx at *;generalize ng y=vy at *;generalize x.length=nx at *;generalize y.length=ny at *;rcases sx with⟨rfl,hx⟩ | ⟨W1,rfl,hx⟩<;>rcases sy with⟨rfl,hy⟩ | ⟨W2,rfl,hy⟩<;>rcases sz with⟨rfl,hz⟩ | ⟨W3,rfl,hz⟩<;>first | omega | skip
    ·subst hx hy;exact⟨_,by simp[-dP,AF,c5,lE,Az,eS,dY,ez,gy,q0,q1,qa,qb,qc,la,lb,m1,m2,m3,lx,ly,lz,lp,w0,w1,w2,w3];with_reducible rfl⟩
    ·subst hx;rw[Nat.zero_add] at lz;exact⟨_,by simp[-dP,AF,c5,lE,Az,eS,dY,ez,gy,q0,q1,qa,qb,qc,la,lb,m1,m2,m3,lx,ly,lz,lp,w0,w1,w2,w3];with_reducible rfl⟩
    ·subst hy;exact⟨_,by simp[-dP,AF,c5,lE,Az,eS,dY,ez,gy,q0,q1,qa,qb,qc,la,lb,m1,m2,m3,lx,ly,lz,lp,w0,w1,w2,w3];with_reducible rfl⟩
    ·exact⟨_,by simp[-dP,AF,c5,lE,Az,eS,dY,ez,gy,q0,q1,qa,qb,qc,la,lb,m1,m2,m3,lx,ly,lz,lp,w0,w1,w2,w3];with_reducible rfl⟩
   ·subst h3;generalize ng z=vz at *;generalize ng x=vx at *;generalize ng y=vy at *;rcases sx with rfl | ⟨W1,rfl⟩<;>rcases sy with rfl | ⟨W2,rfl⟩<;>rcases sz with rfl | ⟨W3,rfl⟩<;>exact⟨_,by simp[-dP,AF,c5,lE,Az,eS,dY,ez,gy,q0,q1,qa,qb,qc,la,lb,m1,m2,m3];with_reducible rfl⟩
  ·subst h1;generalize ng x=vx at *;generalize ng y=vy at *;rcases sx with rfl | ⟨W1,rfl⟩<;>rcases sy with rfl | ⟨W2,rfl⟩<;>exact⟨_,by simp[-dP,AF,c5,lE,Az,eS,dY,ez,gy,q0,q1,qa,qb,la,lb,h2];with_reducible rfl⟩
 ·generalize ng x=vx at *;generalize ng y=vy at *;rcases sx with rfl | ⟨W1,rfl⟩<;>rcases sy with rfl | ⟨W2,rfl⟩<;>exact⟨_,by simp[-dP,AF,c5,lE,Az,eS,dY,ez,gy,q0,q1,qa,qb,la,lb,h1];with_reducible rfl⟩
theorem DN (a b:List UInt8):fY Tryz.prog cq 5 [.str a,.str b] (.bool true):=by
 obtain⟨h',e⟩:=He a b;exact cB (mA Pv) e rfl (by simp[AV.aq,AV.refs])
theorem w6 {H:Type} (ds:List (DataW H)) (h:qM Tryz.prog Tryz.f5.params.toList (ds.map kH)) (_:(DataW.weightsEach Tryz.prog Tryz.f5.params.toList ds).all (·≤reachBytes)=true):fY Tryz.prog cq 5 (ds.map kH) (.bool true):=by
 rw[Tryz.params5] at h
 match ds,h with
 | [d1,d2],.cons h1 (.cons h2 .nil)=>
   obtain⟨a,e1,_⟩:=J9 Tryz.underlying9 h1;obtain⟨b,e2,_⟩:=J9 Tryz.underlying9 h2;simp only[List.map_cons,List.map_nil,e1,e2];exact DN a b
end Go.Proofs.YtjmeonoabiliiaaGreatDoor
