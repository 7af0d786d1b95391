import Derived.Test.YtjmeonoabiliiaaGreatDoorAt
import Derived.Test.YtjmeonoabiliiaaGreatDoorBd4
import Derived.Test.YtjmeonoabiliiaaGreatDoorBd3
import Derived.Test.YtjmeonoabiliiaaGreatDoorBd2
set_option linter.all false
set_option maxHeartbeats 16000000
set_option maxRecDepth 100000
namespace Go.Proofs.YtjmeonoabiliiaaGreatDoor
open Go Sz
section
def fj(T:List bj)(s:List UInt8)(st:St):PR×St:=
 if s=[40] then hO (ae T) [41] (λt=>t) st
 else if s=[123] then hO (ae T) [125] (λt=>bM [123,125] [t]) st
 else if s=[91] then (((jO T st).1.1,0,(jO T st).1.2),(jO T st).2)
 else ((lh,0,false),st)
theorem yI(t:Tm)(n:Int):cP (t,n,false)=(lh,0):=rfl
theorem OX(t:Tm)(n:Int):cP (t,n,true)=(t,n):=rfl
theorem OK{T:List bj}{c:List UInt8}{f:Tm->Tm}{st:St}(h:(ae T 1200 st).1.2.2=false):hO (ae T) c f st=((f (ae T 1200 st).1.1,0,false),(ae T 1200 st).2):=by unfold hO;rw[h];exact if_neg (by simp)
theorem Cl{T:List bj}{c:List UInt8}{f:Tm->Tm}{st:St}(h:(ae T 1200 st).1.2.2=true):hO (ae T) c f st=((f (ae T 1200 st).1.1,0,(ax c (ae T 1200 st).2).1),(ax c (ae T 1200 st).2).2):=by unfold hO;rw[h];exact if_pos rfl
noncomputable def ZH:List aX:=[l4,rQ,AG]
noncomputable def Yf(N:Nat):List cr:=[fb N,tZ,rK N]
theorem aO(t:Tm)(n:Int):(AV.tuple [t.aV,.int .i64 n]).aK=0:=by simp[AV.aK,AV.aw,Tm.cm]
theorem Aw(s:List UInt8)(u:Tm):l4.S [.str s,.sl [.agg [.int .i64 u.au,.int .i64 u.cF,.str u.bH,u.ca]]]=some (.agg [.int .i64 2,.int .i64 0,.str s,.sl [.agg [.int .i64 u.au,.int .i64 u.cF,.str u.bH,u.ca]]]):=by have h:=vp s [u];rw[List.map_cons,List.map_nil,an] at h;rw[h];show some (bM s [u]).aV=_;rw[pT]
theorem Ab(s:List UInt8)(u v:Tm):l4.S [.str s,.sl [.agg [.int .i64 u.au,.int .i64 u.cF,.str u.bH,u.ca],.agg [.int .i64 v.au,.int .i64 v.cF,.str v.bH,v.ca]]]=some (.agg [.int .i64 2,.int .i64 0,.str s,.sl [.agg [.int .i64 u.au,.int .i64 u.cF,.str u.bH,u.ca],.agg [.int .i64 v.au,.int .i64 v.cF,.str v.bH,v.ca]]]):=by have h:=vp s [u,v];rw[List.map_cons,List.map_cons,List.map_nil,an u,an v] at h;rw[h];show some (bM s [u,v]).aV=_;rw[Dx]
attribute [local simp] fX fU fY fR eO eN fP fS fT eQ eR fQ lK lQ lS lO lM lT fc fe Laid.aK db dc bf ZP Zd BT Nu bc ZH Yf nS tY UI jQ ub Ak aT
abbrev fW(x:AV)(y:AV)(T:List bj)(st:St)(s:List UInt8):Prop:=dA Tryz.prog cX 153 [.ptr 0 0,.str s] (gg x y st false) (.tuple [(cP (fj T s st).1).1.aV,.int .i64 (cP (fj T s st).1).2]) (some (gj x y st.aa (fj T s st).2 (!(fj T s st).1.2.2)))
section
variable (N:Nat){x y:AV}{T:List bj}{L:List Tok}{st:St}(hx:ba x=some T)(hy:bx y=some L)(hc:DC T L st)(hN:st.aC.length<N)(hE:cT Tryz.prog cX (b9 ZH (Yf N))){s:List UInt8}
include N hx hy hc hN hE
theorem TA(hs:s=[40])(bV:(ae T 1200 st).1.2.2=false):
 fW x y T st s:=by
 unfold fW
 have e:fj T s st=(((ae T 1200 st).1.1,0,false),(ae T 1200 st).2):=by unfold fj;rw[if_pos hs,OK bV]
 rw[e,yI];have aN:=aR hx;have aP:=aI hy;have q1:=cE N hx hy hc 1200 (by decide) hN;have dF:st.aa≠[]->(ae T 1200 st).2.aa≠[]:=((a6 T).lv 1200 st).aa;have et:cP (ae T 1200 st).1=(lh,0):=by unfold cP;rw[bV];rfl
 rw[bV,et,dJ] at q1;subst hs;dsimp only;generalize (ae T 1200 st).2=s1 at *;by_cases h0:st.aa=[];by_cases h1:s1.aa=[];rw[aU h0,h0,cI h1] at q1;refine cp (n:=8) hE aN aP h0 h1 ?_ (aO _ _) rfl
 rotate_left
 rw[aU h0,h0,ch h1] at q1;refine dh (n:=8) hE aN aP 2 (by decide) h0 h1 ?_ (aO _ _) rfl
 rotate_left
 have h1:s1.aa≠[]:=dF h0;rw[aS h0,dv h0 h1] at q1;refine cd (n:=8) hE aN aP 3 (by decide) h0 h1 ?_ (aO _ _) rfl
 rotate_left
 all_goals
  rw[dJ];simp[q1,-af,-aj,-ah,-az,-ck,aN,aP]
theorem Wt(hs:s=[40])(bV:(ae T 1200 st).1.2.2=true)(hb:(ax [41] (ae T 1200 st).2).1=false):
 fW x y T st s:=by
 unfold fW
 have e:fj T s st=(((ae T 1200 st).1.1,0,false),(ax [41] (ae T 1200 st).2).2):=by unfold fj;rw[if_pos hs,Cl bV,hb]
 rw[e,yI];have aN:=aR hx;have aP:=aI hy;have q1:=cE N hx hy hc 1200 (by decide) hN;have dF:st.aa≠[]->(ae T 1200 st).2.aa≠[]:=((a6 T).lv 1200 st).aa;have et:(cP (ae T 1200 st).1).1=(ae T 1200 st).1.1:=by unfold cP;rw[bV];rfl
 have c2:=hc.ok ((a6 T).ok 1200 st bV);have q2:=ef hx hy c2 [41];have hn:=b8 [41] (ae T 1200 st).2;rw[bV,et,an] at q1;rw[hb] at q2;subst hs;have ur:=ay (ae T 1200 st).1.1;have uc:=br (ae T 1200 st).1.1;have qc:=Aw [123,125] (ae T 1200 st).1.1;dsimp only;generalize (cP (ae T 1200 st).1).2=tl at *;generalize (ae T 1200 st).1.1=u at *;rw[fF hb] at q2 hn|-;generalize (ae T 1200 st).2=s1 at *;by_cases h0:st.aa=[];by_cases h1:s1.aa=[];rw[aU h0,h0,cI h1] at q1;rw[aU h1] at q2;refine cp (n:=8) hE aN aP h0 h1 ?_ (aO _ _) rfl
 rotate_left
 rw[aU h0,h0,ch h1] at q1;rw[aS h1] at q2;refine dh (n:=8) hE aN aP 2 (by decide) h0 h1 ?_ (aO _ _) rfl
 rotate_left
 have h1:s1.aa≠[]:=dF h0;rw[aS h0,dv h0 h1] at q1;rw[aS h1] at q2;refine cd (n:=8) hE aN aP 3 (by decide) h0 h1 ?_ (aO _ _) rfl
 rotate_left
 all_goals
  rw[dJ];simp[q1,q2,qc,ur,uc,-af,-aj,-ah,-az,-ck,aN,aP]
theorem UN(hs:s=[40])(bV:(ae T 1200 st).1.2.2=true)(hb:(ax [41] (ae T 1200 st).2).1=true):
 fW x y T st s:=by
 unfold fW
 have e:fj T s st=(((ae T 1200 st).1.1,0,true),(ax [41] (ae T 1200 st).2).2):=by unfold fj;rw[if_pos hs,Cl bV,hb]
 rw[e,OX];have aN:=aR hx;have aP:=aI hy;have q1:=cE N hx hy hc 1200 (by decide) hN;have dF:st.aa≠[]->(ae T 1200 st).2.aa≠[]:=((a6 T).lv 1200 st).aa;have et:(cP (ae T 1200 st).1).1=(ae T 1200 st).1.1:=by unfold cP;rw[bV];rfl
 have c2:=hc.ok ((a6 T).ok 1200 st bV);have q2:=ef hx hy c2 [41];have hn:=b8 [41] (ae T 1200 st).2;rw[bV,et,an] at q1;rw[hb] at q2;subst hs;have ur:=ay (ae T 1200 st).1.1;have uc:=br (ae T 1200 st).1.1;have qc:=Aw [123,125] (ae T 1200 st).1.1;dsimp only;generalize (cP (ae T 1200 st).1).2=tl at *;generalize (ae T 1200 st).1.1=u at *;generalize (ae T 1200 st).2=s1 at *;generalize (ax [41] s1).2=s2 at *;by_cases h0:st.aa=[];by_cases h1:s1.aa=[];rw[aU h0,h0,cI h1] at q1;rw[aU h1,aU (by rw[hn.1];exact h1),hn.2] at q2;refine cp (n:=8) hE aN aP h0 (by rw[hn.1];exact h1) ?_ (aO _ _) rfl;rw[an];simp only[hn.2]
 rotate_left
 rw[aU h0,h0,ch h1] at q1;rw[aS h1,aS (by rw[hn.1];exact h1),hn.1,hn.2] at q2;refine dh (n:=8) hE aN aP 2 (by decide) h0 (by rw[hn.1];exact h1) ?_ (aO _ _) rfl;rw[an];simp only[hn.1,hn.2]
 rotate_left
 have h1:s1.aa≠[]:=dF h0;rw[aS h0,dv h0 h1] at q1;rw[aS h1,aS (by rw[hn.1];exact h1),hn.1,hn.2] at q2;refine cd (n:=8) hE aN aP 3 (by decide) h0 (by rw[hn.1];exact h1) ?_ (aO _ _) rfl;rw[an];simp only[hn.1,hn.2]
 rotate_left
 all_goals simp[q1,q2,qc,ur,uc,-af,-aj,-ah,-az,-ck,aN,aP]
theorem R2(hs:s=[123])(bV:(ae T 1200 st).1.2.2=false):
 fW x y T st s:=by
 unfold fW
 have e:fj T s st=((bM [123,125] [(ae T 1200 st).1.1],0,false),(ae T 1200 st).2):=by unfold fj;rw[if_neg (by rw[hs];decide),if_pos hs,OK bV]
 rw[e,yI];have aN:=aR hx;have aP:=aI hy;have q1:=cE N hx hy hc 1200 (by decide) hN;have dF:st.aa≠[]->(ae T 1200 st).2.aa≠[]:=((a6 T).lv 1200 st).aa;have et:cP (ae T 1200 st).1=(lh,0):=by unfold cP;rw[bV];rfl
 rw[bV,et,dJ] at q1;subst hs;dsimp only;generalize (ae T 1200 st).2=s1 at *;by_cases h0:st.aa=[];by_cases h1:s1.aa=[];rw[aU h0,h0,cI h1] at q1;refine cp (n:=8) hE aN aP h0 h1 ?_ (aO _ _) rfl
 rotate_left
 rw[aU h0,h0,ch h1] at q1;refine dh (n:=8) hE aN aP 2 (by decide) h0 h1 ?_ (aO _ _) rfl
 rotate_left
 have h1:s1.aa≠[]:=dF h0;rw[aS h0,dv h0 h1] at q1;refine cd (n:=8) hE aN aP 3 (by decide) h0 h1 ?_ (aO _ _) rfl
 rotate_left
 all_goals
  rw[dJ];simp[q1,-af,-aj,-ah,-az,-ck,aN,aP]
theorem R3(hs:s=[123])(bV:(ae T 1200 st).1.2.2=true)(hb:(ax [125] (ae T 1200 st).2).1=false):
 fW x y T st s:=by
 unfold fW
 have e:fj T s st=((bM [123,125] [(ae T 1200 st).1.1],0,false),(ax [125] (ae T 1200 st).2).2):=by unfold fj;rw[if_neg (by rw[hs];decide),if_pos hs,Cl bV,hb]
 rw[e,yI];have aN:=aR hx;have aP:=aI hy;have q1:=cE N hx hy hc 1200 (by decide) hN;have dF:st.aa≠[]->(ae T 1200 st).2.aa≠[]:=((a6 T).lv 1200 st).aa;have et:(cP (ae T 1200 st).1).1=(ae T 1200 st).1.1:=by unfold cP;rw[bV];rfl
 have c2:=hc.ok ((a6 T).ok 1200 st bV);have q2:=ef hx hy c2 [125];have hn:=b8 [125] (ae T 1200 st).2;rw[bV,et,an] at q1;rw[hb] at q2;subst hs;have ur:=ay (ae T 1200 st).1.1;have uc:=br (ae T 1200 st).1.1;have qc:=Aw [123,125] (ae T 1200 st).1.1;dsimp only;generalize (cP (ae T 1200 st).1).2=tl at *;generalize (ae T 1200 st).1.1=u at *;rw[fF hb] at q2 hn|-;generalize (ae T 1200 st).2=s1 at *;by_cases h0:st.aa=[];by_cases h1:s1.aa=[];rw[aU h0,h0,cI h1] at q1;rw[aU h1] at q2;refine cp (n:=8) hE aN aP h0 h1 ?_ (aO _ _) rfl
 rotate_left
 rw[aU h0,h0,ch h1] at q1;rw[aS h1] at q2;refine dh (n:=8) hE aN aP 2 (by decide) h0 h1 ?_ (aO _ _) rfl
 rotate_left
 have h1:s1.aa≠[]:=dF h0;rw[aS h0,dv h0 h1] at q1;rw[aS h1] at q2;refine cd (n:=8) hE aN aP 3 (by decide) h0 h1 ?_ (aO _ _) rfl
 rotate_left
 all_goals
  rw[dJ];simp[q1,q2,qc,ur,uc,-af,-aj,-ah,-az,-ck,aN,aP]
theorem QL(hs:s=[123])(bV:(ae T 1200 st).1.2.2=true)(hb:(ax [125] (ae T 1200 st).2).1=true):
 fW x y T st s:=by
 unfold fW
 have e:fj T s st=((bM [123,125] [(ae T 1200 st).1.1],0,true),(ax [125] (ae T 1200 st).2).2):=by unfold fj;rw[if_neg (by rw[hs];decide),if_pos hs,Cl bV,hb]
 rw[e,OX];have aN:=aR hx;have aP:=aI hy;have q1:=cE N hx hy hc 1200 (by decide) hN;have dF:st.aa≠[]->(ae T 1200 st).2.aa≠[]:=((a6 T).lv 1200 st).aa;have et:(cP (ae T 1200 st).1).1=(ae T 1200 st).1.1:=by unfold cP;rw[bV];rfl
 have c2:=hc.ok ((a6 T).ok 1200 st bV);have q2:=ef hx hy c2 [125];have hn:=b8 [125] (ae T 1200 st).2;rw[bV,et,an] at q1;rw[hb] at q2;subst hs;have ur:=ay (ae T 1200 st).1.1;have uc:=br (ae T 1200 st).1.1;have qc:=Aw [123,125] (ae T 1200 st).1.1;dsimp only;generalize (cP (ae T 1200 st).1).2=tl at *;generalize (ae T 1200 st).1.1=u at *;generalize (ae T 1200 st).2=s1 at *;generalize (ax [125] s1).2=s2 at *;by_cases h0:st.aa=[];by_cases h1:s1.aa=[];rw[aU h0,h0,cI h1] at q1;rw[aU h1,aU (by rw[hn.1];exact h1),hn.2] at q2;refine cp (n:=8) hE aN aP h0 (by rw[hn.1];exact h1) ?_ (aO _ _) rfl;rw[pT];simp only[hn.2]
 rotate_left
 rw[aU h0,h0,ch h1] at q1;rw[aS h1,aS (by rw[hn.1];exact h1),hn.1,hn.2] at q2;refine dh (n:=8) hE aN aP 2 (by decide) h0 (by rw[hn.1];exact h1) ?_ (aO _ _) rfl;rw[pT];simp only[hn.1,hn.2]
 rotate_left
 have h1:s1.aa≠[]:=dF h0;rw[aS h0,dv h0 h1] at q1;rw[aS h1,aS (by rw[hn.1];exact h1),hn.1,hn.2] at q2;refine cd (n:=8) hE aN aP 3 (by decide) h0 (by rw[hn.1];exact h1) ?_ (aO _ _) rfl;rw[pT];simp only[hn.1,hn.2]
 rotate_left
 all_goals simp[q1,q2,qc,ur,uc,-af,-aj,-ah,-az,-ck,aN,aP]
theorem VP(hs:s=[91])(bV:(ar T st).1.2=false):
 fW x y T st s:=by
 unfold fW
 have e:fj T s st=((gk [91,93],0,false),(ar T st).2):=by unfold fj;rw[if_neg (by rw[hs];decide),if_neg (by rw[hs];decide),if_pos hs,FL bV]
 rw[e,yI];have aN:=aR hx;have aP:=aI hy;have qd:=gN T st;have q1:=jx N hx hy hc hN;have qa:=iv [91,93];have dF:st.aa≠[]->(ar T st).2.aa≠[]:=(cU T st).1.aa;have dr:=bF (cS T st).1.1;rw[qd.1,qd.2.1,bV] at q1;subst hs;dsimp only;clear qd;generalize (cS T st).1.1.map Tm.aV=U at *;generalize (ar T st).2=s1 at *;by_cases h0:st.aa=[];by_cases h1:s1.aa=[];rw[aU h0,h0,cI h1] at q1;refine cp (n:=8) hE aN aP h0 h1 ?_ (aO _ _) rfl
 rotate_left
 rw[aU h0,h0,ch h1] at q1;refine dh (n:=8) hE aN aP 2 (by decide) h0 h1 ?_ (aO _ _) rfl
 rotate_left
 have h1:s1.aa≠[]:=dF h0;rw[aS h0,dv h0 h1] at q1;refine cd (n:=8) hE aN aP 3 (by decide) h0 h1 ?_ (aO _ _) rfl
 rotate_left
 all_goals
  rw[dJ];simp[q1,qa,dr,-af,-aj,-ah,-az,-ck,aN,aP]
theorem Sn(hs:s=[91])(bV:(ar T st).1.2=true)(hb:(ax [124] (ar T st).2).1=false)(A3:(ax [93] (ar T st).2).1=false):
 fW x y T st s:=by
 unfold fW
 have e:fj T s st=((dm (ar T st).1.1 (gk [91,93]),0,false),(ax [93] (ar T st).2).2):=by unfold fj;rw[if_neg (by rw[hs];decide),if_neg (by rw[hs];decide),if_pos hs,p7 bV,Hy hb,A3]
 rw[e,yI];have aN:=aR hx;have aP:=aI hy;have qd:=gN T st;have q1:=jx N hx hy hc hN;have qa:=iv [91,93];have dF:st.aa≠[]->(ar T st).2.aa≠[]:=(cU T st).1.aa;have dr:=bF (cS T st).1.1;have ho:=(cU T st).2 bV;have c1:=hc.ok ho;have Ot:=ho.pos;have hl:=lD (rec:=ae T) (st.aC.length+1) [] st bV;change (ar T st).1.1≠[]/\(ar T st).1.1.length<=_ at hl;have qm:st.aC.length<=100000:=by rw[hc.rc.aC,List.length_drop,eZ];have:=hc.rc.lb;omega
 rw[qd.1,qd.2.1,qd.2.2 bV,bV] at q1;rw[qd.2.2 bV] at dr;clear qd;have q2:=ef hx hy c1 [124];rw[hb,fF hb] at q2;have q3:=ef hx hy c1 [93];have hn:=b8 [93] (ar T st).2;rw[A3] at q3;have ql:=vF (ar T st).1.1 (gk [91,93]) (by simp at hl;omega);rw[show (gk [91,93]).aV=.agg [.int .i64 2,.int .i64 0,.str [91,93],.aJ] from rfl,an] at ql;subst hs;dsimp only;rw[fF A3] at q3 hn|-;generalize (ar T st).2=s1 at *;generalize (ar T st).1.1=l at *;have rr:=ay (dm l (gk [91,93]));have rc:=br (dm l (gk [91,93]));clear hl;generalize l.map Tm.aV=U at *;by_cases h0:st.aa=[];by_cases h1:s1.aa=[];rw[aU h0,h0,cI h1] at q1;rw[aU h1] at q2;rw[aU h1] at q3;refine cp (n:=8) hE aN aP h0 h1 ?_ (aO _ _) rfl
 rotate_left
 rw[aU h0,h0,ch h1] at q1;rw[aS h1] at q2;rw[aS h1] at q3;refine dh (n:=8) hE aN aP 2 (by decide) h0 h1 ?_ (aO _ _) rfl
 rotate_left
 have h1:s1.aa≠[]:=dF h0;rw[aS h0,dv h0 h1] at q1;rw[aS h1] at q2;rw[aS h1] at q3;refine cd (n:=8) hE aN aP 3 (by decide) h0 h1 ?_ (aO _ _) rfl
 rotate_left
 all_goals
  rw[dJ];generalize dm l (gk [91,93])=r at *;simp[q1,q2,q3,qa,ql,dr,rr,rc,-af,-aj,-ah,-az,-ck,aN,aP]
theorem Qv(hs:s=[91])(bV:(ar T st).1.2=true)(hb:(ax [124] (ar T st).2).1=false)(A3:(ax [93] (ar T st).2).1=true):
 fW x y T st s:=by
 unfold fW
 have e:fj T s st=((dm (ar T st).1.1 (gk [91,93]),0,true),(ax [93] (ar T st).2).2):=by unfold fj;rw[if_neg (by rw[hs];decide),if_neg (by rw[hs];decide),if_pos hs,p7 bV,Hy hb,A3]
 rw[e,OX];have aN:=aR hx;have aP:=aI hy;have qd:=gN T st;have q1:=jx N hx hy hc hN;have qa:=iv [91,93];have dF:st.aa≠[]->(ar T st).2.aa≠[]:=(cU T st).1.aa;have dr:=bF (cS T st).1.1;have ho:=(cU T st).2 bV;have c1:=hc.ok ho;have Ot:=ho.pos;have hl:=lD (rec:=ae T) (st.aC.length+1) [] st bV;change (ar T st).1.1≠[]/\(ar T st).1.1.length<=_ at hl;have qm:st.aC.length<=100000:=by rw[hc.rc.aC,List.length_drop,eZ];have:=hc.rc.lb;omega
 rw[qd.1,qd.2.1,qd.2.2 bV,bV] at q1;rw[qd.2.2 bV] at dr;clear qd;have q2:=ef hx hy c1 [124];rw[hb,fF hb] at q2;have q3:=ef hx hy c1 [93];have hn:=b8 [93] (ar T st).2;rw[A3] at q3;have ql:=vF (ar T st).1.1 (gk [91,93]) (by simp at hl;omega);rw[show (gk [91,93]).aV=.agg [.int .i64 2,.int .i64 0,.str [91,93],.aJ] from rfl,an] at ql;subst hs;dsimp only;generalize (ar T st).2=s1 at *;generalize (ax [93] s1).2=s2 at *;generalize (ar T st).1.1=l at *;have rr:=ay (dm l (gk [91,93]));have rc:=br (dm l (gk [91,93]));clear hl;generalize l.map Tm.aV=U at *;by_cases h0:st.aa=[];by_cases h1:s1.aa=[];rw[aU h0,h0,cI h1] at q1;rw[aU h1] at q2;rw[aU h1,aU (by rw[hn.1];exact h1),hn.2] at q3;refine cp (n:=8) hE aN aP h0 (by rw[hn.1];exact h1) ?_ (aO _ _) rfl;rw[an];simp only[hn.2]
 rotate_left
 rw[aU h0,h0,ch h1] at q1;rw[aS h1] at q2;rw[aS h1,aS (by rw[hn.1];exact h1),hn.1,hn.2] at q3;refine dh (n:=8) hE aN aP 2 (by decide) h0 (by rw[hn.1];exact h1) ?_ (aO _ _) rfl;rw[an];simp only[hn.1,hn.2]
 rotate_left
 have h1:s1.aa≠[]:=dF h0;rw[aS h0,dv h0 h1] at q1;rw[aS h1] at q2;rw[aS h1,aS (by rw[hn.1];exact h1),hn.1,hn.2] at q3;refine cd (n:=8) hE aN aP 3 (by decide) h0 (by rw[hn.1];exact h1) ?_ (aO _ _) rfl;rw[an];simp only[hn.1,hn.2]
 rotate_left
 all_goals
  generalize dm l (gk [91,93])=r at *;simp[q1,q2,q3,qa,ql,dr,rr,rc,-af,-aj,-ah,-az,-ck,aN,aP]
theorem VV(hs:s=[91])(bV:(ar T st).1.2=true)(hb:(ax [124] (ar T st).2).1=true)(hr:(ae T 999 (ax [124] (ar T st).2).2).1.2.2=false):
 fW x y T st s:=by
 unfold fW
 have e:fj T s st=((dm (ar T st).1.1 (ae T 999 (ax [124] (ar T st).2).2).1.1,0,false),(ae T 999 (ax [124] (ar T st).2).2).2):=by unfold fj;rw[if_neg (by rw[hs];decide),if_neg (by rw[hs];decide),if_pos hs,p7 bV,JN hb hr]
 rw[e,yI];have aN:=aR hx;have aP:=aI hy;have qd:=gN T st;have q1:=jx N hx hy hc hN;have qa:=iv [91,93];have dF:st.aa≠[]->(ar T st).2.aa≠[]:=(cU T st).1.aa;have dr:=bF (cS T st).1.1;have ho:=(cU T st).2 bV;have c1:=hc.ok ho;have Ot:=ho.pos;have hl:=lD (rec:=ae T) (st.aC.length+1) [] st bV;change (ar T st).1.1≠[]/\(ar T st).1.1.length<=_ at hl;have qm:st.aC.length<=100000:=by rw[hc.rc.aC,List.length_drop,eZ];have:=hc.rc.lb;omega
 rw[qd.1,qd.2.1,qd.2.2 bV,bV] at q1;rw[qd.2.2 bV] at dr;clear qd;have q2:=ef hx hy c1 [124];have nj:=dQ hb;have c2:=c1.ok nj;have ET:=nj.pos;have cO:=b8 [124] (ar T st).2;rw[hb] at q2;have q4:=cE N hx hy c2 999 (by decide) (by omega);rw[hr] at q4;have zk:=(a6 T).lv 999 (ax [124] (ar T st).2).2;have Ql:(ar T st).2.aa≠[]->(ae T 999 (ax [124] (ar T st).2).2).2.aa≠[]:=λh=>zk.aa (by rw[cO.1];exact h)
 have et:cP (ae T 999 (ax [124] (ar T st).2).2).1=(lh,0):=by unfold cP;rw[hr];rfl
 rw[et,dJ] at q4;subst hs;dsimp only;clear zk;generalize (ae T 999 (ax [124] (ar T st).2).2).2=s3 at *;generalize (ax [124] (ar T st).2).2=s2 at *;generalize (ar T st).2=s1 at *;generalize (ar T st).1.1=l at *;clear hl;generalize l.map Tm.aV=U at *;by_cases h0:st.aa=[];by_cases h1:s1.aa=[];by_cases h2:s3.aa=[];rw[aU h0,h0,cI h1] at q1;rw[aU h1,aU (by rw[cO.1];exact h1),cO.2] at q2;rw[aU (by rw[cO.1];exact h1),cO.1,h1,cI h2,cO.2] at q4;refine cp (n:=8) hE aN aP h0 h2 ?_ (aO _ _) rfl
 rotate_left
 rw[aU h0,h0,cI h1] at q1;rw[aU h1,aU (by rw[cO.1];exact h1),cO.2] at q2;rw[aU (by rw[cO.1];exact h1),cO.1,h1,ch h2,cO.2] at q4;refine dh (n:=8) hE aN aP 3 (by decide) h0 h2 ?_ (aO _ _) rfl
 rotate_left
 have h2:s3.aa≠[]:=Ql h1;rw[aU h0,h0,ch h1] at q1;rw[aS h1,aS (by rw[cO.1];exact h1),cO.1,cO.2] at q2;rw[aS (by rw[cO.1];exact h1),cO.1,dv h1 h2,cO.2] at q4;refine dh (n:=8) hE aN aP 4 (by decide) h0 h2 ?_ (aO _ _) rfl
 rotate_left
 have h1:s1.aa≠[]:=dF h0;have h2:s3.aa≠[]:=Ql h1;rw[aS h0,dv h0 h1] at q1;rw[aS h1,aS (by rw[cO.1];exact h1),cO.1,cO.2] at q2;rw[aS (by rw[cO.1];exact h1),cO.1,dv h1 h2,cO.2] at q4;refine cd (n:=8) hE aN aP 5 (by decide) h0 h2 ?_ (aO _ _) rfl
 rotate_left
 all_goals
  rw[dJ];simp[q1,q2,q4,qa,dr,-af,-aj,-ah,-az,-ck,aN,aP]
theorem RA(hs:s=[91])(bV:(ar T st).1.2=true)(hb:(ax [124] (ar T st).2).1=true)(hr:(ae T 999 (ax [124] (ar T st).2).2).1.2.2=true)(A3:(ax [93] (ae T 999 (ax [124] (ar T st).2).2).2).1=false):
 fW x y T st s:=by
 unfold fW
 have e:fj T s st=((dm (ar T st).1.1 (ae T 999 (ax [124] (ar T st).2).2).1.1,0,false),(ax [93] (ae T 999 (ax [124] (ar T st).2).2).2).2):=by unfold fj;rw[if_neg (by rw[hs];decide),if_neg (by rw[hs];decide),if_pos hs,p7 bV,AY hb hr,A3]
 rw[e,yI];have aN:=aR hx;have aP:=aI hy;have qd:=gN T st;have q1:=jx N hx hy hc hN;have qa:=iv [91,93];have dF:st.aa≠[]->(ar T st).2.aa≠[]:=(cU T st).1.aa;have dr:=bF (cS T st).1.1;have ho:=(cU T st).2 bV;have c1:=hc.ok ho;have Ot:=ho.pos;have hl:=lD (rec:=ae T) (st.aC.length+1) [] st bV;change (ar T st).1.1≠[]/\(ar T st).1.1.length<=_ at hl;have qm:st.aC.length<=100000:=by rw[hc.rc.aC,List.length_drop,eZ];have:=hc.rc.lb;omega
 rw[qd.1,qd.2.1,qd.2.2 bV,bV] at q1;rw[qd.2.2 bV] at dr;clear qd;have q2:=ef hx hy c1 [124];have nj:=dQ hb;have c2:=c1.ok nj;have ET:=nj.pos;have cO:=b8 [124] (ar T st).2;rw[hb] at q2;have q4:=cE N hx hy c2 999 (by decide) (by omega);rw[hr] at q4;have zk:=(a6 T).lv 999 (ax [124] (ar T st).2).2;have Ql:(ar T st).2.aa≠[]->(ae T 999 (ax [124] (ar T st).2).2).2.aa≠[]:=λh=>zk.aa (by rw[cO.1];exact h)
 have et:(cP (ae T 999 (ax [124] (ar T st).2).2).1).1=(ae T 999 (ax [124] (ar T st).2).2).1.1:=by unfold cP;rw[hr];rfl
 rw[et,an] at q4;have c3:=c2.ok ((a6 T).ok 999 _ hr);have q5:=ef hx hy c3 [93];have ff:=b8 [93] (ae T 999 (ax [124] (ar T st).2).2).2;rw[A3] at q5;have ql:=vF (ar T st).1.1 (ae T 999 (ax [124] (ar T st).2).2).1.1 (by simp at hl;omega);rw[an,an (dm _ _)] at ql;subst hs;dsimp only;rw[fF A3] at q5 ff|-;clear zk;generalize (cP (ae T 999 (ax [124] (ar T st).2).2).1).2=tl at *;generalize (ae T 999 (ax [124] (ar T st).2).2).1.1=t2 at *;generalize (ae T 999 (ax [124] (ar T st).2).2).2=s3 at *;generalize (ax [124] (ar T st).2).2=s2 at *;generalize (ar T st).2=s1 at *;generalize (ar T st).1.1=l at *;have tr:=ay t2;have tc:=br t2;have rr:=ay (dm l t2);have rc:=br (dm l t2);clear hl;generalize l.map Tm.aV=U at *;by_cases h0:st.aa=[];by_cases h1:s1.aa=[];by_cases h2:s3.aa=[];rw[aU h0,h0,cI h1] at q1;rw[aU h1,aU (by rw[cO.1];exact h1),cO.2] at q2;rw[aU (by rw[cO.1];exact h1),cO.1,h1,cI h2,cO.2] at q4;rw[aU h2] at q5;refine cp (n:=8) hE aN aP h0 h2 ?_ (aO _ _) rfl
 rotate_left
 rw[aU h0,h0,cI h1] at q1;rw[aU h1,aU (by rw[cO.1];exact h1),cO.2] at q2;rw[aU (by rw[cO.1];exact h1),cO.1,h1,ch h2,cO.2] at q4;rw[aS h2] at q5;refine dh (n:=8) hE aN aP 3 (by decide) h0 h2 ?_ (aO _ _) rfl
 rotate_left
 have h2:s3.aa≠[]:=Ql h1;rw[aU h0,h0,ch h1] at q1;rw[aS h1,aS (by rw[cO.1];exact h1),cO.1,cO.2] at q2;rw[aS (by rw[cO.1];exact h1),cO.1,dv h1 h2,cO.2] at q4;rw[aS h2] at q5;refine dh (n:=8) hE aN aP 4 (by decide) h0 h2 ?_ (aO _ _) rfl
 rotate_left
 have h1:s1.aa≠[]:=dF h0;have h2:s3.aa≠[]:=Ql h1;rw[aS h0,dv h0 h1] at q1;rw[aS h1,aS (by rw[cO.1];exact h1),cO.1,cO.2] at q2;rw[aS (by rw[cO.1];exact h1),cO.1,dv h1 h2,cO.2] at q4;rw[aS h2] at q5;refine cd (n:=8) hE aN aP 5 (by decide) h0 h2 ?_ (aO _ _) rfl
 rotate_left
 all_goals
  rw[dJ];generalize dm l t2=r at *;simp[q1,q2,q4,q5,qa,ql,dr,tr,tc,rr,rc,-af,-aj,-ah,-az,-ck,aN,aP]
theorem Si(hs:s=[91])(bV:(ar T st).1.2=true)(hb:(ax [124] (ar T st).2).1=true)(hr:(ae T 999 (ax [124] (ar T st).2).2).1.2.2=true)(A3:(ax [93] (ae T 999 (ax [124] (ar T st).2).2).2).1=true):
 fW x y T st s:=by
 unfold fW
 have e:fj T s st=((dm (ar T st).1.1 (ae T 999 (ax [124] (ar T st).2).2).1.1,0,true),(ax [93] (ae T 999 (ax [124] (ar T st).2).2).2).2):=by unfold fj;rw[if_neg (by rw[hs];decide),if_neg (by rw[hs];decide),if_pos hs,p7 bV,AY hb hr,A3]
 rw[e,OX];have aN:=aR hx;have aP:=aI hy;have qd:=gN T st;have q1:=jx N hx hy hc hN;have qa:=iv [91,93];have dF:st.aa≠[]->(ar T st).2.aa≠[]:=(cU T st).1.aa;have dr:=bF (cS T st).1.1;have ho:=(cU T st).2 bV;have c1:=hc.ok ho;have Ot:=ho.pos;have hl:=lD (rec:=ae T) (st.aC.length+1) [] st bV;change (ar T st).1.1≠[]/\(ar T st).1.1.length<=_ at hl;have qm:st.aC.length<=100000:=by rw[hc.rc.aC,List.length_drop,eZ];have:=hc.rc.lb;omega
 rw[qd.1,qd.2.1,qd.2.2 bV,bV] at q1;rw[qd.2.2 bV] at dr;clear qd;have q2:=ef hx hy c1 [124];have nj:=dQ hb;have c2:=c1.ok nj;have ET:=nj.pos;have cO:=b8 [124] (ar T st).2;rw[hb] at q2;have q4:=cE N hx hy c2 999 (by decide) (by omega);rw[hr] at q4;have zk:=(a6 T).lv 999 (ax [124] (ar T st).2).2;have Ql:(ar T st).2.aa≠[]->(ae T 999 (ax [124] (ar T st).2).2).2.aa≠[]:=λh=>zk.aa (by rw[cO.1];exact h)
 have et:(cP (ae T 999 (ax [124] (ar T st).2).2).1).1=(ae T 999 (ax [124] (ar T st).2).2).1.1:=by unfold cP;rw[hr];rfl
 rw[et,an] at q4;have c3:=c2.ok ((a6 T).ok 999 _ hr);have q5:=ef hx hy c3 [93];have ff:=b8 [93] (ae T 999 (ax [124] (ar T st).2).2).2;rw[A3] at q5;have ql:=vF (ar T st).1.1 (ae T 999 (ax [124] (ar T st).2).2).1.1 (by simp at hl;omega);rw[an,an (dm _ _)] at ql;subst hs;dsimp only;clear zk;generalize (cP (ae T 999 (ax [124] (ar T st).2).2).1).2=tl at *;generalize (ae T 999 (ax [124] (ar T st).2).2).1.1=t2 at *;generalize (ae T 999 (ax [124] (ar T st).2).2).2=s3 at *;generalize (ax [93] s3).2=s4 at *;generalize (ax [124] (ar T st).2).2=s2 at *;generalize (ar T st).2=s1 at *;generalize (ar T st).1.1=l at *;have tr:=ay t2;have tc:=br t2;have rr:=ay (dm l t2);have rc:=br (dm l t2);clear hl;generalize l.map Tm.aV=U at *;by_cases h0:st.aa=[];by_cases h1:s1.aa=[];by_cases h2:s3.aa=[];rw[aU h0,h0,cI h1] at q1;rw[aU h1,aU (by rw[cO.1];exact h1),cO.2] at q2;rw[aU (by rw[cO.1];exact h1),cO.1,h1,cI h2,cO.2] at q4;rw[aU h2,aU (by rw[ff.1];exact h2),ff.2] at q5;refine cp (n:=8) hE aN aP h0 (by rw[ff.1];exact h2) ?_ (aO _ _) rfl;rw[an];simp only[ff.2]
 rotate_left
 rw[aU h0,h0,cI h1] at q1;rw[aU h1,aU (by rw[cO.1];exact h1),cO.2] at q2;rw[aU (by rw[cO.1];exact h1),cO.1,h1,ch h2,cO.2] at q4;rw[aS h2,aS (by rw[ff.1];exact h2),ff.1,ff.2] at q5;refine dh (n:=8) hE aN aP 3 (by decide) h0 (by rw[ff.1];exact h2) ?_ (aO _ _) rfl;rw[an];simp only[ff.1,ff.2]
 rotate_left
 have h2:s3.aa≠[]:=Ql h1;rw[aU h0,h0,ch h1] at q1;rw[aS h1,aS (by rw[cO.1];exact h1),cO.1,cO.2] at q2;rw[aS (by rw[cO.1];exact h1),cO.1,dv h1 h2,cO.2] at q4;rw[aS h2,aS (by rw[ff.1];exact h2),ff.1,ff.2] at q5;refine dh (n:=8) hE aN aP 4 (by decide) h0 (by rw[ff.1];exact h2) ?_ (aO _ _) rfl;rw[an];simp only[ff.1,ff.2]
 rotate_left
 have h1:s1.aa≠[]:=dF h0;have h2:s3.aa≠[]:=Ql h1;rw[aS h0,dv h0 h1] at q1;rw[aS h1,aS (by rw[cO.1];exact h1),cO.1,cO.2] at q2;rw[aS (by rw[cO.1];exact h1),cO.1,dv h1 h2,cO.2] at q4;rw[aS h2,aS (by rw[ff.1];exact h2),ff.1,ff.2] at q5;refine cd (n:=8) hE aN aP 5 (by decide) h0 (by rw[ff.1];exact h2) ?_ (aO _ _) rfl;rw[an];simp only[ff.1,ff.2]
 rotate_left
 all_goals
  generalize dm l t2=r at *;simp[q1,q2,q4,q5,qa,ql,dr,tr,tc,rr,rc,-af,-aj,-ah,-az,-ck,aN,aP]
theorem abQ(t1:¬s=[40])(t2:¬s=[91])(t3:¬s=[123]):
 fW x y T st s:=by
 unfold fW
 have e:fj T s st=((lh,0,false),st):=by unfold fj;rw[if_neg t1,if_neg t3,if_neg t2]
 rw[e,yI];have aN:=aR hx;have aP:=aI hy;have b1:(s==[40])=false:=by simpa using t1
 have b2:(s==[91])=false:=by simpa using t2
 have b3:(s==[123])=false:=by simpa using t3
 dsimp only;by_cases h0:st.aa=[];refine cp (n:=8) hE aN aP h0 h0 ?_ (aO _ _) rfl
 rotate_left
 refine cd (n:=8) hE aN aP 1 (by decide) h0 h0 ?_ (aO _ _) rfl
 rotate_left
 all_goals
  rw[dJ];simp[b1,b2,b3,t1,t2,t3,-af,-aj,-ah,-az,-ck,aN,aP]
end
noncomputable def GM(N:Nat):cr:=⟨153,λ
 |[.ptr 0 0,.str s],os=>(match pY os with
   |some R=>if R.st.aC.length<N then some (.tuple [(cP (fj R.T s R.st).1).1.aV,.int .i64 (cP (fj R.T s R.st).1).2],some (gj R.x R.y R.st.aa (fj R.T s R.st).2 (!(fj R.T s R.st).1.2.2))) else none
   |none=>none)
 |_,_=>none⟩
theorem OW(N:Nat):(GM N).f=153:=(rfl)
section
variable (N:Nat){x y:AV}{T:List bj}{L:List Tok}{st:St}(hx:ba x=some T)(hy:bx y=some L)
include N hx hy
theorem Tq(h:DC T L st)(hn:st.aC.length<N)(s:List UInt8):
 (GM N).S [.ptr 0 0,.str s] (gg x y st false)=some (.tuple [(cP (fj T s st).1).1.aV,.int .i64 (cP (fj T s st).1).2],some (gj x y st.aa (fj T s st).2 (!(fj T s st).1.2.2))):=by
 simp only[GM,kE hx hy h];rw[if_pos hn]
theorem Y8(hc:DC T L st)(hN:st.aC.length<N)(hE:cT Tryz.prog cX (b9 ZH (Yf N)))(s:List UInt8):
 fW x y T st s:=by
 unfold fW;by_cases t1:s=[40]
 .cases bV:(ae T 1200 st).1.2.2 with
  |false=>exact TA N hx hy hc hN hE t1 bV
  |true=>
    cases hb:(ax [41] (ae T 1200 st).2).1 with
    |false=>exact Wt N hx hy hc hN hE t1 bV hb
    |true=>exact UN N hx hy hc hN hE t1 bV hb
 by_cases t3:s=[123]
 .cases bV:(ae T 1200 st).1.2.2 with
  |false=>exact R2 N hx hy hc hN hE t3 bV
  |true=>
    cases hb:(ax [125] (ae T 1200 st).2).1 with
    |false=>exact R3 N hx hy hc hN hE t3 bV hb
    |true=>exact QL N hx hy hc hN hE t3 bV hb
 by_cases t2:s=[91]
 .cases bV:(ar T st).1.2 with
  |false=>exact VP N hx hy hc hN hE t2 bV
  |true=>
    cases hb:(ax [124] (ar T st).2).1 with
    |false=>
      cases A3:(ax [93] (ar T st).2).1 with
      |false=>exact Sn N hx hy hc hN hE t2 bV hb A3
      |true=>exact Qv N hx hy hc hN hE t2 bV hb A3
    |true=>
      cases hr:(ae T 999 (ax [124] (ar T st).2).2).1.2.2 with
      |false=>exact VV N hx hy hc hN hE t2 bV hb hr
      |true=>
        cases A3:(ax [93] (ae T 999 (ax [124] (ar T st).2).2).2).1 with
        |false=>exact RA N hx hy hc hN hE t2 bV hb hr A3
        |true=>exact Si N hx hy hc hN hE t2 bV hb hr A3
 exact abQ N hx hy hc hN hE t1 t2 t3
end
theorem Wa(N:Nat)(hN:cC Tryz.prog cX (fb N)):cC Tryz.prog cX (GM N):=λag os v r hv=>by
 unfold GM at hv;dsimp only at hv;split at hv
 .rename_i os s;split at hv
  .rename_i R hR;split at hv
   .rename_i hn;cases hv;obtain⟨hx,hy,rfl,h⟩:=jP hR;rw[OW];exact Y8 N hx hy h hn (dK (by simp[ZH,o3.lift,vV.lift,Q7.lift]) (by simp[Yf,hN,zI,C8 N hN])) s
   .cases hv
  .cases hv
 .cases hv
end
section
def Cp(L:List Tok)(t:Tok)(st:St):Prop:=t.au=1/\t.aD=[45]/\(aM L st).au=4/\(aM L st).aZ=t.aZ+1
instance (L:List Tok) (t:Tok) (st:St):Decidable (Cp L t st):=by unfold Cp;exact inferInstance
def zJ(T:List bj)(t:Tok)(n:Int)(st:St):Bool:=decide (t.au=1)&&((bd T t.aD true).2&&decide ((bd T t.aD true).1.l<=n)&&iB T st)
def gd(T:List bj)(L:List Tok)(t:Tok)(n:Int)(st:St):(Tm×Int×Bool)×St:=
 if Cp L t st then ((.nl 1 (-(aM L st).cF) [],0,true),aq st)
 else if zJ T t n st then ((bM t.aD [(cP (ae T (aA (bd T t.aD true).1).2 st).1).1],(bd T t.aD true).1.l,(ae T (aA (bd T t.aD true).1).2 st).1.2.2),(ae T (aA (bd T t.aD true).1).2 st).2)
 else if t.au=1 then (if ir T t.aD<=n then ((gk t.aD,ir T t.aD,true),st) else ((lh,0,false),st))
 else ((gk t.aD,0,true),st)
theorem qR{T:List bj}(hg:ew T=true){x:AV}(hx:ba x=some T)(hT:T.length<1000000)(s:List UInt8):
 ((bd T s true).2=false/\iK.S [x,.str s,.bool false]=some (.int .i64 (-1)))\/
 ((bd T s true).2=true/\∃(i:Nat) (U:List AV),iK.S [x,.str s,.bool false]=some (.int .i64 i)/\x=.sl U/\U[i]? =some (.agg [.str (bd T s true).1.n,.str (bd T s true).1.k,.int .i64 (bd T s true).1.l])):=by
 rcases uw hg hx hT s false with⟨f1,f2⟩|⟨f1,i,f2,f3,f4,_⟩
 .exact .inl ⟨f1,f2⟩
 .exact .inr ⟨f1,i,_,f2,f3,f4⟩
theorem SC{T:List bj}{L:List Tok}{st:St}(h:RC T L st)(h1:st.aZ<L.length):0<st.aC.length:=by rw[h.aC,List.length_drop,eZ];omega
theorem AJ{T:List bj}{L:List Tok}{st:St}(h:RC T L st):0<=(aM L st).cF/\(aM L st).cF<9223372036854775808:=by
 by_cases hk:(aL st).au=0
 .rw[bm h] at hk;rcases Ks h with⟨h1,h2⟩|⟨_,h2⟩
  .have hm:=List.mem_of_getElem? h2;have hg:(mT L).all wg=true:=h.tk;have hp:=SC h h1
   have h3:st.aC.all wg=true:=by rw[h.aC];exact List.all_eq_true.mpr λx hx=>List.all_eq_true.mp hg x (List.mem_of_mem_drop hx)
   have:=Cd h3 hp;rw[bm h] at this;exact this
  .rw[h2];exact⟨by decide,by decide⟩
 .exact Ug h hk
theorem Ah{T:List bj}(hg:ew T=true){s:List UInt8}{b:Bool}(h:(bd T s b).2=true):0<=(aA (bd T s b).1).2:=by
 have:=acP hg h;unfold aA;split
 .show 0<=_-1;omega
 .split
  .show 0<=_;omega
  .split
   .show 0<=_-1;omega
   .split
    .show 0<=_;omega
    .split
     .show 0<=_-1;omega
     .exact Int.le_refl 0
noncomputable def S4:List aX:=[iK,vA,Gb,rQ,l4]
noncomputable def SZ(N:Nat):List cr:=[mr,qO,fb N]
attribute [local simp] fX fU fY fR eO eN fP fS fT eQ eR fQ lK lQ lS lO lM lT fc fe Laid.aK db dc bf X2 c156 BT Nu bc S4 SZ bY z8 XY tY nS cM EI jQ aT
abbrev mP(x:AV)(y:AV)(T:List bj)(L:List Tok)(st:St)(n:Int)(t:Tok):Prop:=dA Tryz.prog cX 156 [.ptr 0 0,t.aV,.int .i64 n] (gg x y st false) (.tuple [(gd T L t n st).1.1.aV,.int .i64 (gd T L t n st).1.2.1]) (some (gj x y st.aa (gd T L t n st).2 (!(gd T L t n st).1.2.2)))
theorem TG(N:Nat){x y:AV}{T:List bj}{L:List Tok}{st:St}(hx:ba x=some T)(hy:bx y=some L)(hc:DC T L st)(hN:st.aC.length<N)(hE:cT Tryz.prog cX (b9 S4 (SZ N)))(t:Tok)(ht:0<=t.aZ/\t.aZ<1000000)(n:Int)(hn:0<=n)(hd:Cp L t st):
 mP x y T L st n t:=by
 unfold mP;have e:gd T L t n st=((.nl 1 (-(aM L st).cF) [],0,true),aq st):=by unfold gd;exact if_pos hd
 rw[e];have aN:=aR hx;have aP:=aI hy;have fx:=λh n0 d=>aN.fr h n0 d
 have q0:=ee hx hy hc;have ql:=rz hx t.aD (by have:=hc.rc.tb;omega);have qb:=mc hx hy hc;have qa:=iv t.aD;have w1:=wrap_i64 (n:=t.aZ+1) (by omega) (by omega);have lV:=AJ hc.rc;have w2:=wrap_i64 (n:=-(aM L st).cF) (by omega) (by omega);rw[bK] at q0|-;obtain⟨d1,d2,d3,d4⟩:=hd;have w3:=wrap_i64 (n:=(st.aZ:Int)+1) (by omega) (by have:=hc.rc.le;have:=hc.rc.lb;omega);dsimp only;generalize aM L st=u at *;by_cases h0:st.aa=[];rw[aU h0] at q0;refine cp (n:=8) hE aN aP h0 h0 ?_ (aO _ _) (cg t n)
 rotate_left
 rw[aS h0] at q0;refine cd (n:=8) hE aN aP 1 (by decide) h0 h0 ?_ (aO _ _) (cg t n)
 rotate_left
 all_goals
  rw[vk];simp only[r8,rL,sx];simp[fx,w1,w2,q0,w3,d1,d2,d3,d4,-af,-aj,-ah,-az,-ck,aN,aP]
def oA(L:List Tok)(t:Tok)(st:St):Nat->Prop
 |0=>¬t.au=1
 |1=>t.au=1/\¬t.aD=[45]
 |2=>t.au=1/\t.aD=[45]/\¬(aM L st).au=4
 |_=>t.au=1/\t.aD=[45]/\(aM L st).au=4/\¬(aM L st).aZ=t.aZ+1
theorem Tt{L:List Tok}{t:Tok}{st:St}(h:¬Cp L t st):oA L t st 0\/oA L t st 1\/oA L t st 2\/oA L t st 3:=by
 unfold Cp at h;unfold oA;by_cases a:t.au=1
 .by_cases b:t.aD=[45]
  .by_cases c:(aM L st).au=4
   .exact .inr (.inr (.inr ⟨a,b,c,λd=>h ⟨a,b,c,d⟩⟩))
   .exact .inr (.inr (.inl ⟨a,b,c⟩))
  .exact .inr (.inl ⟨a,b⟩)
 .exact .inl a
theorem oS{L:List Tok}{t:Tok}{st:St}{i:Nat}(h:oA L t st i):¬Cp L t st:=by
 rintro⟨a,b,c,d⟩
 match i,h with
 |0,h=>exact h a
 |1,h=>exact h.2 b
 |2,h=>exact h.2.2 c
 |i+3,h=>exact h.2.2.2 d
theorem Lg{L:List Tok}{t:Tok}{st:St}(h:oA L t st 2\/oA L t st 3):t.au=1/\t.aD=[45]/\((¬(aM L st).au=4/\True)\/((aM L st).au=4/\¬(aM L st).aZ=t.aZ+1)):=by
 rcases h with h|h
 .exact⟨h.1,h.2.1,.inl ⟨h.2.2,trivial⟩⟩
 .exact⟨h.1,h.2.1,.inr h.2.2⟩
section
variable (N:Nat){x y:AV}{T:List bj}{L:List Tok}{st:St}(hx:ba x=some T)(hy:bx y=some L)(hc:DC T L st)(hN:st.aC.length<N)(hE:cT Tryz.prog cX (b9 S4 (SZ N)))(t:Tok)(ht:0<=t.aZ/\t.aZ<1000000)(n:Int)(hn:0<=n)
include N hx hy hc hN hE t ht n hn
theorem ac9(hk:¬t.au=1):
 mP x y T L st n t:=by
 unfold mP
 have e:gd T L t n st=((gk t.aD,0,true),st):=by unfold gd zJ;rw[if_neg (λh=>hk h.1),decide_eq_false hk,Bool.false_and,if_neg (by simp),if_neg hk]
 rw[e];have aN:=aR hx;have aP:=aI hy;have fx:=λh n0 d=>aN.fr h n0 d
 have q0:=ee hx hy hc;have ql:=rz hx t.aD (by have:=hc.rc.tb;omega);have qb:=mc hx hy hc;have qa:=iv t.aD;have w1:=wrap_i64 (n:=t.aZ+1) (by omega) (by omega);have lV:=AJ hc.rc;have w2:=wrap_i64 (n:=-(aM L st).cF) (by omega) (by omega);rw[bK] at q0|-;have hn':¬n<0:=by omega
 have qd:True:=trivial
 obtain⟨v,qf⟩:∃v,iK.S [x,.str t.aD,.bool false]=some (.int .i64 v):=by
  rcases qR hc.tJ hx hc.rc.tb t.aD with⟨_,f2⟩|⟨_,i,U,f2,_⟩
  .exact⟨_,f2⟩
  .exact⟨_,f2⟩
 dsimp only;generalize aM L st=u at *;by_cases h0:st.aa=[];rw[aU h0] at q0;refine cp (n:=8) hE aN aP h0 h0 ?_ (aO _ _) (cg t n)
 rotate_left
 rw[aS h0] at q0;refine cd (n:=8) hE aN aP 1 (by decide) h0 h0 ?_ (aO _ _) (cg t n)
 rotate_left
 all_goals
  rw[gY];simp[fx,w1,w2,q0,qf,qd,qa,hk,hn',-af,-aj,-ah,-az,-ck,aN,aP]
theorem XB(hd:oA L t st 1)(hp:zJ T t n st=false):
 mP x y T L st n t:=by
 unfold mP;have Fq:=oS hd;obtain⟨a1,a2⟩:=hd;have a3:(t.aD==[45])=false:=by simpa using a2
 have e:gd T L t n st=if ir T t.aD<=n then ((gk t.aD,ir T t.aD,true),st) else ((lh,0,false),st):=by unfold gd;rw[if_neg Fq,hp,if_neg (by simp),if_pos a1]
 rw[e];have aN:=aR hx;have aP:=aI hy;have fx:=λh n0 d=>aN.fr h n0 d
 have q0:=ee hx hy hc;have ql:=rz hx t.aD (by have:=hc.rc.tb;omega);have qb:=mc hx hy hc;have qa:=iv t.aD;have w1:=wrap_i64 (n:=t.aZ+1) (by omega) (by omega);have lV:=AJ hc.rc;have w2:=wrap_i64 (n:=-(aM L st).cF) (by omega) (by omega);rw[bK] at q0|-;unfold zJ at hp;rw[decide_eq_true a1,Bool.true_and] at hp;have qd:True:=trivial;rcases qR hc.tJ hx hc.rc.tb t.aD with⟨f1,qf⟩|⟨f1,i,U,qf,f3,f4⟩
 .generalize aM L st=u at *;by_cases hl:ir T t.aD<=n
  .have n6:¬n<ir T t.aD:=by omega
   rw[if_pos hl];generalize ir T t.aD=lk at *;by_cases h0:st.aa=[];rw[aU h0] at q0;refine cp (n:=8) hE aN aP h0 h0 ?_ (aO _ _) (cg t n)
   rotate_left
   rw[aS h0] at q0;refine cd (n:=8) hE aN aP 1 (by decide) h0 h0 ?_ (aO _ _) (cg t n)
   rotate_left
   all_goals
    rw[gY];simp[fx,w1,w2,q0,qf,qd,qa,ql,n6,a1,a2,a3,-af,-aj,-ah,-az,-ck,aN,aP]
  .have n6:n<ir T t.aD:=by omega
   rw[if_neg hl];generalize ir T t.aD=lk at *;by_cases h0:st.aa=[];rw[aU h0] at q0;refine cp (n:=8) hE aN aP h0 h0 ?_ (aO _ _) (cg t n)
   rotate_left
   rw[aS h0] at q0;refine cd (n:=8) hE aN aP 1 (by decide) h0 h0 ?_ (aO _ _) (cg t n)
   rotate_left
   all_goals
    rw[dJ];simp[fx,w1,w2,q0,qf,qd,ql,n6,a1,a2,a3,-af,-aj,-ah,-az,-ck,aN,aP]
 .subst f3;have i0:(0:Int)<=(i:Int):=by omega
  have i1:¬(i:Int)<0:=by omega
  rw[f1,Bool.true_and] at hp;generalize aM L st=u at *;generalize (bd T t.aD true).1=P at *;obtain⟨p1,p2,p3⟩:=P;dsimp only at f4 hp;by_cases LQ:p3<=n
  .have hbg:iB T st=false:=by simpa[LQ] using hp
   rw[hbg] at qb;by_cases hl:ir T t.aD<=n
   .have n6:¬n<ir T t.aD:=by omega
    rw[if_pos hl];generalize ir T t.aD=lk at *;by_cases h0:st.aa=[];rw[aU h0] at q0 qb;refine cp (n:=8) hE aN aP h0 h0 ?_ (aO _ _) (cg t n)
    rotate_left
    rw[aS h0] at q0 qb;refine cd (n:=8) hE aN aP 1 (by decide) h0 h0 ?_ (aO _ _) (cg t n)
    rotate_left
    all_goals
     rw[gY];simp[fx,w1,w2,q0,qf,qd,qa,ql,n6,a1,a2,a3,f4,i0,i1,LQ,qb,-af,-aj,-ah,-az,-ck,aN,aP]
   .have n6:n<ir T t.aD:=by omega
    rw[if_neg hl];generalize ir T t.aD=lk at *;by_cases h0:st.aa=[];rw[aU h0] at q0 qb;refine cp (n:=8) hE aN aP h0 h0 ?_ (aO _ _) (cg t n)
    rotate_left
    rw[aS h0] at q0 qb;refine cd (n:=8) hE aN aP 1 (by decide) h0 h0 ?_ (aO _ _) (cg t n)
    rotate_left
    all_goals
     rw[dJ];simp[fx,w1,w2,q0,qf,qd,ql,n6,a1,a2,a3,f4,i0,i1,LQ,qb,-af,-aj,-ah,-az,-ck,aN,aP]
  .have alu:¬p3<=n:=LQ;by_cases hl:ir T t.aD<=n
   .have n6:¬n<ir T t.aD:=by omega
    rw[if_pos hl];generalize ir T t.aD=lk at *;by_cases h0:st.aa=[];rw[aU h0] at q0;refine cp (n:=8) hE aN aP h0 h0 ?_ (aO _ _) (cg t n)
    rotate_left
    rw[aS h0] at q0;refine cd (n:=8) hE aN aP 1 (by decide) h0 h0 ?_ (aO _ _) (cg t n)
    rotate_left
    all_goals
     rw[gY];simp[fx,w1,w2,q0,qf,qd,qa,ql,n6,a1,a2,a3,f4,i0,i1,LQ,-af,-aj,-ah,-az,-ck,aN,aP]
   .have n6:n<ir T t.aD:=by omega
    rw[if_neg hl];generalize ir T t.aD=lk at *;by_cases h0:st.aa=[];rw[aU h0] at q0;refine cp (n:=8) hE aN aP h0 h0 ?_ (aO _ _) (cg t n)
    rotate_left
    rw[aS h0] at q0;refine cd (n:=8) hE aN aP 1 (by decide) h0 h0 ?_ (aO _ _) (cg t n)
    rotate_left
    all_goals
     rw[dJ];simp[fx,w1,w2,q0,qf,qd,ql,n6,a1,a2,a3,f4,i0,i1,LQ,-af,-aj,-ah,-az,-ck,aN,aP]
theorem YH(hd:oA L t st 1)(hp:zJ T t n st=true):
 mP x y T L st n t:=by
 unfold mP;have Fq:=oS hd;obtain⟨a1,a2⟩:=hd;have a3:(t.aD==[45])=false:=by simpa using a2
 have e:gd T L t n st=((bM t.aD [(cP (ae T (aA (bd T t.aD true).1).2 st).1).1],(bd T t.aD true).1.l,(ae T (aA (bd T t.aD true).1).2 st).1.2.2),(ae T (aA (bd T t.aD true).1).2 st).2):=by unfold gd;rw[if_neg Fq,if_pos hp]
 rw[e];have aN:=aR hx;have aP:=aI hy;have fx:=λh n0 d=>aN.fr h n0 d
 have q0:=ee hx hy hc;have ql:=rz hx t.aD (by have:=hc.rc.tb;omega);have qb:=mc hx hy hc;have qa:=iv t.aD;have w1:=wrap_i64 (n:=t.aZ+1) (by omega) (by omega);have lV:=AJ hc.rc;have w2:=wrap_i64 (n:=-(aM L st).cF) (by omega) (by omega);rw[bK] at q0|-;have qd:True:=trivial;unfold zJ at hp;simp only[Bool.and_eq_true,decide_eq_true_eq] at hp;obtain⟨_,⟨Qe,Oc⟩,hp3⟩:=hp;rw[hp3] at qb;rcases qR hc.tJ hx hc.rc.tb t.aD with⟨f1,qf⟩|⟨f1,i,U,qf,f3,f4⟩
 .rw[f1] at Qe;cases Qe
 have q3:=kK (bd T t.aD true).1 ⟨(me T t.aD true).1,(me T t.aD true).2⟩;have hy0:0<=(aA (bd T t.aD true).1).2:=Ah hc.tJ Qe;have q4:=cE N hx hy hc (aA (bd T t.aD true).1).2 hy0 hN;have dF:=(a6 T).lv (aA (bd T t.aD true).1).2 st;have zi:st.aa≠[]->(ae T (aA (bd T t.aD true).1).2 st).2.aa≠[]:=dF.aa;have qc:=Aw t.aD (cP (ae T (aA (bd T t.aD true).1).2 st).1).1;rw[an] at q4;subst f3;have i0:(0:Int)<=(i:Int):=by omega
 have i1:¬(i:Int)<0:=by omega
 dsimp only;clear dF ql;generalize aM L st=u at *;generalize (ae T (aA (bd T t.aD true).1).2 st).1.2.2=ok at *;generalize (cP (ae T (aA (bd T t.aD true).1).2 st).1).2=tl at *;generalize (cP (ae T (aA (bd T t.aD true).1).2 st).1).1=a at *;generalize (ae T (aA (bd T t.aD true).1).2 st).2=s1 at *;generalize (bd T t.aD true).1=P at *;obtain⟨p1,p2,p3⟩:=P;dsimp only at f4 q3 q4 Oc|-;generalize aA ⟨p1,p2,p3⟩=sd at *;obtain⟨sd1,sd2⟩:=sd;dsimp only at q3 q4;have ur:=ay a;have uc:=br a;by_cases h0:st.aa=[];by_cases h1:s1.aa=[];rw[aU h0,h0,cI h1] at q4;rw[aU h0] at qb q0;refine cp (n:=8) hE aN aP h0 h1 ?_ (aO _ _) (cg t n)
 rotate_left
 rw[aU h0,h0,ch h1] at q4;rw[aU h0] at qb q0;refine dh (n:=8) hE aN aP 4 (by decide) h0 h1 ?_ (aO _ _) (cg t n)
 rotate_left
 have h1:=zi h0;rw[aS h0,dv h0 h1] at q4;rw[aS h0] at qb q0;refine cd (n:=8) hE aN aP 5 (by decide) h0 h1 ?_ (aO _ _) (cg t n)
 rotate_left
 all_goals
  rw[pT];simp[fx,w1,w2,q0,qf,qd,qb,q3,q4,qc,Oc,ur,uc,f4,i0,i1,a1,a2,a3,-af,-aj,-ah,-az,-ck,aN,aP]
theorem Ze(hd:oA L t st 2\/oA L t st 3)(hp:zJ T t n st=false):
 mP x y T L st n t:=by
 unfold mP;have Fq:¬Cp L t st:=hd.elim oS oS;obtain⟨a1,a2,hw⟩:=Lg hd
 have e:gd T L t n st=if ir T t.aD<=n then ((gk t.aD,ir T t.aD,true),st) else ((lh,0,false),st):=by unfold gd;rw[if_neg Fq,hp,if_neg (by simp),if_pos a1]
 rw[e];have aN:=aR hx;have aP:=aI hy;have fx:=λh n0 d=>aN.fr h n0 d
 have q0:=ee hx hy hc;have ql:=rz hx [45] (by have:=hc.rc.tb;omega);have qb:=mc hx hy hc;have qa:=iv [45];have w1:=wrap_i64 (n:=t.aZ+1) (by omega) (by omega);have lV:=AJ hc.rc;have w2:=wrap_i64 (n:=-(aM L st).cF) (by omega) (by omega);rw[bK] at q0|-;unfold zJ at hp;rw[decide_eq_true a1,Bool.true_and] at hp;have qd:True:=trivial;rw[a2] at hp|-;rcases qR hc.tJ hx hc.rc.tb [45] with⟨f1,qf⟩|⟨f1,i,U,qf,f3,f4⟩
 .generalize aM L st=u at *;by_cases hl:ir T [45]<=n
  .have n6:¬n<ir T [45]:=by omega
   rw[if_pos hl];generalize ir T [45]=lk at *;by_cases h0:st.aa=[];rw[aU h0] at q0;refine cp (n:=8) hE aN aP h0 h0 ?_ (aO _ _) (cg t n)
   rotate_left
   rw[aS h0] at q0;refine cd (n:=8) hE aN aP 1 (by decide) h0 h0 ?_ (aO _ _) (cg t n)
   rotate_left
   all_goals
    rw[gY];rcases hw with⟨a3,a4⟩|⟨a3,a4⟩
    all_goals simp[fx,w1,w2,q0,qf,qd,qa,ql,n6,a1,a2,a3,a4,-af,-aj,-ah,-az,-ck,aN,aP]
  .have n6:n<ir T [45]:=by omega
   rw[if_neg hl];generalize ir T [45]=lk at *;by_cases h0:st.aa=[];rw[aU h0] at q0;refine cp (n:=8) hE aN aP h0 h0 ?_ (aO _ _) (cg t n)
   rotate_left
   rw[aS h0] at q0;refine cd (n:=8) hE aN aP 1 (by decide) h0 h0 ?_ (aO _ _) (cg t n)
   rotate_left
   all_goals
    rw[dJ];rcases hw with⟨a3,a4⟩|⟨a3,a4⟩
    all_goals simp[fx,w1,w2,q0,qf,qd,ql,n6,a1,a2,a3,a4,-af,-aj,-ah,-az,-ck,aN,aP]
 .subst f3;have i0:(0:Int)<=(i:Int):=by omega
  have i1:¬(i:Int)<0:=by omega
  rw[f1,Bool.true_and] at hp;generalize aM L st=u at *;generalize (bd T [45] true).1=P at *;obtain⟨p1,p2,p3⟩:=P;dsimp only at f4 hp;by_cases LQ:p3<=n
  .have hbg:iB T st=false:=by simpa[LQ] using hp
   rw[hbg] at qb;by_cases hl:ir T [45]<=n
   .have n6:¬n<ir T [45]:=by omega
    rw[if_pos hl];generalize ir T [45]=lk at *;by_cases h0:st.aa=[];rw[aU h0] at q0 qb;refine cp (n:=8) hE aN aP h0 h0 ?_ (aO _ _) (cg t n)
    rotate_left
    rw[aS h0] at q0 qb;refine cd (n:=8) hE aN aP 1 (by decide) h0 h0 ?_ (aO _ _) (cg t n)
    rotate_left
    all_goals
     rw[gY];rcases hw with⟨a3,a4⟩|⟨a3,a4⟩
     all_goals simp[fx,w1,w2,q0,qf,qd,qa,ql,n6,a1,a2,a3,a4,f4,i0,i1,LQ,qb,-af,-aj,-ah,-az,-ck,aN,aP]
   .have n6:n<ir T [45]:=by omega
    rw[if_neg hl];generalize ir T [45]=lk at *;by_cases h0:st.aa=[];rw[aU h0] at q0 qb;refine cp (n:=8) hE aN aP h0 h0 ?_ (aO _ _) (cg t n)
    rotate_left
    rw[aS h0] at q0 qb;refine cd (n:=8) hE aN aP 1 (by decide) h0 h0 ?_ (aO _ _) (cg t n)
    rotate_left
    all_goals
     rw[dJ];rcases hw with⟨a3,a4⟩|⟨a3,a4⟩
     all_goals simp[fx,w1,w2,q0,qf,qd,ql,n6,a1,a2,a3,a4,f4,i0,i1,LQ,qb,-af,-aj,-ah,-az,-ck,aN,aP]
  .have alu:¬p3<=n:=LQ;by_cases hl:ir T [45]<=n
   .have n6:¬n<ir T [45]:=by omega
    rw[if_pos hl];generalize ir T [45]=lk at *;by_cases h0:st.aa=[];rw[aU h0] at q0;refine cp (n:=8) hE aN aP h0 h0 ?_ (aO _ _) (cg t n)
    rotate_left
    rw[aS h0] at q0;refine cd (n:=8) hE aN aP 1 (by decide) h0 h0 ?_ (aO _ _) (cg t n)
    rotate_left
    all_goals
     rw[gY];rcases hw with⟨a3,a4⟩|⟨a3,a4⟩
     all_goals simp[fx,w1,w2,q0,qf,qd,qa,ql,n6,a1,a2,a3,a4,f4,i0,i1,LQ,-af,-aj,-ah,-az,-ck,aN,aP]
   .have n6:n<ir T [45]:=by omega
    rw[if_neg hl];generalize ir T [45]=lk at *;by_cases h0:st.aa=[];rw[aU h0] at q0;refine cp (n:=8) hE aN aP h0 h0 ?_ (aO _ _) (cg t n)
    rotate_left
    rw[aS h0] at q0;refine cd (n:=8) hE aN aP 1 (by decide) h0 h0 ?_ (aO _ _) (cg t n)
    rotate_left
    all_goals
     rw[dJ];rcases hw with⟨a3,a4⟩|⟨a3,a4⟩
     all_goals simp[fx,w1,w2,q0,qf,qd,ql,n6,a1,a2,a3,a4,f4,i0,i1,LQ,-af,-aj,-ah,-az,-ck,aN,aP]
theorem Zh(hd:oA L t st 2\/oA L t st 3)(hp:zJ T t n st=true):
 mP x y T L st n t:=by
 unfold mP;have Fq:¬Cp L t st:=hd.elim oS oS;obtain⟨a1,a2,hw⟩:=Lg hd
 have e:gd T L t n st=((bM t.aD [(cP (ae T (aA (bd T t.aD true).1).2 st).1).1],(bd T t.aD true).1.l,(ae T (aA (bd T t.aD true).1).2 st).1.2.2),(ae T (aA (bd T t.aD true).1).2 st).2):=by unfold gd;rw[if_neg Fq,if_pos hp]
 rw[e];have aN:=aR hx;have aP:=aI hy;have fx:=λh n0 d=>aN.fr h n0 d
 have q0:=ee hx hy hc;have ql:=rz hx [45] (by have:=hc.rc.tb;omega);have qb:=mc hx hy hc;have qa:=iv [45];have w1:=wrap_i64 (n:=t.aZ+1) (by omega) (by omega);have lV:=AJ hc.rc;have w2:=wrap_i64 (n:=-(aM L st).cF) (by omega) (by omega);rw[bK] at q0|-;have qd:True:=trivial;unfold zJ at hp;rw[a2] at hp|-;simp only[Bool.and_eq_true,decide_eq_true_eq] at hp;obtain⟨_,⟨Qe,Oc⟩,hp3⟩:=hp;rw[hp3] at qb;rcases qR hc.tJ hx hc.rc.tb [45] with⟨f1,qf⟩|⟨f1,i,U,qf,f3,f4⟩
 .rw[f1] at Qe;cases Qe
 have q3:=kK (bd T [45] true).1 ⟨(me T [45] true).1,(me T [45] true).2⟩;have hy0:0<=(aA (bd T [45] true).1).2:=Ah hc.tJ Qe;have q4:=cE N hx hy hc (aA (bd T [45] true).1).2 hy0 hN;have dF:=(a6 T).lv (aA (bd T [45] true).1).2 st;have zi:st.aa≠[]->(ae T (aA (bd T [45] true).1).2 st).2.aa≠[]:=dF.aa;have qc:=Aw [45] (cP (ae T (aA (bd T [45] true).1).2 st).1).1;rw[an] at q4;subst f3;have i0:(0:Int)<=(i:Int):=by omega
 have i1:¬(i:Int)<0:=by omega
 dsimp only;clear dF ql;generalize aM L st=u at *;generalize (ae T (aA (bd T [45] true).1).2 st).1.2.2=ok at *;generalize (cP (ae T (aA (bd T [45] true).1).2 st).1).2=tl at *;generalize (cP (ae T (aA (bd T [45] true).1).2 st).1).1=a at *;generalize (ae T (aA (bd T [45] true).1).2 st).2=s1 at *;generalize (bd T [45] true).1=P at *;obtain⟨p1,p2,p3⟩:=P;dsimp only at f4 q3 q4 Oc|-;generalize aA ⟨p1,p2,p3⟩=sd at *;obtain⟨sd1,sd2⟩:=sd;dsimp only at q3 q4;have ur:=ay a;have uc:=br a;by_cases h0:st.aa=[];by_cases h1:s1.aa=[];rw[aU h0,h0,cI h1] at q4;rw[aU h0] at qb q0;refine cp (n:=8) hE aN aP h0 h1 ?_ (aO _ _) (cg t n)
 rotate_left
 rw[aU h0,h0,ch h1] at q4;rw[aU h0] at qb q0;refine dh (n:=8) hE aN aP 4 (by decide) h0 h1 ?_ (aO _ _) (cg t n)
 rotate_left
 have h1:=zi h0;rw[aS h0,dv h0 h1] at q4;rw[aS h0] at qb q0;refine cd (n:=8) hE aN aP 5 (by decide) h0 h1 ?_ (aO _ _) (cg t n)
 rotate_left
 all_goals
  rw[pT];rcases hw with⟨a3,a4⟩|⟨a3,a4⟩
  all_goals simp[fx,w1,w2,q0,qf,qd,qb,q3,q4,qc,Oc,ur,uc,f4,i0,i1,a1,a2,a3,a4,-af,-aj,-ah,-az,-ck,aN,aP]
end
noncomputable def zW(N:Nat):cr:=⟨156,λ
 |[.ptr 0 0,w,.int .i64 n],os=>(match pY os,tA w with
   |some R,some t=>if (0<=n/\R.st.aC.length<N)/\(0<=t.aZ/\t.aZ<1000000) then some (.tuple [(gd R.T R.L t n R.st).1.1.aV,.int .i64 (gd R.T R.L t n R.st).1.2.1],some (gj R.x R.y R.st.aa (gd R.T R.L t n R.st).2 (!(gd R.T R.L t n R.st).1.2.2))) else none
   |_,_=>none)
 |_,_=>none⟩
theorem K8(N:Nat):(zW N).f=156:=(rfl)
section
variable (N:Nat){x y:AV}{T:List bj}{L:List Tok}{st:St}(hx:ba x=some T)(hy:bx y=some L)
include N hx hy
theorem RD(h:DC T L st)(hn:st.aC.length<N)(t:Tok)(ht:0<=t.aZ/\t.aZ<1000000)(n:Int)(h0:0<=n):
 (zW N).S [.ptr 0 0,t.aV,.int .i64 n] (gg x y st false)=some (.tuple [(gd T L t n st).1.1.aV,.int .i64 (gd T L t n st).1.2.1],some (gj x y st.aa (gd T L t n st).2 (!(gd T L t n st).1.2.2))):=by
 simp only[zW,kE hx hy h,AL];rw[if_pos ⟨⟨h0,hn⟩,ht⟩]
theorem Wq(hc:DC T L st)(hN:st.aC.length<N)(hE:cT Tryz.prog cX (b9 S4 (SZ N)))(t:Tok)(ht:0<=t.aZ/\t.aZ<1000000)(n:Int)(hn:0<=n):
 mP x y T L st n t:=by
 unfold mP;by_cases hd:Cp L t st
 .exact TG N hx hy hc hN hE t ht n hn hd
 have b:=λ(h:oA L t st 2\/oA L t st 3)=>show dA Tryz.prog cX 156 [.ptr 0 0,t.aV,.int .i64 n] (gg x y st false) (.tuple [(gd T L t n st).1.1.aV,.int .i64 (gd T L t n st).1.2.1]) (some (gj x y st.aa (gd T L t n st).2 (!(gd T L t n st).1.2.2))) from by
  cases hp:zJ T t n st with
  |false=>exact Ze N hx hy hc hN hE t ht n hn h hp
  |true=>exact Zh N hx hy hc hN hE t ht n hn h hp
 rcases Tt hd with h|h|h|h
 .exact ac9 N hx hy hc hN hE t ht n hn h
 .cases hp:zJ T t n st with
  |false=>exact XB N hx hy hc hN hE t ht n hn h hp
  |true=>exact YH N hx hy hc hN hE t ht n hn h hp
 .exact b (.inl h)
 .exact b (.inr h)
end
theorem QT(N:Nat)(hN:cC Tryz.prog cX (fb N)):cC Tryz.prog cX (zW N):=λag os v r hv=>by
 unfold zW at hv;dsimp only at hv;split at hv
 .rename_i os w n;split at hv
  .rename_i R t hR ht;split at hv
   .rename_i hn;cases hv;obtain⟨hx,hy,rfl,h⟩:=jP hR;rw[K8,qP ht];exact Wq N hx hy h hn.1.2 (dK (by simp[S4,zx.lift,CN.lift,Ww.lift,vV.lift,o3.lift]) (by simp[SZ,hN,pj,KP])) t hn.2 _ hn.1.1
   .cases hv
  .cases hv
 .cases hv
end
section
theorem DC.rG{T:List bj}{L:List Tok}{st:St}(h:DC T L st)(g:st.aZ<=L.length):DC T L (aq st):=h.of (h.rc.rG g)
theorem p9{x y:AV}{st:St}{b:Bool}(h:st.aa=[]):gg x y (aq st) b=[.row [x,y,.int .i64 ((st.aZ:Int)+1),.aJ,.int .i64 st.next,.bool b]]:=aU (st:=aq st) h
theorem pR{x y:AV}{st:St}{b:Bool}(h:st.aa≠[]):gg x y (aq st) b=[.row [x,y,.int .i64 ((st.aZ:Int)+1),.vec 1 0 st.aa.length 2 st.aa.length,.int .i64 st.next,.bool b],.row (aQ st.aa)]:=aS (st:=aq st) h
theorem vo{x y:AV}{st:St}{b:Bool}(h:st.aa=[]):gg x y (aq (aq st)) b=[.row [x,y,.int .i64 ((st.aZ:Int)+1+1),.aJ,.int .i64 st.next,.bool b]]:=aU (st:=aq (aq st)) h
theorem H7{x y:AV}{st:St}{b:Bool}(h:st.aa≠[]):gg x y (aq (aq st)) b=[.row [x,y,.int .i64 ((st.aZ:Int)+1+1),.vec 1 0 st.aa.length 2 st.aa.length,.int .i64 st.next,.bool b],.row (aQ st.aa)]:=aS (st:=aq (aq st)) h
def K7(T:List bj)(s:List UInt8)(st:St):(Tm×Int×Bool)×St:=
 if (cS T st).1.2 then (if (ax [41] (cS T st).2).1 then ((bM s (cS T st).1.1,0,true),(ax [41] (cS T st).2).2) else ((lh,0,false),(ax [41] (cS T st).2).2))
 else ((lh,0,false),(cS T st).2)
def eo(T:List bj)(L:List Tok)(n:Int)(st:St):(Tm×Int×Bool)×St:=
 if (aM L st).au=4 then ((.nl 1 (aM L st).cF [],0,true),aq st)
 else if (aM L st).au=3 then (((jJ (aM L st).aD (aq st)).1,0,true),(jJ (aM L st).aD (aq st)).2)
 else if (aM L st).au=5 then (((cP (fj T (aM L st).aD (aq st)).1).1,(cP (fj T (aM L st).aD (aq st)).1).2,(fj T (aM L st).aD (aq st)).1.2.2),(fj T (aM L st).aD (aq st)).2)
 else if (aM L st).au=1\/(aM L st).au=2 then (if (aM L st).jq then K7 T (aM L st).aD (aq (aq st)) else gd T L (aM L st) n (aq st))
 else ((lh,0,false),aq st)
noncomputable def Vv:List aX:=[l4]
noncomputable def Vd(N:Nat):List cr:=[mr,FU,GM N,rK N,tZ,zW N]
theorem ab5{s:List UInt8}{us:List Tm}(h:us≠[]):l4.S [.str s,.sl (us.map Tm.aV)]=some (bM s us).aV:=by
 rw[vp]
 cases us with
 |nil=>exact absurd rfl h
 |cons a r=>rfl
attribute [local simp] fX fU fY fR eO eN fP fS fT eQ eR fQ lK lQ lS lO lM lT fc fe Laid.aK db dc bf XG XI BT Nu bc Vv Vd nS cM PF OW Ak ub K8 aT
abbrev jU(x:AV)(y:AV)(T:List bj)(L:List Tok)(st:St)(n:Int):Prop:=dA Tryz.prog cX 111 [.ptr 0 0,.int .i64 n] (gg x y st false) (.tuple [(eo T L n st).1.1.aV,.int .i64 (eo T L n st).1.2.1]) (some (gj x y st.aa (eo T L n st).2 (!(eo T L n st).1.2.2)))
section
variable (N:Nat){x y:AV}{T:List bj}{L:List Tok}{st:St}(hx:ba x=some T)(hy:bx y=some L)(hc:DC T L st)(hN:st.aC.length<=N)(hE:cT Tryz.prog cX (b9 Vv (Vd N)))(n:Int)(SO:0<=n)
include N hx hy hc hN hE n SO
theorem Rs(k4:(aM L st).au=4):
 jU x y T L st n:=by
 unfold jU;have ks:(aL st).au=(aM L st).au:=by rw[bm hc.rc]
 have e:eo T L n st=((.nl 1 (aM L st).cF [],0,true),aq st):=by unfold eo;exact if_pos k4
 rw[e];have aN:=aR hx;have aP:=aI hy;have q0:=ee hx hy hc;rw[bK] at q0;have w1:=wrap_i64 (n:=(st.aZ:Int)+1) (by omega) (by have:=hc.rc.le;have:=hc.rc.lb;omega);rw[k4] at q0;dsimp only;by_cases h0:st.aa=[];rw[aU h0] at q0;refine cp (n:=8) hE aN aP h0 h0 ?_ (aO _ _) rfl
 rotate_left
 rw[aS h0] at q0;refine cd (n:=8) hE aN aP 1 (by decide) h0 h0 ?_ (aO _ _) rfl
 rotate_left
 all_goals
  rw[vk];simp only[r8,rL,sx];simp[w1,q0,-af,-aj,-ah,-az,-ck,aN,aP]
theorem RQ(k3:(aM L st).au=3):
 jU x y T L st n:=by
 unfold jU;have ks:(aL st).au=(aM L st).au:=by rw[bm hc.rc]
 have e:eo T L n st=(((jJ (aM L st).aD (aq st)).1,0,true),(jJ (aM L st).aD (aq st)).2):=by unfold eo;rw[if_neg (by rw[k3];decide),if_pos k3]
 rw[e];have aN:=aR hx;have aP:=aI hy;have q0:=ee hx hy hc;rw[bK] at q0;have w1:=wrap_i64 (n:=(st.aZ:Int)+1) (by omega) (by have:=hc.rc.le;have:=hc.rc.lb;omega);have c1:=hc.rG (by have:=de hc.rc (by rw[ks,k3];decide);omega);have qv:=Wf hx hy c1 (aM L st).aD;have dF:st.aa≠[]->(jJ (aM L st).aD (aq st)).2.aa≠[]:=(H8 (aM L st).aD (aq st)).aa;rw[show (aq st).aa=st.aa from rfl,an] at qv;rw[k3] at q0;dsimp only;have ur:=ay (jJ (aM L st).aD (aq st)).1;have uc:=br (jJ (aM L st).aD (aq st)).1;generalize (jJ (aM L st).aD (aq st)).2=s1 at *;generalize (jJ (aM L st).aD (aq st)).1=u at *;by_cases h0:st.aa=[];by_cases h1:s1.aa=[];rw[aU h0] at q0;rw[p9 h0,h0,cI h1] at qv;refine cp (n:=8) hE aN aP h0 h1 ?_ (aO _ _) rfl
 rotate_left
 rw[aU h0] at q0;rw[p9 h0,h0,ch h1] at qv;refine dh (n:=8) hE aN aP 3 (by decide) h0 h1 ?_ (aO _ _) rfl
 rotate_left
 have h1:=dF h0;rw[aS h0] at q0;rw[pR h0,dv h0 h1] at qv;refine cd (n:=8) hE aN aP 4 (by decide) h0 h1 ?_ (aO _ _) rfl
 rotate_left
 all_goals
  rw[an];simp[w1,q0,qv,ur,uc,-af,-aj,-ah,-az,-ck,aN,aP]
end
theorem QF{T:List bj}{s:List UInt8}{st:St}(h:st.aa≠[]):(fj T s st).2.aa≠[]:=by
 unfold fj;split
 .exact ((qN (a6 T) _ _ st).1.aa h)
 .split
  .exact ((qN (a6 T) _ _ st).1.aa h)
  .split
   .exact (B6 (a6 T) _ st).1.aa h
   .exact h
theorem ML{T:List bj}{L:List Tok}{t:Tok}{n:Int}{st:St}(h:st.aa≠[]):(gd T L t n st).2.aa≠[]:=by
 unfold gd;split
 .exact h
 .split
  .exact ((a6 T).lv _ st).aa h
  .split
   .split<;>exact h
   .exact h
section
variable (N:Nat){x y:AV}{T:List bj}{L:List Tok}{st:St}(hx:ba x=some T)(hy:bx y=some L)(hc:DC T L st)(hN:st.aC.length<=N)(hE:cT Tryz.prog cX (b9 Vv (Vd N)))(n:Int)(SO:0<=n)
include N hx hy hc hN hE n SO
theorem UL(k5:(aM L st).au=5):
 jU x y T L st n:=by
 unfold jU;have ks:(aL st).au=(aM L st).au:=by rw[bm hc.rc]
 have e:eo T L n st=(((cP (fj T (aM L st).aD (aq st)).1).1,(cP (fj T (aM L st).aD (aq st)).1).2,(fj T (aM L st).aD (aq st)).1.2.2),(fj T (aM L st).aD (aq st)).2):=by unfold eo;rw[if_neg (by rw[k5];decide),if_neg (by rw[k5];decide),if_pos k5]
 rw[e];have k0:(aL st).au≠0:=by rw[ks,k5];decide
 have aN:=aR hx;have aP:=aI hy;have q0:=ee hx hy hc;rw[bK] at q0;have w1:=wrap_i64 (n:=(st.aZ:Int)+1) (by omega) (by have:=hc.rc.le;have:=hc.rc.lb;omega);have mQ:=de hc.rc k0;have c1:=hc.rG (by omega);have hl:=ct st;have hp:=bN (st:=st) k0;have qt:=Tq N hx hy c1 (by omega) (aM L st).aD;rw[show (aq st).aa=st.aa from rfl,an] at qt;have dF:st.aa≠[]->(fj T (aM L st).aD (aq st)).2.aa≠[]:=λh=>QF (st:=aq st) h
 have ur:=ay (cP (fj T (aM L st).aD (aq st)).1).1;have uc:=br (cP (fj T (aM L st).aD (aq st)).1).1;rw[k5] at q0;dsimp only;generalize (fj T (aM L st).aD (aq st)).1.2.2=ok at *;generalize (cP (fj T (aM L st).aD (aq st)).1).2=lv at *;generalize (cP (fj T (aM L st).aD (aq st)).1).1=u at *;generalize (fj T (aM L st).aD (aq st)).2=s1 at *;by_cases h0:st.aa=[];by_cases h1:s1.aa=[];rw[aU h0] at q0;rw[p9 h0,h0,cI h1] at qt;refine cp (n:=8) hE aN aP h0 h1 ?_ (aO _ _) rfl
 rotate_left
 rw[aU h0] at q0;rw[p9 h0,h0,ch h1] at qt;refine dh (n:=8) hE aN aP 3 (by decide) h0 h1 ?_ (aO _ _) rfl
 rotate_left
 have h1:=dF h0;rw[aS h0] at q0;rw[pR h0,dv h0 h1] at qt;refine cd (n:=8) hE aN aP 4 (by decide) h0 h1 ?_ (aO _ _) rfl
 rotate_left
 all_goals
  rw[an];simp[w1,q0,qt,ur,uc,-af,-aj,-ah,-az,-ck,aN,aP]
theorem Im(kn:(aM L st).au=1\/(aM L st).au=2)(ko:(aM L st).jq=true)(bV:(cS T (aq (aq st))).1.2=false):
 jU x y T L st n:=by
 unfold jU;have ks:(aL st).au=(aM L st).au:=by rw[bm hc.rc]
 have k3:¬(aM L st).au=3:=by omega
 have k4:¬(aM L st).au=4:=by omega
 have k5:¬(aM L st).au=5:=by omega
 have k0:(aL st).au≠0:=by rw[ks];omega
 have e:eo T L n st=((lh,0,false),(cS T (aq (aq st))).2):=by unfold eo;rw[if_neg k4,if_neg k3,if_neg k5,if_pos kn,if_pos ko];unfold K7;rw[bV];exact if_neg (by simp)
 rw[e];have aN:=aR hx;have aP:=aI hy;have q0:=ee hx hy hc;rw[bK] at q0;have w1:=wrap_i64 (n:=(st.aZ:Int)+1) (by omega) (by have:=hc.rc.le;have:=hc.rc.lb;omega);have mQ:=de hc.rc k0;have c1:=hc.rG (by omega);have hl:=ct st;have hp:=bN (st:=st) k0;have xF:st.aZ+1<=L.length:=mQ;have c2:=c1.rG xF;have n6:=ct (aq st);have w2:=wrap_i64 (n:=(st.aZ:Int)+1+1) (by omega) (by have:=hc.rc.lb;omega);have qt:=jx N hx hy c2 (by omega);rw[bV,show (aq (aq st)).aa=st.aa from rfl] at qt;have E1:=gN T (aq (aq st));have dF:st.aa≠[]->(cS T (aq (aq st))).2.aa≠[]:=λh=>by rw[E1.2.1];exact (cU T (aq (aq st))).1.aa h
 have dr:=bF (cS T (aq (aq st))).1.1;rw[ko] at q0;dsimp only;clear E1;generalize (cS T (aq (aq st))).1.1.map Tm.aV=U at *;generalize (cS T (aq (aq st))).2=s1 at *;rcases kn with kn|kn
 all_goals
  rw[kn] at q0;by_cases h0:st.aa=[];by_cases h1:s1.aa=[];rw[aU h0] at q0;rw[vo h0,h0,cI h1] at qt;refine cp (n:=8) hE aN aP h0 h1 ?_ (aO _ _) rfl
  rotate_left
  rw[aU h0] at q0;rw[vo h0,h0,ch h1] at qt;refine dh (n:=8) hE aN aP 3 (by decide) h0 h1 ?_ (aO _ _) rfl
  rotate_left
  have h1:=dF h0;rw[aS h0] at q0;rw[H7 h0,dv h0 h1] at qt;refine cd (n:=8) hE aN aP 4 (by decide) h0 h1 ?_ (aO _ _) rfl
  rotate_left
  all_goals
   rw[dJ];simp[w1,q0,qt,k3,k4,k5,w2,dr,-af,-aj,-ah,-az,-ck,aN,aP]
theorem H3(kn:(aM L st).au=1\/(aM L st).au=2)(ko:(aM L st).jq=true)(bV:(cS T (aq (aq st))).1.2=true)(hb:(ax [41] (cS T (aq (aq st))).2).1=false):
 jU x y T L st n:=by
 unfold jU;have ks:(aL st).au=(aM L st).au:=by rw[bm hc.rc]
 have k3:¬(aM L st).au=3:=by omega
 have k4:¬(aM L st).au=4:=by omega
 have k5:¬(aM L st).au=5:=by omega
 have k0:(aL st).au≠0:=by rw[ks];omega
 have e:eo T L n st=((lh,0,false),(cS T (aq (aq st))).2):=by unfold eo;rw[if_neg k4,if_neg k3,if_neg k5,if_pos kn,if_pos ko];unfold K7;rw[bV];rw[if_pos rfl,hb,fF hb];exact if_neg (by simp)
 rw[e];have aN:=aR hx;have aP:=aI hy;have q0:=ee hx hy hc;rw[bK] at q0;have w1:=wrap_i64 (n:=(st.aZ:Int)+1) (by omega) (by have:=hc.rc.le;have:=hc.rc.lb;omega);have mQ:=de hc.rc k0;have c1:=hc.rG (by omega);have hl:=ct st;have hp:=bN (st:=st) k0;have xF:st.aZ+1<=L.length:=mQ;have c2:=c1.rG xF;have n6:=ct (aq st);have w2:=wrap_i64 (n:=(st.aZ:Int)+1+1) (by omega) (by have:=hc.rc.lb;omega);have qt:=jx N hx hy c2 (by omega);rw[bV,show (aq (aq st)).aa=st.aa from rfl] at qt;have E1:=gN T (aq (aq st));have dF:st.aa≠[]->(cS T (aq (aq st))).2.aa≠[]:=λh=>by rw[E1.2.1];exact (cU T (aq (aq st))).1.aa h
 have dr:=bF (cS T (aq (aq st))).1.1;have c3:=hc.of ((c2.rc.ok ((cU T (aq (aq st))).2 (E1.1▸bV))).1);rw[<-E1.2.1] at c3;have qk:=ef hx hy c3 [41];have ff:=b8 [41] (cS T (aq (aq st))).2;rw[hb] at qk;rw[ko] at q0;dsimp only;clear E1;rw[fF hb] at qk ff;generalize (cS T (aq (aq st))).1.1.map Tm.aV=U at *;generalize (cS T (aq (aq st))).2=s1 at *;rcases kn with kn|kn
 all_goals
  rw[kn] at q0;by_cases h0:st.aa=[];by_cases h1:s1.aa=[];rw[aU h0] at q0;rw[vo h0,h0,cI h1] at qt;rw[aU h1] at qk;refine cp (n:=8) hE aN aP h0 h1 ?_ (aO _ _) rfl
  rotate_left
  rw[aU h0] at q0;rw[vo h0,h0,ch h1] at qt;rw[aS h1] at qk;refine dh (n:=8) hE aN aP 3 (by decide) h0 h1 ?_ (aO _ _) rfl
  rotate_left
  have h1:=dF h0;rw[aS h0] at q0;rw[H7 h0,dv h0 h1] at qt;rw[aS h1] at qk;refine cd (n:=8) hE aN aP 4 (by decide) h0 h1 ?_ (aO _ _) rfl
  rotate_left
  all_goals
   rw[dJ];simp[w1,q0,qt,k3,k4,k5,w2,dr,qk,-af,-aj,-ah,-az,-ck,aN,aP]
theorem Hu(kn:(aM L st).au=1\/(aM L st).au=2)(ko:(aM L st).jq=true)(bV:(cS T (aq (aq st))).1.2=true)(hb:(ax [41] (cS T (aq (aq st))).2).1=true):
 jU x y T L st n:=by
 unfold jU;have ks:(aL st).au=(aM L st).au:=by rw[bm hc.rc]
 have k3:¬(aM L st).au=3:=by omega
 have k4:¬(aM L st).au=4:=by omega
 have k5:¬(aM L st).au=5:=by omega
 have k0:(aL st).au≠0:=by rw[ks];omega
 have e:eo T L n st=((bM (aM L st).aD (cS T (aq (aq st))).1.1,0,true),(ax [41] (cS T (aq (aq st))).2).2):=by unfold eo;rw[if_neg k4,if_neg k3,if_neg k5,if_pos kn,if_pos ko];unfold K7;rw[bV];rw[if_pos rfl,hb];exact if_pos rfl
 rw[e];have aN:=aR hx;have aP:=aI hy;have q0:=ee hx hy hc;rw[bK] at q0;have w1:=wrap_i64 (n:=(st.aZ:Int)+1) (by omega) (by have:=hc.rc.le;have:=hc.rc.lb;omega);have mQ:=de hc.rc k0;have c1:=hc.rG (by omega);have hl:=ct st;have hp:=bN (st:=st) k0;have xF:st.aZ+1<=L.length:=mQ;have c2:=c1.rG xF;have n6:=ct (aq st);have w2:=wrap_i64 (n:=(st.aZ:Int)+1+1) (by omega) (by have:=hc.rc.lb;omega);have qt:=jx N hx hy c2 (by omega);rw[bV,show (aq (aq st)).aa=st.aa from rfl] at qt;have E1:=gN T (aq (aq st));have dF:st.aa≠[]->(cS T (aq (aq st))).2.aa≠[]:=λh=>by rw[E1.2.1];exact (cU T (aq (aq st))).1.aa h
 have dr:=bF (cS T (aq (aq st))).1.1;have c3:=hc.of ((c2.rc.ok ((cU T (aq (aq st))).2 (E1.1▸bV))).1);rw[<-E1.2.1] at c3;have qk:=ef hx hy c3 [41];have ff:=b8 [41] (cS T (aq (aq st))).2;rw[hb] at qk;have fy:(cS T (aq (aq st))).1.1≠[]:=(IE (rec:=ae T) _ _ _ _ (by simp)).1;have qc:=ab5 (s:=(aM L st).aD) fy;rw[an] at qc;have ur:=ay (bM (aM L st).aD (cS T (aq (aq st))).1.1);have uc:=br (bM (aM L st).aD (cS T (aq (aq st))).1.1);rw[ko] at q0;dsimp only;clear E1;generalize bM (aM L st).aD (cS T (aq (aq st))).1.1=cu at *;generalize (cS T (aq (aq st))).1.1.map Tm.aV=U at *;generalize (cS T (aq (aq st))).2=s1 at *;generalize (ax [41] s1).2=s4 at *;rcases kn with kn|kn
 all_goals
  rw[kn] at q0;by_cases h0:st.aa=[];by_cases h1:s1.aa=[];rw[aU h0] at q0;rw[vo h0,h0,cI h1] at qt;rw[aU h1,aU (by rw[ff.1];exact h1),ff.2] at qk;refine cp (n:=8) hE aN aP h0 (by rw[ff.1];exact h1) ?_ (aO _ _) rfl;rw[an];simp only[ff.2]
  rotate_left
  rw[aU h0] at q0;rw[vo h0,h0,ch h1] at qt;rw[aS h1,aS (by rw[ff.1];exact h1),ff.1,ff.2] at qk;refine dh (n:=8) hE aN aP 3 (by decide) h0 (by rw[ff.1];exact h1) ?_ (aO _ _) rfl;rw[an];simp only[ff.1,ff.2]
  rotate_left
  have h1:=dF h0;rw[aS h0] at q0;rw[H7 h0,dv h0 h1] at qt;rw[aS h1,aS (by rw[ff.1];exact h1),ff.1,ff.2] at qk;refine cd (n:=8) hE aN aP 4 (by decide) h0 (by rw[ff.1];exact h1) ?_ (aO _ _) rfl;rw[an];simp only[ff.1,ff.2]
  rotate_left
  all_goals simp[w1,q0,qt,k3,k4,k5,w2,dr,qk,qc,ur,uc,-af,-aj,-ah,-az,-ck,aN,aP]
theorem Mb(kn:(aM L st).au=1\/(aM L st).au=2)(ko:(aM L st).jq=false):
 jU x y T L st n:=by
 unfold jU;have ks:(aL st).au=(aM L st).au:=by rw[bm hc.rc]
 have k3:¬(aM L st).au=3:=by omega
 have k4:¬(aM L st).au=4:=by omega
 have k5:¬(aM L st).au=5:=by omega
 have k0:(aL st).au≠0:=by rw[ks];omega
 have e:eo T L n st=gd T L (aM L st) n (aq st):=by unfold eo;rw[if_neg k4,if_neg k3,if_neg k5,if_pos kn,ko];exact if_neg (by simp)
 rw[e];have aN:=aR hx;have aP:=aI hy;have q0:=ee hx hy hc;rw[bK] at q0;have w1:=wrap_i64 (n:=(st.aZ:Int)+1) (by omega) (by have:=hc.rc.le;have:=hc.rc.lb;omega);have mQ:=de hc.rc k0;have c1:=hc.rG (by omega);have hl:=ct st;have hp:=bN (st:=st) k0;have ta:=FQ hc.rc;have qt:=RD N hx hy c1 (by omega) (aM L st) ta n SO;rw[show (aq st).aa=st.aa from rfl,an,bK] at qt;have dF:st.aa≠[]->(gd T L (aM L st) n (aq st)).2.aa≠[]:=λh=>ML (st:=aq st) h
 have ur:=ay (gd T L (aM L st) n (aq st)).1.1;have uc:=br (gd T L (aM L st) n (aq st)).1.1;rw[ko] at q0 qt;generalize (gd T L (aM L st) n (aq st))=r at *;obtain⟨⟨u,lv,ok⟩,s1⟩:=r;dsimp only at *;rcases kn with kn|kn
 all_goals
  rw[kn] at q0 qt;by_cases h0:st.aa=[];by_cases h1:s1.aa=[];rw[aU h0] at q0;rw[p9 h0,h0,cI h1] at qt;refine cp (n:=8) hE aN aP h0 h1 ?_ (aO _ _) rfl
  rotate_left
  rw[aU h0] at q0;rw[p9 h0,h0,ch h1] at qt;refine dh (n:=8) hE aN aP 3 (by decide) h0 h1 ?_ (aO _ _) rfl
  rotate_left
  have h1:=dF h0;rw[aS h0] at q0;rw[pR h0,dv h0 h1] at qt;refine cd (n:=8) hE aN aP 4 (by decide) h0 h1 ?_ (aO _ _) rfl
  rotate_left
  all_goals
   rw[an];simp[w1,q0,qt,ur,uc,k3,k4,k5,-af,-aj,-ah,-az,-ck,aN,aP]
theorem L9(k1:¬(aM L st).au=1)(k2:¬(aM L st).au=2)(k3:¬(aM L st).au=3)(k4:¬(aM L st).au=4)(k5:¬(aM L st).au=5):
 jU x y T L st n:=by
 unfold jU;have ks:(aL st).au=(aM L st).au:=by rw[bm hc.rc]
 have e:eo T L n st=((lh,0,false),aq st):=by unfold eo;rw[if_neg k4,if_neg k3,if_neg k5,if_neg (by omega)]
 rw[e];have aN:=aR hx;have aP:=aI hy;have q0:=ee hx hy hc;rw[bK] at q0;have w1:=wrap_i64 (n:=(st.aZ:Int)+1) (by omega) (by have:=hc.rc.le;have:=hc.rc.lb;omega);dsimp only;by_cases h0:st.aa=[];rw[aU h0] at q0;refine cp (n:=8) hE aN aP h0 h0 ?_ (aO _ _) rfl
 rotate_left
 rw[aS h0] at q0;refine cd (n:=8) hE aN aP 1 (by decide) h0 h0 ?_ (aO _ _) rfl
 rotate_left
 all_goals
  rw[dJ];simp only[r8,rL,sx];simp[w1,q0,k1,k2,k3,k4,k5,-af,-aj,-ah,-az,-ck,aN,aP]
end
noncomputable def vH(N:Nat):cr:=⟨111,λ
 |[.ptr 0 0,.int .i64 n],os=>(match pY os with
   |some R=>if 0<=n/\R.st.aC.length<=N then some (.tuple [(eo R.T R.L n R.st).1.1.aV,.int .i64 (eo R.T R.L n R.st).1.2.1],some (gj R.x R.y R.st.aa (eo R.T R.L n R.st).2 (!(eo R.T R.L n R.st).1.2.2))) else none
   |none=>none)
 |_,_=>none⟩
theorem AB(N:Nat):(vH N).f=111:=(rfl)
section
variable (N:Nat){x y:AV}{T:List bj}{L:List Tok}{st:St}(hx:ba x=some T)(hy:bx y=some L)(h:DC T L st)
include N hx hy h
theorem NI(n:Int)(h0:0<=n)(hn:st.aC.length<=N):
 (vH N).S [.ptr 0 0,.int .i64 n] (gg x y st false)=some (.tuple [(eo T L n st).1.1.aV,.int .i64 (eo T L n st).1.2.1],some (gj x y st.aa (eo T L n st).2 (!(eo T L n st).1.2.2))):=by
 simp only[vH,kE hx hy h];rw[if_pos ⟨h0,hn⟩]
theorem QH(hN:st.aC.length<=N)(hE:cT Tryz.prog cX (b9 Vv (Vd N)))(n:Int)(h0:0<=n):
 jU x y T L st n:=by
 unfold jU;by_cases k4:(aM L st).au=4
 .exact Rs N hx hy h hN hE n h0 k4
 by_cases k3:(aM L st).au=3
 .exact RQ N hx hy h hN hE n h0 k3
 by_cases k5:(aM L st).au=5
 .exact UL N hx hy h hN hE n h0 k5
 by_cases kn:(aM L st).au=1\/(aM L st).au=2
 .cases ko:(aM L st).jq with
  |true=>
    cases bV:(cS T (aq (aq st))).1.2 with
    |true=>
      cases hb:(ax [41] (cS T (aq (aq st))).2).1 with
      |true=>exact Hu N hx hy h hN hE n h0 kn ko bV hb
      |false=>exact H3 N hx hy h hN hE n h0 kn ko bV hb
    |false=>exact Im N hx hy h hN hE n h0 kn ko bV
  |false=>exact Mb N hx hy h hN hE n h0 kn ko
 .exact L9 N hx hy h hN hE n h0 (λe=>kn (.inl e)) (λe=>kn (.inr e)) k3 k4 k5
end
theorem NZ(N:Nat)(hN:cC Tryz.prog cX (fb N)):cC Tryz.prog cX (vH N):=λag os v r hv=>by
 unfold vH at hv;dsimp only at hv;split at hv
 .rename_i os n;split at hv
  .rename_i R hR;split at hv
   .rename_i hn;cases hv;obtain⟨hx,hy,rfl,h⟩:=jP hR;rw[AB];exact QH N hx hy h hn.2 (dK (by simp[Vv,o3.lift]) (by simp[Vd,pj,TX,Wa N hN,C8 N hN,zI,QT N hN])) _ hn.1
   .cases hv
  .cases hv
 .cases hv
end
section
def dN(T:List bj)(n:Int)(st:St):PR×St:=(((cP (ae T n st).1).1,(cP (ae T n st).1).2,(ae T n st).1.2.2),(ae T n st).2)
theorem j8(T:List bj):uV (dN T):=⟨λn st=>(a6 T).lv n st,λn st h=>(a6 T).ok n st h⟩
theorem P8(T:List bj):∀(M:Nat) (n:Int) (r:PR) (st:St),
 (dZ (dN T) T M n r st).1.2.2=(dZ (ae T) T M n r st).1.2.2/\(dZ (dN T) T M n r st).2=(dZ (ae T) T M n r st).2/\
 ((dZ (ae T) T M n r st).1.2.2=true->(dZ (dN T) T M n r st).1=(dZ (ae T) T M n r st).1)
 |0,_,_,_=>⟨rfl,rfl,λ_=>rfl⟩
 |M+1,n,(t,lv,false),st=>by rw[hU,hU];exact⟨rfl,rfl,λ_=>rfl⟩
 |M+1,n,(t,lv,true),st=>by
   by_cases h:(!(dM T (aL st)).2||decide (n<(dM T (aL st)).1.l)||decide ((aA (dM T (aL st)).1).1<lv))=true
   .rw[cN rfl h,cN rfl h];exact⟨rfl,rfl,λ_=>rfl⟩
   .simp only[Bool.not_eq_true,Bool.or_eq_false_iff,Bool.not_eq_false',decide_eq_false_iff_not] at h;have hb:dM T (aL st)=((dM T (aL st)).1,true):=by rw[<-h.1.1]
    rw[kf hb h.1.2 h.2,kf hb h.1.2 h.2];have e2:(dN T (aA (dM T (aL st)).1).2 (aq st)).1.2.2=(ae T (aA (dM T (aL st)).1).2 (aq st)).1.2.2:=rfl;have e3:(dN T (aA (dM T (aL st)).1).2 (aq st)).2=(ae T (aA (dM T (aL st)).1).2 (aq st)).2:=rfl;rw[e2,e3]
    cases hk:(ae T (aA (dM T (aL st)).1).2 (aq st)).1.2.2 with
    |false=>rw[hU,hU];exact⟨rfl,rfl,λh=>by cases h⟩
    |true=>
      have e1:(dN T (aA (dM T (aL st)).1).2 (aq st)).1.1=(ae T (aA (dM T (aL st)).1).2 (aq st)).1.1:=by show (cP _).1=_;unfold cP;rw[hk];rfl
      rw[e1];exact P8 T M _ _ _
noncomputable def ou:List aX:=[vA,l4]
noncomputable def od(N:Nat):List cr:=[mr,ny,vH N,fb N]
def El(x y:AV)(r:PR×St)(md:Nat):Option (Ex×List AV×ai):=some (.exit 0,FM 81 [(0,.ptr 0 0),(4,.ptr 1 0),(6,.ptr 2 0),(7,.int .i64 r.1.2.1)],⟨3,[.row [.int .i64 r.1.1.au,.int .i64 r.1.1.cF,.str r.1.1.bH,r.1.1.ca],.row [.int .i64 0,.int .i64 0,.str [],.aJ],.row [x,y,.int .i64 r.2.aZ,.aJ,.int .i64 r.2.next,.bool (!r.1.2.2)]],1,md⟩)
def A5(x y:AV)(r:PR×St)(md:Nat):Option (Ex×List AV×ai):=some (.exit 0,FM 81 [(0,.ptr 0 0),(4,.ptr 1 0),(6,.ptr 2 0),(7,.int .i64 r.1.2.1)],⟨4,[.row (aQ r.2.aa),.row [.int .i64 r.1.1.au,.int .i64 r.1.1.cF,.str r.1.1.bH,r.1.1.ca],.row [.int .i64 0,.int .i64 0,.str [],.aJ],.row [x,y,.int .i64 r.2.aZ,.vec 3 0 r.2.aa.length 2 r.2.aa.length,.int .i64 r.2.next,.bool (!r.1.2.2)]],0,md⟩)
def Cy(x y:AV)(r:PR×St)(md:Nat):Option (Ex×List AV×ai):=some (.exit 0,FM 81 [(0,.ptr 0 0),(4,.ptr 1 0),(6,.ptr 3 0),(7,.int .i64 r.1.2.1)],⟨4,[.row [.int .i64 r.1.1.au,.int .i64 r.1.1.cF,.str r.1.1.bH,r.1.1.ca],.row (aQ r.2.aa),.row [.int .i64 0,.int .i64 0,.str [],.aJ],.row [x,y,.int .i64 r.2.aZ,.vec 2 0 r.2.aa.length 2 r.2.aa.length,.int .i64 r.2.next,.bool (!r.1.2.2)]],0,md⟩)
def Bg(x y:AV)(r:PR×St)(md:Nat):Option (Ex×List AV×ai):=some (.exit 0,FM 81 [(0,.ptr 0 0),(4,.ptr 1 0),(6,.ptr 3 0),(7,.int .i64 r.1.2.1)],⟨5,[.row (aQ r.2.aa),.row [.int .i64 r.1.1.au,.int .i64 r.1.1.cF,.str r.1.1.bH,r.1.1.ca],.dead,.row [.int .i64 0,.int .i64 0,.str [],.aJ],.row [x,y,.int .i64 r.2.aZ,.vec 4 0 r.2.aa.length 2 r.2.aa.length,.int .i64 r.2.next,.bool (!r.1.2.2)]],0,md⟩)
def DY(x y:AV)(r:PR×St)(md:Nat):Option (Ex×List AV×ai):=some (.exit 0,FM 81 [(0,.ptr 0 0),(4,.ptr 2 0),(6,.ptr 4 0),(7,.int .i64 r.1.2.1)],⟨5,[.row [.int .i64 r.1.1.au,.int .i64 r.1.1.cF,.str r.1.1.bH,r.1.1.ca],.row (aQ r.2.aa),.row [.int .i64 0,.int .i64 0,.str [],.aJ],.dead,.row [x,y,.int .i64 r.2.aZ,.vec 3 0 r.2.aa.length 2 r.2.aa.length,.int .i64 r.2.next,.bool (!r.1.2.2)]],0,md⟩)
def Be(x y:AV)(r:PR×St)(md:Nat):Option (Ex×List AV×ai):=some (.exit 0,FM 81 [(0,.ptr 0 0),(4,.ptr 2 0),(6,.ptr 4 0),(7,.int .i64 r.1.2.1)],⟨6,[.row (aQ r.2.aa),.row [.int .i64 r.1.1.au,.int .i64 r.1.1.cF,.str r.1.1.bH,r.1.1.ca],.dead,.row [.int .i64 0,.int .i64 0,.str [],.aJ],.dead,.row [x,y,.int .i64 r.2.aZ,.vec 5 0 r.2.aa.length 2 r.2.aa.length,.int .i64 r.2.next,.bool (!r.1.2.2)]],0,md⟩)
theorem vQ{T:List bj}{t:Tok}(hg:ew T=true)(h:(bZ T t).2=true):(bZ T t).1.n=t.aD/\0<=(aA (bZ T t).1).2:=by
 by_cases c:t.au=1\/t.au=2\/(t.au=5/\t.aD=[44])
 .rw[qV c] at h|-;exact⟨(u5 h).2.1,Ah hg h⟩
 .rw[DD (λe=>c (.inl e)) (λe=>c (.inr (.inl e))) (λe f=>c (.inr (.inr ⟨e,f⟩)))] at h;cases h
attribute [local simp] fX fU fY fR eO eN fP fS fT eQ eR fQ lK lQ lS lO lM lT fc fe Laid.aK db dc bf bc qD gZ ou od z8 nS cM cV AB jQ eH aT
theorem aaH(n N:Nat){x y:AV}{T:List bj}{L:List Tok}(hx:ba x=some T)(hy:bx y=some L)(kk:Int):∀(M:Nat) (t:Tm) (lv:Int) (ok:Bool) (st:St) (m md:Nat),(ok=true->DC T L st)->st.aa≠[]->st.aC.length<=N->st.aC.length<M->M<=m->
 ∃cq,gu 3 1 (bL (aH (aF (b9 ou (od N)) (n+1)) (n+1) qD) gZ 3 m (je (.ptr 0 0) (.int .i64 kk) (.ptr 1 0) (.ptr 2 0) (.int .i64 lv)) ⟨4,[.row (aQ st.aa),.row [.int .i64 t.au,.int .i64 t.cF,.str t.bH,t.ca],.row [.int .i64 0,.int .i64 0,.str [],.aJ],.row [x,y,.int .i64 st.aZ,.vec 3 0 st.aa.length 2 st.aa.length,.int .i64 st.next,.bool (!ok)]],0,md⟩)=
   A5 x y (dZ (dN T) T M kk (t,lv,ok) st) cq
 |0,_,_,_,_,_,_,_,_,_,h,_=>by omega
 |_+1,_,_,_,_,0,_,_,_,_,_,h=>by omega
 |M+1,t,lv,ok,st,m+1,md,pE,h0,hN,hM,hm=>by
   have aN:=aR hx;have aP:=aI hy;rw[ak];have ur:=ay t;have uc:=br t
   cases ok with
   |false=>rw[hU];simp only[A5];exact⟨0,by simp[-af,-aj,-ah,-az,-ck,ur,uc,aN,aP]⟩
   |true=>
     have hc:=pE rfl;have q0:=ee hx hy hc;have qb:=nq hx hy hc (aM L st);have eb:=jH hc.rc;have bl:=jL T (aL st);have bk:=iu (T:=T) (x:=aL st);have ts:(aL st).aD=(aM L st).aD:=by rw[bm hc.rc]
     have bn:=vQ (T:=T) (t:=aM L st) hc.tJ;rw[eb] at bl bk;rw[bK,aS h0] at q0;rw[aS h0,show (bZ T (aM L st)).1.aV=.agg [.str (bZ T (aM L st)).1.n,.str (bZ T (aM L st)).1.k,.int .i64 (bZ T (aM L st)).1.l] from rfl] at qb;have qs:=kK (bZ T (aM L st)).1 bl;generalize bZ T (aM L st)=B at *;obtain⟨o,fd⟩:=B;dsimp only at qb qs bl bk bn
     cases fd with
     |false=>rw[cN eb rfl];simp only[A5];exact⟨0,by simp[-af,-aj,-ah,-az,-ck,ur,uc,q0,qb,qs,aN,aP]⟩
     |true=>
       by_cases c2:kk<o.l
       .rw[cN eb (by simp[c2])];simp only[A5];exact⟨0,by simp[-af,-aj,-ah,-az,-ck,ur,uc,q0,qb,qs,c2,aN,aP]⟩
       by_cases c3:(aA o).1<lv
       .rw[cN eb (by simp[c3])];simp only[A5];exact⟨0,by simp[-af,-aj,-ah,-az,-ck,ur,uc,q0,qb,qs,c2,c3,aN,aP]⟩
       obtain⟨Xc,Xd⟩:=bn rfl;have pC:=bk rfl;have mQ:=de hc.rc pC;have c1:=hc.rG (by omega);have hl:=ct st;have hp:=bN pC;have w1:=wrap_i64 (n:=(st.aZ:Int)+1) (by omega) (by have:=hc.rc.lb;omega);rw[kf eb c2 c3,ts,<-Xc];have qt:=cE N hx hy c1 (aA o).2 Xd (by omega);change (fb N).S _ _=some (.tuple [(dN T (aA o).2 (aq st)).1.1.aV,.int .i64 (dN T (aA o).2 (aq st)).1.2.1],some (gj x y (aq st).aa (dN T (aA o).2 (aq st)).2 (!(dN T (aA o).2 (aq st)).1.2.2))) at qt;rw[show (aq st).aa=st.aa from rfl,an] at qt;have dF:=(j8 T).lv (aA o).2 (aq st);have jT:=dF.len;have tP:(dN T (aA o).2 (aq st)).1.2.2=true->DC T L (dN T (aA o).2 (aq st)).2:=λh=>c1.ok ((j8 T).ok _ _ h)
       have lV:st.aa≠[]->(dN T (aA o).2 (aq st)).2.aa≠[]:=dF.aa;have vr:=ay (dN T (aA o).2 (aq st)).1.1;have vc:=br (dN T (aA o).2 (aq st)).1.1;have qc:=Ab o.n t (dN T (aA o).2 (aq st)).1.1;generalize dN T (aA o).2 (aq st)=r at *;obtain⟨⟨u,Xa,tv⟩,s1⟩:=r;dsimp only at *;have h1:=lV h0;rw[pR h0,dv h0 h1] at qt;obtain⟨cq,ih⟩:=aaH n N hx hy kk M (bM o.n [t,u]) o.l tv s1 m (min md 0) tP h1 (by omega) (by omega) (by omega);rw[show (bM o.n [t,u]).au=2 from rfl,show (bM o.n [t,u]).cF=0 from rfl,show (bM o.n [t,u]).bH=o.n from rfl,gD] at ih;refine⟨cq,Eq.trans ?_ ih⟩;simp[-af,-aj,-ah,-az,-ck,ur,uc,q0,qb,qs,qt,qc,c2,c3,w1,vr,vc,aN,aP]
theorem aaz(n N:Nat){x y:AV}{T:List bj}{L:List Tok}(hx:ba x=some T)(hy:bx y=some L)(kk:Int):∀(M:Nat) (t:Tm) (lv:Int) (ok:Bool) (st:St) (m md:Nat),(ok=true->DC T L st)->st.aa=[]->st.aC.length<=N->st.aC.length<M->M<=m->
 ∃cq,gu 3 1 (bL (aH (aF (b9 ou (od N)) (n+1)) (n+1) qD) gZ 3 m (je (.ptr 0 0) (.int .i64 kk) (.ptr 1 0) (.ptr 2 0) (.int .i64 lv)) ⟨3,[.row [.int .i64 t.au,.int .i64 t.cF,.str t.bH,t.ca],.row [.int .i64 0,.int .i64 0,.str [],.aJ],.row [x,y,.int .i64 st.aZ,.aJ,.int .i64 st.next,.bool (!ok)]],3,md⟩)=
   (if (dZ (dN T) T M kk (t,lv,ok) st).2.aa=[] then El x y (dZ (dN T) T M kk (t,lv,ok) st) cq else A5 x y (dZ (dN T) T M kk (t,lv,ok) st) cq)
 |0,_,_,_,_,_,_,_,_,_,h,_=>by omega
 |_+1,_,_,_,_,0,_,_,_,_,_,h=>by omega
 |M+1,t,lv,ok,st,m+1,md,pE,h0,hN,hM,hm=>by
   have aN:=aR hx;have aP:=aI hy;rw[ak];have ur:=ay t;have uc:=br t
   cases ok with
   |false=>rw[hU];simp only[if_pos h0];simp only[El];exact⟨md,by simp[-af,-aj,-ah,-az,-ck,ur,uc,aN,aP]⟩
   |true=>
     have hc:=pE rfl;have q0:=ee hx hy hc;have qb:=nq hx hy hc (aM L st);have eb:=jH hc.rc;have bl:=jL T (aL st);have bk:=iu (T:=T) (x:=aL st);have ts:(aL st).aD=(aM L st).aD:=by rw[bm hc.rc]
     have bn:=vQ (T:=T) (t:=aM L st) hc.tJ;rw[eb] at bl bk;rw[bK,aU h0] at q0;rw[aU h0,show (bZ T (aM L st)).1.aV=.agg [.str (bZ T (aM L st)).1.n,.str (bZ T (aM L st)).1.k,.int .i64 (bZ T (aM L st)).1.l] from rfl] at qb;have qs:=kK (bZ T (aM L st)).1 bl;generalize bZ T (aM L st)=B at *;obtain⟨o,fd⟩:=B;dsimp only at qb qs bl bk bn
     cases fd with
     |false=>rw[cN eb rfl];simp only[if_pos h0];simp only[El];exact⟨min md 3,by simp[-af,-aj,-ah,-az,-ck,ur,uc,q0,qb,qs,aN,aP]⟩
     |true=>
       by_cases c2:kk<o.l
       .rw[cN eb (by simp[c2])];simp only[if_pos h0];simp only[El];exact⟨min md 3,by simp[-af,-aj,-ah,-az,-ck,ur,uc,q0,qb,qs,c2,aN,aP]⟩
       by_cases c3:(aA o).1<lv
       .rw[cN eb (by simp[c3])];simp only[if_pos h0];simp only[El];exact⟨min md 3,by simp[-af,-aj,-ah,-az,-ck,ur,uc,q0,qb,qs,c2,c3,aN,aP]⟩
       obtain⟨Xc,Xd⟩:=bn rfl;have pC:=bk rfl;have mQ:=de hc.rc pC;have c1:=hc.rG (by omega);have hl:=ct st;have hp:=bN pC;have w1:=wrap_i64 (n:=(st.aZ:Int)+1) (by omega) (by have:=hc.rc.lb;omega);rw[kf eb c2 c3,ts,<-Xc];have qt:=cE N hx hy c1 (aA o).2 Xd (by omega);change (fb N).S _ _=some (.tuple [(dN T (aA o).2 (aq st)).1.1.aV,.int .i64 (dN T (aA o).2 (aq st)).1.2.1],some (gj x y (aq st).aa (dN T (aA o).2 (aq st)).2 (!(dN T (aA o).2 (aq st)).1.2.2))) at qt;rw[show (aq st).aa=st.aa from rfl,an] at qt;have dF:=(j8 T).lv (aA o).2 (aq st);have jT:=dF.len;have tP:(dN T (aA o).2 (aq st)).1.2.2=true->DC T L (dN T (aA o).2 (aq st)).2:=λh=>c1.ok ((j8 T).ok _ _ h)
       have lV:st.aa≠[]->(dN T (aA o).2 (aq st)).2.aa≠[]:=dF.aa;have vr:=ay (dN T (aA o).2 (aq st)).1.1;have vc:=br (dN T (aA o).2 (aq st)).1.1;have qc:=Ab o.n t (dN T (aA o).2 (aq st)).1.1;generalize dN T (aA o).2 (aq st)=r at *;obtain⟨⟨u,Xa,tv⟩,s1⟩:=r;dsimp only at *;by_cases h1:s1.aa=[];rw[p9 h0,h0,cI h1] at qt;obtain⟨cq,ih⟩:=aaz n N hx hy kk M (bM o.n [t,u]) o.l tv s1 m (min md 0) tP h1 (by omega) (by omega) (by omega);rw[show (bM o.n [t,u]).au=2 from rfl,show (bM o.n [t,u]).cF=0 from rfl,show (bM o.n [t,u]).bH=o.n from rfl,gD] at ih
       rotate_left
       rw[p9 h0,h0,ch h1] at qt;obtain⟨cq,ih⟩:=aaH n N hx hy kk M (bM o.n [t,u]) o.l tv s1 m (min md 0) tP h1 (by omega) (by omega) (by omega);rw[show (bM o.n [t,u]).au=2 from rfl,show (bM o.n [t,u]).cF=0 from rfl,show (bM o.n [t,u]).bH=o.n from rfl,gD] at ih;have I1:¬(dZ (dN T) T M kk (bM o.n [t,u],o.l,tv) s1).2.aa=[]:=((mO (j8 T) T M kk (bM o.n [t,u],o.l,tv) s1).1.aa h1)
       simp only[if_neg I1]
       rotate_left
       all_goals
        refine⟨cq,Eq.trans ?_ ih⟩;simp[-af,-aj,-ah,-az,-ck,ur,uc,q0,qb,qs,qt,qc,c2,c3,w1,vr,vc,aN,aP]
theorem aaP(n N:Nat){x y:AV}{T:List bj}{L:List Tok}(hx:ba x=some T)(hy:bx y=some L)(kk:Int):∀(M:Nat) (t:Tm) (lv:Int) (ok:Bool) (st:St) (m md:Nat),(ok=true->DC T L st)->st.aa≠[]->st.aC.length<=N->st.aC.length<M->M<=m->
 ∃cq,gu 4 0 (bL (aH (aF (b9 ou (od N)) (n+1)) (n+1) qD) gZ 4 m (je (.ptr 0 0) (.int .i64 kk) (.ptr 1 0) (.ptr 3 0) (.int .i64 lv)) ⟨5,[.row (aQ st.aa),.row [.int .i64 t.au,.int .i64 t.cF,.str t.bH,t.ca],.dead,.row [.int .i64 0,.int .i64 0,.str [],.aJ],.row [x,y,.int .i64 st.aZ,.vec 4 0 st.aa.length 2 st.aa.length,.int .i64 st.next,.bool (!ok)]],0,md⟩)=
   Bg x y (dZ (dN T) T M kk (t,lv,ok) st) cq
 |0,_,_,_,_,_,_,_,_,_,h,_=>by omega
 |_+1,_,_,_,_,0,_,_,_,_,_,h=>by omega
 |M+1,t,lv,ok,st,m+1,md,pE,h0,hN,hM,hm=>by
   have aN:=aR hx;have aP:=aI hy;rw[ak];have ur:=ay t;have uc:=br t
   cases ok with
   |false=>rw[hU];simp only[Bg];exact⟨0,by simp[-af,-aj,-ah,-az,-ck,ur,uc,aN,aP]⟩
   |true=>
     have hc:=pE rfl;have q0:=ee hx hy hc;have qb:=nq hx hy hc (aM L st);have eb:=jH hc.rc;have bl:=jL T (aL st);have bk:=iu (T:=T) (x:=aL st);have ts:(aL st).aD=(aM L st).aD:=by rw[bm hc.rc]
     have bn:=vQ (T:=T) (t:=aM L st) hc.tJ;rw[eb] at bl bk;rw[bK,aS h0] at q0;rw[aS h0,show (bZ T (aM L st)).1.aV=.agg [.str (bZ T (aM L st)).1.n,.str (bZ T (aM L st)).1.k,.int .i64 (bZ T (aM L st)).1.l] from rfl] at qb;have qs:=kK (bZ T (aM L st)).1 bl;generalize bZ T (aM L st)=B at *;obtain⟨o,fd⟩:=B;dsimp only at qb qs bl bk bn
     cases fd with
     |false=>rw[cN eb rfl];simp only[Bg];exact⟨0,by simp[-af,-aj,-ah,-az,-ck,ur,uc,q0,qb,qs,aN,aP]⟩
     |true=>
       by_cases c2:kk<o.l
       .rw[cN eb (by simp[c2])];simp only[Bg];exact⟨0,by simp[-af,-aj,-ah,-az,-ck,ur,uc,q0,qb,qs,c2,aN,aP]⟩
       by_cases c3:(aA o).1<lv
       .rw[cN eb (by simp[c3])];simp only[Bg];exact⟨0,by simp[-af,-aj,-ah,-az,-ck,ur,uc,q0,qb,qs,c2,c3,aN,aP]⟩
       obtain⟨Xc,Xd⟩:=bn rfl;have pC:=bk rfl;have mQ:=de hc.rc pC;have c1:=hc.rG (by omega);have hl:=ct st;have hp:=bN pC;have w1:=wrap_i64 (n:=(st.aZ:Int)+1) (by omega) (by have:=hc.rc.lb;omega);rw[kf eb c2 c3,ts,<-Xc];have qt:=cE N hx hy c1 (aA o).2 Xd (by omega);change (fb N).S _ _=some (.tuple [(dN T (aA o).2 (aq st)).1.1.aV,.int .i64 (dN T (aA o).2 (aq st)).1.2.1],some (gj x y (aq st).aa (dN T (aA o).2 (aq st)).2 (!(dN T (aA o).2 (aq st)).1.2.2))) at qt;rw[show (aq st).aa=st.aa from rfl,an] at qt;have dF:=(j8 T).lv (aA o).2 (aq st);have jT:=dF.len;have tP:(dN T (aA o).2 (aq st)).1.2.2=true->DC T L (dN T (aA o).2 (aq st)).2:=λh=>c1.ok ((j8 T).ok _ _ h)
       have lV:st.aa≠[]->(dN T (aA o).2 (aq st)).2.aa≠[]:=dF.aa;have vr:=ay (dN T (aA o).2 (aq st)).1.1;have vc:=br (dN T (aA o).2 (aq st)).1.1;have qc:=Ab o.n t (dN T (aA o).2 (aq st)).1.1;generalize dN T (aA o).2 (aq st)=r at *;obtain⟨⟨u,Xa,tv⟩,s1⟩:=r;dsimp only at *;have h1:=lV h0;rw[pR h0,dv h0 h1] at qt;obtain⟨cq,ih⟩:=aaP n N hx hy kk M (bM o.n [t,u]) o.l tv s1 m (min md 0) tP h1 (by omega) (by omega) (by omega);rw[show (bM o.n [t,u]).au=2 from rfl,show (bM o.n [t,u]).cF=0 from rfl,show (bM o.n [t,u]).bH=o.n from rfl,gD] at ih;refine⟨cq,Eq.trans ?_ ih⟩;simp[-af,-aj,-ah,-az,-ck,ur,uc,q0,qb,qs,qt,qc,c2,c3,w1,vr,vc,aN,aP]
theorem afr(n N:Nat){x y:AV}{T:List bj}{L:List Tok}(hx:ba x=some T)(hy:bx y=some L)(kk:Int):∀(M:Nat) (t:Tm) (lv:Int) (ok:Bool) (st:St) (m md:Nat),(ok=true->DC T L st)->st.aa≠[]->st.aC.length<=N->st.aC.length<M->M<=m->
 (∃cq,gu 4 0 (bL (aH (aF (b9 ou (od N)) (n+1)) (n+1) qD) gZ 4 m (je (.ptr 0 0) (.int .i64 kk) (.ptr 1 0) (.ptr 3 0) (.int .i64 lv)) ⟨4,[.row [.int .i64 t.au,.int .i64 t.cF,.str t.bH,t.ca],.row (aQ st.aa),.row [.int .i64 0,.int .i64 0,.str [],.aJ],.row [x,y,.int .i64 st.aZ,.vec 2 0 st.aa.length 2 st.aa.length,.int .i64 st.next,.bool (!ok)]],4,md⟩)=
  Cy x y ((t,lv,ok),st) cq/\dZ (dN T) T M kk (t,lv,ok) st=((t,lv,ok),st))\/∃cq,gu 4 0 (bL (aH (aF (b9 ou (od N)) (n+1)) (n+1) qD) gZ 4 m (je (.ptr 0 0) (.int .i64 kk) (.ptr 1 0) (.ptr 3 0) (.int .i64 lv)) ⟨4,[.row [.int .i64 t.au,.int .i64 t.cF,.str t.bH,t.ca],.row (aQ st.aa),.row [.int .i64 0,.int .i64 0,.str [],.aJ],.row [x,y,.int .i64 st.aZ,.vec 2 0 st.aa.length 2 st.aa.length,.int .i64 st.next,.bool (!ok)]],4,md⟩)=
  Bg x y (dZ (dN T) T M kk (t,lv,ok) st) cq
 |0,_,_,_,_,_,_,_,_,_,h,_=>by omega
 |_+1,_,_,_,_,0,_,_,_,_,_,h=>by omega
 |M+1,t,lv,ok,st,m+1,md,pE,h0,hN,hM,hm=>by
   have aN:=aR hx;have aP:=aI hy;rw[ak];have ur:=ay t;have uc:=br t
   cases ok with
   |false=>rw[hU];left;simp only[Cy];exact⟨md,by simp[-af,-aj,-ah,-az,-ck,ur,uc,aN,aP],trivial⟩
   |true=>
     have hc:=pE rfl;have q0:=ee hx hy hc;have qb:=nq hx hy hc (aM L st);have eb:=jH hc.rc;have bl:=jL T (aL st);have bk:=iu (T:=T) (x:=aL st);have ts:(aL st).aD=(aM L st).aD:=by rw[bm hc.rc]
     have bn:=vQ (T:=T) (t:=aM L st) hc.tJ;rw[eb] at bl bk;rw[bK,aS h0] at q0;rw[aS h0,show (bZ T (aM L st)).1.aV=.agg [.str (bZ T (aM L st)).1.n,.str (bZ T (aM L st)).1.k,.int .i64 (bZ T (aM L st)).1.l] from rfl] at qb;have qs:=kK (bZ T (aM L st)).1 bl;generalize bZ T (aM L st)=B at *;obtain⟨o,fd⟩:=B;dsimp only at qb qs bl bk bn
     cases fd with
     |false=>rw[cN eb rfl];left;simp only[Cy];exact⟨min md 4,by simp[-af,-aj,-ah,-az,-ck,ur,uc,q0,qb,qs,aN,aP],trivial⟩
     |true=>
       by_cases c2:kk<o.l
       .rw[cN eb (by simp[c2])];left;simp only[Cy];exact⟨min md 4,by simp[-af,-aj,-ah,-az,-ck,ur,uc,q0,qb,qs,c2,aN,aP],trivial⟩
       by_cases c3:(aA o).1<lv
       .rw[cN eb (by simp[c3])];left;simp only[Cy];exact⟨min md 4,by simp[-af,-aj,-ah,-az,-ck,ur,uc,q0,qb,qs,c2,c3,aN,aP],trivial⟩
       obtain⟨Xc,Xd⟩:=bn rfl;have pC:=bk rfl;have mQ:=de hc.rc pC;have c1:=hc.rG (by omega);have hl:=ct st;have hp:=bN pC;have w1:=wrap_i64 (n:=(st.aZ:Int)+1) (by omega) (by have:=hc.rc.lb;omega);rw[kf eb c2 c3,ts,<-Xc];have qt:=cE N hx hy c1 (aA o).2 Xd (by omega);change (fb N).S _ _=some (.tuple [(dN T (aA o).2 (aq st)).1.1.aV,.int .i64 (dN T (aA o).2 (aq st)).1.2.1],some (gj x y (aq st).aa (dN T (aA o).2 (aq st)).2 (!(dN T (aA o).2 (aq st)).1.2.2))) at qt;rw[show (aq st).aa=st.aa from rfl,an] at qt;have dF:=(j8 T).lv (aA o).2 (aq st);have jT:=dF.len;have tP:(dN T (aA o).2 (aq st)).1.2.2=true->DC T L (dN T (aA o).2 (aq st)).2:=λh=>c1.ok ((j8 T).ok _ _ h)
       have lV:st.aa≠[]->(dN T (aA o).2 (aq st)).2.aa≠[]:=dF.aa;have vr:=ay (dN T (aA o).2 (aq st)).1.1;have vc:=br (dN T (aA o).2 (aq st)).1.1;have qc:=Ab o.n t (dN T (aA o).2 (aq st)).1.1;generalize dN T (aA o).2 (aq st)=r at *;obtain⟨⟨u,Xa,tv⟩,s1⟩:=r;dsimp only at *;have h1:=lV h0;rw[pR h0,dv h0 h1] at qt;obtain⟨cq,ih⟩:=aaP n N hx hy kk M (bM o.n [t,u]) o.l tv s1 m (min md 0) tP h1 (by omega) (by omega) (by omega);rw[show (bM o.n [t,u]).au=2 from rfl,show (bM o.n [t,u]).cF=0 from rfl,show (bM o.n [t,u]).bH=o.n from rfl,gD] at ih;right;refine⟨cq,Eq.trans ?_ ih⟩;simp[-af,-aj,-ah,-az,-ck,ur,uc,q0,qb,qs,qt,qc,c2,c3,w1,vr,vc,aN,aP]
theorem aaB(n N:Nat){x y:AV}{T:List bj}{L:List Tok}(hx:ba x=some T)(hy:bx y=some L)(kk:Int):∀(M:Nat) (t:Tm) (lv:Int) (ok:Bool) (st:St) (m md:Nat),(ok=true->DC T L st)->st.aa≠[]->st.aC.length<=N->st.aC.length<M->M<=m->
 ∃cq,gu 5 0 (bL (aH (aF (b9 ou (od N)) (n+1)) (n+1) qD) gZ 5 m (je (.ptr 0 0) (.int .i64 kk) (.ptr 2 0) (.ptr 4 0) (.int .i64 lv)) ⟨6,[.row (aQ st.aa),.row [.int .i64 t.au,.int .i64 t.cF,.str t.bH,t.ca],.dead,.row [.int .i64 0,.int .i64 0,.str [],.aJ],.dead,.row [x,y,.int .i64 st.aZ,.vec 5 0 st.aa.length 2 st.aa.length,.int .i64 st.next,.bool (!ok)]],0,md⟩)=
   Be x y (dZ (dN T) T M kk (t,lv,ok) st) cq
 |0,_,_,_,_,_,_,_,_,_,h,_=>by omega
 |_+1,_,_,_,_,0,_,_,_,_,_,h=>by omega
 |M+1,t,lv,ok,st,m+1,md,pE,h0,hN,hM,hm=>by
   have aN:=aR hx;have aP:=aI hy;rw[ak];have ur:=ay t;have uc:=br t
   cases ok with
   |false=>rw[hU];simp only[Be];exact⟨0,by simp[-af,-aj,-ah,-az,-ck,ur,uc,aN,aP]⟩
   |true=>
     have hc:=pE rfl;have q0:=ee hx hy hc;have qb:=nq hx hy hc (aM L st);have eb:=jH hc.rc;have bl:=jL T (aL st);have bk:=iu (T:=T) (x:=aL st);have ts:(aL st).aD=(aM L st).aD:=by rw[bm hc.rc]
     have bn:=vQ (T:=T) (t:=aM L st) hc.tJ;rw[eb] at bl bk;rw[bK,aS h0] at q0;rw[aS h0,show (bZ T (aM L st)).1.aV=.agg [.str (bZ T (aM L st)).1.n,.str (bZ T (aM L st)).1.k,.int .i64 (bZ T (aM L st)).1.l] from rfl] at qb;have qs:=kK (bZ T (aM L st)).1 bl;generalize bZ T (aM L st)=B at *;obtain⟨o,fd⟩:=B;dsimp only at qb qs bl bk bn
     cases fd with
     |false=>rw[cN eb rfl];simp only[Be];exact⟨0,by simp[-af,-aj,-ah,-az,-ck,ur,uc,q0,qb,qs,aN,aP]⟩
     |true=>
       by_cases c2:kk<o.l
       .rw[cN eb (by simp[c2])];simp only[Be];exact⟨0,by simp[-af,-aj,-ah,-az,-ck,ur,uc,q0,qb,qs,c2,aN,aP]⟩
       by_cases c3:(aA o).1<lv
       .rw[cN eb (by simp[c3])];simp only[Be];exact⟨0,by simp[-af,-aj,-ah,-az,-ck,ur,uc,q0,qb,qs,c2,c3,aN,aP]⟩
       obtain⟨Xc,Xd⟩:=bn rfl;have pC:=bk rfl;have mQ:=de hc.rc pC;have c1:=hc.rG (by omega);have hl:=ct st;have hp:=bN pC;have w1:=wrap_i64 (n:=(st.aZ:Int)+1) (by omega) (by have:=hc.rc.lb;omega);rw[kf eb c2 c3,ts,<-Xc];have qt:=cE N hx hy c1 (aA o).2 Xd (by omega);change (fb N).S _ _=some (.tuple [(dN T (aA o).2 (aq st)).1.1.aV,.int .i64 (dN T (aA o).2 (aq st)).1.2.1],some (gj x y (aq st).aa (dN T (aA o).2 (aq st)).2 (!(dN T (aA o).2 (aq st)).1.2.2))) at qt;rw[show (aq st).aa=st.aa from rfl,an] at qt;have dF:=(j8 T).lv (aA o).2 (aq st);have jT:=dF.len;have tP:(dN T (aA o).2 (aq st)).1.2.2=true->DC T L (dN T (aA o).2 (aq st)).2:=λh=>c1.ok ((j8 T).ok _ _ h)
       have lV:st.aa≠[]->(dN T (aA o).2 (aq st)).2.aa≠[]:=dF.aa;have vr:=ay (dN T (aA o).2 (aq st)).1.1;have vc:=br (dN T (aA o).2 (aq st)).1.1;have qc:=Ab o.n t (dN T (aA o).2 (aq st)).1.1;generalize dN T (aA o).2 (aq st)=r at *;obtain⟨⟨u,Xa,tv⟩,s1⟩:=r;dsimp only at *;have h1:=lV h0;rw[pR h0,dv h0 h1] at qt;obtain⟨cq,ih⟩:=aaB n N hx hy kk M (bM o.n [t,u]) o.l tv s1 m (min md 0) tP h1 (by omega) (by omega) (by omega);rw[show (bM o.n [t,u]).au=2 from rfl,show (bM o.n [t,u]).cF=0 from rfl,show (bM o.n [t,u]).bH=o.n from rfl,gD] at ih;refine⟨cq,Eq.trans ?_ ih⟩;simp[-af,-aj,-ah,-az,-ck,ur,uc,q0,qb,qs,qt,qc,c2,c3,w1,vr,vc,aN,aP]
theorem agQ(n N:Nat){x y:AV}{T:List bj}{L:List Tok}(hx:ba x=some T)(hy:bx y=some L)(kk:Int):∀(M:Nat) (t:Tm) (lv:Int) (ok:Bool) (st:St) (m md:Nat),(ok=true->DC T L st)->st.aa≠[]->st.aC.length<=N->st.aC.length<M->M<=m->
 (∃cq,gu 5 0 (bL (aH (aF (b9 ou (od N)) (n+1)) (n+1) qD) gZ 5 m (je (.ptr 0 0) (.int .i64 kk) (.ptr 2 0) (.ptr 4 0) (.int .i64 lv)) ⟨5,[.row [.int .i64 t.au,.int .i64 t.cF,.str t.bH,t.ca],.row (aQ st.aa),.row [.int .i64 0,.int .i64 0,.str [],.aJ],.dead,.row [x,y,.int .i64 st.aZ,.vec 3 0 st.aa.length 2 st.aa.length,.int .i64 st.next,.bool (!ok)]],5,md⟩)=
  DY x y ((t,lv,ok),st) cq/\dZ (dN T) T M kk (t,lv,ok) st=((t,lv,ok),st))\/∃cq,gu 5 0 (bL (aH (aF (b9 ou (od N)) (n+1)) (n+1) qD) gZ 5 m (je (.ptr 0 0) (.int .i64 kk) (.ptr 2 0) (.ptr 4 0) (.int .i64 lv)) ⟨5,[.row [.int .i64 t.au,.int .i64 t.cF,.str t.bH,t.ca],.row (aQ st.aa),.row [.int .i64 0,.int .i64 0,.str [],.aJ],.dead,.row [x,y,.int .i64 st.aZ,.vec 3 0 st.aa.length 2 st.aa.length,.int .i64 st.next,.bool (!ok)]],5,md⟩)=
  Be x y (dZ (dN T) T M kk (t,lv,ok) st) cq
 |0,_,_,_,_,_,_,_,_,_,h,_=>by omega
 |_+1,_,_,_,_,0,_,_,_,_,_,h=>by omega
 |M+1,t,lv,ok,st,m+1,md,pE,h0,hN,hM,hm=>by
   have aN:=aR hx;have aP:=aI hy;rw[ak];have ur:=ay t;have uc:=br t
   cases ok with
   |false=>rw[hU];left;simp only[DY];exact⟨md,by simp[-af,-aj,-ah,-az,-ck,ur,uc,aN,aP],trivial⟩
   |true=>
     have hc:=pE rfl;have q0:=ee hx hy hc;have qb:=nq hx hy hc (aM L st);have eb:=jH hc.rc;have bl:=jL T (aL st);have bk:=iu (T:=T) (x:=aL st);have ts:(aL st).aD=(aM L st).aD:=by rw[bm hc.rc]
     have bn:=vQ (T:=T) (t:=aM L st) hc.tJ;rw[eb] at bl bk;rw[bK,aS h0] at q0;rw[aS h0,show (bZ T (aM L st)).1.aV=.agg [.str (bZ T (aM L st)).1.n,.str (bZ T (aM L st)).1.k,.int .i64 (bZ T (aM L st)).1.l] from rfl] at qb;have qs:=kK (bZ T (aM L st)).1 bl;generalize bZ T (aM L st)=B at *;obtain⟨o,fd⟩:=B;dsimp only at qb qs bl bk bn
     cases fd with
     |false=>rw[cN eb rfl];left;simp only[DY];exact⟨min md 5,by simp[-af,-aj,-ah,-az,-ck,ur,uc,q0,qb,qs,aN,aP],trivial⟩
     |true=>
       by_cases c2:kk<o.l
       .rw[cN eb (by simp[c2])];left;simp only[DY];exact⟨min md 5,by simp[-af,-aj,-ah,-az,-ck,ur,uc,q0,qb,qs,c2,aN,aP],trivial⟩
       by_cases c3:(aA o).1<lv
       .rw[cN eb (by simp[c3])];left;simp only[DY];exact⟨min md 5,by simp[-af,-aj,-ah,-az,-ck,ur,uc,q0,qb,qs,c2,c3,aN,aP],trivial⟩
       obtain⟨Xc,Xd⟩:=bn rfl;have pC:=bk rfl;have mQ:=de hc.rc pC;have c1:=hc.rG (by omega);have hl:=ct st;have hp:=bN pC;have w1:=wrap_i64 (n:=(st.aZ:Int)+1) (by omega) (by have:=hc.rc.lb;omega);rw[kf eb c2 c3,ts,<-Xc];have qt:=cE N hx hy c1 (aA o).2 Xd (by omega);change (fb N).S _ _=some (.tuple [(dN T (aA o).2 (aq st)).1.1.aV,.int .i64 (dN T (aA o).2 (aq st)).1.2.1],some (gj x y (aq st).aa (dN T (aA o).2 (aq st)).2 (!(dN T (aA o).2 (aq st)).1.2.2))) at qt;rw[show (aq st).aa=st.aa from rfl,an] at qt;have dF:=(j8 T).lv (aA o).2 (aq st);have jT:=dF.len;have tP:(dN T (aA o).2 (aq st)).1.2.2=true->DC T L (dN T (aA o).2 (aq st)).2:=λh=>c1.ok ((j8 T).ok _ _ h)
       have lV:st.aa≠[]->(dN T (aA o).2 (aq st)).2.aa≠[]:=dF.aa;have vr:=ay (dN T (aA o).2 (aq st)).1.1;have vc:=br (dN T (aA o).2 (aq st)).1.1;have qc:=Ab o.n t (dN T (aA o).2 (aq st)).1.1;generalize dN T (aA o).2 (aq st)=r at *;obtain⟨⟨u,Xa,tv⟩,s1⟩:=r;dsimp only at *;have h1:=lV h0;rw[pR h0,dv h0 h1] at qt;obtain⟨cq,ih⟩:=aaB n N hx hy kk M (bM o.n [t,u]) o.l tv s1 m (min md 0) tP h1 (by omega) (by omega) (by omega);rw[show (bM o.n [t,u]).au=2 from rfl,show (bM o.n [t,u]).cF=0 from rfl,show (bM o.n [t,u]).bH=o.n from rfl,gD] at ih;right;refine⟨cq,Eq.trans ?_ ih⟩;simp[-af,-aj,-ah,-az,-ck,ur,uc,q0,qb,qs,qt,qc,c2,c3,w1,vr,vc,aN,aP]
end
section
structure DG(a b:PR×St):Prop where
 ok:a.1.2.2=b.1.2.2
 st:a.2=b.2
 val:b.1.2.2=true->a.1=b.1
theorem DG.of{a b:PR×St}(h:a=b):DG a b:=⟨by rw[h],by rw[h],λ_=>by rw[h]⟩
theorem PN{r:PR}(h:r.2.2=true):(cP r).1=r.1/\(cP r).2=r.2.1:=by unfold cP;rw[h];exact⟨rfl,rfl⟩
theorem KT{T:List bj}{L:List Tok}{st:St}(hc:DC T L st)(n:Int):DG (eo T L n st) (dp T n st):=by
 have ks:(aL st).au=(aM L st).au:=by rw[bm hc.rc]
 have ts:(aL st).aD=(aM L st).aD:=by rw[bm hc.rc]
 have us:(aL st).cF=(aM L st).cF:=by rw[bm hc.rc]
 have os:(aL st).jq=(aM L st).jq:=by rw[bm hc.rc]
 unfold eo dp gI;rw[ks,ts,us,os];by_cases k4:(aM L st).au=4
 .rw[if_pos k4,if_pos k4];exact .of rfl
 rw[if_neg k4,if_neg k4];by_cases k3:(aM L st).au=3
 .rw[if_pos k3,if_pos k3];exact .of rfl
 rw[if_neg k3,if_neg k3];have nk:fE (aL st)=(decide ((aM L st).au=1)||decide ((aM L st).au=2)):=by unfold fE;rw[ks]
 by_cases k5:(aM L st).au=5
 .rw[if_pos k5]
  have key:DG ((((cP (fj T (aM L st).aD (aq st)).1).1,(cP (fj T (aM L st).aD (aq st)).1).2,(fj T (aM L st).aD (aq st)).1.2.2),(fj T (aM L st).aD (aq st)).2):PR×St) (fj T (aM L st).aD (aq st)):=by refine⟨rfl,rfl,λh=>?_⟩;obtain⟨e1,e2⟩:=PN h;dsimp only;rw[e1,e2]
  generalize hX:((((cP (fj T (aM L st).aD (aq st)).1).1,(cP (fj T (aM L st).aD (aq st)).1).2,(fj T (aM L st).aD (aq st)).1.2.2),(fj T (aM L st).aD (aq st)).2):PR×St)=X at *;unfold fj at key;by_cases t1:(aM L st).aD=[40]
  .rw[if_pos t1] at key;rw[if_pos ⟨k5,t1⟩];exact key
  rw[if_neg t1] at key;rw[if_neg (λh=>t1 h.2)];by_cases t3:(aM L st).aD=[123]
  .rw[if_pos t3] at key;rw[if_neg (λh=>absurd (t3.symm.trans h.2) (by decide)),if_pos ⟨k5,t3⟩];exact key
  rw[if_neg t3] at key;by_cases t2:(aM L st).aD=[91]
  .rw[if_pos t2] at key;rw[if_pos ⟨k5,t2⟩,OP Te];exact key
  rw[if_neg t2] at key;rw[if_neg (λh=>t2 h.2),if_neg (λh=>t3 h.2),if_pos (by rw[nk,k5];rfl)];exact key
 rw[if_neg k5,if_neg (show ¬((aM L st).au=5/\(aM L st).aD=[40]) from λh=>k5 h.1),if_neg (show ¬((aM L st).au=5/\(aM L st).aD=[91]) from λh=>k5 h.1),if_neg (show ¬((aM L st).au=5/\(aM L st).aD=[123]) from λh=>k5 h.1)];by_cases kn:(aM L st).au=1\/(aM L st).au=2
 .have nk2:fE (aL st)=true:=by rw[nk];simpa using kn
  have k0:(aL st).au≠0:=by rw[ks];omega
  have mQ:=de hc.rc k0;have c1:=hc.rG (by omega);rw[if_pos kn,if_neg (show ¬(!fE (aL st))=true by rw[nk2];decide)]
  cases ko:(aM L st).jq with
  |true=>
    rw[if_pos rfl,if_pos rfl];have E1:=gN T (aq (aq st));unfold K7 pb;rw[CS (by have h1:=ct (aq st);have h2:=ct st;omega),E1.1,E1.2.1]
    cases bV:(ar T (aq (aq st))).1.2 with
    |false=>rw[if_neg (by simp),if_neg (by simp)];exact⟨rfl,rfl,λh=>by cases h⟩
    |true=>
      rw[if_pos rfl,if_pos rfl,E1.2.2 bV]
      cases hb:(ax [41] (ar T (aq (aq st))).2).1 with
      |false=>rw[if_neg (by simp)];exact⟨rfl,rfl,λh=>by cases h⟩
      |true=>rw[if_pos rfl];exact⟨rfl,rfl,λ_=>rfl⟩
  |false=>
    rw[if_neg (by simp),if_neg (by simp)];have SR:(aL (aq st)).au=(aM L (aq st)).au:=by rw[bm c1.rc]
    have us1:(aL (aq st)).cF=(aM L (aq st)).cF:=by rw[bm c1.rc]
    unfold gd;by_cases hd:Cp L (aM L st) (aq st)
    .obtain⟨d1,d2,d3,d4⟩:=id hd;have xF:st.aZ+1<L.length:=de c1.rc (by rw[SR,d3];decide);rw[if_pos hd,if_pos ⟨d1,d2,SR.trans d3,by rw[IH hc.rc xF,d4];simp⟩,us1];exact .of rfl
    .rw[if_neg hd,if_neg (show ¬((aM L st).au=1/\(aM L st).aD=[45]/\(aL (aq st)).au=4/\(aL st).adj=true) from λh=>hd ⟨h.1,h.2.1,SR.symm.trans h.2.2.1,by
      have xF:st.aZ+1<L.length:=de c1.rc (by rw[h.2.2.1];decide);have:=h.2.2.2;rw[IH hc.rc xF] at this;exact of_decide_eq_true this⟩)]
     unfold dt zJ;rw[ks,ts];by_cases k1:(aM L st).au=1
     .have k2:¬(aM L st).au=2:=by omega
      rw[decide_eq_true k1,Bool.true_and,if_neg (show ¬(aM L st).au=2 from k2)]
      cases hp:((bd T (aM L st).aD true).2&&decide ((bd T (aM L st).aD true).1.l<=n)&&iB T (aq st)) with
      |true=>rw[if_pos rfl,if_pos rfl];refine⟨rfl,rfl,λh=>?_⟩;dsimp only at h|-;rw[(PN h).1]
      |false=>
        simp only[Bool.false_eq_true,if_false,if_pos k1];rw[R7 hc.tJ];show DG _ ((gk (aM L st).aD,KD T (aM L st).aD,decide (KD T (aM L st).aD<=n)),aq st);unfold KD;by_cases hl:max (bd T (aM L st).aD false).1.l (bd T (aM L st).aD true).1.l<=n
        .rw[if_pos hl,decide_eq_true hl];exact .of rfl
        .rw[if_neg hl,decide_eq_false hl];exact⟨rfl,rfl,λh=>by cases h⟩
     .have k2:(aM L st).au=2:=by omega
      simp only[decide_eq_false k1,Bool.false_and,if_neg k1,if_pos k2,Bool.false_eq_true,if_false];exact .of rfl
 .rw[if_neg kn,if_pos (by rw[nk];simpa using kn)];exact .of rfl
def Mw(T:List bj)(L:List Tok)(n:Int)(st:St):PR×St:=dZ (dN T) T (st.aC.length+1) n (eo T L n st).1 (eo T L n st).2
theorem VB{T:List bj}{L:List Tok}{st:St}(hc:DC T L st)(n:Int):DG (Mw T L n st) (ae T n st):=by
 have h:=KT hc n;rw[Jg];unfold Mw;rw[h.st]
 cases bV:(dp T n st).1.2.2 with
 |false=>
   have e1:(eo T L n st).1=((eo T L n st).1.1,(eo T L n st).1.2.1,false):=by have:=h.ok;rw[bV] at this;rw[<-this]
   have e2:(dp T n st).1=((dp T n st).1.1,(dp T n st).1.2.1,false):=by rw[<-bV]
   rw[e1,e2,hU,hU];exact⟨rfl,rfl,λh=>by cases h⟩
 |true=>rw[h.val bV];obtain⟨a,b,c⟩:=P8 T (st.aC.length+1) n (dp T n st).1 (dp T n st).2;exact⟨a,b,c⟩
theorem WC{a b:PR×St}(h:DG a b):cP b.1=if a.1.2.2 then (a.1.1,a.1.2.1) else (lh,0):=by
 unfold cP;rw[h.ok]
 cases hb:b.1.2.2 with
 |true=>rw[h.val hb]
 |false=>rfl
theorem MN(N:Nat){x y:AV}{T:List bj}{L:List Tok}{st:St}(hx:ba x=some T)(hy:bx y=some L)(h:DC T L st)(n:Int)(hn:¬st.aC.length<N):(fb N).S [.ptr 0 0,.int .i64 n] (gg x y st false)=none:=by simp only[fb,kE hx hy h];exact if_neg (λg=>hn g.2)
attribute [local simp] fX fU fY fR eO eN fP fS fT eQ eR fQ lK lQ lS lO lM lT fc fe Laid.aK db dc bf aaq bc acw c68 gZ BT Nu ou od z8 nS cM cV AB jQ
theorem Rf(N:Nat){x y:AV}{T:List bj}{L:List Tok}{st:St}(hx:ba x=some T)(hy:bx y=some L)(hc:DC T L st)(hN:st.aC.length=N)(hE:cT Tryz.prog cX (b9 ou (od N)))(n:Int)(SO:0<=n):
 dA Tryz.prog cX 68 [.ptr 0 0,.int .i64 n] (gg x y st false) (.tuple [(cP (ae T n st).1).1.aV,.int .i64 (cP (ae T n st).1).2]) (some (gj x y st.aa (ae T n st).2 (!(ae T n st).1.2.2))):=by
 have tG:=VB hc n;rw[WC tG,<-tG.ok,<-tG.st];unfold Mw;have aN:=aR hx;have aP:=aI hy;have q:=NI N hx hy hc n SO (by omega);have qn:=MN N hx hy hc n (by omega);have hl:st.aC.length<=100000:=by rw[hc.rc.aC,List.length_drop,eZ];have:=hc.rc.lb;omega
 have zd:=KT hc n;have dF:=rT (a6 T) T (st.aC.length+1) n st;change Lv st (dp T n st).2/\((dp T n st).1.2.2=true->Ok st (dp T n st).2) at dF;rw[<-zd.st,<-zd.ok] at dF;have jT:=dF.1.len;have tP:(eo T L n st).1.2.2=true->DC T L (eo T L n st).2:=λh=>hc.ok (dF.2 h)
 have lV:st.aa≠[]->(eo T L n st).2.aa≠[]:=dF.1.aa;rw[an] at q;clear tG zd;generalize eo T L n st=P at *;obtain⟨⟨t,lv,ok⟩,s1⟩:=P;dsimp only at q jT tP lV|-;have ur:=ay t;have uc:=br t;have I1:=(mO (j8 T) T (st.aC.length+1) n (t,lv,ok) s1).1.aa;have lC:=afr 199998 N hx hy n (st.aC.length+1) t lv ok s1 199999 0 tP;have lG:=agQ 199998 N hx hy n (st.aC.length+1) t lv ok s1 199999 0 tP;have lA:=aaz 199998 N hx hy n (st.aC.length+1) t lv ok s1 199999 0 tP;generalize dZ (dN T) T (st.aC.length+1) n (t,lv,ok) s1=Q at *;obtain⟨⟨u,lw,okk⟩,s2⟩:=Q;dsimp only at I1 lA lC lG|-;have vr:=ay u;have vc:=br u;by_cases h0:st.aa=[]
 .rw[aU h0,h0] at q;rw[aU h0] at qn;by_cases h1:s1.aa=[]
  .rw[cI h1] at q;obtain⟨cq,lp⟩:=lA h1 (by omega) (by omega) (by omega);by_cases h2:s2.aa=[]
   .rw[if_pos h2] at lp
    cases okk with
    |true=>rw[if_pos rfl];simp only[El,gZ,je,ou,od] at lp;refine cp (n:=200000) hE aN aP h0 h2 ?_ (aO _ _) rfl;rw[an];simp[qn,ur,uc,vr,vc,lp,q,-af,-aj,-ah,-az,-ck,aN,aP]
    |false=>rw[if_neg (by simp)];simp only[El,gZ,je,ou,od] at lp;refine cp (n:=200000) hE aN aP h0 h2 ?_ (aO _ _) rfl;rw[dJ];simp[qn,ur,uc,vr,vc,lp,q,-af,-aj,-ah,-az,-ck,aN,aP]
   .rw[if_neg h2] at lp
    cases okk with
    |true=>rw[if_pos rfl];simp only[A5,gZ,je,ou,od] at lp;refine dh (n:=200000) hE aN aP 3 (by decide) h0 h2 ?_ (aO _ _) rfl;rw[an];simp[qn,ur,uc,vr,vc,lp,q,-af,-aj,-ah,-az,-ck,aN,aP]
    |false=>rw[if_neg (by simp)];simp only[A5,gZ,je,ou,od] at lp;refine dh (n:=200000) hE aN aP 3 (by decide) h0 h2 ?_ (aO _ _) rfl;rw[dJ];simp[qn,ur,uc,vr,vc,lp,q,-af,-aj,-ah,-az,-ck,aN,aP]
  .rw[ch h1] at q;have h2:=I1 h1;rcases lC h1 (by omega) (by omega) (by omega) with⟨cq,lp,eq⟩|⟨cq,lp⟩
   .cases eq
    cases ok with
    |true=>simp only[Bool.not_true] at lp q;rw[if_pos rfl];simp only[Cy,gZ,je,ou,od] at lp;refine dh (n:=200000) hE aN aP 2 (by decide) h0 h1 ?_ (aO _ _) rfl;rw[an];simp[qn,ur,uc,vr,vc,lp,q,-af,-aj,-ah,-az,-ck,aN,aP]
    |false=>simp only[Bool.not_false] at lp q;rw[if_neg (by simp)];simp only[Cy,gZ,je,ou,od] at lp;refine dh (n:=200000) hE aN aP 2 (by decide) h0 h1 ?_ (aO _ _) rfl;rw[dJ];simp[qn,ur,uc,vr,vc,lp,q,-af,-aj,-ah,-az,-ck,aN,aP]
   .cases okk with
    |true=>rw[if_pos rfl];simp only[Bg,gZ,je,ou,od] at lp;refine dh (n:=200000) hE aN aP 4 (by decide) h0 h2 ?_ (aO _ _) rfl;rw[an];simp[qn,ur,uc,vr,vc,lp,q,-af,-aj,-ah,-az,-ck,aN,aP]
    |false=>rw[if_neg (by simp)];simp only[Bg,gZ,je,ou,od] at lp;refine dh (n:=200000) hE aN aP 4 (by decide) h0 h2 ?_ (aO _ _) rfl;rw[dJ];simp[qn,ur,uc,vr,vc,lp,q,-af,-aj,-ah,-az,-ck,aN,aP]
 .have h1:=lV h0;rw[aS h0,dv h0 h1] at q;rw[aS h0] at qn;have h2:=I1 h1;rcases lG h1 (by omega) (by omega) (by omega) with⟨cq,lp,eq⟩|⟨cq,lp⟩
  .cases eq
   cases ok with
   |true=>simp only[Bool.not_true] at lp q;rw[if_pos rfl];simp only[DY,gZ,je,ou,od] at lp;refine cd (n:=200000) hE aN aP 3 (by decide) h0 h1 ?_ (aO _ _) rfl;rw[an];simp[qn,ur,uc,vr,vc,lp,q,-af,-aj,-ah,-az,-ck,aN,aP]
   |false=>simp only[Bool.not_false] at lp q;rw[if_neg (by simp)];simp only[DY,gZ,je,ou,od] at lp;refine cd (n:=200000) hE aN aP 3 (by decide) h0 h1 ?_ (aO _ _) rfl;rw[dJ];simp[qn,ur,uc,vr,vc,lp,q,-af,-aj,-ah,-az,-ck,aN,aP]
  .cases okk with
   |true=>rw[if_pos rfl];simp only[Be,gZ,je,ou,od] at lp;refine cd (n:=200000) hE aN aP 5 (by decide) h0 h2 ?_ (aO _ _) rfl;rw[an];simp[qn,ur,uc,vr,vc,lp,q,-af,-aj,-ah,-az,-ck,aN,aP]
   |false=>rw[if_neg (by simp)];simp only[Be,gZ,je,ou,od] at lp;refine cd (n:=200000) hE aN aP 5 (by decide) h0 h2 ?_ (aO _ _) rfl;rw[dJ];simp[qn,ur,uc,vr,vc,lp,q,-af,-aj,-ah,-az,-ck,aN,aP]
theorem Ho(N:Nat)(hN:cC Tryz.prog cX (fb N)):cC Tryz.prog cX (fb (N+1)):=λag os v r hv=>by
 unfold fb at hv;dsimp only at hv;split at hv
 .rename_i os n;split at hv
  .rename_i R hR;split at hv
   .rename_i hn;cases hv;obtain⟨hx,hy,rfl,h⟩:=jP hR;rw[jQ];have hE:cT Tryz.prog cX (b9 ou (od N)):=dK (by simp[ou,CN.lift,o3.lift]) (by simp[od,hN,pj,FN,NZ N hN]);by_cases cR:R.st.aC.length<N
    .exact hN _ _ _ _ (cE N hx hy h n hn.1 cR)
    .exact Rf N hx hy h (by omega) hE n hn.1
   .cases hv
  .cases hv
 .cases hv
theorem uo:∀N,cC Tryz.prog cX (fb N)
 |0=>λag os v r hv=>by
   unfold fb at hv;dsimp only at hv;split at hv
   .split at hv
    .split at hv
     .rename_i h;exact absurd h.2 (by omega)
     .cases hv
    .cases hv
   .cases hv
 |N+1=>Ho N (uo N)
end
section
def n9(t:Tok):Bool:=wg ⟨t.au,t.aD,t.cF,t.jq,false⟩&&(decide (0<=t.aZ)&&decide (t.aZ<1000000))
theorem ZU(c:UInt8)(r:List UInt8)(hc:c≠45):0<=(jf (c::r)).1/\(jf (c::r)).1<9223372036854775808:=by
 rw[Dq c r hc];split
 .exact⟨by decide,by decide⟩
 .rename_i hd;have hd:eh (c::r)=true:=by simpa using hd
  have e:=DT (c::r) 0 hd (by omega);rw[show (((0:Nat):Int))=0 by rfl] at e;rw[e];by_cases hv:nT 0 (c::r)<=9223372036854775807
  .rw[if_pos hv];exact⟨by dsimp only;omega,by dsimp only;omega⟩
  .rw[if_neg hv];exact⟨by decide,by decide⟩
theorem one_num(l:List UInt8):0<=(jg l).1.cF/\(jg l).1.cF<9223372036854775808:=by
 unfold jg;split
 .exact (by decide:(0:Int)<=0/\(0:Int)<9223372036854775808)
 rename_i c r;split
 .exact (by decide:(0:Int)<=0/\(0:Int)<9223372036854775808)
 split
 .exact (by decide:(0:Int)<=0/\(0:Int)<9223372036854775808)
 split
 .rename_i hd;have h1:=pz (r:=r) hd;have hc:c≠45:=λe=>by rw[e] at hd;exact absurd hd (by decide)
  obtain⟨k,hk⟩:∃k,runN eA (c::r)=k+1:=⟨runN eA (c::r)-1,by omega⟩
  dsimp only;rw[hk,List.take_succ_cons];exact ZU c _ hc
 repeat' split
 all_goals exact (by decide:(0:Int)<=0/\(0:Int)<9223372036854775808)
theorem JD:∀(f:Nat) (s:List UInt8) (j:Nat) (aB:List Tok),s.length<=4096->aB.all n9=true->aB.length<=1024->(qK f s j aB).1.all n9=true/\(qK f s j aB).1.length<=1024
 |0,s,j,aB,_,_,_=>⟨rfl,Nat.zero_le _⟩
 |f+1,s,j,aB,h1,h2,h3=>by
   unfold qK;split
   .exact⟨h2,h3⟩
   rename_i hj;split
   .exact⟨rfl,by simp⟩
   split
   .exact⟨rfl,by simp⟩
   rename_i hl;have zi:¬(((jg (s.drop j)).1.au=1\/(jg (s.drop j)).1.au=2)/\64<(jg (s.drop j)).1.aD.length):=λe=>hl (.inl e)
   have n6:¬aB.length=1024:=λe=>hl (.inr e)
   have hn:=one_num (s.drop j);refine JD f s _ _ h1 ?_ (by simp;omega);rw[List.all_append,h2,Bool.true_and];generalize (jg (s.drop j)).1=t at *;simp only[List.all_cons,List.all_nil,Bool.and_true,n9,wg,fE,Bool.and_eq_true,Bool.or_eq_true,decide_eq_true_eq,Bool.not_eq_true',Bool.or_eq_false_iff,decide_eq_false_iff_not];refine⟨⟨?_,hn.1,hn.2⟩,by omega,by omega⟩;by_cases hk:t.au=1\/t.au=2
   .exact .inl (by have:=λh=>zi ⟨hk,h⟩;omega)
   .exact .inr ⟨λe=>hk (.inl e),λe=>hk (.inr e)⟩
theorem oP(s:List UInt8):(a8 s).1.all n9=true/\(a8 s).1.length<=1024:=by
 unfold a8;split
 .exact⟨rfl,by simp⟩
 .exact JD _ s _ [] (by omega) rfl (by simp)
theorem PK:∀{L:List Tok},L.all n9=true->(mT L).all wg=true
 |[],_=>rfl
 |t::r,h=>by rw[List.all_cons,Bool.and_eq_true] at h;unfold mT;rw[List.all_cons,Bool.and_eq_true];refine⟨?_,PK h.2⟩;have:=h.1;unfold n9 at this;rw[Bool.and_eq_true] at this;exact this.1
def bJ(L:List Tok)(a:Nat):St:=⟨a,(mT L).drop a,0,[]⟩
theorem YC{T:List bj}{L:List Tok}{a:Nat}(hT:T.length<1000000)(hL:L.all n9=true)(hl:L.length<=1024)(ha:a<=L.length+1):RC T L (bJ L a):=by
 have mQ:(L.all λt=>decide (0<=t.aZ)&&decide (t.aZ<1000000))=true:=by rw[List.all_eq_true] at hL|-;intro t ht;have:=hL t ht;unfold n9 at this;rw[Bool.and_eq_true] at this;exact this.2
 exact⟨rfl,ha,Nat.zero_le _,Nat.le_refl _,by omega,hT,PK hL,λp hp=>(List.not_mem_nil hp).elim,rfl,mQ⟩
def cw(T:List bj)(st:St):(Tm×Int)×St:=
 let r:=ae T 1200 ⟨st.aZ,st.aC,0,[]⟩
 if !r.1.2.2||!decide ((aL r.2).au=6) then ((lh,2),r.2) else if fH r.1.1 then ((r.1.1,0),aq r.2) else ((lh,3),aq r.2)
end
section
section
variable {X:World->Prop}{P:Program}{E:Env}(hE:cT P X E){n f:Nat}{aC:List AV}{x y v:AV}{st dn:St}(hx:Laid x)(hy:Laid y)
include hE hx hy
theorem BV(h0:st.aa≠[])(h1:dn.aa=[])(he:(aF E n f (.ptr 0 0::aC) ⟨2,[.row (aQ st.aa),.row [x,y,.int .i64 st.aZ,.int .i64 st.next,.vec 1 0 st.aa.length 2 st.aa.length]],2,2⟩).map (λp=>(p.1,p.2.get 0))=
 some (v,some (.row [x,y,.int .i64 dn.aZ,.int .i64 dn.next,.aJ])))
 (hv:v.aK=0) (hr:AV.aw aC=0):dA P X f (.ptr 0 0::aC) (fq x y st) v (some [.row [x,y,.int .i64 dn.aZ,.int .i64 dn.next,.aJ],.dead]):=by
 have e1:fq x y st=[.row [x,y,.int .i64 st.aZ,.int .i64 st.next,.vec 1 0 st.aa.length 2 st.aa.length],.row (aQ st.aa)]:=by
  unfold fq iL o9
  cases hn:st.aa with
  |nil=>exact absurd hn h0
  |cons p r=>rfl
 rw[e1];obtain⟨⟨v1,h⟩,g1,g2⟩:=Option.map_eq_some_iff.1 he;simp only[Prod.mk.injEq] at g2;obtain⟨rfl,g3⟩:=g2;refine se (qs:=[]) hE g1 hv hr (by simp) (by simp) ⟨λi o ho hd=>?_,λi j o o' hi hj E1 hdj e=>?_⟩
 .match i,ho with
  |0,ho=>simp only[List.getElem?_cons_zero,Option.some.injEq] at ho;subst ho;rw[vm hx hy];exact⟨g3,yz hx hy _ _ (by rfl)⟩
  |1,ho=>simp only[List.getElem?_cons_succ,List.getElem?_cons_zero,Option.some.injEq] at ho;exact absurd ho.symm hd
  |i+2,ho=>simp at ho
 .have pick:∀(i:Nat) (o:bp),([.row [x,y,.int .i64 dn.aZ,.int .i64 dn.next,.aJ],.dead]:List bp)[i]? =some o->(∀_:o=.dead,False)->i=0:=λi o ho hd=>by
   match i,ho with
   |0,_=>rfl
   |1,ho=>simp only[List.getElem?_cons_succ,List.getElem?_cons_zero,Option.some.injEq] at ho;exact absurd ho.symm hd
   |i+2,ho=>simp at ho
  rw[pick i o hi E1,pick j o' hj hdj]
end
noncomputable def tz(x y:AV)(l:List (List UInt8×Int))(dn:St):List bp:=open Classical in if l=[] then gF x y l dn else if dn.aa=[] then [.row [x,y,.int .i64 dn.aZ,.int .i64 dn.next,.aJ],.dead] else gF x y l dn
theorem pO{x y:AV}{st:St}:tz x y [] st=gF x y [] st:=if_pos rfl
theorem vu{x y:AV}{l:List (List UInt8×Int)}{st:St}(h0:l≠[])(h:st.aa≠[]):tz x y l st=gF x y l st:=by unfold tz;rw[if_neg h0,if_neg h]
theorem qZ{x y:AV}{l:List (List UInt8×Int)}{st:St}(h0:l≠[])(h:st.aa=[]):tz x y l st=[.row [x,y,.int .i64 st.aZ,.int .i64 st.next,.aJ],.dead]:=by unfold tz;rw[if_neg h0,if_pos h]
noncomputable def ZG:List aX:=[xo]
noncomputable def ZR(N:Nat):List cr:=[wc,iZ N]
def bX(st:St):St:=⟨st.aZ,st.aC,0,[]⟩
theorem Vb{T:List bj}{L:List Tok}{st:St}(h:RC T L st):RC T L (bX st):=⟨h.aC,h.le,Nat.zero_le _,Nat.le_refl _,h.lb,h.tb,h.tk,λp hp=>(List.not_mem_nil hp).elim,rfl,h.I3⟩
theorem AM{T:List bj}{L:List Tok}{st:St}(h:RC T L st):BM (bX st):=by
 refine⟨?_,λp hp=>(List.not_mem_nil hp).elim,?_⟩
 .show st.aC.all wg=true;rw[h.aC];exact List.all_eq_true.mpr λx hx=>List.all_eq_true.mp h.tk x (List.mem_of_mem_drop hx)
 .show 0+st.aC.length<=_;rw[h.aC,List.length_drop,eZ];have:=h.lb;omega
attribute [local simp] fX fU fY fR eO eN fP fS fT eQ eR fQ lg kZ lr k9 kX kW fc fe Laid.aK db dc bf bc abP c43 ZG ZR Km fV fa
section
variable (N:Nat){x y:AV}{T:List bj}{L:List Tok}{st:St}(hx:ba x=some T)(hy:bx y=some L)(hc:RC T L st)(hN:st.aC.length<N)(hE:cT Tryz.prog cX (b9 ZG (ZR N)))
include N hx hy hc hN hE
theorem acN(bV:(ae T 1200 (bX st)).1.2.2=false):
 dA Tryz.prog cX 43 [.ptr 0 0] (fq x y st) (.tuple [lh.aV,.int .i64 2]) (some (tz x y st.aa (ae T 1200 (bX st)).2)):=by
 have aN:=aR hx;have aP:=aI hy;have Xu:=Vb hc;have q:=dV N hx hy Xu 1200 hN;rw[bV,bz (st:=bX st) rfl,show (bX st).aa=[] from rfl,show (bX st).aZ=st.aZ from rfl,show (((bX st).next:Nat):Int)=0 from rfl,an] at q;have ur:=ay (ae T 1200 (bX st)).1.1;have uc:=br (ae T 1200 (bX st)).1.1;have zc:lh.aV=.agg [.int .i64 0,.int .i64 0,.str [],.aJ]:=rfl;generalize (ae T 1200 (bX st)).2=s1 at *;generalize (ae T 1200 (bX st)).1.1=u at *;generalize (ae T 1200 (bX st)).1.2.1=lv at *;by_cases h0:st.aa=[];rw[h0,pO,<-h0];by_cases h1:s1.aa=[];rw[cW h1] at q;refine dP (n:=8) hE aN aP h0 h1 ?_ rfl rfl
 rotate_left
 rw[cH h1] at q;refine eJ (n:=8) hE aN aP 2 (by decide) h0 h1 ?_ rfl rfl
 rotate_left
 by_cases h1:s1.aa=[];rw[qZ h0 h1];rw[cW h1] at q;refine BV (n:=8) hE aN aP h0 h1 ?_ rfl rfl
 rotate_left
 rw[vu h0 h1];rw[cH h1] at q;refine dB (n:=8) hE aN aP 3 (by decide) h0 h1 ?_ rfl rfl
 rotate_left
 all_goals
  rw[zc];simp[q,ur,uc,-af,-aj,-ah,-az,-ck,aN,aP]
theorem Y6(bV:(ae T 1200 (bX st)).1.2.2=true)(hk:¬(aL (ae T 1200 (bX st)).2).au=6):
 dA Tryz.prog cX 43 [.ptr 0 0] (fq x y st) (.tuple [lh.aV,.int .i64 2]) (some (tz x y st.aa (ae T 1200 (bX st)).2)):=by
 have aN:=aR hx;have aP:=aI hy;have Xu:=Vb hc;have q:=dV N hx hy Xu 1200 hN;rw[bV,bz (st:=bX st) rfl,show (bX st).aa=[] from rfl,show (bX st).aZ=st.aZ from rfl,show (((bX st).next:Nat):Int)=0 from rfl,an] at q;have ur:=ay (ae T 1200 (bX st)).1.1;have uc:=br (ae T 1200 (bX st)).1.1;have ho:=(a6 T).ok 1200 (bX st) bV;obtain⟨c1,aak⟩:=Xu.ok ho;have q1:=dY hx hy c1;have ks:(aL (ae T 1200 (bX st)).2).au=(aM L (ae T 1200 (bX st)).2).au:=by rw[bm c1]
 rw[ks] at hk;rw[bK] at q1;have zc:lh.aV=.agg [.int .i64 0,.int .i64 0,.str [],.aJ]:=rfl;generalize (ae T 1200 (bX st)).2=s1 at *;generalize (ae T 1200 (bX st)).1.1=u at *;generalize (ae T 1200 (bX st)).1.2.1=lv at *;by_cases h0:st.aa=[];rw[h0,pO,<-h0];by_cases h1:s1.aa=[];rw[cW h1] at q;rw[bz h1] at q1;refine dP (n:=8) hE aN aP h0 h1 ?_ rfl rfl
 rotate_left
 rw[cH h1] at q;rw[bw h1] at q1;refine eJ (n:=8) hE aN aP 2 (by decide) h0 h1 ?_ rfl rfl
 rotate_left
 by_cases h1:s1.aa=[];rw[qZ h0 h1];rw[cW h1] at q;rw[bz h1] at q1;refine BV (n:=8) hE aN aP h0 h1 ?_ rfl rfl
 rotate_left
 rw[vu h0 h1];rw[cH h1] at q;rw[bw h1] at q1;refine dB (n:=8) hE aN aP 3 (by decide) h0 h1 ?_ rfl rfl
 rotate_left
 all_goals
  rw[zc];simp[q,ur,uc,q1,hk,-af,-aj,-ah,-az,-ck,aN,aP]
theorem Zt(bV:(ae T 1200 (bX st)).1.2.2=true)(hk:(aL (ae T 1200 (bX st)).2).au=6)(hg:fH (ae T 1200 (bX st)).1.1=false):
 dA Tryz.prog cX 43 [.ptr 0 0] (fq x y st) (.tuple [lh.aV,.int .i64 3]) (some (tz x y st.aa (aq (ae T 1200 (bX st)).2))):=by
 have aN:=aR hx;have aP:=aI hy;have Xu:=Vb hc;have q:=dV N hx hy Xu 1200 hN;rw[bV,bz (st:=bX st) rfl,show (bX st).aa=[] from rfl,show (bX st).aZ=st.aZ from rfl,show (((bX st).next:Nat):Int)=0 from rfl,an] at q;have ur:=ay (ae T 1200 (bX st)).1.1;have uc:=br (ae T 1200 (bX st)).1.1;have ho:=(a6 T).ok 1200 (bX st) bV;obtain⟨c1,aak⟩:=Xu.ok ho;have q1:=dY hx hy c1;have ks:(aL (ae T 1200 (bX st)).2).au=(aM L (ae T 1200 (bX st)).2).au:=by rw[bm c1]
 rw[ks] at hk;rw[bK] at q1;rw[hk] at q1;have w1:=wrap_i64 (n:=((ae T 1200 (bX st)).2.aZ:Int)+1) (by omega) (by have:=c1.lb;omega);have hB:=(wI T ((bX st).aC.length+1)).b 1200 (bX st) (AM hc) bV;have Xe:=hB.1;have qm:st.aC.length<=100000:=by rw[hc.aC,List.length_drop,eZ];have:=hc.lb;omega
 have alw:(bX st).aC.length=st.aC.length:=rfl;have q2:=AT (ae T 1200 (bX st)).1.1 (by change Tm.ig (ae T 1200 (bX st)).1.1<=_ at Xe;omega);rw[hg,an] at q2;generalize (ae T 1200 (bX st)).2=s1 at *;generalize (ae T 1200 (bX st)).1.1=u at *;generalize (ae T 1200 (bX st)).1.2.1=lv at *;by_cases h0:st.aa=[];rw[h0,pO,<-h0];by_cases h1:s1.aa=[];rw[cW h1] at q;rw[bz h1] at q1;refine dP (n:=8) hE aN aP h0 h1 ?_ rfl rfl
 rotate_left
 rw[cH h1] at q;rw[bw h1] at q1;refine eJ (n:=8) hE aN aP 2 (by decide) h0 h1 ?_ rfl rfl
 rotate_left
 by_cases h1:s1.aa=[];rw[qZ (st:=aq s1) h0 h1];rw[cW h1] at q;rw[bz h1] at q1;refine BV (n:=8) hE aN aP h0 h1 ?_ rfl rfl
 rotate_left
 rw[vu (st:=aq s1) h0 h1];rw[cH h1] at q;rw[bw h1] at q1;refine dB (n:=8) hE aN aP 3 (by decide) h0 h1 ?_ rfl rfl
 rotate_left
 all_goals
  rw[dJ];simp only[r8,rL,sx];simp[q,ur,uc,q1,q2,w1,-af,-aj,-ah,-az,-ck,aN,aP]
theorem acZ(bV:(ae T 1200 (bX st)).1.2.2=true)(hk:(aL (ae T 1200 (bX st)).2).au=6)(hg:fH (ae T 1200 (bX st)).1.1=true):
 dA Tryz.prog cX 43 [.ptr 0 0] (fq x y st) (.tuple [(ae T 1200 (bX st)).1.1.aV,.int .i64 0]) (some (tz x y st.aa (aq (ae T 1200 (bX st)).2))):=by
 have aN:=aR hx;have aP:=aI hy;have Xu:=Vb hc;have q:=dV N hx hy Xu 1200 hN;rw[bV,bz (st:=bX st) rfl,show (bX st).aa=[] from rfl,show (bX st).aZ=st.aZ from rfl,show (((bX st).next:Nat):Int)=0 from rfl,an] at q;have ur:=ay (ae T 1200 (bX st)).1.1;have uc:=br (ae T 1200 (bX st)).1.1;have ho:=(a6 T).ok 1200 (bX st) bV;obtain⟨c1,aak⟩:=Xu.ok ho;have q1:=dY hx hy c1;have ks:(aL (ae T 1200 (bX st)).2).au=(aM L (ae T 1200 (bX st)).2).au:=by rw[bm c1]
 rw[ks] at hk;rw[bK] at q1;rw[hk] at q1;have w1:=wrap_i64 (n:=((ae T 1200 (bX st)).2.aZ:Int)+1) (by omega) (by have:=c1.lb;omega);have hB:=(wI T ((bX st).aC.length+1)).b 1200 (bX st) (AM hc) bV;have Xe:=hB.1;have qm:st.aC.length<=100000:=by rw[hc.aC,List.length_drop,eZ];have:=hc.lb;omega
 have alw:(bX st).aC.length=st.aC.length:=rfl;have q2:=AT (ae T 1200 (bX st)).1.1 (by change Tm.ig (ae T 1200 (bX st)).1.1<=_ at Xe;omega);rw[hg,an] at q2;generalize (ae T 1200 (bX st)).2=s1 at *;generalize (ae T 1200 (bX st)).1.1=u at *;generalize (ae T 1200 (bX st)).1.2.1=lv at *;by_cases h0:st.aa=[];rw[h0,pO,<-h0];by_cases h1:s1.aa=[];rw[cW h1] at q;rw[bz h1] at q1;refine dP (n:=8) hE aN aP h0 h1 ?_ (by simp[AV.aK,AV.aw,Tm.cm]) rfl
 rotate_left
 rw[cH h1] at q;rw[bw h1] at q1;refine eJ (n:=8) hE aN aP 2 (by decide) h0 h1 ?_ (by simp[AV.aK,AV.aw,Tm.cm]) rfl
 rotate_left
 by_cases h1:s1.aa=[];rw[qZ (st:=aq s1) h0 h1];rw[cW h1] at q;rw[bz h1] at q1;refine BV (n:=8) hE aN aP h0 h1 ?_ (by simp[AV.aK,AV.aw,Tm.cm]) rfl
 rotate_left
 rw[vu (st:=aq s1) h0 h1];rw[cH h1] at q;rw[bw h1] at q1;refine dB (n:=8) hE aN aP 3 (by decide) h0 h1 ?_ (by simp[AV.aK,AV.aw,Tm.cm]) rfl
 rotate_left
 all_goals
  rw[an];simp only[r8,rL,sx];simp[q,ur,uc,q1,q2,w1,-af,-aj,-ah,-az,-ck,aN,aP]
end
end
section
noncomputable def Ej:cr:=⟨43,λ
 |[.ptr 0 0],os=>(match wU os with
   |some R=>some (.tuple [(cw R.T R.st).1.1.aV,.int .i64 (cw R.T R.st).1.2],some (tz R.x R.y R.st.aa (cw R.T R.st).2))
   |none=>none)
 |_,_=>none⟩
theorem Ca:Ej.f=43:=(rfl)
theorem uH{x y:AV}{T:List bj}{L:List Tok}{st:St}(hx:ba x=some T)(hy:bx y=some L)(h:RC T L st):
 Ej.S [.ptr 0 0] (fq x y st)=some (.tuple [(cw T st).1.1.aV,.int .i64 (cw T st).1.2],some (tz x y st.aa (cw T st).2)):=by
 simp only[Ej,lU hx hy h]
theorem KZ:cC Tryz.prog cX Ej:=λag os v r hv=>by
 unfold Ej at hv;dsimp only at hv;split at hv
 .rename_i os;split at hv
  .rename_i R hR;cases hv;obtain⟨hx,hy,rfl,h⟩:=kM hR;rw[Ca];have hE:cT Tryz.prog cX (b9 ZG (ZR (R.st.aC.length+1))):=dK (by simp[ZG,Fx.lift]) (by simp[ZR,y8,De]);have hn:R.st.aC.length<R.st.aC.length+1:=by omega
   unfold cw;dsimp only;change dA Tryz.prog cX 43 [.ptr 0 0] _ (.tuple [(if (!(ae R.T 1200 (bX R.st)).1.2.2||!decide ((aL (ae R.T 1200 (bX R.st)).2).au=6))=true then ((lh,(2:Int)),(ae R.T 1200 (bX R.st)).2) else if fH (ae R.T 1200 (bX R.st)).1.1=true then (((ae R.T 1200 (bX R.st)).1.1,0),aq (ae R.T 1200 (bX R.st)).2) else ((lh,3),aq (ae R.T 1200 (bX R.st)).2)).1.1.aV,.int .i64 (if (!(ae R.T 1200 (bX R.st)).1.2.2||!decide ((aL (ae R.T 1200 (bX R.st)).2).au=6))=true then ((lh,(2:Int)),(ae R.T 1200 (bX R.st)).2) else if fH (ae R.T 1200 (bX R.st)).1.1=true then (((ae R.T 1200 (bX R.st)).1.1,0),aq (ae R.T 1200 (bX R.st)).2) else ((lh,3),aq (ae R.T 1200 (bX R.st)).2)).1.2]) (some (tz R.x R.y R.st.aa (if (!(ae R.T 1200 (bX R.st)).1.2.2||!decide ((aL (ae R.T 1200 (bX R.st)).2).au=6))=true then ((lh,(2:Int)),(ae R.T 1200 (bX R.st)).2) else if fH (ae R.T 1200 (bX R.st)).1.1=true then (((ae R.T 1200 (bX R.st)).1.1,0),aq (ae R.T 1200 (bX R.st)).2) else ((lh,3),aq (ae R.T 1200 (bX R.st)).2)).2))
   cases bV:(ae R.T 1200 (bX R.st)).1.2.2 with
   |false=>rw[if_pos (by rfl)];exact acN _ hx hy h hn hE bV
   |true=>
     by_cases hk:(aL (ae R.T 1200 (bX R.st)).2).au=6
     .rw[if_neg (by simp[hk])]
      cases hg:fH (ae R.T 1200 (bX R.st)).1.1 with
      |false=>rw[if_neg (by simp)];exact Zt _ hx hy h hn hE bV hk hg
      |true=>rw[if_pos rfl];exact acZ _ hx hy h hn hE bV hk hg
     .rw[if_pos (by simp[hk])];exact Y6 _ hx hy h hn hE bV hk
  .cases hv
 .cases hv
def RG(p:List UInt8×Int):AV:=.agg [.str p.1,.int .i64 p.2]
def lf:List (List UInt8×Int)->AV
 |[]=>.aJ
 |p::r=>.sl ((p::r).map RG)
theorem At{l:List (List UInt8×Int)}(h:l≠[]):lf l=.sl (l.map RG):=by
 cases l with
 |nil=>exact absurd rfl h
 |cons p r=>rfl
theorem Np(l:List (List UInt8×Int)):∀x∈l.map RG,Fl 2 x:=by intro x hx;obtain⟨o,_,rfl⟩:=List.mem_map.1 hx;exact⟨rfl,rfl,(λh=>by cases h),λ_=>rfl,rfl⟩
theorem Nb(l:List (List UInt8×Int)):(l.map RG).flatMap AV.cells=aQ l:=by
 induction l with
 |nil=>rfl
 |cons t r ih=>unfold aQ at ih|-;rw[List.map_cons,List.flatMap_cons,List.flatMap_cons,ih];rfl
theorem Ee(l:List (List UInt8×Int)):AV.aw (l.map RG)=0:=by
 induction l with
 |nil=>rfl
 |cons t r ih=>simp[AV.aw,ih,RG,AV.aK]
theorem Lu(l:List (List UInt8×Int)):(lf l).aK=0:=by
 cases l with
 |nil=>rfl
 |cons p r=>simp[lf,AV.aK]
theorem aax{h:ai}{n0 d id:Nat}{l:List (List UInt8×Int)}(cG:n0<=id)(hg:h.get id=some (.row (aQ l))):
 jF h n0 (d+2) (.vec id 0 l.length 2 l.length)=some (.sl (l.map RG),[id]):=
 yj cG hg (by omega) (Np l) (by simp) (by rw[nu];exact Nat.le_refl _) (by rw[Nb,List.take_of_length_le];rw[nu];exact Nat.le_refl _)
theorem Du{x y:AV}(hx:Laid x)(hy:Laid y)(a b:Int)(τ:List Nat):fJ [x,y,.int .i64 a,.int .i64 b,.aJ] τ=τ:=by simp only[fJ,hx.top,hy.top];rfl
theorem Nr{x y:AV}(hx:Laid x)(hy:Laid y)(a b:Int)(k l j:Nat)(hk:(j=k)=False):fJ [x,y,.int .i64 a,.int .i64 b,.vec k 0 l 2 l] [j]=[j,k]:=by simp only[fJ,hx.top,hy.top];show (if o5 [j] k then ([j]:List Nat) else [j,k])=_;simp only[o5,hk,if_false];rfl
def il(T:List bj)(s:List UInt8):(Tm×List (List UInt8×Int))×Int:=
 if ew T=false then ((lh,[]),1)
 else if (a8 s).2.2≠0 then ((lh,[]),(a8 s).2.2)
 else if (cw T (bJ (a8 s).1 0)).1.2=2\/((cw T (bJ (a8 s).1 0)).2.aZ:Int)<(a8 s).1.length then ((lh,[]),2)
 else if (cw T (bJ (a8 s).1 0)).1.2≠0 then ((lh,[]),(cw T (bJ (a8 s).1 0)).1.2)
 else (((cw T (bJ (a8 s).1 0)).1.1,(cw T (bJ (a8 s).1 0)).2.aa),0)
def o7(r:(Tm×List (List UInt8×Int))×Int):AV:=.tuple [r.1.1.aV,lf r.1.2,.int .i64 r.2]
theorem CP(r:(Tm×List (List UInt8×Int))×Int):(o7 r).aK=0:=by simp[o7,AV.aK,AV.aw,Tm.cm,Lu]
noncomputable def ZO:List aX:=[r9,Q5]
noncomputable def XR:List cr:=[Ej]
attribute [local simp] fX fU fY fR eO eN fP fS fT eQ eR fQ lg kZ lr k9 kX kW fc fe Laid.aK db dc bf acq Tb c14 c42 ZO XR Am Mq Ca o7 lf dJ
theorem Va{x:AV}{T:List bj}(hx:ba x=some T)(hT:T.length<1000000)(s:List UInt8):∃h',aF (b9 ZO XR) 30 14 [.agg [x],.str s] h0=some (o7 (il T s),h'):=by
 have qg:=Ea hx (by omega);have qc:=O0 s;have zj:=oP s;have hy:=vy (a8 s).1;unfold oF at qc;unfold il;have aN:=aR hx;have aP:=aI hy;have fx:=λh=>aN.fr h 0 6
 have fA:=aN.Fh;have u1:=Du aN aP;have jX:=aP.Fh;have jT:=jR hy
 cases hg:ew T with
 |false=>rw[if_pos rfl];rw[hg] at qg;exact⟨_,by simp[u1,qg,qc,fA,jX,fx,-af,-aj,-ah,-az,-ck,aN,aP];with_reducible rfl⟩
 |true=>
   rw[if_neg (by simp)];rw[hg] at qg;by_cases he:(a8 s).2.2=0
   .rw[if_neg (λh=>h he)];have hc:=YC (T:=T) (a:=0) hT zj.1 zj.2 (Nat.zero_le _);have q:=uH hx hy hc;rw[bz (st:=bJ (a8 s).1 0) rfl,show (bJ (a8 s).1 0).aa=[] from rfl,pO,show (((bJ (a8 s).1 0).aZ:Nat):Int)=0 from rfl,show (((bJ (a8 s).1 0).next:Nat):Int)=0 from rfl,an] at q;rw[he] at qc;generalize j5 (a8 s).1=y at *;generalize (a8 s).1.length=n at *;generalize (a8 s).2.1=pp at *;generalize cw T (bJ (a8 s).1 0)=r at *;obtain⟨⟨t,e⟩,s1⟩:=r;dsimp only at *;have ur:=ay t;have uc:=br t;by_cases h1:s1.aa=[]
    .rw[cW h1] at q;by_cases a1:e=2
     .rw[if_pos (.inl a1)];exact⟨_,by simp[u1,qg,qc,fA,jX,fx,-af,-aj,-ah,-az,-ck,bc,q,jT,ur,uc,eH,a1,aN,aP];with_reducible rfl⟩
     by_cases a2:(s1.aZ:Int)<(n:Int)
     .rw[if_pos (.inr a2)];exact⟨_,by simp[u1,qg,qc,fA,jX,fx,-af,-aj,-ah,-az,-ck,bc,q,jT,ur,uc,eH,a1,a2,aN,aP];with_reducible rfl⟩
     rw[if_neg (λh=>h.elim a1 a2)];by_cases a3:e=0
     .rw[if_neg (λh=>h a3)];have tc:=an t;rw[h1];exact⟨_,by simp[u1,qg,qc,fA,jX,fx,-af,-aj,-ah,-az,-ck,bc,q,jT,ur,uc,eH,a1,a2,a3,tc,aN,aP];with_reducible rfl⟩
     .rw[if_pos a3];exact⟨_,by simp[u1,qg,qc,fA,jX,fx,-af,-aj,-ah,-az,-ck,bc,q,jT,ur,uc,eH,a1,a2,a3,aN,aP];with_reducible rfl⟩
    .rw[cH h1] at q;have fk:∀(h:ai) (n0 d id:Nat),n0<=id->h.get id=some (.row (aQ s1.aa))->jF h n0 (d+2) (.vec id 0 s1.aa.length 2 s1.aa.length)=some (.sl (s1.aa.map RG),[id]):=λh n0 d id a b=>aax a b
     have nr:=Ee s1.aa;have nl:=At h1;by_cases a1:e=2
     .rw[if_pos (.inl a1)];exact⟨_,by simp[u1,qg,qc,fA,jX,fx,-af,-aj,-ah,-az,-ck,bc,q,jT,ur,uc,eH,a1,aN,aP];with_reducible rfl⟩
     by_cases a2:(s1.aZ:Int)<(n:Int)
     .rw[if_pos (.inr a2)];exact⟨_,by simp[u1,qg,qc,fA,jX,fx,-af,-aj,-ah,-az,-ck,bc,q,jT,ur,uc,eH,a1,a2,aN,aP];with_reducible rfl⟩
     rw[if_neg (λh=>h.elim a1 a2)];by_cases a3:e=0
     .rw[if_neg (λh=>h a3)];have tc:=an t;unfold o7;dsimp only;rw[nl];generalize s1.aa.map RG=NL at *;exact⟨_,by simp[u1,qg,qc,fA,jX,fx,-af,-aj,-ah,-az,-ck,bc,q,jT,ur,uc,eH,a1,a2,a3,tc,fk,nr,-iA,aN,aP];with_reducible rfl⟩
     .rw[if_pos a3];exact⟨_,by simp[u1,qg,qc,fA,jX,fx,-af,-aj,-ah,-az,-ck,bc,q,jT,ur,uc,eH,a1,a2,a3,aN,aP];with_reducible rfl⟩
   .rw[if_pos he];exact⟨_,by simp[u1,qg,qc,fA,jX,fx,-af,-aj,-ah,-az,-ck,he,aN,aP];with_reducible rfl⟩
noncomputable def xp:aX:=⟨14,λ
 |[.agg [x],.str s]=>(match ba x with|some T=>if T.length<1000000 then some (o7 (il T s)) else none|none=>none)
 |_=>none⟩
theorem um:xp.f=14:=(rfl)
theorem F7{x:AV}{T:List bj}(hx:ba x=some T)(hT:T.length<1000000)(s:List UInt8):xp.S [.agg [x],.str s]=some (o7 (il T s)):=by simp only[xp,hx,if_pos hT]
theorem Gh:fi Tryz.prog cX xp:=λag v hv=>by
 unfold xp at hv|-;dsimp only at hv|-;split at hv
 .rename_i x s;split at hv
  .rename_i T hx;split at hv
   .rename_i hT;cases hv;obtain⟨h',e⟩:=Va hx hT s;exact bG (dK (ss:=ZO) (ms:=XR) (by simp[ZO,EH.lift,OI]) (by simp[XR,KZ])) e (CP _) (by simp[AV.aK,AV.aw,fL hx])
   .cases hv
  .cases hv
 .cases hv
end
section
def lI(T:List bj)(n:Nat):Nat->List Tm->St->List Tm×Int
 |0,aB,_=>(aB,0)
 |M+1,aB,st=>if (st.aZ:Int)<n then (if (cw T st).1.2=0 then lI T n M (aB++[(cw T st).1.1]) (cw T st).2 else ([],(cw T st).1.2)) else (aB,0)
section
variable {T:List bj}{n M:Nat}{aB:List Tm}{st:St}
theorem mj(h:¬(st.aZ:Int)<n):lI T n (M+1) aB st=(aB,0):=by
 conv=>lhs;unfold lI
 rw[if_neg h]
theorem iD(h:(st.aZ:Int)<n)(h2:¬(cw T st).1.2=0):lI T n (M+1) aB st=([],(cw T st).1.2):=by
 conv=>lhs;unfold lI
 rw[if_pos h,if_neg h2]
theorem pP(h:(st.aZ:Int)<n)(h2:(cw T st).1.2=0):lI T n (M+1) aB st=lI T n M (aB++[(cw T st).1.1]) (cw T st).2:=by
 conv=>lhs;unfold lI
 rw[if_pos h,if_pos h2]
end
theorem MS{T:List bj}{st:St}(h:(cw T st).1.2=0):(ae T 1200 (bX st)).1.2.2=true/\(aL (ae T 1200 (bX st)).2).au=6/\fH (ae T 1200 (bX st)).1.1=true/\cw T st=(((ae T 1200 (bX st)).1.1,0),aq (ae T 1200 (bX st)).2):=by
 unfold cw at h|-;dsimp only at h|-;change (if (!(ae T 1200 (bX st)).1.2.2||!decide ((aL (ae T 1200 (bX st)).2).au=6))=true then ((lh,(2:Int)),(ae T 1200 (bX st)).2) else if fH (ae T 1200 (bX st)).1.1=true then (((ae T 1200 (bX st)).1.1,0),aq (ae T 1200 (bX st)).2) else ((lh,3),aq (ae T 1200 (bX st)).2)).1.2=0 at h;change _/\_/\_/\(if (!(ae T 1200 (bX st)).1.2.2||!decide ((aL (ae T 1200 (bX st)).2).au=6))=true then ((lh,(2:Int)),(ae T 1200 (bX st)).2) else if fH (ae T 1200 (bX st)).1.1=true then (((ae T 1200 (bX st)).1.1,0),aq (ae T 1200 (bX st)).2) else ((lh,3),aq (ae T 1200 (bX st)).2))=_;by_cases c1:(!(ae T 1200 (bX st)).1.2.2||!decide ((aL (ae T 1200 (bX st)).2).au=6))=true
 .rw[if_pos c1] at h;cases h
 .rw[if_neg c1] at h|-;by_cases c2:fH (ae T 1200 (bX st)).1.1=true
  .rw[if_pos c2];simp only[Bool.or_eq_true,Bool.not_eq_true',decide_eq_false_iff_not,not_or,Decidable.not_not,Bool.not_eq_false] at c1;exact⟨c1.1,c1.2,c2,rfl⟩
  .rw[if_neg c2] at h;cases h
theorem yi{T:List bj}{L:List Tok}{st:St}(hc:RC T L st)(h:(cw T st).1.2=0):RC T L (cw T st).2/\st.aZ<(cw T st).2.aZ:=by obtain⟨h1,h2,_,e⟩:=MS h;rw[e];have ho:=(a6 T).ok 1200 (bX st) h1;obtain⟨c1,mQ⟩:=(Vb hc).ok ho;refine⟨c1.rG mQ,?_⟩;have h3:=ho.tot;have h4:=ho.pos;have h5:(bX st).aZ=st.aZ:=rfl;show st.aZ<(ae T 1200 (bX st)).2.aZ+1;omega
def CA(lhs:Option (Ex×List AV×ai))(r:List Tm×Int):Prop:=
 (∃h',lhs=some (.ret,FM 43 [(4,.aJ),(5,.int .i64 r.2)],h')/\r.2≠0/\r.1=[])\/
 (∃h',lhs=some (.exit 0,FM 43 [(8,.vec 3 0 r.1.length 4 r.1.length)],h')/\r.2=0/\r.1≠[]/\h'.get 3=some (.row (aG r.1)))
noncomputable def CG:List aX:=[r9,Q5]
noncomputable def CC:List cr:=[Ej]
theorem OU{a b:Option (Ex×List AV×ai)}{r:List Tm×Int}(h:CA a r)(e:b=a):CA b r:=by rw[e];exact h
attribute [local simp] fX fU fY fR eO eN fP fS fT eQ eR fQ lg kZ lr k9 kX kW fc fe Laid.aK db dc bf bc w8 rM CG CC Am Mq Ca dJ
theorem NY(n:Nat){x y:AV}{T:List bj}{L:List Tok}(hx:ba x=some T)(hy:bx y=some L):∀M:Nat,(∀(aB:List Tm) (st:St) (m md:Nat),RC T L st->st.aa≠[]->aB≠[]->aB.length+(L.length-st.aZ)<=100000->L.length-st.aZ<M->M<=m->CA (gu 3 0 (bL (aH (aF (b9 CG CC) (n+1)) (n+1) w8) rM 3 m (Af (.ptr 2 0) (.vec 3 0 aB.length 4 aB.length)) ⟨5,[.row (aQ st.aa),.row (aG aB),.row [x,y,.int .i64 st.aZ,.int .i64 st.next,.vec 4 0 st.aa.length 2 st.aa.length],.row [x],.row [x]],2,md⟩)) (lI T L.length M aB st))/\(∀(aB:List Tm) (st:St) (m md:Nat),RC T L st->st.aa=[]->aB≠[]->aB.length+(L.length-st.aZ)<=100000->L.length-st.aZ<M->M<=m->CA (gu 3 0 (bL (aH (aF (b9 CG CC) (n+1)) (n+1) w8) rM 3 m (Af (.ptr 2 0) (.vec 3 0 aB.length 4 aB.length)) ⟨4,[.row (aG aB),.row [x,y,.int .i64 st.aZ,.int .i64 st.next,.aJ],.row [x],.row [x]],2,md⟩)) (lI T L.length M aB st))
 |0=>⟨λ_ _ _ _ _ _ _ _ h _=>by omega,λ_ _ _ _ _ _ _ _ h _=>by omega⟩
 |M+1=>by
   obtain⟨iN,iE⟩:=NY n hx hy M;have aN:=aR hx;have aP:=aI hy;have fA:=aN.Fh;have jX:=aP.Fh;have u1:=Du aN aP;have u2:=Nr aN aP;have jT:=jR hy;have xr:x.aK=0:=aN.aK;refine⟨?_,?_⟩
   .intro aB st m md hc h0 ha hl hM hm;obtain⟨m,rfl⟩:∃k,m=k+1:=⟨m-1,by omega⟩
    rw[ak];have q:=uH hx hy hc;rw[bw h0,an] at q;have hf:=bh aB;have h8:(aB.length+1)*56<=140737488355328:=by omega
    have h9:aB.length+1<9223372036854775808:=by omega
    have gG:(aG aB).take (aB.length*4)=aG aB:=by rw[List.take_of_length_le];rw[bP];exact Nat.le_refl _
    have iH:=bP aB;by_cases cR:(st.aZ:Int)<(L.length:Int)
    .have htc:=bB aB (cw T st).1.1;by_cases he:(cw T st).1.2=0
     .rw[pP cR he];obtain⟨c1,mQ⟩:=yi hc he;rw[he] at q;have gr:=bh (aB++[(cw T st).1.1]);have ur:=ay (cw T st).1.1;have uc:=br (cw T st).1.1;by_cases h1:(cw T st).2.aa=[];rw[qZ h0 h1] at q;have ih:=iE (aB++[(cw T st).1.1]) (cw T st).2 m (min md 2) c1 h1 (by simp) (by simp;omega) (by omega) (by omega)
      rotate_left
      rw[vu h0 h1,dW h0 h1] at q;have ih:=iN (aB++[(cw T st).1.1]) (cw T st).2 m (min md 2) c1 h1 (by simp) (by simp;omega) (by omega) (by omega)
      rotate_left
      all_goals
       rw[<-bB,List.length_append,List.length_cons,List.length_nil] at ih;rw[<-bB] at gr;refine OU ih ?_;generalize (cw T st).1.1=t at *;generalize (cw T st).2=s1 at *;generalize aG aB=A at *;simp[q,jT,-af,-aj,-ah,-az,-ck,u1,u2,cR,ur,uc,xr,gr,aT,hf,h8,h9,gG,iH,aN,aP]
     .rw[iD cR he];refine .inl ?_;have ur:=ay (cw T st).1.1;have uc:=br (cw T st).1.1;by_cases h1:(cw T st).2.aa=[];rw[qZ h0 h1] at q
      rotate_left
      rw[vu h0 h1,dW h0 h1] at q
      rotate_left
      all_goals
       generalize (cw T st).1.2=e at *;generalize (cw T st).1.1=t at *;generalize (cw T st).2=s1 at *;generalize aG aB=A at *;exact⟨_,by simp[q,jT,-af,-aj,-ah,-az,-ck,u1,u2,cR,he,ur,uc,xr,hf,h8,h9,gG,iH,aN,aP];with_reducible rfl,he,rfl⟩
    .rw[mj cR];exact .inr ⟨_,by simp[q,jT,-af,-aj,-ah,-az,-ck,u1,u2,cR,xr,hf,h8,h9,gG,iH,aN,aP];with_reducible rfl,rfl,ha,rfl⟩
   .intro aB st m md hc h0 ha hl hM hm;obtain⟨m,rfl⟩:∃k,m=k+1:=⟨m-1,by omega⟩
    rw[ak];have q:=uH hx hy hc;rw[bz h0,h0,pO,an] at q;have hf:=bh aB;have h8:(aB.length+1)*56<=140737488355328:=by omega
    have h9:aB.length+1<9223372036854775808:=by omega
    have gG:(aG aB).take (aB.length*4)=aG aB:=by rw[List.take_of_length_le];rw[bP];exact Nat.le_refl _
    have iH:=bP aB;by_cases cR:(st.aZ:Int)<(L.length:Int)
    .have htc:=bB aB (cw T st).1.1;by_cases he:(cw T st).1.2=0
     .rw[pP cR he];obtain⟨c1,mQ⟩:=yi hc he;rw[he] at q;have gr:=bh (aB++[(cw T st).1.1]);have ur:=ay (cw T st).1.1;have uc:=br (cw T st).1.1;by_cases h1:(cw T st).2.aa=[];rw[cW h1] at q;have ih:=iE (aB++[(cw T st).1.1]) (cw T st).2 m (min md 2) c1 h1 (by simp) (by simp;omega) (by omega) (by omega)
      rotate_left
      rw[cH h1] at q;have ih:=iN (aB++[(cw T st).1.1]) (cw T st).2 m (min md 2) c1 h1 (by simp) (by simp;omega) (by omega) (by omega)
      rotate_left
      all_goals
       rw[<-bB,List.length_append,List.length_cons,List.length_nil] at ih;rw[<-bB] at gr;refine OU ih ?_;generalize (cw T st).1.1=t at *;generalize (cw T st).2=s1 at *;generalize aG aB=A at *;simp[q,jT,-af,-aj,-ah,-az,-ck,u1,u2,cR,ur,uc,xr,gr,aT,hf,h8,h9,gG,iH,aN,aP]
     .rw[iD cR he];refine .inl ?_;have ur:=ay (cw T st).1.1;have uc:=br (cw T st).1.1;by_cases h1:(cw T st).2.aa=[];rw[cW h1] at q
      rotate_left
      rw[cH h1] at q
      rotate_left
      all_goals
       generalize (cw T st).1.2=e at *;generalize (cw T st).1.1=t at *;generalize (cw T st).2=s1 at *;generalize aG aB=A at *;exact⟨_,by simp[q,jT,-af,-aj,-ah,-az,-ck,u1,u2,cR,he,ur,uc,xr,hf,h8,h9,gG,iH,aN,aP];with_reducible rfl,he,rfl⟩
    .rw[mj cR];exact .inr ⟨_,by simp[q,jT,-af,-aj,-ah,-az,-ck,u1,u2,cR,xr,hf,h8,h9,gG,iH,aN,aP];with_reducible rfl,rfl,ha,rfl⟩
theorem TK(n:Nat){x y:AV}{T:List bj}{L:List Tok}(hx:ba x=some T)(hy:bx y=some L):∀M:Nat,∀(aB:List Tm) (st:St) (m md:Nat),RC T L st->st.aa=[]->aB≠[]->aB.length+(L.length-st.aZ)<=100000->L.length-st.aZ<M->M<=m->CA (gu 3 0 (bL (aH (aF (b9 CG CC) (n+1)) (n+1) w8) rM 3 m (Af (.ptr 2 0) (.vec 3 0 aB.length 4 aB.length)) ⟨4,[.row (aG aB),.row [x,y,.int .i64 st.aZ,.int .i64 st.next,.aJ],.row [x],.row [x]],3,md⟩)) (lI T L.length M aB st)
 |0=>λ_ _ _ _ _ _ _ _ h _=>by omega
 |M+1=>by
   have iN:=(NY n hx hy M).1;have iE:=TK n hx hy M;have aN:=aR hx;have aP:=aI hy;have fA:=aN.Fh;have jX:=aP.Fh;have u1:=Du aN aP;have u2:=Nr aN aP;have jT:=jR hy;have xr:x.aK=0:=aN.aK;intro aB st m md hc h0 ha hl hM hm;obtain⟨m,rfl⟩:∃k,m=k+1:=⟨m-1,by omega⟩
   rw[ak];have q:=uH hx hy hc;rw[bz h0,h0,pO,an] at q;have hf:=bh aB;have h8:(aB.length+1)*56<=140737488355328:=by omega
   have h9:aB.length+1<9223372036854775808:=by omega
   have gG:(aG aB).take (aB.length*4)=aG aB:=by rw[List.take_of_length_le];rw[bP];exact Nat.le_refl _
   have iH:=bP aB;by_cases cR:(st.aZ:Int)<(L.length:Int)
   .have htc:=bB aB (cw T st).1.1;by_cases he:(cw T st).1.2=0
    .rw[pP cR he];obtain⟨c1,mQ⟩:=yi hc he;rw[he] at q;have gr:=bh (aB++[(cw T st).1.1]);have ur:=ay (cw T st).1.1;have uc:=br (cw T st).1.1;by_cases h1:(cw T st).2.aa=[];rw[cW h1] at q;have ih:=iE (aB++[(cw T st).1.1]) (cw T st).2 m (min md 2) c1 h1 (by simp) (by simp;omega) (by omega) (by omega)
     rotate_left
     rw[cH h1] at q;have ih:=iN (aB++[(cw T st).1.1]) (cw T st).2 m (min md 2) c1 h1 (by simp) (by simp;omega) (by omega) (by omega)
     rotate_left
     all_goals
      rw[<-bB,List.length_append,List.length_cons,List.length_nil] at ih;rw[<-bB] at gr;refine OU ih ?_;generalize (cw T st).1.1=t at *;generalize (cw T st).2=s1 at *;generalize aG aB=A at *;simp[q,jT,-af,-aj,-ah,-az,-ck,u1,u2,cR,ur,uc,xr,gr,aT,hf,h8,h9,gG,iH,aN,aP]
    .rw[iD cR he];refine .inl ?_;have ur:=ay (cw T st).1.1;have uc:=br (cw T st).1.1;by_cases h1:(cw T st).2.aa=[];rw[cW h1] at q
     rotate_left
     rw[cH h1] at q
     rotate_left
     all_goals
      generalize (cw T st).1.2=e at *;generalize (cw T st).1.1=t at *;generalize (cw T st).2=s1 at *;generalize aG aB=A at *;exact⟨_,by simp[q,jT,-af,-aj,-ah,-az,-ck,u1,u2,cR,he,ur,uc,xr,hf,h8,h9,gG,iH,aN,aP];with_reducible rfl,he,rfl⟩
   .rw[mj cR];exact .inr ⟨_,by simp[q,jT,-af,-aj,-ah,-az,-ck,u1,u2,cR,xr,hf,h8,h9,gG,iH,aN,aP];with_reducible rfl,rfl,ha,rfl⟩
theorem ae0(n:Nat){x y:AV}{T:List bj}{L:List Tok}(hx:ba x=some T)(hy:bx y=some L)(M:Nat):∀(st:St) (m md:Nat),RC T L st->st.aa=[]->(L.length-st.aZ)<=100000->L.length-st.aZ<M+1->M+1<=m->(CA (gu 3 0 (bL (aH (aF (b9 CG CC) (n+1)) (n+1) w8) rM 3 m (Af (.ptr 2 0) .aJ) ⟨3,[.row [x,y,.int .i64 st.aZ,.int .i64 st.next,.aJ],.row [x],.row [x]],3,md⟩)) (lI T L.length (M+1) [] st)\/∃h',(gu 3 0 (bL (aH (aF (b9 CG CC) (n+1)) (n+1) w8) rM 3 m (Af (.ptr 2 0) .aJ) ⟨3,[.row [x,y,.int .i64 st.aZ,.int .i64 st.next,.aJ],.row [x],.row [x]],3,md⟩))=some (.exit 0,FM 43 [(8,.aJ)],h')/\lI T L.length (M+1) [] st=([],0)):=by
 have iN:=(NY n hx hy M).1;have iE:=TK n hx hy M;have aN:=aR hx;have aP:=aI hy;have fA:=aN.Fh;have jX:=aP.Fh;have u1:=Du aN aP;have u2:=Nr aN aP;have jT:=jR hy;have xr:x.aK=0:=aN.aK;intro st m md hc h0 hl hM hm;obtain⟨m,rfl⟩:∃k,m=k+1:=⟨m-1,by omega⟩
 rw[ak];have q:=uH hx hy hc;rw[bz h0,h0,pO,an] at q;by_cases cR:(st.aZ:Int)<(L.length:Int)
 .have htc:=bB [] (cw T st).1.1;by_cases he:(cw T st).1.2=0
  .rw[pP cR he];obtain⟨c1,mQ⟩:=yi hc he;rw[he] at q;have gr:=bh ([]++[(cw T st).1.1]);have ur:=ay (cw T st).1.1;have uc:=br (cw T st).1.1;by_cases h1:(cw T st).2.aa=[];rw[cW h1] at q;have ih:=iE ([]++[(cw T st).1.1]) (cw T st).2 m (min md 2) c1 h1 (by simp) (by simp;omega) (by omega) (by omega)
   rotate_left
   rw[cH h1] at q;have ih:=iN ([]++[(cw T st).1.1]) (cw T st).2 m (min md 2) c1 h1 (by simp) (by simp;omega) (by omega) (by omega)
   rotate_left
   all_goals
    rw[<-bB,List.length_append,List.length_cons,List.length_nil] at ih;rw[<-bB] at gr;refine .inl ?_;refine OU ih ?_;generalize (cw T st).1.1=t at *;generalize (cw T st).2=s1 at *;simp[q,jT,-af,-aj,-ah,-az,-ck,u1,u2,cR,ur,uc,xr,gr,aT,aG,aN,aP]
  .rw[iD cR he];refine .inl (.inl ?_);have ur:=ay (cw T st).1.1;have uc:=br (cw T st).1.1;by_cases h1:(cw T st).2.aa=[];rw[cW h1] at q
   rotate_left
   rw[cH h1] at q
   rotate_left
   all_goals
    generalize (cw T st).1.2=e at *;generalize (cw T st).1.1=t at *;generalize (cw T st).2=s1 at *;exact⟨_,by simp[q,jT,-af,-aj,-ah,-az,-ck,u1,u2,cR,he,ur,uc,xr,aN,aP];with_reducible rfl,he,rfl⟩
 .rw[mj cR];exact .inr ⟨_,by simp[q,jT,-af,-aj,-ah,-az,-ck,u1,u2,cR,xr,aN,aP];with_reducible rfl,rfl⟩
end
section
def jI(T:List bj)(s:List UInt8):List Tm×Int:=
 if ew T=false then ([],1)
 else if (a8 s).2.2≠0 then ([],(a8 s).2.2)
 else lI T (a8 s).1.length ((a8 s).1.length+1) [] (bJ (a8 s).1 0)
def nD(r:List Tm×Int):AV:=.tuple [wx r.1,.int .i64 r.2]
theorem Bb(r:List Tm×Int):(nD r).aK=0:=by simp[nD,AV.aK,AV.aw,Lm]
attribute [local simp] fX fU fY fR eO eN fP fS fT eQ eR fQ lg kZ lr k9 kX kW fc fe Laid.aK db dc bf adO Tb c17 c42 rM CG CC Am Mq Ca nD
theorem Jf{x:AV}{T:List bj}(hx:ba x=some T)(hT:T.length<1000000)(s:List UInt8):∃h',aF (b9 CG CC) 200000 17 [.agg [x],.str s] h0=some (nD (jI T s),h'):=by
 have qg:=Ea hx (by omega);have qc:=O0 s;have zj:=oP s;have hy:=vy (a8 s).1;unfold oF at qc;unfold jI;have aN:=aR hx;have aP:=aI hy;have fx:=λh=>aN.fr h 0 6
 have fA:=aN.Fh;have jX:=aP.Fh;have u1:=Du aN aP;have xr:x.aK=0:=aN.aK
 cases hg:ew T with
 |false=>rw[if_pos rfl];rw[hg] at qg;exact⟨_,by simp[u1,qg,qc,fA,jX,fx,xr,-af,-aj,-ah,-az,-ck,wx,aN,aP];with_reducible rfl⟩
 |true=>
   rw[if_neg (by simp)];rw[hg] at qg;by_cases he:(a8 s).2.2=0
   .rw[if_neg (λh=>h he)];have hc:=YC (T:=T) (a:=0) hT zj.1 zj.2 (Nat.zero_le _);rw[he] at qc;have lp:=ae0 199998 hx hy (a8 s).1.length (bJ (a8 s).1 0) 199999 0 hc rfl (by have:=zj.2;show _-0<=_;omega) (by show _-0<_;omega) (by have:=zj.2;omega);rw[show (((bJ (a8 s).1 0).aZ:Nat):Int)=0 from rfl,show (((bJ (a8 s).1 0).next:Nat):Int)=0 from rfl] at lp;generalize j5 (a8 s).1=y at *;generalize lI T (a8 s).1.length ((a8 s).1.length+1) [] (bJ (a8 s).1 0)=r at *;generalize (a8 s).2.1=pp at *;obtain⟨l,e⟩:=r;simp only[rM,Af,CG,CC] at lp;rcases lp with (⟨⟨nx,os,wl,md⟩,lp,h1,h2⟩|⟨⟨nx,os,wl,md⟩,lp,h1,h2,h3⟩)|⟨⟨nx,os,wl,md⟩,lp,h1⟩
    .dsimp only at lp h1 h2;subst h2;exact⟨_,by simp[u1,qg,qc,fA,jX,fx,xr,-af,-aj,-ah,-az,-ck,wx,lp,aN,aP];with_reducible rfl⟩
    .dsimp only at lp h1 h2 h3;subst h1;have fk:∀d,jF ⟨nx,os,wl,md⟩ 0 (d+2) (.vec 3 0 l.length 4 l.length)=some (.sl (l.map Tm.aV),[3]):=λd=>sA h2 (Nat.zero_le 3) h3
     have hr:=bF l;have hs:=sh h2;unfold nD;dsimp only;rw[hs];generalize l.map Tm.aV=U at *;generalize l.length=k at *;exact⟨_,by simp[u1,qg,qc,fA,jX,fx,xr,-af,-aj,-ah,-az,-ck,lp,fk,hr,-iA,aN,aP];with_reducible rfl⟩
    .cases h1;exact⟨_,by simp[u1,qg,qc,fA,jX,fx,xr,-af,-aj,-ah,-az,-ck,wx,lp,aN,aP];with_reducible rfl⟩
   .rw[if_pos he];exact⟨_,by simp[u1,qg,qc,fA,jX,fx,xr,-af,-aj,-ah,-az,-ck,he,wx,aN,aP];with_reducible rfl⟩
noncomputable def qW:aX:=⟨17,λ
 |[.agg [x],.str s]=>(match ba x with|some T=>if T.length<1000000 then some (nD (jI T s)) else none|none=>none)
 |_=>none⟩
theorem sy:qW.f=17:=(rfl)
theorem Kw{x:AV}{T:List bj}(hx:ba x=some T)(hT:T.length<1000000)(s:List UInt8):qW.S [.agg [x],.str s]=some (nD (jI T s)):=by simp only[qW,hx,if_pos hT]
theorem JS:fi Tryz.prog cX qW:=λag v hv=>by
 unfold qW at hv|-;dsimp only at hv|-;split at hv
 .rename_i x s;split at hv
  .rename_i T hx;split at hv
   .rename_i hT;cases hv;obtain⟨h',e⟩:=Jf hx hT s;exact bG (dK (ss:=CG) (ms:=CC) (by simp[CG,EH.lift,OI]) (by simp[CC,KZ])) e (Bb _) (by simp[AV.aK,AV.aw,fL hx])
   .cases hv
  .cases hv
 .cases hv
end
section
theorem yG{x y:AV}(hx:Laid x)(hy:Laid y)(a b:Int)(c:Bool)(τ:List Nat):fJ [x,y,.int .i64 a,.aJ,.int .i64 b,.bool c] τ=τ:=by simp only[fJ,hx.top,hy.top];rfl
theorem B3{x y:AV}(hx:Laid x)(hy:Laid y)(a b:Int)(c:Bool)(k l j:Nat)(hk:(j=k)=False):fJ [x,y,.int .i64 a,.vec k 0 l 2 l,.int .i64 b,.bool c] [j]=[j,k]:=by simp only[fJ,hx.top,hy.top];show fJ [.int .i64 b,.bool c] (if o5 [j] k then ([j]:List Nat) else [j,k])=_;simp only[o5,hk,if_false];rfl
section
variable {T:List bj}{s:List UInt8}(hg:ew T=true)(he:(a8 s).2.2=0)
include hg he
theorem XW(bV:(ae T 1200 (bJ (a8 s).1 0)).1.2.2=false):il T s=((lh,[]),2):=by
 have e:(cw T (bJ (a8 s).1 0)).1.2=2:=by show (if (!(ae T 1200 (bJ (a8 s).1 0)).1.2.2||!decide ((aL (ae T 1200 (bJ (a8 s).1 0)).2).au=6))=true then ((lh,(2:Int)),(ae T 1200 (bJ (a8 s).1 0)).2) else if fH (ae T 1200 (bJ (a8 s).1 0)).1.1=true then (((ae T 1200 (bJ (a8 s).1 0)).1.1,0),aq (ae T 1200 (bJ (a8 s).1 0)).2) else ((lh,3),aq (ae T 1200 (bJ (a8 s).1 0)).2)).1.2=2;rw[if_pos (by rw[bV];rfl)]
 unfold il;rw[if_neg (by rw[hg];simp),if_neg (λh=>h he),if_pos (.inl e)]
theorem XH(hk:¬(aL (ae T 1200 (bJ (a8 s).1 0)).2).au=6):il T s=((lh,[]),2):=by
 have e:(cw T (bJ (a8 s).1 0)).1.2=2:=by show (if (!(ae T 1200 (bJ (a8 s).1 0)).1.2.2||!decide ((aL (ae T 1200 (bJ (a8 s).1 0)).2).au=6))=true then ((lh,(2:Int)),(ae T 1200 (bJ (a8 s).1 0)).2) else if fH (ae T 1200 (bJ (a8 s).1 0)).1.1=true then (((ae T 1200 (bJ (a8 s).1 0)).1.1,0),aq (ae T 1200 (bJ (a8 s).1 0)).2) else ((lh,3),aq (ae T 1200 (bJ (a8 s).1 0)).2)).1.2=2;rw[if_pos (by rw[decide_eq_false hk];simp)]
 unfold il;rw[if_neg (by rw[hg];simp),if_neg (λh=>h he),if_pos (.inl e)]
variable (bV:(ae T 1200 (bJ (a8 s).1 0)).1.2.2=true)(hk:(aL (ae T 1200 (bJ (a8 s).1 0)).2).au=6)
include bV hk
theorem T9:cw T (bJ (a8 s).1 0)=if fH (ae T 1200 (bJ (a8 s).1 0)).1.1=true then (((ae T 1200 (bJ (a8 s).1 0)).1.1,0),aq (ae T 1200 (bJ (a8 s).1 0)).2) else ((lh,3),aq (ae T 1200 (bJ (a8 s).1 0)).2):=by show (if (!(ae T 1200 (bJ (a8 s).1 0)).1.2.2||!decide ((aL (ae T 1200 (bJ (a8 s).1 0)).2).au=6))=true then ((lh,(2:Int)),(ae T 1200 (bJ (a8 s).1 0)).2) else if fH (ae T 1200 (bJ (a8 s).1 0)).1.1=true then (((ae T 1200 (bJ (a8 s).1 0)).1.1,0),aq (ae T 1200 (bJ (a8 s).1 0)).2) else ((lh,3),aq (ae T 1200 (bJ (a8 s).1 0)).2))=_;rw[if_neg (by rw[bV,hk];decide)]
theorem Zg(ha:(ae T 1200 (bJ (a8 s).1 0)).2.aZ+1<(a8 s).1.length):il T s=((lh,[]),2):=by
 have e:((cw T (bJ (a8 s).1 0)).2.aZ:Int)<(a8 s).1.length:=by
  rw[T9 hg he bV hk];split
  .show (((ae T 1200 (bJ (a8 s).1 0)).2.aZ+1:Nat):Int)<_;omega
  .show (((ae T 1200 (bJ (a8 s).1 0)).2.aZ+1:Nat):Int)<_;omega
 unfold il;rw[if_neg (by rw[hg];simp),if_neg (λh=>h he),if_pos (.inr e)]
theorem ZM(ha:¬(ae T 1200 (bJ (a8 s).1 0)).2.aZ+1<(a8 s).1.length):il T s=if fH (ae T 1200 (bJ (a8 s).1 0)).1.1=true then (((ae T 1200 (bJ (a8 s).1 0)).1.1,(ae T 1200 (bJ (a8 s).1 0)).2.aa),0) else ((lh,[]),3):=by
 unfold il;rw[if_neg (by rw[hg];simp),if_neg (λh=>h he),T9 hg he bV hk];by_cases zj:fH (ae T 1200 (bJ (a8 s).1 0)).1.1=true
 .rw[if_pos zj,if_pos zj,if_neg (by
   rintro (h|h)
   .exact absurd (show (0:Int)=2 from h) (by decide)
   .exact ha (by have:(((ae T 1200 (bJ (a8 s).1 0)).2.aZ+1:Nat):Int)<((a8 s).1.length:Int):=h
                 omega)),if_neg (λh=>h rfl)]
  rfl
 .rw[if_neg zj,if_neg zj,if_neg (by
   rintro (h|h)
   .exact absurd (show (3:Int)=2 from h) (by decide)
   .exact ha (by have:(((ae T 1200 (bJ (a8 s).1 0)).2.aZ+1:Nat):Int)<((a8 s).1.length:Int):=h
                 omega)),if_pos (show ¬(3:Int)=0 by decide)]
end
theorem ZV{T:List bj}{L:List Tok}{a:Nat}(hT:T.length<1000000)(hg:ew T=true)(hL:L.all n9=true)(hl:L.length<=1024)(ha:a<=L.length+1):DC T L (bJ L a):=⟨YC hT hL hl ha,hg⟩
noncomputable def X9:List aX:=[so,Gy,xk]
noncomputable def Ye:List cr:=[fb 1025,mr]
attribute [local simp] fX fU fY fR eO eN fP fS fT eQ eR fQ lK lQ lS lO lM lT fc fe Laid.aK db dc bf adS c35 X9 Ye zL HT DO jQ cM o7 lf dJ
theorem QB{x:AV}{T:List bj}(hx:ba x=some T)(hT:T.length<1000000)(s:List UInt8):∃h',aF (b9 X9 Ye) 30 35 [x,.str s] h0=some (o7 (il T s),h'):=by
 have qg:=Eu hx (by omega);have qc:=JO s;have zj:=oP s;have hy:=vy (a8 s).1;unfold oF at qc;have aN:=aR hx;have aP:=aI hy;have fx:=λh n0 d=>aN.fr h n0 d
 have fA:=aN.Fh;have u1:=yG aN aP;have u2:=B3 aN aP;have jX:=aP.Fh;have jT:=jR hy
 cases hg:ew T with
 |false=>
   have e:il T s=((lh,[]),1):=by unfold il;rw[if_pos hg]
   rw[e];rw[hg] at qg;exact⟨_,by simp[u1,qg,qc,fA,jX,fx,-af,-aj,-ah,-az,-ck,aN,aP];with_reducible rfl⟩
 |true=>
   rw[hg] at qg;by_cases he:(a8 s).2.2=0
   .have hc:=ZV (T:=T) (a:=0) hT hg zj.1 zj.2 (Nat.zero_le _)
    have qm:(bJ (a8 s).1 0).aC.length<1025:=by rw[hc.rc.aC,List.length_drop,eZ];have:=zj.2;omega
    have q:=cE 1025 hx hy hc 1200 (by decide) qm;rw[aU (st:=bJ (a8 s).1 0) rfl,show (bJ (a8 s).1 0).aa=[] from rfl,show (((bJ (a8 s).1 0).aZ:Nat):Int)=0 from rfl,show (((bJ (a8 s).1 0).next:Nat):Int)=0 from rfl,an] at q;rw[he] at qc;have ur:=ay (cP (ae T 1200 (bJ (a8 s).1 0)).1).1;have uc:=br (cP (ae T 1200 (bJ (a8 s).1 0)).1).1;have nl:=λh=>At (l:=(ae T 1200 (bJ (a8 s).1 0)).2.aa) h
    have nr:=Ee (ae T 1200 (bJ (a8 s).1 0)).2.aa;have fk:∀(h:ai) (n0 d id:Nat),n0<=id->h.get id=some (.row (aQ (ae T 1200 (bJ (a8 s).1 0)).2.aa))->jF h n0 (d+2) (.vec id 0 (ae T 1200 (bJ (a8 s).1 0)).2.aa.length 2 (ae T 1200 (bJ (a8 s).1 0)).2.aa.length)=some (.sl ((ae T 1200 (bJ (a8 s).1 0)).2.aa.map RG),[id]):=λh n0 d id a b=>aax a b
    cases bV:(ae T 1200 (bJ (a8 s).1 0)).1.2.2 with
    |false=>
      rw[XW hg he bV];rw[bV] at q;by_cases h1:(ae T 1200 (bJ (a8 s).1 0)).2.aa=[]
      .rw[cI h1] at q;generalize j5 (a8 s).1=y at *;generalize aM (a8 s).1 (ae T 1200 (bJ (a8 s).1 0)).2=tk at *;generalize (a8 s).1.length=nl1 at *;generalize (a8 s).2.1=pp at *;generalize (cP (ae T 1200 (bJ (a8 s).1 0)).1).2=tl at *;generalize (cP (ae T 1200 (bJ (a8 s).1 0)).1).1=t at *;generalize (ae T 1200 (bJ (a8 s).1 0)).2=s1 at *;exact⟨_,by simp[u1,qg,qc,fA,jX,fx,-af,-aj,-ah,-az,-ck,bc,q,jT,ur,uc,eH,aN,aP];with_reducible rfl⟩
      .rw[ch h1] at q;generalize j5 (a8 s).1=y at *;generalize aM (a8 s).1 (ae T 1200 (bJ (a8 s).1 0)).2=tk at *;generalize (a8 s).1.length=nl1 at *;generalize (a8 s).2.1=pp at *;generalize (cP (ae T 1200 (bJ (a8 s).1 0)).1).2=tl at *;generalize (cP (ae T 1200 (bJ (a8 s).1 0)).1).1=t at *;generalize (ae T 1200 (bJ (a8 s).1 0)).2=s1 at *;exact⟨_,by simp[u1,qg,qc,fA,jX,fx,-af,-aj,-ah,-az,-ck,bc,q,jT,ur,uc,eH,u2,aN,aP];with_reducible rfl⟩
    |true=>
      have ho:=(a6 T).ok 1200 (bJ (a8 s).1 0) bV;have c1:=hc.ok ho;have q1:=ee hx hy c1;have ks:(aL (ae T 1200 (bJ (a8 s).1 0)).2).au=(aM (a8 s).1 (ae T 1200 (bJ (a8 s).1 0)).2).au:=by rw[bm c1.rc]
      rw[bK] at q1;rw[bV] at q;by_cases hk:(aL (ae T 1200 (bJ (a8 s).1 0)).2).au=6
      .have mQ:=de c1.rc (by rw[hk];decide);rw[ks] at hk;rw[hk] at q1;by_cases ha:(ae T 1200 (bJ (a8 s).1 0)).2.aZ+1<(a8 s).1.length
       .rw[Zg hg he bV (ks.trans hk) ha];have a1:¬((ae T 1200 (bJ (a8 s).1 0)).2.aZ:Int)=((a8 s).1.length:Int)-1:=by omega
        have w1:=wrap_i64 (n:=((a8 s).1.length:Int)-1) (by omega) (by have:=zj.2;omega);by_cases h1:(ae T 1200 (bJ (a8 s).1 0)).2.aa=[]
        .rw[cI h1] at q;rw[aU h1] at q1;generalize j5 (a8 s).1=y at *;generalize aM (a8 s).1 (ae T 1200 (bJ (a8 s).1 0)).2=tk at *;generalize (a8 s).1.length=nl1 at *;generalize (a8 s).2.1=pp at *;generalize (cP (ae T 1200 (bJ (a8 s).1 0)).1).2=tl at *;generalize (cP (ae T 1200 (bJ (a8 s).1 0)).1).1=t at *;generalize (ae T 1200 (bJ (a8 s).1 0)).2=s1 at *;exact⟨_,by simp[u1,qg,qc,fA,jX,fx,-af,-aj,-ah,-az,-ck,bc,q,jT,ur,uc,eH,q1,a1,w1,aN,aP];with_reducible rfl⟩
        .rw[ch h1] at q;rw[aS h1] at q1;generalize j5 (a8 s).1=y at *;generalize aM (a8 s).1 (ae T 1200 (bJ (a8 s).1 0)).2=tk at *;generalize (a8 s).1.length=nl1 at *;generalize (a8 s).2.1=pp at *;generalize (cP (ae T 1200 (bJ (a8 s).1 0)).1).2=tl at *;generalize (cP (ae T 1200 (bJ (a8 s).1 0)).1).1=t at *;generalize (ae T 1200 (bJ (a8 s).1 0)).2=s1 at *;exact⟨_,by simp[u1,qg,qc,fA,jX,fx,-af,-aj,-ah,-az,-ck,bc,q,jT,ur,uc,eH,u2,q1,a1,w1,aN,aP];with_reducible rfl⟩
       .rw[ZM hg he bV (ks.trans hk) ha];have a1:(((ae T 1200 (bJ (a8 s).1 0)).2.aZ:Int)=((a8 s).1.length:Int)-1)=True:=eq_true (by omega);have w1:=wrap_i64 (n:=((a8 s).1.length:Int)-1) (by omega) (by have:=zj.2;omega);have et:(cP (ae T 1200 (bJ (a8 s).1 0)).1).1=(ae T 1200 (bJ (a8 s).1 0)).1.1:=by unfold cP;rw[bV];rfl
        have hB:=(wI T ((bJ (a8 s).1 0).aC.length+1)).b 1200 (bJ (a8 s).1 0) (AM hc.rc) bV;have Xe:=hB.1;have q2:=vD (ae T 1200 (bJ (a8 s).1 0)).1.1 (by change Tm.ig (ae T 1200 (bJ (a8 s).1 0)).1.1<=_ at Xe;omega);rw[et] at q ur uc;rw[an] at q2
        cases G6:fH (ae T 1200 (bJ (a8 s).1 0)).1.1 with
        |true=>
          rw[if_pos rfl];rw[G6] at q2;by_cases h1:(ae T 1200 (bJ (a8 s).1 0)).2.aa=[]
          .rw[cI h1] at q;rw[aU h1] at q1;unfold o7;dsimp only;have tc:=an (ae T 1200 (bJ (a8 s).1 0)).1.1;rw[h1];rw[tc];generalize j5 (a8 s).1=y at *;generalize aM (a8 s).1 (ae T 1200 (bJ (a8 s).1 0)).2=tk at *;generalize (a8 s).1.length=nl1 at *;generalize (a8 s).2.1=pp at *;generalize (cP (ae T 1200 (bJ (a8 s).1 0)).1).2=tl at *;generalize (ae T 1200 (bJ (a8 s).1 0)).1.1=t at *;generalize (ae T 1200 (bJ (a8 s).1 0)).2=s1 at *;exact⟨_,by simp[u1,qg,qc,fA,jX,fx,-af,-aj,-ah,-az,-ck,bc,q,jT,ur,uc,eH,q1,a1,w1,q2,aN,aP];with_reducible rfl⟩
          .rw[ch h1] at q;rw[aS h1] at q1;have nl2:=nl h1;unfold o7;dsimp only;have tc:=an (ae T 1200 (bJ (a8 s).1 0)).1.1;rw[nl2];rw[tc];generalize (ae T 1200 (bJ (a8 s).1 0)).2.aa.map RG=NL at *;generalize j5 (a8 s).1=y at *;generalize aM (a8 s).1 (ae T 1200 (bJ (a8 s).1 0)).2=tk at *;generalize (a8 s).1.length=nl1 at *;generalize (a8 s).2.1=pp at *;generalize (cP (ae T 1200 (bJ (a8 s).1 0)).1).2=tl at *;generalize (ae T 1200 (bJ (a8 s).1 0)).1.1=t at *;generalize (ae T 1200 (bJ (a8 s).1 0)).2=s1 at *;exact⟨_,by simp[u1,qg,qc,fA,jX,fx,-af,-aj,-ah,-az,-ck,bc,q,jT,ur,uc,eH,u2,q1,a1,w1,q2,fk,nr,-iA,aN,aP];with_reducible rfl⟩
        |false=>
          rw[if_neg (by simp)];rw[G6] at q2;by_cases h1:(ae T 1200 (bJ (a8 s).1 0)).2.aa=[]
          .rw[cI h1] at q;rw[aU h1] at q1;generalize j5 (a8 s).1=y at *;generalize aM (a8 s).1 (ae T 1200 (bJ (a8 s).1 0)).2=tk at *;generalize (a8 s).1.length=nl1 at *;generalize (a8 s).2.1=pp at *;generalize (cP (ae T 1200 (bJ (a8 s).1 0)).1).2=tl at *;generalize (ae T 1200 (bJ (a8 s).1 0)).1.1=t at *;generalize (ae T 1200 (bJ (a8 s).1 0)).2=s1 at *;exact⟨_,by simp[u1,qg,qc,fA,jX,fx,-af,-aj,-ah,-az,-ck,bc,q,jT,ur,uc,eH,q1,a1,w1,q2,aN,aP];with_reducible rfl⟩
          .rw[ch h1] at q;rw[aS h1] at q1;generalize j5 (a8 s).1=y at *;generalize aM (a8 s).1 (ae T 1200 (bJ (a8 s).1 0)).2=tk at *;generalize (a8 s).1.length=nl1 at *;generalize (a8 s).2.1=pp at *;generalize (cP (ae T 1200 (bJ (a8 s).1 0)).1).2=tl at *;generalize (ae T 1200 (bJ (a8 s).1 0)).1.1=t at *;generalize (ae T 1200 (bJ (a8 s).1 0)).2=s1 at *;exact⟨_,by simp[u1,qg,qc,fA,jX,fx,-af,-aj,-ah,-az,-ck,bc,q,jT,ur,uc,eH,u2,q1,a1,w1,q2,aN,aP];with_reducible rfl⟩
      .rw[XH hg he hk];rw[ks] at hk;by_cases h1:(ae T 1200 (bJ (a8 s).1 0)).2.aa=[]
       .rw[cI h1] at q;rw[aU h1] at q1;generalize j5 (a8 s).1=y at *;generalize aM (a8 s).1 (ae T 1200 (bJ (a8 s).1 0)).2=tk at *;generalize (a8 s).1.length=nl1 at *;generalize (a8 s).2.1=pp at *;generalize (cP (ae T 1200 (bJ (a8 s).1 0)).1).2=tl at *;generalize (cP (ae T 1200 (bJ (a8 s).1 0)).1).1=t at *;generalize (ae T 1200 (bJ (a8 s).1 0)).2=s1 at *;exact⟨_,by simp[u1,qg,qc,fA,jX,fx,-af,-aj,-ah,-az,-ck,bc,q,jT,ur,uc,eH,q1,hk,aN,aP];with_reducible rfl⟩
       .rw[ch h1] at q;rw[aS h1] at q1;generalize j5 (a8 s).1=y at *;generalize aM (a8 s).1 (ae T 1200 (bJ (a8 s).1 0)).2=tk at *;generalize (a8 s).1.length=nl1 at *;generalize (a8 s).2.1=pp at *;generalize (cP (ae T 1200 (bJ (a8 s).1 0)).1).2=tl at *;generalize (cP (ae T 1200 (bJ (a8 s).1 0)).1).1=t at *;generalize (ae T 1200 (bJ (a8 s).1 0)).2=s1 at *;exact⟨_,by simp[u1,qg,qc,fA,jX,fx,-af,-aj,-ah,-az,-ck,bc,q,jT,ur,uc,eH,u2,q1,hk,aN,aP];with_reducible rfl⟩
   .have e:il T s=((lh,[]),(a8 s).2.2):=by unfold il;rw[if_neg (by rw[hg];simp),if_pos he]
    rw[e];exact⟨_,by simp[u1,qg,qc,fA,jX,fx,-af,-aj,-ah,-az,-ck,he,aN,aP];with_reducible rfl⟩
noncomputable def As:aX:=⟨35,λ
 |[x,.str s]=>(match ba x with|some T=>if T.length<1000000 then some (o7 (il T s)) else none|none=>none)
 |_=>none⟩
theorem yl:As.f=35:=(rfl)
theorem Qt{x:AV}{T:List bj}(hx:ba x=some T)(hT:T.length<1000000)(s:List UInt8):As.S [x,.str s]=some (o7 (il T s)):=by simp only[As,hx,if_pos hT]
theorem SB:fi Tryz.prog cX As:=λag v hv=>by
 unfold As at hv|-;dsimp only at hv|-;split at hv
 .rename_i x s;split at hv
  .rename_i T hx;split at hv
   .rename_i hT;cases hv;obtain⟨h',e⟩:=QB hx hT s;exact bG (dK (ss:=X9) (ms:=Ye) (by simp[X9,Em.lift,K0.lift,GS.lift]) (by simp[Ye,uo,pj])) e (CP _) (by simp[AV.aK,AV.aw,fL hx])
   .cases hv
  .cases hv
 .cases hv
end
end Go.Proofs.YtjmeonoabiliiaaGreatDoor
