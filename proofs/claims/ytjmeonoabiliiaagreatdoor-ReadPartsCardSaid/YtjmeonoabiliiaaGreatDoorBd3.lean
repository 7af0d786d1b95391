import Derived.Test.YtjmeonoabiliiaaGreatDoorAt
import Derived.Test.YtjmeonoabiliiaaGreatDoorBd2
set_option linter.unusedVariables false
set_option linter.unusedSimpArgs false
set_option linter.unusedSectionVars false
set_option maxHeartbeats 16000000
set_option maxRecDepth 100000

namespace Go.Proofs.YtjmeonoabiliiaaGreatDoor
open Go Sz
theorem bf {x y:AV} {st:St} (h:st.names=[]):dj x y st=[.row [x,y,.int .i64 st.at_,.int .i64 st.next,.aA]]:=by unfold dj;rw[h];rfl
theorem bd {x y:AV} {st:St} (h:st.names≠[]):dj x y st=[.row [x,y,.int .i64 st.at_,.int .i64 st.next,.vec 1 0 st.names.length 2 st.names.length],.row (ak st.names)]:=by
 unfold dj kA s8
 cases hn:st.names with
 | nil=>exact absurd hn h
 | cons p r=>rfl
theorem cA {x y:AV} {st':St} (h:st'.names=[]):dm x y [] st'=[.row [x,y,.int .i64 st'.at_,.int .i64 st'.next,.aA]]:=bf h
theorem bX {x y:AV} {st':St} (h:st'.names≠[]):dm x y [] st'=[.row [x,y,.int .i64 st'.at_,.int .i64 st'.next,.vec 1 0 st'.names.length 2 st'.names.length],.row (ak st'.names)]:=bd h
theorem dq {x y:AV} {l:List (List UInt8×Int)} {st':St} (h0:l≠[]) (h:st'.names≠[]):dm x y l st'=[.row [x,y,.int .i64 st'.at_,.int .i64 st'.next,.vec 2 0 st'.names.length 2 st'.names.length],.dead,.row (ak st'.names)]:=by
 unfold dm
 cases l with
 | nil=>exact absurd rfl h0
 | cons p r=>
   dsimp only;unfold kA
   cases hm:st'.names with
   | nil=>exact absurd hm h
   | cons q s=>rfl
theorem Lv.names {st st':St} (h:Lv st st') (h0:st.names≠[]):st'.names≠[]:=by
 obtain⟨q,hq⟩:=h.pre;rw[hq];intro e;exact h0 (List.append_eq_nil_iff.1 e).1
theorem bY (t:Tok):t.enc=.agg [.int .i64 t.kind,.str t.text,.int .i64 t.num,.bool t.ig,.int .i64 t.at_]:=rfl
noncomputable def uJ:bM:=⟨160,fun
 | [.ptr 0 0,.str s],os=>(match qJ os with | some R=>some (.bool (bb s R.st).1,some (dj R.x R.y (bb s R.st).2)) | none=>none)
 | _,_=>none⟩
theorem bc:uJ.f=160:=(rfl)
theorem fP {x y:AV} {T:List bO} {L:List Tok} {st:St} (hx:bx x=some T) (hy:br y=some L) (h:RC T L st) (s:List UInt8):uJ.S [.ptr 0 0,.str s] (dj x y st)=some (.bool (bb s st).1,some (dj x y (bb s st).2)):=by
 simp only[uJ,iG hx hy h]
theorem eK (s:List UInt8) (st:St):(bb s st).2.names=st.names∧(bb s st).2.next=st.next:=by
 unfold bb;split<;>exact⟨rfl,rfl⟩
theorem wm:dy Tryz.prog cq uJ:=fun args os v r hv=>by
 unfold uJ at hv;dsimp only at hv;split at hv
 ·rename_i os s;split at hv
  ·rename_i R hR;cases hv;obtain⟨hx,hy,rfl,hc⟩:=gN hR;obtain⟨x,y,T,L,st⟩:=R;dsimp only at hx hy hc ⊢;rw[bc];have hE:b8 Tryz.prog cq (bh [] [pY]):=eV (by simp) (by simp[rZ]);have hlx:=bD hx;have hly:=bo hy;have q:=dp hx hy hc;rw[bY] at q;have hsee:=bu hc;have hlt:=hc.le;have hlb:=hc.lb;have w:=wrap_i64 (n:=(st.at_:Int)+1) (by omega) (by omega);have x1:=hlx.refs;have y1:=hly.refs;have g1:=cT hlx hly;have g2:=cR hlx hly;have g3:=cU hlx hly;have g4:=cS hlx hly;have g5:=cV hlx hly;have g6:=cQ hlx hly
   have key:∀c d:Bool,(bm L st).kind=5∧c=true∨¬ (bm L st).kind=5∧c=false→((bm L st).text==s)=d→
    (st.names=[]→(az (bh [] [pY]) 6 160 [.ptr 0 0,.str s] ⟨1,[.row [x,y,.int .i64 st.at_,.int .i64 st.next,.aA]],1,1⟩).map (fun p=>(p.1,p.2.get 0))=some (.bool (c&&d),some (.row [x,y,.int .i64 (if c&&d then (st.at_:Int)+1 else st.at_),.int .i64 st.next,.aA])))∧
    (st.names≠[]→(az (bh [] [pY]) 6 160 [.ptr 0 0,.str s] ⟨2,[.row (ak st.names),.row [x,y,.int .i64 st.at_,.int .i64 st.next,.vec 1 0 st.names.length 2 st.names.length]],2,2⟩).map (fun p=>(p.1,p.2.get 0,p.2.get 1))=
     some (.bool (c&&d),some (.row [x,y,.int .i64 (if c&&d then (st.at_:Int)+1 else st.at_),.int .i64 st.next,.vec 1 0 st.names.length 2 st.names.length]),some (.row (ak st.names)))):=fun c d hcd hd=>by
    have f1:=aF st.names;have f2:=aE st.names;have f3:=ah st.names;refine⟨fun h0=>?_,fun h0=>?_⟩
    ·rw[bf h0] at q;generalize bm L st=t at *;rcases hcd with⟨k5,rfl⟩ | ⟨k5,rfl⟩
     ·rw[k5] at q
      cases d with
      | true=>
        have:t.text=s:=by simpa using hd
        subst this;simp[pb,c160,aY,q,x1,y1,g1,g2,g3,g4,g5,g6,-ae,-aj,-ag,w]
      | false=>
        have hn:¬ t.text=s:=by simpa using hd
        simp[pb,c160,aY,q,x1,y1,g1,g2,g3,g4,g5,g6,-ae,-aj,-ag,w,hd,hn]
     ·simp[pb,c160,aY,q,x1,y1,g1,g2,g3,g4,g5,g6,-ae,-aj,-ag,w,k5]
    ·rw[bd h0] at q;generalize ak st.names=F at *;generalize bm L st=t at *;generalize st.names.length=n at *;rcases hcd with⟨k5,rfl⟩ | ⟨k5,rfl⟩
     ·rw[k5] at q
      cases d with
      | true=>
        have:t.text=s:=by simpa using hd
        subst this;simp[pb,c160,aY,q,x1,y1,g1,g2,g3,g4,g5,g6,-ae,-aj,-ag,f1,f2,f3,w]
      | false=>
        have hn:¬ t.text=s:=by simpa using hd
        simp[pb,c160,aY,q,x1,y1,g1,g2,g3,g4,g5,g6,-ae,-aj,-ag,f1,f2,f3,w,hd,hn]
     ·simp[pb,c160,aY,q,x1,y1,g1,g2,g3,g4,g5,g6,-ae,-aj,-ag,f1,f2,f3,w,k5]
   obtain⟨hn1,hn2⟩:=eK s st
   have hval:∀c d:Bool,(bm L st).kind=5∧c=true∨¬ (bm L st).kind=5∧c=false→((bm L st).text==s)=d→(bb s st).1=(c&&d)∧((bb s st).2.at_:Int)=(if c&&d then (st.at_:Int)+1 else st.at_):=fun c d hcd hd=>by
    have k1:(aQ st).kind=(bm L st).kind:=by rw[hsee]
    have k2:(aQ st).text=(bm L st).text:=by rw[hsee]
    unfold bb;rw[k1,k2];rcases hcd with⟨k5,rfl⟩ | ⟨k5,rfl⟩
    ·cases d with
     | true=>
       rw[if_pos ⟨k5,by simpa using hd⟩];exact⟨rfl,by simp[aC]⟩
     | false=>
       rw[if_neg (fun e=>by rw[e.2] at hd;simp at hd)];exact⟨rfl,by simp⟩
    ·rw[if_neg (fun e=>k5 e.1)];exact⟨rfl,by simp⟩
   obtain⟨c,hcc⟩:∃c:Bool,(bm L st).kind=5∧c=true∨¬ (bm L st).kind=5∧c=false:=by
    by_cases h:(bm L st).kind=5
    ·exact⟨true,.inl ⟨h,rfl⟩⟩
    ·exact⟨false,.inr ⟨h,rfl⟩⟩
   obtain⟨k1,k2⟩:=key c _ hcc rfl;obtain⟨v1,v2⟩:=hval c _ hcc rfl;refine Hk (n:=6) hE hlx hly hn1 (fun h0=>?_) (fun h0=>?_) rfl rfl
   ·rw[v1,v2,hn2];exact k1 h0
   ·rw[v1,v2,hn2];exact k2 h0
  ·cases hv
 ·cases hv
theorem zj (n:Nat) (s:List UInt8) (l:List (List UInt8×Int)) (hl:l.length < 1000000) (R:List AV):∀(post pre:List (List UInt8×Int)) (m md:Nat),l=pre++post→post.length < m→
 ∃md',jf 3 2 (cO (aT (az (bh [wZ] []) (n+1)) (n+1) nw) jt 3 m (E4 (.ptr 0 0) (.str s) (.ptr 2 0) (.vec 1 0 l.length 2 l.length) (.int .i64 l.length) (.int .i64 pre.length)) ⟨3,[.row [.int .i64 0,.int .i64 0,.str [],.aA],.row (ak l),.row R],3,md⟩)=
   (match nV s post with
    | some k=>some (.ret,FM 52 [(4,.ptr 2 0)],⟨3,[.row [.int .i64 0,.int .i64 k,.str [],.aA],.row (ak l),.row R],2,md'⟩)
    | none=>some (.exit 0,FM 52 [(0,.ptr 0 0),(1,.str s),(4,.ptr 2 0)],⟨3,[.row [.int .i64 0,.int .i64 0,.str [],.aA],.row (ak l),.row R],2,md'⟩))
 | _,_,0,_,_,h=>by omega
 | [],pre,m+1,md,hs,_=>by
   rw[aB];rw[List.append_nil] at hs;subst hs;have f3:=ah l;generalize ak l=F at *;exact⟨md,by simp[nw,jt,nV,f3]⟩
 | p::r,pre,m+1,md,hs,hm=>by
   rw[aB];have hps:pre.length+r.length+1=l.length:=by rw[hs];simp;omega
   have h6:((pre.length:Int) < (l.length:Int))=True:=eq_true (by omega);have h6':(pre.length < l.length)=True:=eq_true (by omega);have h3:IntKind.i64.wrap ((pre.length:Int)+1)=(pre.length:Int)+1:=wrap_i64 (by omega) (by omega)
   have hd:(ak l).drop (pre.length*2)=.str p.1::.int .i64 p.2::ak r:=by
    have e:ak l=ak pre++ak (p::r):=by rw[hs];unfold ak;rw[List.flatMap_append]
    rw[e,←mU pre,List.drop_left];rfl
   have hfl:(pre.length*2+2≤(ak l).length)=True:=eq_true (by rw[mU];omega);have q:=E3 p.2;have f3:=ah l;obtain⟨md',ih⟩:=zj n s l hl R r (pre++[p]) m (min md 3) (by rw[hs];simp) (by simp at hm;omega);simp only[List.length_append,List.length_cons,List.length_nil,Nat.zero_add,Int.natCast_add,Int.natCast_one] at ih;have hnil:(l=[])=False:=eq_false (fun e=>by rw[e] at hps;simp at hps);unfold nV;generalize ak l=F at *;by_cases hv:p.1=s
   ·rw[if_pos hv];subst hv;refine⟨min md 2,?_⟩;simp[nw,jt,h3,h6,h6',hd,hfl,q,qC,f3]
   ·rw[if_neg hv];have hvb:(p.1==s)=false:=by simpa using hv
    refine⟨md',?_⟩;simp[nw,jt,h3,h6,h6',hd,hfl,q,qC,f3,hv,hvb];exact ih
theorem IA {s:List UInt8} {st:St} {k:Int} (h:nV s st.names=some k):jc s st=(.nl 0 k [],st):=by unfold jc;rw[h]
theorem Gt {s:List UInt8} {st:St} (h:nV s st.names=none):jc s st=(.nl 0 st.next [],⟨st.at_,st.rest,st.next+1,if s=[95] then st.names else st.names++[(s,(st.next:Int))]⟩):=by unfold jc;rw[h]
theorem Rv (k:Int):(Tm.nl 0 k []).enc=.agg [.int .i64 0,.int .i64 k,.str [],.aA]:=rfl
noncomputable def Iw:bM:=⟨159,fun
 | [.ptr 0 0,.str s],os=>(match qJ os with | some R=>some ((jc s R.st).1.enc,some (dm R.x R.y R.st.names (jc s R.st).2)) | none=>none)
 | _,_=>none⟩
theorem cZ:Iw.f=159:=(rfl)
theorem MR {x y:AV} {T:List bO} {L:List Tok} {st:St} (hx:bx x=some T) (hy:br y=some L) (h:RC T L st) (s:List UInt8):Iw.S [.ptr 0 0,.str s] (dj x y st)=some ((jc s st).1.enc,some (dm x y st.names (jc s st).2)):=by
 simp only[Iw,iG hx hy h]
theorem NM:dy Tryz.prog cq Iw:=fun args os v r hv=>by
 unfold Iw at hv;dsimp only at hv;split at hv
 ·rename_i os s;split at hv
  ·rename_i R hR;cases hv;obtain⟨hx,hy,rfl,hc⟩:=gN hR;obtain⟨x,y,T,L,st⟩:=R;dsimp only at hx hy hc ⊢;rw[cZ];have hE:b8 Tryz.prog cq (bh [wZ] []):=eV (by simp[L6.lift]) (by simp);have hlx:=bD hx;have hly:=bo hy;have hlt:=hc.le;have hlb:=hc.lb;have hnx:=hc.nx;have hnm:=hc.nm;have w:=wrap_i64 (n:=(st.next:Int)+1) (by omega) (by omega);have x1:=hlx.refs;have y1:=hly.refs;have q:=fun k=>E3 k
   by_cases h0:st.names=[]
   ·have hf:nV s st.names=none:=by rw[h0];rfl
    rw[Gt hf];by_cases hs:s=[95]
    ·subst hs;refine di (n:=6) hE hlx hly h0 ?_ ?_ (Tm.dh _) rfl
     ·show (if ([95]:List UInt8)=[95] then st.names else st.names++[([95],(st.next:Int))])=[];rw[if_pos rfl,h0]
     ·rw[Rv];show (az (bh [wZ] []) 6 159 [.ptr 0 0,.str [95]] ⟨1,[.row [x,y,.int .i64 st.at_,.int .i64 st.next,.aA]],1,1⟩).map _=_;simp[s9,c159,jt,nw,aB,qC,q,x1,y1,w]
    ·have hsb:(s==[95])=false:=by simpa using hs
     refine dE (n:=6) hE hlx hly 3 (by decide) h0 ?_ ?_ (Tm.dh _) rfl
     ·show (if s=[95] then st.names else st.names++[(s,(st.next:Int))])≠[];rw[if_neg hs,h0];simp
     ·rw[Rv];show (az (bh [wZ] []) 6 159 [.ptr 0 0,.str s] ⟨1,[.row [x,y,.int .i64 st.at_,.int .i64 st.next,.aA]],1,1⟩).map _=_;simp only[if_neg hs,h0,List.nil_append];simp[s9,c159,jt,nw,aB,qC,q,x1,y1,w,hs,hsb,ak,aR]
   ·have hlen:0 < st.names.length:=List.length_pos_iff.2 h0;have f3:=ah st.names;have fl:=mU st.names;obtain⟨md',lp⟩:=zj 199998 s st.names (by omega) [x,y,.int .i64 st.at_,.int .i64 st.next,.vec 1 0 st.names.length 2 st.names.length] st.names [] 199999 2 rfl (by omega);simp only[jt,E4,List.length_nil,Int.natCast_zero] at lp;have hb1:(st.names.length+1)*24≤140737488355328:=by omega
    have hb2:st.names.length+1 < 9223372036854775808:=by omega
    cases hf:nV s st.names with
    | some k=>
      rw[hf] at lp;rw[IA hf];refine cX (n:=200000) hE hlx hly 1 (by decide) h0 h0 ?_ (Tm.dh _) rfl;rw[Rv];show (az (bh [wZ] []) 200000 159 [.ptr 0 0,.str s] ⟨2,[.row (ak st.names),.row [x,y,.int .i64 st.at_,.int .i64 st.next,.vec 1 0 st.names.length 2 st.names.length]],2,2⟩).map _=_;generalize ak st.names=F at *;generalize st.names.length=n at *;simp[s9,c159,jt,qC,q,x1,y1,w,lp,f3]
    | none=>
      rw[hf] at lp;rw[Gt hf];by_cases hs:s=[95]
      ·subst hs;have hn:(if ([95]:List UInt8)=[95] then st.names else st.names++[([95],(st.next:Int))])=st.names:=if_pos rfl;rw[hn];refine cX (n:=200000) hE hlx hly 1 (by decide) h0 h0 ?_ (Tm.dh _) rfl;rw[Rv];show (az (bh [wZ] []) 200000 159 [.ptr 0 0,.str [95]] ⟨2,[.row (ak st.names),.row [x,y,.int .i64 st.at_,.int .i64 st.next,.vec 1 0 st.names.length 2 st.names.length]],2,2⟩).map _=some (_,some (bj.row [x,y,.int .i64 st.at_,.int .i64 ((st.next+1:Nat):Int),.vec 1 0 st.names.length 2 st.names.length]),some (bj.row (ak st.names)));generalize ak st.names=F at *;generalize st.names.length=n at *;simp[s9,c159,jt,qC,q,x1,y1,w,lp,f3]
      ·have hsb:(s==[95])=false:=by simpa using hs
       have hn:(if s=[95] then st.names else st.names++[(s,(st.next:Int))])=st.names++[(s,(st.next:Int))]:=if_neg hs;rw[hn];refine cX (n:=200000) hE hlx hly 4 (by decide) h0 (by simp) ?_ (Tm.dh _) rfl;rw[Rv]
       show (az (bh [wZ] []) 200000 159 [.ptr 0 0,.str s] ⟨2,[.row (ak st.names),.row [x,y,.int .i64 st.at_,.int .i64 st.next,.vec 1 0 st.names.length 2 st.names.length]],2,2⟩).map _=
        some (_,some (bj.row [x,y,.int .i64 st.at_,.int .i64 ((st.next+1:Nat):Int),.vec 4 0 (st.names++[(s,(st.next:Int))]).length 2 (st.names++[(s,(st.next:Int))]).length]),some (bj.row (ak (st.names++[(s,(st.next:Int))]))))
       rw[Dz,List.length_append,List.length_cons,List.length_nil];have ht:(ak st.names).take (st.names.length*2)=ak st.names:=List.take_of_length_le (by omega);generalize ak st.names=F at *;generalize st.names.length=n at *;have hb3:(n*2≤F.length)=True:=eq_true (by omega);have hb4:((n+1)*2≤F.length)=False:=eq_false (by omega);have hb5:(n+1≤n)=False:=eq_false (by omega);simp[s9,c159,jt,qC,q,x1,y1,w,lp,f3,hs,hsb,aR,hb1,hb2,hb3,hb4,hb5,ht]
  ·cases hv
 ·cases hv
def vg (T:List bO) (t:Tok):Bool:=
 if t.kind=0∨t.kind=6 then false
 else if t.kind=5 then decide (t.text=[40])||decide (t.text=[91])||decide (t.text=[123])
 else if !(decide (t.kind=1)||decide (t.kind=2))||t.ig then true
 else !(cd T t.text false).2||(cd T t.text true).2
theorem DO {T:List bO} {L:List Tok} {st:St} (h:RC T L st):fI T st=vg T (bm L st):=by
 unfold fI;rw[bu h];rfl
noncomputable def pE:bM:=⟨181,fun
 | [.ptr 0 0],os=>(match qJ os with | some R=>some (.bool (fI R.T R.st),none) | none=>none)
 | _,_=>none⟩
theorem fy:pE.f=181:=(rfl)
theorem wz {x y:AV} {T:List bO} {L:List Tok} {st:St} (hx:bx x=some T) (hy:br y=some L) (h:RC T L st):pE.S [.ptr 0 0] (dj x y st)=some (.bool (fI T st),none):=by
 simp only[pE,iG hx hy h]
noncomputable def QU:List aS:=[mP,Fo,n5]
theorem QN:∀s ∈ QU,eR Tryz.prog cq s:=by simp[QU,wD.lift,De.lift,Ge.lift]
theorem D6 {x y:AV} {T:List bO} {L:List Tok} {st:St} (hx:bx x=some T) (hy:br y=some L) (hc:RC T L st):
 (st.names=[]→(az (bh QU [pY]) 6 181 [.ptr 0 0] ⟨1,[.row [x,y,.int .i64 st.at_,.int .i64 st.next,.aA]],1,1⟩).map (fun p=>(p.1,p.2.get 0))=some (.bool (vg T (bm L st)),some (.row [x,y,.int .i64 st.at_,.int .i64 st.next,.aA])))∧
 (st.names≠[]→(az (bh QU [pY]) 6 181 [.ptr 0 0] ⟨2,[.row (ak st.names),.row [x,y,.int .i64 st.at_,.int .i64 st.next,.vec 1 0 st.names.length 2 st.names.length]],2,2⟩).map (fun p=>(p.1,p.2.get 0,p.2.get 1))=
  some (.bool (vg T (bm L st)),some (.row [x,y,.int .i64 st.at_,.int .i64 st.next,.vec 1 0 st.names.length 2 st.names.length]),some (.row (ak st.names)))):=by
 have hlx:=bD hx;have hly:=bo hy;have q:=dp hx hy hc;rw[bY] at q;have x1:=hlx.refs;have y1:=hly.refs;have g1:=cT hlx hly;have g2:=cR hlx hly;have g3:=cU hlx hly;have g4:=cS hlx hly;have g5:=cV hlx hly;have g6:=cQ hlx hly;have hfx:=fun h=>hlx.fr h 0 6
 have f1:=aF st.names;have f2:=aE st.names;have f3:=ah st.names;have q1:=eH (bm L st);have q2:=Ae hx (bm L st).text (by have:=hc.tb;omega);have q3:=zL hx (bm L st).text (by have:=hc.tb;omega);simp only[bO.enc,bO.cells] at q2 q3;unfold vg;simp only[QU];have main:∀(h0:List bj) (nx:Nat),True:=fun _ _=>trivial
 by_cases k0:(bm L st).kind=0
 ·rw[if_pos (.inl k0)];rw[k0] at q;refine⟨fun h0=>?_,fun h0=>?_⟩
  ·rw[bf h0] at q;simp[fJ,nf,bz,eW,eM,aY,q,x1,y1,g1,g2,g3,g4,g5,g6,-ae,-aj,-ag]
  ·rw[bd h0] at q;generalize ak st.names=F at *;generalize st.names.length=n at *;simp[fJ,nf,bz,eW,eM,aY,q,x1,y1,g1,g2,g3,g4,g5,g6,-ae,-aj,-ag,f1,f2,f3]
 by_cases k6:(bm L st).kind=6
 ·rw[if_pos (.inr k6)];rw[k6] at q;refine⟨fun h0=>?_,fun h0=>?_⟩
  ·rw[bf h0] at q;simp[fJ,nf,bz,eW,eM,aY,q,x1,y1,g1,g2,g3,g4,g5,g6,-ae,-aj,-ag]
  ·rw[bd h0] at q;generalize ak st.names=F at *;generalize st.names.length=n at *;simp[fJ,nf,bz,eW,eM,aY,q,x1,y1,g1,g2,g3,g4,g5,g6,-ae,-aj,-ag,f1,f2,f3]
 rw[if_neg (by rintro (h | h);exact k0 h;exact k6 h)];by_cases k5:(bm L st).kind=5
 ·rw[if_pos k5];rw[k5] at q
  have fin:∀s,(bm L st).text=s→∀e1 e2 e3:Bool,(s==[40])=e1→(s==[91])=e2→(s==[123])=e3→
   (st.names=[]→(az (bh [mP,Fo,n5] [pY]) 6 181 [.ptr 0 0] ⟨1,[.row [x,y,.int .i64 st.at_,.int .i64 st.next,.aA]],1,1⟩).map (fun p=>(p.1,p.2.get 0))=some (.bool (decide (s=[40])||decide (s=[91])||decide (s=[123])),some (.row [x,y,.int .i64 st.at_,.int .i64 st.next,.aA])))∧
   (st.names≠[]→(az (bh [mP,Fo,n5] [pY]) 6 181 [.ptr 0 0] ⟨2,[.row (ak st.names),.row [x,y,.int .i64 st.at_,.int .i64 st.next,.vec 1 0 st.names.length 2 st.names.length]],2,2⟩).map (fun p=>(p.1,p.2.get 0,p.2.get 1))=
    some (.bool (decide (s=[40])||decide (s=[91])||decide (s=[123])),some (.row [x,y,.int .i64 st.at_,.int .i64 st.next,.vec 1 0 st.names.length 2 st.names.length]),some (.row (ak st.names)))):=fun s hs e1 e2 e3 h1 h2 h3=>by
   rw[hs] at q;clear q1 q2 q3
   cases e1 with
   | true=>
     have:s=[40]:=by simpa using h1
     subst this;refine⟨fun h0=>?_,fun h0=>?_⟩
     ·rw[bf h0] at q;simp[fJ,nf,bz,eW,eM,aY,q,x1,y1,g1,g2,g3,g4,g5,g6,-ae,-aj,-ag]
     ·rw[bd h0] at q;generalize ak st.names=F at *;generalize st.names.length=n at *;simp[fJ,nf,bz,eW,eM,aY,q,x1,y1,g1,g2,g3,g4,g5,g6,-ae,-aj,-ag,f1,f2,f3]
   | false=>
     have n1:¬ s=[40]:=by simpa using h1
     cases e2 with
     | true=>
       have:s=[91]:=by simpa using h2
       subst this;refine⟨fun h0=>?_,fun h0=>?_⟩
       ·rw[bf h0] at q;simp[fJ,nf,bz,eW,eM,aY,q,x1,y1,g1,g2,g3,g4,g5,g6,-ae,-aj,-ag]
       ·rw[bd h0] at q;generalize ak st.names=F at *;generalize st.names.length=n at *;simp[fJ,nf,bz,eW,eM,aY,q,x1,y1,g1,g2,g3,g4,g5,g6,-ae,-aj,-ag,f1,f2,f3]
     | false=>
       have n2:¬ s=[91]:=by simpa using h2
       have n3:(s==[123])=decide (s=[123]):=LH _ _;refine⟨fun h0=>?_,fun h0=>?_⟩
       ·rw[bf h0] at q;simp[fJ,nf,bz,eW,eM,aY,q,x1,y1,g1,g2,g3,g4,g5,g6,-ae,-aj,-ag,h1,h2,n1,n2,n3]
       ·rw[bd h0] at q;generalize ak st.names=F at *;generalize st.names.length=n at *;simp[fJ,nf,bz,eW,eM,aY,q,x1,y1,g1,g2,g3,g4,g5,g6,-ae,-aj,-ag,f1,f2,f3,h1,h2,n1,n2,n3]
  exact fin _ rfl _ _ _ rfl rfl rfl
 rw[if_neg k5];generalize bm L st=t at *;by_cases kn:(decide (t.kind=1)||decide (t.kind=2))=true
 ·rw[kn] at q1 ⊢
  cases ho:t.ig with
  | true=>
    rw[ho] at q q1;refine⟨fun h0=>?_,fun h0=>?_⟩
    ·rw[bf h0] at q;simp[fJ,nf,bz,eW,eM,aY,q,q1,x1,y1,g1,g2,g3,g4,g5,g6,-ae,-aj,-ag,k0,k5,k6]
    ·rw[bd h0] at q;generalize ak st.names=F at *;generalize st.names.length=n at *;simp[fJ,nf,bz,eW,eM,aY,q,q1,x1,y1,g1,g2,g3,g4,g5,g6,-ae,-aj,-ag,f1,f2,f3,k0,k5,k6]
  | false=>
    rw[ho] at q q1;generalize cd T t.text false=I at *;obtain⟨⟨i1,i2,i3⟩,i4⟩:=I;generalize cd T t.text true=J at *;obtain⟨⟨j1,j2,j3⟩,j4⟩:=J;dsimp only at q2 q3 ⊢;refine⟨fun h0=>?_,fun h0=>?_⟩
    ·rw[bf h0] at q;cases i4<;>simp[fJ,nf,bz,eW,eM,aY,hfx,q,q1,q2,q3,x1,y1,g1,g2,g3,g4,g5,g6,-ae,-aj,-ag,k0,k5,k6]
    ·rw[bd h0] at q;generalize ak st.names=F at *;generalize st.names.length=n at *;cases i4<;>simp[fJ,nf,bz,eW,eM,aY,hfx,q,q1,q2,q3,x1,y1,g1,g2,g3,g4,g5,g6,-ae,-aj,-ag,f1,f2,f3,k0,k5,k6]
 ·rw[Bool.not_eq_true] at kn;rw[kn] at q1 ⊢;refine⟨fun h0=>?_,fun h0=>?_⟩
  ·rw[bf h0] at q;simp[fJ,nf,bz,eW,eM,aY,q,q1,x1,y1,g1,g2,g3,g4,g5,g6,-ae,-aj,-ag,k0,k5,k6]
  ·rw[bd h0] at q;generalize ak st.names=F at *;generalize st.names.length=n at *;simp[fJ,nf,bz,eW,eM,aY,q,q1,x1,y1,g1,g2,g3,g4,g5,g6,-ae,-aj,-ag,f1,f2,f3,k0,k5,k6]
theorem Dh:dy Tryz.prog cq pE:=fun args os v r hv=>by
 unfold pE at hv;dsimp only at hv;split at hv
 ·rename_i os;split at hv
  ·rename_i R hR;cases hv;obtain⟨hx,hy,rfl,hc⟩:=gN hR;rw[fy,DO hc];have hE:b8 Tryz.prog cq (bh QU [pY]):=eV QN (by simp[rZ]);obtain⟨r1,r2⟩:=D6 hx hy hc;exact uj (n:=6) hE (bD hx) (bo hy) r1 r2 rfl rfl
  ·cases hv
 ·cases hv
section
variable (n0:Nat) (ks acc:List Nat) (r:List AV)
theorem aH:keeps n0 [] acc=acc:=by simp[keeps]
theorem aG (id o l s b:Nat):keeps n0 (.vec id o l s b::r) acc=if n0≤id∧acc.contains id=false then keeps n0 r (acc++[id]) else keeps n0 r acc:=by simp[keeps,AV.top]
theorem aL (id o:Nat):keeps n0 (.ptr id o::r) acc=if n0≤id∧acc.contains id=false then keeps n0 r (acc++[id]) else keeps n0 r acc:=by simp[keeps,AV.top]
theorem aJ (k:IntKind) (n:Int):keeps n0 (.int k n::r) acc=keeps n0 r acc:=by simp[keeps,AV.top]
theorem ay (b:Bool):keeps n0 (.bool b::r) acc=keeps n0 r acc:=by simp[keeps,AV.top]
theorem au:keeps n0 (.aA::r) acc=keeps n0 r acc:=by simp[keeps,AV.top]
theorem a8 {x:AV} (h:Laid x):keeps n0 (x::r) acc=keeps n0 r acc:=by
 conv=>lhs;unfold keeps
 rw[h.top]
theorem aN (id o l s b:Nat):cF n0 ks (.vec id o l s b)=.vec (lW n0 ks id) o l s b:=rfl
theorem aK (id o:Nat):cF n0 ks (.ptr id o)=.ptr (lW n0 ks id) o:=rfl
theorem aM (k:IntKind) (n:Int):cF n0 ks (.int k n)=.int k n:=rfl
theorem aw (b:Bool):cF n0 ks (.bool b)=.bool b:=rfl
theorem ax:cF n0 ks .aA=.aA:=rfl
theorem ba {x:AV} (h:Laid x):cF n0 ks x=x:=by
 have:=h.sg (lW n0 ks);cases x<;>exact this
end
theorem aI (n:Nat) (cs:List AV):fj n (.row cs)=decide (AV.aq cs≤n):=sc n cs
noncomputable def fO (N:Nat):bM:=⟨71,fun
 | [.ptr 0 0,.int .i64 n],os=>(match qJ os with
   | some R=>if R.st.rest.length < N then some (.tuple [(af R.T n R.st).1.1.enc,.int .i64 (af R.T n R.st).1.2.1,.bool (af R.T n R.st).1.2.2],some (dm R.x R.y R.st.names (af R.T n R.st).2)) else none
   | none=>none)
 | _,_=>none⟩
theorem an (N:Nat):(fO N).f=71:=(rfl)
theorem dk (N:Nat) {x y:AV} {T:List bO} {L:List Tok} {st:St} (hx:bx x=some T) (hy:br y=some L) (h:RC T L st) (n:Int) (hn:st.rest.length < N):
 (fO N).S [.ptr 0 0,.int .i64 n] (dj x y st)=some (.tuple [(af T n st).1.1.enc,.int .i64 (af T n st).1.2.1,.bool (af T n st).1.2.2],some (dm x y st.names (af T n st).2)):=by
 simp only[fO,iG hx hy h];rw[if_pos hn]
theorem G6 (N:Nat) {x y:AV} {T:List bO} {L:List Tok} {st:St} (hx:bx x=some T) (hy:br y=some L) (h:RC T L st) (n:Int) (hn:N≤st.rest.length):
 (fO N).S [.ptr 0 0,.int .i64 n] (dj x y st)=none:=by
 simp only[fO,iG hx hy h];rw[if_neg (by omega)]
theorem bP (T:List bO):uO (af T):=⟨fun n st=>(nv T _).lv n st,fun n st h=>(nv T _).ok n st h⟩
theorem ar (t:Tm):t.enc=.agg [.int .i64 t.kind,.int .i64 t.num,.str t.name,t.cE]:=by rw[Tm.cG];rfl
theorem bK (acc:List Tm) (t:Tm):aU acc++[.int .i64 t.kind,.int .i64 t.num,.str t.name,t.cE]=aU (acc++[t]):=by
 rw[qV];rfl
noncomputable def kQ (N:Nat):List bM:=[fO N,uJ]
theorem mC {rec:Int→St→PR×St} {M:Nat} {acc:List Tm} {st:St} (h:(rec 999 st).1.2.2=false):bw rec (M+1) acc st=((acc,false),(rec 999 st).2):=by
 unfold bw;rw[h,if_neg (by simp)]
theorem iL {rec:Int→St→PR×St} {M:Nat} {acc:List Tm} {st:St} (h:(rec 999 st).1.2.2=true) (h2:(bb [44] (rec 999 st).2).1=false):bw rec (M+1) acc st=((acc++[(rec 999 st).1.1],true),(rec 999 st).2):=by
 unfold bw;rw[h,if_pos rfl,h2,if_neg (by simp)]
theorem jQ {rec:Int→St→PR×St} {M:Nat} {acc:List Tm} {st:St} (h:(rec 999 st).1.2.2=true) (h2:(bb [44] (rec 999 st).2).1=true):bw rec (M+1) acc st=bw rec M (acc++[(rec 999 st).1.1]) (bb [44] (rec 999 st).2).2:=by
 conv=>lhs;unfold bw
 rw[h,if_pos rfl,h2,if_pos rfl]
theorem uF {rec:Int→St→PR×St} (H:uO rec) {M:Nat} {acc:List Tm} {st:St} (h:st.names≠[]):(bw rec M acc st).2.names≠[]:=(ix H M acc st).1.names h
theorem F2 (n N w:Nat) {x y:AV} {T:List bO} {L:List Tok} (hx:bx x=some T) (hy:br y=some L):∀(M:Nat) (acc:List Tm) (st:St) (m md:Nat),RC T L st→st.names≠[]→acc≠[]→acc.length+st.rest.length≤200000→st.rest.length < N→st.rest.length < M→M≤m→
 ∃md',jf 1 w (cO (aT (az (bh [] (kQ N)) (n+1)) (n+1) dF) cD 1 m (gX (.ptr 0 0) (.vec 1 0 acc.length 4 acc.length)) ⟨3,[.row (ak st.names),.row (aU acc),.row [x,y,.int .i64 st.at_,.int .i64 st.next,.vec 2 0 st.names.length 2 st.names.length]],0,md⟩)=
   (match bw (af T) M acc st with
    | ((l,true),st')=>some (.ret,FM 24 [(2,.vec 1 0 l.length 4 l.length),(3,.bool true)],⟨3,[.row (ak st'.names),.row (aU l),.row [x,y,.int .i64 st'.at_,.int .i64 st'.next,.vec 2 0 st'.names.length 2 st'.names.length]],0,md'⟩)
    | ((_,false),st')=>some (.ret,FM 24 [(2,.aA),(3,.bool false)],⟨2,[.row (ak st'.names),.row [x,y,.int .i64 st'.at_,.int .i64 st'.next,.vec 1 0 st'.names.length 2 st'.names.length]],0,md'⟩))
 | 0,_,_,_,_,_,_,_,_,_,h,_=>by omega
 | M+1,acc,st,0,_,_,_,_,_,_,_,h=>by omega
 | M+1,acc,st,m+1,md,hc,h0,hne,hal,hN,hM,hm=>by
   have hlx:=bD hx;have hly:=bo hy;have x1:=hlx.refs;have y1:=hly.refs;have g1:=cT hlx hly;have g2:=cR hlx hly;have g3:=cU hlx hly;have g4:=cS hlx hly;have g5:=cV hlx hly;have g6:=cQ hlx hly;have kx:=fun n0 acc r=>a8 n0 acc r hlx;have ky:=fun n0 acc r=>a8 n0 acc r hly;have rx:=fun n0 ks=>ba n0 ks hlx;have ry:=fun n0 ks=>ba n0 ks hly
   rw[aB];have H:=bP T;have q:=dk N hx hy hc 999 hN;have hlv:=H.lv 999 st;have h1:=hlv.names h0;rw[bd h0,dq h0 h1,ar] at q;have f1:=aF st.names;have f2:=aE st.names;have f3:=ah st.names;have e1:=aF (af T 999 st).2.names;have e2:=aE (af T 999 st).2.names;have e3:=ah (af T 999 st).2.names;have hf:=bE acc
   cases hok:(af T 999 st).1.2.2 with
   | false=>
     rw[mC hok];rw[hok] at q;dsimp only;have tr:=aP (af T 999 st).1.1;generalize (af T 999 st).1.1=t at *;generalize (af T 999 st).2=s1 at *;generalize ak st.names=F at *;generalize ak s1.names=G at *;generalize st.names.length=fl at *;generalize s1.names.length=gl at *;generalize aU acc=A at *;refine⟨min md 0,?_⟩;simp[dF,cD,kQ,an,bc,q,x1,y1,g1,g2,g3,g4,g5,g6,kx,ky,rx,ry,-ae,-aj,-ag,-keeps,-cF,aH,aG,aL,aJ,ay,au,aN,aK,aM,aw,ax,aI,f1,f2,f3,e1,e2,e3,hf,tr]
   | true=>
     have ho:=H.ok 999 st hok;obtain⟨c1,l1⟩:=hc.ok ho;have hpos:=ho.pos;have qt:=fP hx hy c1 [44];have hn2:=eK [44] (af T 999 st).2;rw[bd h1,bd (by rw[hn2.1];exact h1),hn2.1,hn2.2] at qt;rw[hok] at q;have hf2:=bE (acc++[(af T 999 st).1.1]);have h8:(acc.length+1)*56≤140737488355328:=by omega
     have h9:acc.length+1 < 9223372036854775808:=by omega
     have h10:(aU acc).take (acc.length*4)=aU acc:=by rw[List.take_of_length_le];rw[c8];exact Nat.le_refl _
     have h11:=c8 acc;have tr:=aP (af T 999 st).1.1
     cases hb:(bb [44] (af T 999 st).2).1 with
     | false=>
       have hs:=lY hb;rw[iL hok hb];rw[hb,hs] at qt;dsimp only;rw[←bK] at hf2 ⊢;rw[List.length_append,List.length_cons,List.length_nil];generalize (af T 999 st).1.1=t at *;generalize (af T 999 st).2=s1 at *;generalize ak st.names=F at *;generalize ak s1.names=G at *;generalize st.names.length=fl at *;generalize s1.names.length=gl at *;generalize aU acc=A at *;refine⟨min md 0,?_⟩;simp[dF,cD,kQ,an,bc,q,qt,x1,y1,g1,g2,g3,g4,g5,g6,kx,ky,rx,ry,-ae,-aj,-ag,-keeps,-cF,aH,aG,aL,aJ,ay,au,aN,aK,aM,aw,ax,aI,f1,f2,f3,e1,e2,e3,hf,hf2,h8,h9,h10,h11,tr,aR]
     | true=>
       have ho2:=eE hb;obtain⟨c2,l2⟩:=c1.ok ho2;have hpos2:=ho2.pos;rw[jQ hok hb];obtain⟨md',ih⟩:=F2 n N w hx hy M (acc++[(af T 999 st).1.1]) (bb [44] (af T 999 st).2).2 m 0 c2 (by rw[hn2.1];exact h1) (by simp) (by simp;omega) (by omega) (by omega) (by omega);rw[hb] at qt;rw[hn2.1,hn2.2,←bK,List.length_append,List.length_cons,List.length_nil] at ih;rw[←bK] at hf2;refine⟨md',?_⟩;refine Eq.trans ?_ ih;generalize (bb [44] (af T 999 st).2).2=s2 at *;generalize (af T 999 st).1.1=t at *;generalize (af T 999 st).2=s1 at *;generalize ak st.names=F at *;generalize ak s1.names=G at *;generalize st.names.length=fl at *;generalize s1.names.length=gl at *;generalize aU acc=A at *;simp[dF,cD,kQ,an,bc,q,qt,x1,y1,g1,g2,g3,g4,g5,g6,kx,ky,rx,ry,-ae,-aj,-ag,-keeps,-cF,aH,aG,aL,aJ,ay,au,aN,aK,aM,aw,ax,aI,f1,f2,f3,e1,e2,e3,hf,hf2,h8,h9,h10,h11,tr,aR]
theorem E2 (n N w:Nat) {x y:AV} {T:List bO} {L:List Tok} (hx:bx x=some T) (hy:br y=some L):∀(M:Nat) (acc:List Tm) (st:St) (m md:Nat),RC T L st→st.names≠[]→acc≠[]→acc.length+st.rest.length≤200000→st.rest.length < N→st.rest.length < M→M≤m→
 ∃md',jf 2 w (cO (aT (az (bh [] (kQ N)) (n+1)) (n+1) dF) cD 2 m (gX (.ptr 0 0) (.vec 2 0 acc.length 4 acc.length)) ⟨4,[.row (ak st.names),.row (aU acc),.dead,.row [x,y,.int .i64 st.at_,.int .i64 st.next,.vec 3 0 st.names.length 2 st.names.length]],0,md⟩)=
   (match bw (af T) M acc st with
    | ((l,true),st')=>some (.ret,FM 24 [(2,.vec 2 0 l.length 4 l.length),(3,.bool true)],⟨4,[.row (ak st'.names),.row (aU l),.dead,.row [x,y,.int .i64 st'.at_,.int .i64 st'.next,.vec 3 0 st'.names.length 2 st'.names.length]],0,md'⟩)
    | ((_,false),st')=>some (.ret,FM 24 [(2,.aA),(3,.bool false)],⟨3,[.row (ak st'.names),.dead,.row [x,y,.int .i64 st'.at_,.int .i64 st'.next,.vec 2 0 st'.names.length 2 st'.names.length]],0,md'⟩))
 | 0,_,_,_,_,_,_,_,_,_,h,_=>by omega
 | M+1,acc,st,0,_,_,_,_,_,_,_,h=>by omega
 | M+1,acc,st,m+1,md,hc,h0,hne,hal,hN,hM,hm=>by
   have hlx:=bD hx;have hly:=bo hy;have x1:=hlx.refs;have y1:=hly.refs;have g1:=cT hlx hly;have g2:=cR hlx hly;have g3:=cU hlx hly;have g4:=cS hlx hly;have g5:=cV hlx hly;have g6:=cQ hlx hly;have kx:=fun n0 acc r=>a8 n0 acc r hlx;have ky:=fun n0 acc r=>a8 n0 acc r hly;have rx:=fun n0 ks=>ba n0 ks hlx;have ry:=fun n0 ks=>ba n0 ks hly
   rw[aB];have H:=bP T;have q:=dk N hx hy hc 999 hN;have hlv:=H.lv 999 st;have h1:=hlv.names h0;rw[bd h0,dq h0 h1,ar] at q;have f1:=aF st.names;have f2:=aE st.names;have f3:=ah st.names;have e1:=aF (af T 999 st).2.names;have e2:=aE (af T 999 st).2.names;have e3:=ah (af T 999 st).2.names;have hf:=bE acc
   cases hok:(af T 999 st).1.2.2 with
   | false=>
     rw[mC hok];rw[hok] at q;dsimp only;have tr:=aP (af T 999 st).1.1;generalize (af T 999 st).1.1=t at *;generalize (af T 999 st).2=s1 at *;generalize ak st.names=F at *;generalize ak s1.names=G at *;generalize st.names.length=fl at *;generalize s1.names.length=gl at *;generalize aU acc=A at *;refine⟨min md 0,?_⟩;simp[dF,cD,kQ,an,bc,q,x1,y1,g1,g2,g3,g4,g5,g6,kx,ky,rx,ry,-ae,-aj,-ag,-keeps,-cF,aH,aG,aL,aJ,ay,au,aN,aK,aM,aw,ax,aI,f1,f2,f3,e1,e2,e3,hf,tr]
   | true=>
     have ho:=H.ok 999 st hok;obtain⟨c1,l1⟩:=hc.ok ho;have hpos:=ho.pos;have qt:=fP hx hy c1 [44];have hn2:=eK [44] (af T 999 st).2;rw[bd h1,bd (by rw[hn2.1];exact h1),hn2.1,hn2.2] at qt;rw[hok] at q;have hf2:=bE (acc++[(af T 999 st).1.1]);have h8:(acc.length+1)*56≤140737488355328:=by omega
     have h9:acc.length+1 < 9223372036854775808:=by omega
     have h10:(aU acc).take (acc.length*4)=aU acc:=by rw[List.take_of_length_le];rw[c8];exact Nat.le_refl _
     have h11:=c8 acc;have tr:=aP (af T 999 st).1.1
     cases hb:(bb [44] (af T 999 st).2).1 with
     | false=>
       have hs:=lY hb;rw[iL hok hb];rw[hb,hs] at qt;dsimp only;rw[←bK] at hf2 ⊢;rw[List.length_append,List.length_cons,List.length_nil];generalize (af T 999 st).1.1=t at *;generalize (af T 999 st).2=s1 at *;generalize ak st.names=F at *;generalize ak s1.names=G at *;generalize st.names.length=fl at *;generalize s1.names.length=gl at *;generalize aU acc=A at *;refine⟨min md 0,?_⟩;simp[dF,cD,kQ,an,bc,q,qt,x1,y1,g1,g2,g3,g4,g5,g6,kx,ky,rx,ry,-ae,-aj,-ag,-keeps,-cF,aH,aG,aL,aJ,ay,au,aN,aK,aM,aw,ax,aI,f1,f2,f3,e1,e2,e3,hf,hf2,h8,h9,h10,h11,tr,aR]
     | true=>
       have ho2:=eE hb;obtain⟨c2,l2⟩:=c1.ok ho2;have hpos2:=ho2.pos;rw[jQ hok hb];obtain⟨md',ih⟩:=E2 n N w hx hy M (acc++[(af T 999 st).1.1]) (bb [44] (af T 999 st).2).2 m 0 c2 (by rw[hn2.1];exact h1) (by simp) (by simp;omega) (by omega) (by omega) (by omega);rw[hb] at qt;rw[hn2.1,hn2.2,←bK,List.length_append,List.length_cons,List.length_nil] at ih;rw[←bK] at hf2;refine⟨md',?_⟩;refine Eq.trans ?_ ih;generalize (bb [44] (af T 999 st).2).2=s2 at *;generalize (af T 999 st).1.1=t at *;generalize (af T 999 st).2=s1 at *;generalize ak st.names=F at *;generalize ak s1.names=G at *;generalize st.names.length=fl at *;generalize s1.names.length=gl at *;generalize aU acc=A at *;simp[dF,cD,kQ,an,bc,q,qt,x1,y1,g1,g2,g3,g4,g5,g6,kx,ky,rx,ry,-ae,-aj,-ag,-keeps,-cF,aH,aG,aL,aJ,ay,au,aN,aK,aM,aw,ax,aI,f1,f2,f3,e1,e2,e3,hf,hf2,h8,h9,h10,h11,tr,aR]
def uY (x y:AV) (l:List Tm) (ok:Bool) (st:St) (md:Nat):Option (Ex×List AV×aa):=
 match st.names,ok with
 | [],true=>some (.ret,FM 24 [(2,.vec 1 0 l.length 4 l.length),(3,.bool true)],⟨2,[.row (aU l),.row [x,y,.int .i64 st.at_,.int .i64 st.next,.aA]],1,md⟩)
 | [],false=>some (.ret,FM 24 [(2,.aA),(3,.bool false)],⟨1,[.row [x,y,.int .i64 st.at_,.int .i64 st.next,.aA]],1,md⟩)
 | q::r,true=>some (.ret,FM 24 [(2,.vec 1 0 l.length 4 l.length),(3,.bool true)],⟨3,[.row (ak (q::r)),.row (aU l),.row [x,y,.int .i64 st.at_,.int .i64 st.next,.vec 2 0 (q::r).length 2 (q::r).length]],0,md⟩)
 | q::r,false=>some (.ret,FM 24 [(2,.aA),(3,.bool false)],⟨2,[.row (ak (q::r)),.row [x,y,.int .i64 st.at_,.int .i64 st.next,.vec 1 0 (q::r).length 2 (q::r).length]],0,md⟩)
theorem zH {x y:AV} {l:List Tm} {st:St} {md:Nat} (h:st.names=[]):uY x y l true st md=some (.ret,FM 24 [(2,.vec 1 0 l.length 4 l.length),(3,.bool true)],⟨2,[.row (aU l),.row [x,y,.int .i64 st.at_,.int .i64 st.next,.aA]],1,md⟩):=by unfold uY;rw[h]
theorem Al {x y:AV} {l:List Tm} {st:St} {md:Nat} (h:st.names=[]):uY x y l false st md=some (.ret,FM 24 [(2,.aA),(3,.bool false)],⟨1,[.row [x,y,.int .i64 st.at_,.int .i64 st.next,.aA]],1,md⟩):=by unfold uY;rw[h]
theorem vB {x y:AV} {l:List Tm} {st:St} {md:Nat} (h:st.names≠[]):uY x y l true st md=some (.ret,FM 24 [(2,.vec 1 0 l.length 4 l.length),(3,.bool true)],⟨3,[.row (ak st.names),.row (aU l),.row [x,y,.int .i64 st.at_,.int .i64 st.next,.vec 2 0 st.names.length 2 st.names.length]],0,md⟩):=by
 unfold uY
 cases hn:st.names with
 | nil=>exact absurd hn h
 | cons q r=>rfl
theorem ve {x y:AV} {l:List Tm} {st:St} {md:Nat} (h:st.names≠[]):uY x y l false st md=some (.ret,FM 24 [(2,.aA),(3,.bool false)],⟨2,[.row (ak st.names),.row [x,y,.int .i64 st.at_,.int .i64 st.next,.vec 1 0 st.names.length 2 st.names.length]],0,md⟩):=by
 unfold uY
 cases hn:st.names with
 | nil=>exact absurd hn h
 | cons q r=>rfl
theorem CC (n N w:Nat) {x y:AV} {T:List bO} {L:List Tok} (hx:bx x=some T) (hy:br y=some L) (M:Nat) (acc:List Tm) (st:St) (m md:Nat) (hc:RC T L st) (h0:st.names≠[]) (hne:acc≠[]) (h1:acc.length+st.rest.length≤200000) (h2:st.rest.length < N) (h3:st.rest.length < M) (h4:M≤m):
 ∃md',jf 1 w (cO (aT (az (bh [] (kQ N)) (n+1)) (n+1) dF) cD 1 m (gX (.ptr 0 0) (.vec 1 0 acc.length 4 acc.length)) ⟨3,[.row (ak st.names),.row (aU acc),.row [x,y,.int .i64 st.at_,.int .i64 st.next,.vec 2 0 st.names.length 2 st.names.length]],0,md⟩)=
   uY x y (bw (af T) M acc st).1.1 (bw (af T) M acc st).1.2 (bw (af T) M acc st).2 md':=by
 obtain⟨md',e⟩:=F2 n N w hx hy M acc st m md hc h0 hne h1 h2 h3 h4;have hn:=uF (bP T) (M:=M) (acc:=acc) h0;refine⟨md',e.trans ?_⟩;generalize bw (af T) M acc st=I at *;obtain⟨⟨l,ok⟩,s⟩:=I
 cases ok with
 | true=>exact (vB hn).symm
 | false=>exact (ve hn).symm
theorem JN (n N:Nat) {x y:AV} {T:List bO} {L:List Tok} (hx:bx x=some T) (hy:br y=some L):∀(M:Nat) (acc:List Tm) (st:St) (m md:Nat),RC T L st→st.names=[]→acc≠[]→acc.length+st.rest.length≤200000→st.rest.length < N→st.rest.length < M→M≤m→
 ∃md',jf 1 1 (cO (aT (az (bh [] (kQ N)) (n+1)) (n+1) dF) cD 1 m (gX (.ptr 0 0) (.vec 1 0 acc.length 4 acc.length)) ⟨2,[.row (aU acc),.row [x,y,.int .i64 st.at_,.int .i64 st.next,.aA]],1,md⟩)=
   uY x y (bw (af T) M acc st).1.1 (bw (af T) M acc st).1.2 (bw (af T) M acc st).2 md'
 | 0,_,_,_,_,_,_,_,_,_,h,_=>by omega
 | M+1,acc,st,0,_,_,_,_,_,_,_,h=>by omega
 | M+1,acc,st,m+1,md,hc,h0,hne,hal,hN,hM,hm=>by
   have hlx:=bD hx;have hly:=bo hy;have x1:=hlx.refs;have y1:=hly.refs;have g1:=cT hlx hly;have g2:=cR hlx hly;have g3:=cU hlx hly;have g4:=cS hlx hly;have g5:=cV hlx hly;have g6:=cQ hlx hly;have kx:=fun n0 acc r=>a8 n0 acc r hlx;have ky:=fun n0 acc r=>a8 n0 acc r hly;have rx:=fun n0 ks=>ba n0 ks hlx;have ry:=fun n0 ks=>ba n0 ks hly
   rw[aB];have H:=bP T;have q:=dk N hx hy hc 999 hN;have hlv:=H.lv 999 st;rw[bf h0,h0,ar] at q;have e1:=aF (af T 999 st).2.names;have e2:=aE (af T 999 st).2.names;have e3:=ah (af T 999 st).2.names;have hf:=bE acc
   cases hok:(af T 999 st).1.2.2 with
   | false=>
     rw[mC hok];rw[hok] at q;dsimp only;have tr:=aP (af T 999 st).1.1;by_cases h1:(af T 999 st).2.names=[]
     ·rw[cA h1] at q;simp only[Al h1];generalize (af T 999 st).1.1=t at *;generalize (af T 999 st).2=s1 at *;generalize aU acc=A at *;exact⟨min md 0,by simp[dF,cD,kQ,an,bc,q,x1,y1,g1,g2,g3,g4,g5,g6,kx,ky,rx,ry,-ae,-aj,-ag,-keeps,-cF,aH,aG,aL,aJ,ay,au,aN,aK,aM,aw,ax,aI,tr,hf]⟩
     ·rw[bX h1] at q;simp only[ve h1];generalize (af T 999 st).1.1=t at *;generalize (af T 999 st).2=s1 at *;generalize ak s1.names=G at *;generalize s1.names.length=gl at *;generalize aU acc=A at *;exact⟨min md 0,by simp[dF,cD,kQ,an,bc,q,x1,y1,g1,g2,g3,g4,g5,g6,kx,ky,rx,ry,-ae,-aj,-ag,-keeps,-cF,aH,aG,aL,aJ,ay,au,aN,aK,aM,aw,ax,aI,e1,e2,e3,tr,hf]⟩
   | true=>
     have ho:=H.ok 999 st hok;obtain⟨c1,l1⟩:=hc.ok ho;have hpos:=ho.pos;have qt:=fP hx hy c1 [44];have hn2:=eK [44] (af T 999 st).2;rw[hok] at q;have hf2:=bE (acc++[(af T 999 st).1.1]);have h8:(acc.length+1)*56≤140737488355328:=by omega
     have h9:acc.length+1 < 9223372036854775808:=by omega
     have h10:(aU acc).take (acc.length*4)=aU acc:=by rw[List.take_of_length_le];rw[c8];exact Nat.le_refl _
     have h11:=c8 acc;have tr:=aP (af T 999 st).1.1;by_cases h1:(af T 999 st).2.names=[]
     ·rw[cA h1] at q;rw[bf h1,bf (by rw[hn2.1];exact h1),hn2.2] at qt
      cases hb:(bb [44] (af T 999 st).2).1 with
      | false=>
        have hs:=lY hb;rw[iL hok hb];rw[hb,hs] at qt;dsimp only;simp only[zH h1];rw[←bK] at hf2 ⊢;rw[List.length_append,List.length_cons,List.length_nil];generalize (af T 999 st).1.1=t at *;generalize (af T 999 st).2=s1 at *;generalize aU acc=A at *;exact⟨min md 0,by simp[dF,cD,kQ,an,bc,q,qt,x1,y1,g1,g2,g3,g4,g5,g6,kx,ky,rx,ry,-ae,-aj,-ag,-keeps,-cF,aH,aG,aL,aJ,ay,au,aN,aK,aM,aw,ax,aI,hf2,tr,aR,hf,h8,h9,h10,h11]⟩
      | true=>
        have ho2:=eE hb;obtain⟨c2,l2⟩:=c1.ok ho2;have hpos2:=ho2.pos;rw[jQ hok hb];obtain⟨md',ih⟩:=JN n N hx hy M (acc++[(af T 999 st).1.1]) (bb [44] (af T 999 st).2).2 m 0 c2 (by rw[hn2.1];exact h1) (by simp) (by simp;omega) (by omega) (by omega) (by omega);rw[hb] at qt;rw[hn2.2,←bK,List.length_append,List.length_cons,List.length_nil] at ih;rw[←bK] at hf2;refine⟨md',?_⟩;refine Eq.trans ?_ ih;generalize (bb [44] (af T 999 st).2).2=s2 at *;generalize (af T 999 st).1.1=t at *;generalize (af T 999 st).2=s1 at *;generalize aU acc=A at *;simp[dF,cD,kQ,an,bc,q,qt,x1,y1,g1,g2,g3,g4,g5,g6,kx,ky,rx,ry,-ae,-aj,-ag,-keeps,-cF,aH,aG,aL,aJ,ay,au,aN,aK,aM,aw,ax,aI,hf2,tr,aR,hf,h8,h9,h10,h11]
     ·rw[bX h1] at q;rw[bd h1,bd (by rw[hn2.1];exact h1),hn2.1,hn2.2] at qt
      cases hb:(bb [44] (af T 999 st).2).1 with
      | false=>
        have hs:=lY hb;rw[iL hok hb];rw[hb,hs] at qt;dsimp only;simp only[vB h1];rw[←bK] at hf2 ⊢;rw[List.length_append,List.length_cons,List.length_nil];generalize (af T 999 st).1.1=t at *;generalize (af T 999 st).2=s1 at *;generalize ak s1.names=G at *;generalize s1.names.length=gl at *;generalize aU acc=A at *;exact⟨min md 0,by simp[dF,cD,kQ,an,bc,q,qt,x1,y1,g1,g2,g3,g4,g5,g6,kx,ky,rx,ry,-ae,-aj,-ag,-keeps,-cF,aH,aG,aL,aJ,ay,au,aN,aK,aM,aw,ax,aI,e1,e2,e3,hf2,tr,aR,hf,h8,h9,h10,h11]⟩
      | true=>
        have ho2:=eE hb;obtain⟨c2,l2⟩:=c1.ok ho2;have hpos2:=ho2.pos;rw[jQ hok hb];obtain⟨md',ih⟩:=CC n N 1 hx hy M (acc++[(af T 999 st).1.1]) (bb [44] (af T 999 st).2).2 m 0 c2 (by rw[hn2.1];exact h1) (by simp) (by simp;omega) (by omega) (by omega) (by omega);rw[hb] at qt;rw[hn2.1,hn2.2,←bK,List.length_append,List.length_cons,List.length_nil] at ih;rw[←bK] at hf2;refine⟨md',?_⟩;refine Eq.trans ?_ ih;generalize (bb [44] (af T 999 st).2).2=s2 at *;generalize (af T 999 st).1.1=t at *;generalize (af T 999 st).2=s1 at *;generalize ak s1.names=G at *;generalize s1.names.length=gl at *;generalize aU acc=A at *;simp[dF,cD,kQ,an,bc,q,qt,x1,y1,g1,g2,g3,g4,g5,g6,kx,ky,rx,ry,-ae,-aj,-ag,-keeps,-cF,aH,aG,aL,aJ,ay,au,aN,aK,aM,aw,ax,aI,e1,e2,e3,hf2,tr,aR,hf,h8,h9,h10,h11]
theorem OA (n N:Nat) {x y:AV} {T:List bO} {L:List Tok} (hx:bx x=some T) (hy:br y=some L):∀(M:Nat) (st:St) (m md:Nat),RC T L st→st.names=[]→0+st.rest.length≤200000→st.rest.length < N→st.rest.length < M→M≤m→
 ∃md',jf 1 1 (cO (aT (az (bh [] (kQ N)) (n+1)) (n+1) dF) cD 1 m (gX (.ptr 0 0) .aA) ⟨1,[.row [x,y,.int .i64 st.at_,.int .i64 st.next,.aA]],1,md⟩)=
   uY x y (bw (af T) M [] st).1.1 (bw (af T) M [] st).1.2 (bw (af T) M [] st).2 md'
 | 0,_,_,_,_,_,_,_,h,_=>by omega
 | M+1,st,0,_,_,_,_,_,_,h=>by omega
 | M+1,st,m+1,md,hc,h0,hal,hN,hM,hm=>by
   have hlx:=bD hx;have hly:=bo hy;have x1:=hlx.refs;have y1:=hly.refs;have g1:=cT hlx hly;have g2:=cR hlx hly;have g3:=cU hlx hly;have g4:=cS hlx hly;have g5:=cV hlx hly;have g6:=cQ hlx hly;have kx:=fun n0 acc r=>a8 n0 acc r hlx;have ky:=fun n0 acc r=>a8 n0 acc r hly;have rx:=fun n0 ks=>ba n0 ks hlx;have ry:=fun n0 ks=>ba n0 ks hly
   rw[aB];have H:=bP T;have q:=dk N hx hy hc 999 hN;have hlv:=H.lv 999 st;rw[bf h0,h0,ar] at q;have e1:=aF (af T 999 st).2.names;have e2:=aE (af T 999 st).2.names;have e3:=ah (af T 999 st).2.names
   cases hok:(af T 999 st).1.2.2 with
   | false=>
     rw[mC hok];rw[hok] at q;dsimp only;have tr:=aP (af T 999 st).1.1;by_cases h1:(af T 999 st).2.names=[]
     ·rw[cA h1] at q;simp only[Al h1];generalize (af T 999 st).1.1=t at *;generalize (af T 999 st).2=s1 at *;exact⟨min md 0,by simp[dF,cD,kQ,an,bc,q,x1,y1,g1,g2,g3,g4,g5,g6,kx,ky,rx,ry,-ae,-aj,-ag,-keeps,-cF,aH,aG,aL,aJ,ay,au,aN,aK,aM,aw,ax,aI,tr]⟩
     ·rw[bX h1] at q;simp only[ve h1];generalize (af T 999 st).1.1=t at *;generalize (af T 999 st).2=s1 at *;generalize ak s1.names=G at *;generalize s1.names.length=gl at *;exact⟨min md 0,by simp[dF,cD,kQ,an,bc,q,x1,y1,g1,g2,g3,g4,g5,g6,kx,ky,rx,ry,-ae,-aj,-ag,-keeps,-cF,aH,aG,aL,aJ,ay,au,aN,aK,aM,aw,ax,aI,e1,e2,e3,tr]⟩
   | true=>
     have ho:=H.ok 999 st hok;obtain⟨c1,l1⟩:=hc.ok ho;have hpos:=ho.pos;have qt:=fP hx hy c1 [44];have hn2:=eK [44] (af T 999 st).2;rw[hok] at q;have hf2:=bE ([]++[(af T 999 st).1.1]);have tr:=aP (af T 999 st).1.1;by_cases h1:(af T 999 st).2.names=[]
     ·rw[cA h1] at q;rw[bf h1,bf (by rw[hn2.1];exact h1),hn2.2] at qt
      cases hb:(bb [44] (af T 999 st).2).1 with
      | false=>
        have hs:=lY hb;rw[iL hok hb];rw[hb,hs] at qt;dsimp only;simp only[zH h1];rw[←bK] at hf2 ⊢;rw[List.length_append,List.length_cons,List.length_nil];generalize (af T 999 st).1.1=t at *;generalize (af T 999 st).2=s1 at *;exact⟨min md 0,by simp[dF,cD,kQ,an,bc,q,qt,x1,y1,g1,g2,g3,g4,g5,g6,kx,ky,rx,ry,-ae,-aj,-ag,-keeps,-cF,aH,aG,aL,aJ,ay,au,aN,aK,aM,aw,ax,aI,hf2,tr,aR,aU]⟩
      | true=>
        have ho2:=eE hb;obtain⟨c2,l2⟩:=c1.ok ho2;have hpos2:=ho2.pos;rw[jQ hok hb];obtain⟨md',ih⟩:=JN n N hx hy M ([]++[(af T 999 st).1.1]) (bb [44] (af T 999 st).2).2 m 0 c2 (by rw[hn2.1];exact h1) (by simp) (by simp;omega) (by omega) (by omega) (by omega);rw[hb] at qt;rw[hn2.2,←bK,List.length_append,List.length_cons,List.length_nil] at ih;rw[←bK] at hf2;refine⟨md',?_⟩;refine Eq.trans ?_ ih;generalize (bb [44] (af T 999 st).2).2=s2 at *;generalize (af T 999 st).1.1=t at *;generalize (af T 999 st).2=s1 at *;simp[dF,cD,kQ,an,bc,q,qt,x1,y1,g1,g2,g3,g4,g5,g6,kx,ky,rx,ry,-ae,-aj,-ag,-keeps,-cF,aH,aG,aL,aJ,ay,au,aN,aK,aM,aw,ax,aI,hf2,tr,aR,aU]
     ·rw[bX h1] at q;rw[bd h1,bd (by rw[hn2.1];exact h1),hn2.1,hn2.2] at qt
      cases hb:(bb [44] (af T 999 st).2).1 with
      | false=>
        have hs:=lY hb;rw[iL hok hb];rw[hb,hs] at qt;dsimp only;simp only[vB h1];rw[←bK] at hf2 ⊢;rw[List.length_append,List.length_cons,List.length_nil];generalize (af T 999 st).1.1=t at *;generalize (af T 999 st).2=s1 at *;generalize ak s1.names=G at *;generalize s1.names.length=gl at *;exact⟨min md 0,by simp[dF,cD,kQ,an,bc,q,qt,x1,y1,g1,g2,g3,g4,g5,g6,kx,ky,rx,ry,-ae,-aj,-ag,-keeps,-cF,aH,aG,aL,aJ,ay,au,aN,aK,aM,aw,ax,aI,e1,e2,e3,hf2,tr,aR,aU]⟩
      | true=>
        have ho2:=eE hb;obtain⟨c2,l2⟩:=c1.ok ho2;have hpos2:=ho2.pos;rw[jQ hok hb];obtain⟨md',ih⟩:=CC n N 1 hx hy M ([]++[(af T 999 st).1.1]) (bb [44] (af T 999 st).2).2 m 0 c2 (by rw[hn2.1];exact h1) (by simp) (by simp;omega) (by omega) (by omega) (by omega);rw[hb] at qt;rw[hn2.1,hn2.2,←bK,List.length_append,List.length_cons,List.length_nil] at ih;rw[←bK] at hf2;refine⟨md',?_⟩;refine Eq.trans ?_ ih;generalize (bb [44] (af T 999 st).2).2=s2 at *;generalize (af T 999 st).1.1=t at *;generalize (af T 999 st).2=s1 at *;generalize ak s1.names=G at *;generalize s1.names.length=gl at *;simp[dF,cD,kQ,an,bc,q,qt,x1,y1,g1,g2,g3,g4,g5,g6,kx,ky,rx,ry,-ae,-aj,-ag,-keeps,-cF,aH,aG,aL,aJ,ay,au,aN,aK,aM,aw,ax,aI,e1,e2,e3,hf2,tr,aR,aU]
theorem oP {rec:Int→St→PR×St}:∀(M:Nat) (acc:List Tm) (st:St),(bw rec M acc st).1.2=true→(bw rec M acc st).1.1≠[]∧(bw rec M acc st).1.1.length≤acc.length+M
 | 0,acc,st,h=>by cases h
 | M+1,acc,st,h=>by
   unfold bw at h ⊢;by_cases d1:(rec 999 st).1.2.2=true
   ·rw[if_pos d1] at h ⊢;by_cases d2:(bb [44] (rec 999 st).2).1=true
    ·rw[if_pos d2] at h ⊢;have:=oP M _ _ h;simp only[List.length_append,List.length_cons,List.length_nil] at this;exact⟨this.1,by omega⟩
    ·rw[if_neg d2];exact⟨by simp,by simp⟩
   ·rw[if_neg d1] at h;cases h
def EI (x y:AV) (l:List Tm) (ok:Bool) (st:St) (md:Nat):Option (Ex×List AV×aa):=
 if ok then some (.ret,FM 24 [(2,.vec 2 0 l.length 4 l.length),(3,.bool true)],⟨4,[.row (ak st.names),.row (aU l),.dead,.row [x,y,.int .i64 st.at_,.int .i64 st.next,.vec 3 0 st.names.length 2 st.names.length]],0,md⟩)
 else some (.ret,FM 24 [(2,.aA),(3,.bool false)],⟨3,[.row (ak st.names),.dead,.row [x,y,.int .i64 st.at_,.int .i64 st.next,.vec 2 0 st.names.length 2 st.names.length]],0,md⟩)
theorem Ja (n N w:Nat) {x y:AV} {T:List bO} {L:List Tok} (hx:bx x=some T) (hy:br y=some L) (M:Nat) (acc:List Tm) (st:St) (m md:Nat) (hc:RC T L st) (h0:st.names≠[]) (hne:acc≠[]) (h1:acc.length+st.rest.length≤200000) (h2:st.rest.length < N) (h3:st.rest.length < M) (h4:M≤m):
 ∃md',jf 2 w (cO (aT (az (bh [] (kQ N)) (n+1)) (n+1) dF) cD 2 m (gX (.ptr 0 0) (.vec 2 0 acc.length 4 acc.length)) ⟨4,[.row (ak st.names),.row (aU acc),.dead,.row [x,y,.int .i64 st.at_,.int .i64 st.next,.vec 3 0 st.names.length 2 st.names.length]],0,md⟩)=
   EI x y (bw (af T) M acc st).1.1 (bw (af T) M acc st).1.2 (bw (af T) M acc st).2 md':=by
 obtain⟨md',e⟩:=E2 n N w hx hy M acc st m md hc h0 hne h1 h2 h3 h4;refine⟨md',e.trans ?_⟩;generalize bw (af T) M acc st=I at *;obtain⟨⟨l,ok⟩,s⟩:=I;cases ok<;>rfl
theorem Qd (n N:Nat) {x y:AV} {T:List bO} {L:List Tok} (hx:bx x=some T) (hy:br y=some L) (M:Nat) (st:St) (m md:Nat) (hc:RC T L st) (h0:st.names≠[]) (hal:st.rest.length≤190000) (hN:st.rest.length < N) (hM:st.rest.length < M+1) (hm:M≤m):
 ∃md',jf 2 2 (cO (aT (az (bh [] (kQ N)) (n+1)) (n+1) dF) cD 2 (m+1) (gX (.ptr 0 0) .aA) ⟨2,[.row (ak st.names),.row [x,y,.int .i64 st.at_,.int .i64 st.next,.vec 1 0 st.names.length 2 st.names.length]],2,md⟩)=
   EI x y (bw (af T) (M+1) [] st).1.1 (bw (af T) (M+1) [] st).1.2 (bw (af T) (M+1) [] st).2 md':=by
 have hlx:=bD hx;have hly:=bo hy;have x1:=hlx.refs;have y1:=hly.refs;have g1:=cT hlx hly;have g2:=cR hlx hly;have g3:=cU hlx hly;have g4:=cS hlx hly;have g5:=cV hlx hly;have g6:=cQ hlx hly;have kx:=fun n0 acc r=>a8 n0 acc r hlx;have ky:=fun n0 acc r=>a8 n0 acc r hly;have rx:=fun n0 ks=>ba n0 ks hlx;have ry:=fun n0 ks=>ba n0 ks hly
 rw[aB];have H:=bP T;have q:=dk N hx hy hc 999 hN;have hlv:=H.lv 999 st;have h1:=hlv.names h0;rw[bd h0,dq h0 h1,ar] at q;have f1:=aF st.names;have f2:=aE st.names;have f3:=ah st.names;have e1:=aF (af T 999 st).2.names;have e2:=aE (af T 999 st).2.names;have e3:=ah (af T 999 st).2.names;have tr:=aP (af T 999 st).1.1
 cases hok:(af T 999 st).1.2.2 with
 | false=>
   rw[mC hok];rw[hok] at q;simp only[EI,if_false,Bool.false_eq_true];generalize (af T 999 st).1.1=t at *;generalize (af T 999 st).2=s1 at *;generalize ak st.names=F at *;generalize ak s1.names=G at *;generalize st.names.length=fl at *;generalize s1.names.length=gl at *;exact⟨min md 0,by simp[dF,cD,kQ,an,bc,q,x1,y1,g1,g2,g3,g4,g5,g6,kx,ky,rx,ry,-ae,-aj,-ag,-keeps,-cF,aH,aG,aL,aJ,ay,au,aN,aK,aM,aw,ax,aI,f1,f2,f3,e1,e2,e3,tr]⟩
 | true=>
   have ho:=H.ok 999 st hok;obtain⟨c1,l1⟩:=hc.ok ho;have hpos:=ho.pos;have qt:=fP hx hy c1 [44];have hn2:=eK [44] (af T 999 st).2;rw[bd h1,bd (by rw[hn2.1];exact h1),hn2.1,hn2.2] at qt;rw[hok] at q;have hf2:=bE ([]++[(af T 999 st).1.1])
   cases hb:(bb [44] (af T 999 st).2).1 with
   | false=>
     have hs:=lY hb;rw[iL hok hb];rw[hb,hs] at qt;simp only[EI,if_true];rw[←bK] at hf2 ⊢;rw[List.length_append,List.length_cons,List.length_nil];generalize (af T 999 st).1.1=t at *;generalize (af T 999 st).2=s1 at *;generalize ak st.names=F at *;generalize ak s1.names=G at *;generalize st.names.length=fl at *;generalize s1.names.length=gl at *;exact⟨min md 0,by simp[dF,cD,kQ,an,bc,q,qt,x1,y1,g1,g2,g3,g4,g5,g6,kx,ky,rx,ry,-ae,-aj,-ag,-keeps,-cF,aH,aG,aL,aJ,ay,au,aN,aK,aM,aw,ax,aI,f1,f2,f3,e1,e2,e3,hf2,tr,aR,aU]⟩
   | true=>
     have ho2:=eE hb;obtain⟨c2,l2⟩:=c1.ok ho2;have hpos2:=ho2.pos;rw[jQ hok hb];obtain⟨md',ih⟩:=Ja n N 2 hx hy M ([]++[(af T 999 st).1.1]) (bb [44] (af T 999 st).2).2 m 0 c2 (by rw[hn2.1];exact h1) (by simp) (by simp;omega) (by omega) (by omega) (by omega);rw[hb] at qt;rw[hn2.1,hn2.2,←bK,List.length_append,List.length_cons,List.length_nil] at ih;rw[←bK] at hf2;refine⟨md',?_⟩;refine Eq.trans ?_ ih;generalize (bb [44] (af T 999 st).2).2=s2 at *;generalize (af T 999 st).1.1=t at *;generalize (af T 999 st).2=s1 at *;generalize ak st.names=F at *;generalize ak s1.names=G at *;generalize st.names.length=fl at *;generalize s1.names.length=gl at *;simp[dF,cD,kQ,an,bc,q,qt,x1,y1,g1,g2,g3,g4,g5,g6,kx,ky,rx,ry,-ae,-aj,-ag,-keeps,-cF,aH,aG,aL,aJ,ay,au,aN,aK,aM,aw,ax,aI,f1,f2,f3,e1,e2,e3,hf2,tr,aR,aU]
def aO (T:List bO) (st:St):(List Tm×Bool)×St:=bw (af T) (st.rest.length+1) [] st
noncomputable def kX (N:Nat):bM:=⟨163,fun
 | [.ptr 0 0],os=>(match qJ os with
   | some R=>if R.st.rest.length < N then some (.tuple [ng (if (aO R.T R.st).1.2 then (aO R.T R.st).1.1 else []),.bool (aO R.T R.st).1.2],some (dm R.x R.y R.st.names (aO R.T R.st).2)) else none
   | none=>none)
 | _,_=>none⟩
theorem aZ (N:Nat):(kX N).f=163:=(rfl)
theorem iW (N:Nat) {x y:AV} {T:List bO} {L:List Tok} {st:St} (hx:bx x=some T) (hy:br y=some L) (h:RC T L st) (hn:st.rest.length < N):
 (kX N).S [.ptr 0 0] (dj x y st)=some (.tuple [ng (if (aO T st).1.2 then (aO T st).1.1 else []),.bool (aO T st).1.2],some (dm x y st.names (aO T st).2)):=by
 simp only[kX,iG hx hy h];rw[if_pos hn]
theorem l9 {l:List Tm} (h:l≠[]):ng l=.sl (l.map Tm.enc):=by
 cases l with
 | nil=>exact absurd rfl h
 | cons a r=>rfl
theorem zr {h:aa} {n0 d id:Nat} {l:List Tm} (hl:l≠[]) (hid:n0≤id) (hg:h.get id=some (.row (aU l))):hZ h n0 (d+2) (.vec id 0 l.length 4 l.length)=some (.sl (l.map Tm.enc),[id]):=by
 cases l with
 | nil=>exact absurd rfl hl
 | cons a r=>exact NR a r hid hg
theorem E0 (N:Nat) {x y:AV} {T:List bO} {L:List Tok} {st:St} (hx:bx x=some T) (hy:br y=some L) (hc:RC T L st) (hN:st.rest.length < N) (hE:b8 Tryz.prog cq (bh [] (kQ N))):
 b9 Tryz.prog cq 163 [.ptr 0 0] (dj x y st) (.tuple [ng (if (aO T st).1.2 then (aO T st).1.1 else []),.bool (aO T st).1.2]) (some (dm x y st.names (aO T st).2)):=by
 have hlx:=bD hx;have hly:=bo hy;have x1:=hlx.refs;have y1:=hly.refs;have hrl:st.rest.length≤100000:=by rw[hc.rest,List.length_drop,eG];have:=hc.lb;omega
 have hv:∀(l:List Tm) (b:Bool),(AV.tuple [ng l,.bool b]).refs=0:=fun l b=>by simp[AV.refs,AV.aq,BB]
 have hne:=oP (rec:=af T) (st.rest.length+1) [] st;by_cases h0:st.names=[]
 ·obtain⟨md',lp⟩:=OA 199998 N hx hy (st.rest.length+1) st 199999 1 hc h0 (by omega) hN (by omega) (by omega);change _=uY x y (aO T st).1.1 (aO T st).1.2 (aO T st).2 md' at lp;change (aO T st).1.2=true→(aO T st).1.1≠[]∧_ at hne;by_cases h1:(aO T st).2.names=[]
  ·cases hok:(aO T st).1.2 with
   | true=>
     have hl:=(hne hok).1;rw[hok,zH h1] at lp;rw[if_pos rfl];refine di (n:=200000) hE hlx hly h0 h1 ?_ (hv _ _) rfl;show (az (bh [] (kQ N)) 200000 163 [.ptr 0 0] ⟨1,[.row [x,y,.int .i64 st.at_,.int .i64 st.next,.aA]],1,1⟩).map _=_;rw[l9 hl];have fk:∀(A:bj) (wl md d:Nat),hZ ⟨2,[.row (aU (aO T st).1.1),A],wl,md⟩ 1 (d+2) (.vec 1 0 (aO T st).1.1.length 4 (aO T st).1.1.length)=some (.sl ((aO T st).1.1.map Tm.enc),[1]):=fun A wl md d=>zr hl (by omega) rfl
     have hr:=bQ (aO T st).1.1;simp only[cD,gX,kQ] at lp;generalize (aO T st).1.1.map Tm.enc=U at *;generalize aU (aO T st).1.1=A at *;generalize (aO T st).1.1.length=k at *;generalize (aO T st).2=s1 at *;simp[px,Aq,cD,kQ,an,bc,lp,fk,x1,y1,hr,-lH]
   | false=>
     rw[hok,Al h1] at lp;rw[if_neg (by simp)];refine di (n:=200000) hE hlx hly h0 h1 ?_ (hv _ _) rfl;show (az (bh [] (kQ N)) 200000 163 [.ptr 0 0] ⟨1,[.row [x,y,.int .i64 st.at_,.int .i64 st.next,.aA]],1,1⟩).map _=_;simp only[cD,gX,kQ] at lp;generalize (aO T st).2=s1 at *;simp[px,Aq,cD,kQ,an,bc,lp,x1,y1,ng]
  ·have e3:=ah (aO T st).2.names
   cases hok:(aO T st).1.2 with
   | true=>
     have hl:=(hne hok).1;rw[hok,vB h1] at lp;rw[if_pos rfl];refine dE (n:=200000) hE hlx hly 2 (by decide) h0 h1 ?_ (hv _ _) rfl;show (az (bh [] (kQ N)) 200000 163 [.ptr 0 0] ⟨1,[.row [x,y,.int .i64 st.at_,.int .i64 st.next,.aA]],1,1⟩).map _=_;rw[l9 hl];have fk:∀(A B:bj) (wl md d:Nat),hZ ⟨3,[B,.row (aU (aO T st).1.1),A],wl,md⟩ 1 (d+2) (.vec 1 0 (aO T st).1.1.length 4 (aO T st).1.1.length)=some (.sl ((aO T st).1.1.map Tm.enc),[1]):=fun A B wl md d=>zr hl (by omega) rfl
     have hr:=bQ (aO T st).1.1;simp only[cD,gX,kQ] at lp;generalize (aO T st).1.1.map Tm.enc=U at *;generalize aU (aO T st).1.1=A at *;generalize (aO T st).1.1.length=k at *;generalize (aO T st).2=s1 at *;generalize ak s1.names=G at *;generalize s1.names.length=gl at *;simp[px,Aq,cD,kQ,an,bc,lp,fk,x1,y1,hr,e3,-lH]
   | false=>
     rw[hok,ve h1] at lp;rw[if_neg (by simp)];refine dE (n:=200000) hE hlx hly 1 (by decide) h0 h1 ?_ (hv _ _) rfl;show (az (bh [] (kQ N)) 200000 163 [.ptr 0 0] ⟨1,[.row [x,y,.int .i64 st.at_,.int .i64 st.next,.aA]],1,1⟩).map _=_;simp only[cD,gX,kQ] at lp;generalize (aO T st).2=s1 at *;generalize ak s1.names=G at *;generalize s1.names.length=gl at *;simp[px,Aq,cD,kQ,an,bc,lp,x1,y1,e3,ng]
 ·obtain⟨md',lp⟩:=Qd 199998 N hx hy st.rest.length st 199998 2 hc h0 (by omega) hN (by omega) (by omega);change _=EI x y (aO T st).1.1 (aO T st).1.2 (aO T st).2 md' at lp;change (aO T st).1.2=true→(aO T st).1.1≠[]∧_ at hne;have h1:(aO T st).2.names≠[]:=uF (bP T) h0;have e3:=ah (aO T st).2.names;have f3:=ah st.names
  cases hok:(aO T st).1.2 with
  | true=>
    have hl:=(hne hok).1;rw[hok] at lp;simp only[EI,if_true] at lp;rw[if_pos rfl];refine cX (n:=200000) hE hlx hly 3 (by decide) h0 h1 ?_ (hv _ _) rfl;show (az (bh [] (kQ N)) 200000 163 [.ptr 0 0] ⟨2,[.row (ak st.names),.row [x,y,.int .i64 st.at_,.int .i64 st.next,.vec 1 0 st.names.length 2 st.names.length]],2,2⟩).map _=_;rw[l9 hl];have fk:∀(A B C:bj) (wl md d:Nat),hZ ⟨4,[B,.row (aU (aO T st).1.1),C,A],wl,md⟩ 2 (d+2) (.vec 2 0 (aO T st).1.1.length 4 (aO T st).1.1.length)=some (.sl ((aO T st).1.1.map Tm.enc),[2]):=fun A B C wl md d=>zr hl (by omega) rfl
    have hr:=bQ (aO T st).1.1;simp only[cD,gX,kQ] at lp;generalize (aO T st).1.1.map Tm.enc=U at *;generalize aU (aO T st).1.1=A at *;generalize (aO T st).1.1.length=k at *;generalize (aO T st).2=s1 at *;generalize ak st.names=F at *;generalize st.names.length=fl at *;generalize ak s1.names=G at *;generalize s1.names.length=gl at *;simp[px,Aq,cD,kQ,an,bc,lp,fk,x1,y1,hr,e3,f3,-lH]
  | false=>
    rw[hok] at lp;simp only[EI,if_false,Bool.false_eq_true] at lp;rw[if_neg (by simp)];refine cX (n:=200000) hE hlx hly 2 (by decide) h0 h1 ?_ (hv _ _) rfl;show (az (bh [] (kQ N)) 200000 163 [.ptr 0 0] ⟨2,[.row (ak st.names),.row [x,y,.int .i64 st.at_,.int .i64 st.next,.vec 1 0 st.names.length 2 st.names.length]],2,2⟩).map _=_;simp only[cD,gX,kQ] at lp;generalize (aO T st).2=s1 at *;generalize ak st.names=F at *;generalize st.names.length=fl at *;generalize ak s1.names=G at *;generalize s1.names.length=gl at *;simp[px,Aq,cD,kQ,an,bc,lp,x1,y1,e3,f3,ng]
theorem uP (N:Nat) (hN:dy Tryz.prog cq (fO N)):dy Tryz.prog cq (kX N):=fun args os v r hv=>by
 unfold kX at hv;dsimp only at hv;split at hv
 ·rename_i os;split at hv
  ·rename_i R hR;split at hv
   ·rename_i hc;cases hv;obtain⟨hx,hy,rfl,h⟩:=gN hR;rw[aZ];exact E0 N hx hy h hc (eV (by simp) (by simp[kQ,hN,wm]))
   ·cases hv
  ·cases hv
 ·cases hv
def fq (T:List bO) (st:St):(Tm×Bool)×St:=gm (af T) (st.rest.length+1) st
theorem HW {T:List bO} {st:St} (h:(aO T st).1.2=false):fq T st=((ie [91,93],false),(aO T st).2):=by
 unfold fq gm;change (if (aO T st).1.2=true then _ else ((ie [91,93],false),(aO T st).2))=_;rw[h,if_neg (by simp)]
theorem zA {T:List bO} {st:St} (h:(aO T st).1.2=true):fq T st=gx (af T) (aO T st).1.1 (aO T st).2:=by
 unfold fq gm;change (if (aO T st).1.2=true then gx (af T) (aO T st).1.1 (aO T st).2 else _)=_;rw[h,if_pos rfl]
theorem Mp {rec:Int→St→PR×St} {l:List Tm} {st:St} (h:(bb [124] st).1=false):gx rec l st=((dO l (ie [91,93]),(bb [93] st).1),(bb [93] st).2):=by
 unfold gx;rw[h,if_neg (by simp)]
theorem Lj {rec:Int→St→PR×St} {l:List Tm} {st:St} (h:(bb [124] st).1=true) (h2:(rec 999 (bb [124] st).2).1.2.2=false):gx rec l st=((dO l (rec 999 (bb [124] st).2).1.1,false),(rec 999 (bb [124] st).2).2):=by
 unfold gx;rw[h,if_pos rfl,h2,if_neg (by simp)]
theorem GI {rec:Int→St→PR×St} {l:List Tm} {st:St} (h:(bb [124] st).1=true) (h2:(rec 999 (bb [124] st).2).1.2.2=true):gx rec l st=((dO l (rec 999 (bb [124] st).2).1.1,(bb [93] (rec 999 (bb [124] st).2).2).1),(bb [93] (rec 999 (bb [124] st).2).2).2):=by
 unfold gx;rw[h,if_pos rfl,h2,if_pos rfl]
theorem fH (T:List bO) (st:St):Lv st (aO T st).2∧((aO T st).1.2=true→Ok st (aO T st).2):=ix (bP T) _ [] st
noncomputable def hI:List aS:=[yd,xc]
noncomputable def hP (N:Nat):List bM:=[kX N,uJ,fO N]
theorem gD (t:Tm) (b:Bool):(AV.tuple [t.enc,.bool b]).refs=0:=by simp[AV.refs,AV.aq,Tm.dh]
theorem QL (N:Nat) {x y:AV} {T:List bO} {L:List Tok} {st:St} (hx:bx x=some T) (hy:br y=some L) (hc:RC T L st) (hN:st.rest.length < N) (hE:b8 Tryz.prog cq (bh hI (hP N))) (hok:(aO T st).1.2=false):
 b9 Tryz.prog cq 161 [.ptr 0 0] (dj x y st) (.tuple [(fq T st).1.1.enc,.bool (fq T st).1.2]) (some (dm x y st.names (fq T st).2)):=by
 rw[HW hok];have hlx:=bD hx;have hly:=bo hy;have x1:=hlx.refs;have y1:=hly.refs;have g1:=cT hlx hly;have g2:=cR hlx hly;have g3:=cU hlx hly;have g4:=cS hlx hly;have g5:=cV hlx hly;have g6:=cQ hlx hly;have kx:=fun n0 acc r=>a8 n0 acc r hlx;have ky:=fun n0 acc r=>a8 n0 acc r hly;have rx:=fun n0 ks=>ba n0 ks hlx;have ry:=fun n0 ks=>ba n0 ks hly
 have q1:=iW N hx hy hc hN;rw[hok,if_neg (by simp)] at q1;simp only[ng] at q1;have qa:=kW [91,93];have ql:xc.S [.aA,.agg [.int .i64 2,.int .i64 0,.str [91,93],.aA]]=some (.agg [.int .i64 2,.int .i64 0,.str [91,93],.aA]):=rfl;have hlv:=(fH T st).1;dsimp only;generalize (aO T st).2=s1 at *;by_cases h0:st.names=[]
 ·by_cases h1:s1.names=[]
  ·rw[bf h0,h0,cA h1] at q1;refine di (n:=8) hE hlx hly h0 h1 ?_ (gD _ _) rfl;show (az (bh hI (hP N)) 8 161 [.ptr 0 0] ⟨1,[.row [x,y,.int .i64 st.at_,.int .i64 st.next,.aA]],1,1⟩).map _=_;rw[show (ie [91,93]).enc=.agg [.int .i64 2,.int .i64 0,.str [91,93],.aA] from rfl];simp[gA,oH,ai,hI,hP,dV,gH,aZ,bc,an,q1,qa,ql,x1,y1,g1,g2,g3,g4,g5,g6,kx,ky,rx,ry,-ae,-aj,-ag,-keeps,-cF,aH,aG,aL,aJ,ay,au,aN,aK,aM,aw,ax,aI]
  ·rw[bf h0,h0,bX h1] at q1;refine dE (n:=8) hE hlx hly 2 (by decide) h0 h1 ?_ (gD _ _) rfl;show (az (bh hI (hP N)) 8 161 [.ptr 0 0] ⟨1,[.row [x,y,.int .i64 st.at_,.int .i64 st.next,.aA]],1,1⟩).map _=_;rw[show (ie [91,93]).enc=.agg [.int .i64 2,.int .i64 0,.str [91,93],.aA] from rfl];have e1:=aF s1.names;have e2:=aE s1.names;have e3:=ah s1.names;generalize ak s1.names=Fs1 at *;generalize s1.names.length=ns1 at *;simp[gA,oH,ai,hI,hP,dV,gH,aZ,bc,an,q1,qa,ql,e1,e2,e3,x1,y1,g1,g2,g3,g4,g5,g6,kx,ky,rx,ry,-ae,-aj,-ag,-keeps,-cF,aH,aG,aL,aJ,ay,au,aN,aK,aM,aw,ax,aI]
 ·have h1:s1.names≠[]:=hlv.names h0;rw[bd h0,dq h0 h1] at q1;refine cX (n:=8) hE hlx hly 3 (by decide) h0 h1 ?_ (gD _ _) rfl;show (az (bh hI (hP N)) 8 161 [.ptr 0 0] ⟨2,[.row (ak st.names),.row [x,y,.int .i64 st.at_,.int .i64 st.next,.vec 1 0 st.names.length 2 st.names.length]],2,2⟩).map _=_;rw[show (ie [91,93]).enc=.agg [.int .i64 2,.int .i64 0,.str [91,93],.aA] from rfl];have e1:=aF s1.names;have e2:=aE s1.names;have e3:=ah s1.names;generalize ak s1.names=Fs1 at *;generalize s1.names.length=ns1 at *;have f1:=aF st.names;have f2:=aE st.names;have f3:=ah st.names;generalize ak st.names=Fst at *;generalize st.names.length=nst at *;simp[gA,oH,ai,hI,hP,dV,gH,aZ,bc,an,q1,qa,ql,e1,e2,e3,f1,f2,f3,x1,y1,g1,g2,g3,g4,g5,g6,kx,ky,rx,ry,-ae,-aj,-ag,-keeps,-cF,aH,aG,aL,aJ,ay,au,aN,aK,aM,aw,ax,aI]
theorem Pc (N:Nat) {x y:AV} {T:List bO} {L:List Tok} {st:St} (hx:bx x=some T) (hy:br y=some L) (hc:RC T L st) (hN:st.rest.length < N) (hE:b8 Tryz.prog cq (bh hI (hP N))) (hok:(aO T st).1.2=true) (hb:(bb [124] (aO T st).2).1=false):
 b9 Tryz.prog cq 161 [.ptr 0 0] (dj x y st) (.tuple [(fq T st).1.1.enc,.bool (fq T st).1.2]) (some (dm x y st.names (fq T st).2)):=by
 rw[zA hok,Mp hb];have hlx:=bD hx;have hly:=bo hy;have x1:=hlx.refs;have y1:=hly.refs;have g1:=cT hlx hly;have g2:=cR hlx hly;have g3:=cU hlx hly;have g4:=cS hlx hly;have g5:=cV hlx hly;have g6:=cQ hlx hly;have kx:=fun n0 acc r=>a8 n0 acc r hlx;have ky:=fun n0 acc r=>a8 n0 acc r hly;have rx:=fun n0 ks=>ba n0 ks hlx;have ry:=fun n0 ks=>ba n0 ks hly
 have hlv:=(fH T st).1;have ho:=(fH T st).2 hok;obtain⟨c1,l1⟩:=hc.ok ho;have hl:=oP (rec:=af T) (st.rest.length+1) [] st hok;change (aO T st).1.1≠[]∧(aO T st).1.1.length≤_ at hl;have hrl:st.rest.length≤100000:=by rw[hc.rest,List.length_drop,eG];have:=hc.lb;omega
 have q1:=iW N hx hy hc hN;rw[hok,if_pos rfl,l9 hl.1] at q1;have qa:=kW [91,93];have q2:=fP hx hy c1 [124];have pos1:=ho.pos;have q4:=fP hx hy c1 [93];have hn4:=eK [93] (aO T st).2;rw[hb,lY hb] at q2;have ql:=xb (aO T st).1.1 (ie [91,93]) (by simp at hl;omega);rw[show (ie [91,93]).enc=.agg [.int .i64 2,.int .i64 0,.str [91,93],.aA] from rfl,ar] at ql;have ur:=bQ (aO T st).1.1;dsimp only;generalize (aO T st).2=s1 at *;generalize (aO T st).1.1=l at *;have rr:=aP (dO l (ie [91,93]));clear hl;generalize l.map Tm.enc=U at *;by_cases h0:st.names=[]
 ·by_cases h1:s1.names=[]
  ·rw[bf h0,h0,cA h1] at q1;rw[bf h1] at q2;rw[bf h1,bf (by rw[hn4.1];exact h1),hn4.2] at q4;refine di (n:=8) hE hlx hly h0 (by rw[hn4.1];exact h1) ?_ (gD _ _) rfl;show (az (bh hI (hP N)) 8 161 [.ptr 0 0] ⟨1,[.row [x,y,.int .i64 st.at_,.int .i64 st.next,.aA]],1,1⟩).map _=_;rw[ar,hn4.2];generalize dO l (ie [91,93])=r at *;generalize bb [93] s1=b4 at *;obtain⟨b4,s4⟩:=b4;simp[gA,oH,ai,hI,hP,dV,gH,aZ,bc,an,q1,q2,q4,qa,ql,rr,ur,x1,y1,g1,g2,g3,g4,g5,g6,kx,ky,rx,ry,-ae,-aj,-ag,-keeps,-cF,aH,aG,aL,aJ,ay,au,aN,aK,aM,aw,ax,aI]
  ·rw[bf h0,h0,bX h1] at q1;rw[bd h1] at q2;rw[bd h1,bd (by rw[hn4.1];exact h1),hn4.1,hn4.2] at q4;refine dE (n:=8) hE hlx hly 2 (by decide) h0 (by rw[hn4.1];exact h1) ?_ (gD _ _) rfl;show (az (bh hI (hP N)) 8 161 [.ptr 0 0] ⟨1,[.row [x,y,.int .i64 st.at_,.int .i64 st.next,.aA]],1,1⟩).map _=_;rw[ar,hn4.1,hn4.2];generalize dO l (ie [91,93])=r at *;generalize bb [93] s1=b4 at *;obtain⟨b4,s4⟩:=b4;have e1:=aF s1.names;have e2:=aE s1.names;have e3:=ah s1.names;generalize ak s1.names=Fs1 at *;generalize s1.names.length=ns1 at *;simp[gA,oH,ai,hI,hP,dV,gH,aZ,bc,an,q1,q2,q4,qa,ql,rr,ur,e1,e2,e3,x1,y1,g1,g2,g3,g4,g5,g6,kx,ky,rx,ry,-ae,-aj,-ag,-keeps,-cF,aH,aG,aL,aJ,ay,au,aN,aK,aM,aw,ax,aI]
 ·have h1:s1.names≠[]:=hlv.names h0;rw[bd h0,dq h0 h1] at q1;rw[bd h1] at q2;rw[bd h1,bd (by rw[hn4.1];exact h1),hn4.1,hn4.2] at q4;refine cX (n:=8) hE hlx hly 3 (by decide) h0 (by rw[hn4.1];exact h1) ?_ (gD _ _) rfl;show (az (bh hI (hP N)) 8 161 [.ptr 0 0] ⟨2,[.row (ak st.names),.row [x,y,.int .i64 st.at_,.int .i64 st.next,.vec 1 0 st.names.length 2 st.names.length]],2,2⟩).map _=_;rw[ar,hn4.1,hn4.2];generalize dO l (ie [91,93])=r at *;generalize bb [93] s1=b4 at *;obtain⟨b4,s4⟩:=b4;have e1:=aF s1.names;have e2:=aE s1.names;have e3:=ah s1.names;generalize ak s1.names=Fs1 at *;generalize s1.names.length=ns1 at *;have f1:=aF st.names;have f2:=aE st.names;have f3:=ah st.names;generalize ak st.names=Fst at *;generalize st.names.length=nst at *;simp[gA,oH,ai,hI,hP,dV,gH,aZ,bc,an,q1,q2,q4,qa,ql,rr,ur,e1,e2,e3,f1,f2,f3,x1,y1,g1,g2,g3,g4,g5,g6,kx,ky,rx,ry,-ae,-aj,-ag,-keeps,-cF,aH,aG,aL,aJ,ay,au,aN,aK,aM,aw,ax,aI]
theorem QD (N:Nat) {x y:AV} {T:List bO} {L:List Tok} {st:St} (hx:bx x=some T) (hy:br y=some L) (hc:RC T L st) (hN:st.rest.length < N) (hE:b8 Tryz.prog cq (bh hI (hP N))) (hok:(aO T st).1.2=true) (hb:(bb [124] (aO T st).2).1=true) (hr:(af T 999 (bb [124] (aO T st).2).2).1.2.2=false):
 b9 Tryz.prog cq 161 [.ptr 0 0] (dj x y st) (.tuple [(fq T st).1.1.enc,.bool (fq T st).1.2]) (some (dm x y st.names (fq T st).2)):=by
 rw[zA hok,Lj hb hr];have hlx:=bD hx;have hly:=bo hy;have x1:=hlx.refs;have y1:=hly.refs;have g1:=cT hlx hly;have g2:=cR hlx hly;have g3:=cU hlx hly;have g4:=cS hlx hly;have g5:=cV hlx hly;have g6:=cQ hlx hly;have kx:=fun n0 acc r=>a8 n0 acc r hlx;have ky:=fun n0 acc r=>a8 n0 acc r hly;have rx:=fun n0 ks=>ba n0 ks hlx;have ry:=fun n0 ks=>ba n0 ks hly
 have hlv:=(fH T st).1;have ho:=(fH T st).2 hok;obtain⟨c1,l1⟩:=hc.ok ho;have hl:=oP (rec:=af T) (st.rest.length+1) [] st hok;change (aO T st).1.1≠[]∧(aO T st).1.1.length≤_ at hl;have hrl:st.rest.length≤100000:=by rw[hc.rest,List.length_drop,eG];have:=hc.lb;omega
 have q1:=iW N hx hy hc hN;rw[hok,if_pos rfl,l9 hl.1] at q1;have qa:=kW [91,93];have q2:=fP hx hy c1 [124];have pos1:=ho.pos;have ho2:=eE hb;obtain⟨c2,l2⟩:=c1.ok ho2;have pos2:=ho2.pos;have hn2:=eK [124] (aO T st).2;rw[hb] at q2;have q3:=dk N hx hy c2 999 (by omega);rw[hr,ar] at q3;have hlv3:=(bP T).lv 999 (bb [124] (aO T st).2).2;have hl3:(aO T st).2.names≠[]→(af T 999 (bb [124] (aO T st).2).2).2.names≠[]:=fun h=>hlv3.names (by rw[hn2.1];exact h)
 have ql:=xb (aO T st).1.1 (af T 999 (bb [124] (aO T st).2).2).1.1 (by simp at hl;omega);rw[ar,ar (dO _ _)] at ql;have ur:=bQ (aO T st).1.1;dsimp only;clear hlv3;generalize (af T 999 (bb [124] (aO T st).2).2).2=s3 at *;generalize (af T 999 (bb [124] (aO T st).2).2).1.1=t2 at *;generalize (bb [124] (aO T st).2).2=s2 at *;generalize (aO T st).2=s1 at *;generalize (aO T st).1.1=l at *;have tr:=aP t2;have rr:=aP (dO l t2);clear hl;generalize l.map Tm.enc=U at *;by_cases h0:st.names=[]
 ·by_cases h1:s1.names=[]
  ·by_cases h2:s3.names=[]
   ·rw[bf h0,h0,cA h1] at q1;rw[bf h1,bf (by rw[hn2.1];exact h1),hn2.2] at q2;rw[bf (by rw[hn2.1];exact h1),hn2.1,h1,cA h2,hn2.2] at q3;refine di (n:=8) hE hlx hly h0 h2 ?_ (gD _ _) rfl;show (az (bh hI (hP N)) 8 161 [.ptr 0 0] ⟨1,[.row [x,y,.int .i64 st.at_,.int .i64 st.next,.aA]],1,1⟩).map _=_;rw[ar];generalize dO l t2=r at *;simp[gA,oH,ai,hI,hP,dV,gH,aZ,bc,an,q1,q2,q3,qa,ql,rr,tr,ur,x1,y1,g1,g2,g3,g4,g5,g6,kx,ky,rx,ry,-ae,-aj,-ag,-keeps,-cF,aH,aG,aL,aJ,ay,au,aN,aK,aM,aw,ax,aI]
   ·rw[bf h0,h0,cA h1] at q1;rw[bf h1,bf (by rw[hn2.1];exact h1),hn2.2] at q2;rw[bf (by rw[hn2.1];exact h1),hn2.1,h1,bX h2,hn2.2] at q3;refine dE (n:=8) hE hlx hly 3 (by decide) h0 h2 ?_ (gD _ _) rfl;show (az (bh hI (hP N)) 8 161 [.ptr 0 0] ⟨1,[.row [x,y,.int .i64 st.at_,.int .i64 st.next,.aA]],1,1⟩).map _=_;rw[ar];generalize dO l t2=r at *;have d1:=aF s3.names;have d2:=aE s3.names;have d3:=ah s3.names;generalize ak s3.names=Fs3 at *;generalize s3.names.length=ns3 at *;simp[gA,oH,ai,hI,hP,dV,gH,aZ,bc,an,q1,q2,q3,qa,ql,rr,tr,ur,d1,d2,d3,x1,y1,g1,g2,g3,g4,g5,g6,kx,ky,rx,ry,-ae,-aj,-ag,-keeps,-cF,aH,aG,aL,aJ,ay,au,aN,aK,aM,aw,ax,aI]
  ·have h2:s3.names≠[]:=hl3 h1;rw[bf h0,h0,bX h1] at q1;rw[bd h1,bd (by rw[hn2.1];exact h1),hn2.1,hn2.2] at q2;rw[bd (by rw[hn2.1];exact h1),hn2.1,dq h1 h2,hn2.2] at q3;refine dE (n:=8) hE hlx hly 4 (by decide) h0 h2 ?_ (gD _ _) rfl;show (az (bh hI (hP N)) 8 161 [.ptr 0 0] ⟨1,[.row [x,y,.int .i64 st.at_,.int .i64 st.next,.aA]],1,1⟩).map _=_;rw[ar];generalize dO l t2=r at *;have d1:=aF s3.names;have d2:=aE s3.names;have d3:=ah s3.names;generalize ak s3.names=Fs3 at *;generalize s3.names.length=ns3 at *;have e1:=aF s1.names;have e2:=aE s1.names;have e3:=ah s1.names;generalize ak s1.names=Fs1 at *;generalize s1.names.length=ns1 at *;simp[gA,oH,ai,hI,hP,dV,gH,aZ,bc,an,q1,q2,q3,qa,ql,rr,tr,ur,d1,d2,d3,e1,e2,e3,x1,y1,g1,g2,g3,g4,g5,g6,kx,ky,rx,ry,-ae,-aj,-ag,-keeps,-cF,aH,aG,aL,aJ,ay,au,aN,aK,aM,aw,ax,aI]
 ·have h1:s1.names≠[]:=hlv.names h0;have h2:s3.names≠[]:=hl3 h1;rw[bd h0,dq h0 h1] at q1;rw[bd h1,bd (by rw[hn2.1];exact h1),hn2.1,hn2.2] at q2;rw[bd (by rw[hn2.1];exact h1),hn2.1,dq h1 h2,hn2.2] at q3;refine cX (n:=8) hE hlx hly 5 (by decide) h0 h2 ?_ (gD _ _) rfl;show (az (bh hI (hP N)) 8 161 [.ptr 0 0] ⟨2,[.row (ak st.names),.row [x,y,.int .i64 st.at_,.int .i64 st.next,.vec 1 0 st.names.length 2 st.names.length]],2,2⟩).map _=_;rw[ar];generalize dO l t2=r at *;have d1:=aF s3.names;have d2:=aE s3.names;have d3:=ah s3.names;generalize ak s3.names=Fs3 at *;generalize s3.names.length=ns3 at *;have e1:=aF s1.names;have e2:=aE s1.names;have e3:=ah s1.names;generalize ak s1.names=Fs1 at *;generalize s1.names.length=ns1 at *;have f1:=aF st.names;have f2:=aE st.names;have f3:=ah st.names;generalize ak st.names=Fst at *;generalize st.names.length=nst at *;simp[gA,oH,ai,hI,hP,dV,gH,aZ,bc,an,q1,q2,q3,qa,ql,rr,tr,ur,d1,d2,d3,e1,e2,e3,f1,f2,f3,x1,y1,g1,g2,g3,g4,g5,g6,kx,ky,rx,ry,-ae,-aj,-ag,-keeps,-cF,aH,aG,aL,aJ,ay,au,aN,aK,aM,aw,ax,aI]
theorem Om (N:Nat) {x y:AV} {T:List bO} {L:List Tok} {st:St} (hx:bx x=some T) (hy:br y=some L) (hc:RC T L st) (hN:st.rest.length < N) (hE:b8 Tryz.prog cq (bh hI (hP N))) (hok:(aO T st).1.2=true) (hb:(bb [124] (aO T st).2).1=true) (hr:(af T 999 (bb [124] (aO T st).2).2).1.2.2=true):
 b9 Tryz.prog cq 161 [.ptr 0 0] (dj x y st) (.tuple [(fq T st).1.1.enc,.bool (fq T st).1.2]) (some (dm x y st.names (fq T st).2)):=by
 rw[zA hok,GI hb hr];have hlx:=bD hx;have hly:=bo hy;have x1:=hlx.refs;have y1:=hly.refs;have g1:=cT hlx hly;have g2:=cR hlx hly;have g3:=cU hlx hly;have g4:=cS hlx hly;have g5:=cV hlx hly;have g6:=cQ hlx hly;have kx:=fun n0 acc r=>a8 n0 acc r hlx;have ky:=fun n0 acc r=>a8 n0 acc r hly;have rx:=fun n0 ks=>ba n0 ks hlx;have ry:=fun n0 ks=>ba n0 ks hly
 have hlv:=(fH T st).1;have ho:=(fH T st).2 hok;obtain⟨c1,l1⟩:=hc.ok ho;have hl:=oP (rec:=af T) (st.rest.length+1) [] st hok;change (aO T st).1.1≠[]∧(aO T st).1.1.length≤_ at hl;have hrl:st.rest.length≤100000:=by rw[hc.rest,List.length_drop,eG];have:=hc.lb;omega
 have q1:=iW N hx hy hc hN;rw[hok,if_pos rfl,l9 hl.1] at q1;have qa:=kW [91,93];have q2:=fP hx hy c1 [124];have pos1:=ho.pos;have ho2:=eE hb;obtain⟨c2,l2⟩:=c1.ok ho2;have pos2:=ho2.pos;have hn2:=eK [124] (aO T st).2;rw[hb] at q2;have q3:=dk N hx hy c2 999 (by omega);rw[hr,ar] at q3;have hlv3:=(bP T).lv 999 (bb [124] (aO T st).2).2;have hl3:(aO T st).2.names≠[]→(af T 999 (bb [124] (aO T st).2).2).2.names≠[]:=fun h=>hlv3.names (by rw[hn2.1];exact h)
 have ql:=xb (aO T st).1.1 (af T 999 (bb [124] (aO T st).2).2).1.1 (by simp at hl;omega);rw[ar,ar (dO _ _)] at ql;obtain⟨c3,l3⟩:=c2.ok ((bP T).ok 999 _ hr);have q4:=fP hx hy c3 [93];have hn4:=eK [93] (af T 999 (bb [124] (aO T st).2).2).2;have ur:=bQ (aO T st).1.1;dsimp only;clear hlv3;generalize (af T 999 (bb [124] (aO T st).2).2).2=s3 at *;generalize (af T 999 (bb [124] (aO T st).2).2).1.1=t2 at *;generalize (bb [124] (aO T st).2).2=s2 at *;generalize (aO T st).2=s1 at *;generalize (aO T st).1.1=l at *;have tr:=aP t2;have rr:=aP (dO l t2);clear hl;generalize l.map Tm.enc=U at *;by_cases h0:st.names=[]
 ·by_cases h1:s1.names=[]
  ·by_cases h2:s3.names=[]
   ·rw[bf h0,h0,cA h1] at q1;rw[bf h1,bf (by rw[hn2.1];exact h1),hn2.2] at q2;rw[bf (by rw[hn2.1];exact h1),hn2.1,h1,cA h2,hn2.2] at q3;rw[bf h2,bf (by rw[hn4.1];exact h2),hn4.2] at q4;refine di (n:=8) hE hlx hly h0 (by rw[hn4.1];exact h2) ?_ (gD _ _) rfl;show (az (bh hI (hP N)) 8 161 [.ptr 0 0] ⟨1,[.row [x,y,.int .i64 st.at_,.int .i64 st.next,.aA]],1,1⟩).map _=_;rw[ar,hn4.2];generalize dO l t2=r at *;generalize bb [93] s3=b4 at *;obtain⟨b4,s4⟩:=b4;simp[gA,oH,ai,hI,hP,dV,gH,aZ,bc,an,q1,q2,q3,qa,ql,rr,tr,ur,q4,x1,y1,g1,g2,g3,g4,g5,g6,kx,ky,rx,ry,-ae,-aj,-ag,-keeps,-cF,aH,aG,aL,aJ,ay,au,aN,aK,aM,aw,ax,aI]
   ·rw[bf h0,h0,cA h1] at q1;rw[bf h1,bf (by rw[hn2.1];exact h1),hn2.2] at q2;rw[bf (by rw[hn2.1];exact h1),hn2.1,h1,bX h2,hn2.2] at q3;rw[bd h2,bd (by rw[hn4.1];exact h2),hn4.1,hn4.2] at q4;refine dE (n:=8) hE hlx hly 3 (by decide) h0 (by rw[hn4.1];exact h2) ?_ (gD _ _) rfl;show (az (bh hI (hP N)) 8 161 [.ptr 0 0] ⟨1,[.row [x,y,.int .i64 st.at_,.int .i64 st.next,.aA]],1,1⟩).map _=_;rw[ar,hn4.1,hn4.2];generalize dO l t2=r at *;generalize bb [93] s3=b4 at *;obtain⟨b4,s4⟩:=b4;have d1:=aF s3.names;have d2:=aE s3.names;have d3:=ah s3.names;generalize ak s3.names=Fs3 at *;generalize s3.names.length=ns3 at *;simp[gA,oH,ai,hI,hP,dV,gH,aZ,bc,an,q1,q2,q3,qa,ql,rr,tr,ur,q4,d1,d2,d3,x1,y1,g1,g2,g3,g4,g5,g6,kx,ky,rx,ry,-ae,-aj,-ag,-keeps,-cF,aH,aG,aL,aJ,ay,au,aN,aK,aM,aw,ax,aI]
  ·have h2:s3.names≠[]:=hl3 h1;rw[bf h0,h0,bX h1] at q1;rw[bd h1,bd (by rw[hn2.1];exact h1),hn2.1,hn2.2] at q2;rw[bd (by rw[hn2.1];exact h1),hn2.1,dq h1 h2,hn2.2] at q3;rw[bd h2,bd (by rw[hn4.1];exact h2),hn4.1,hn4.2] at q4;refine dE (n:=8) hE hlx hly 4 (by decide) h0 (by rw[hn4.1];exact h2) ?_ (gD _ _) rfl;show (az (bh hI (hP N)) 8 161 [.ptr 0 0] ⟨1,[.row [x,y,.int .i64 st.at_,.int .i64 st.next,.aA]],1,1⟩).map _=_;rw[ar,hn4.1,hn4.2];generalize dO l t2=r at *;generalize bb [93] s3=b4 at *;obtain⟨b4,s4⟩:=b4;have d1:=aF s3.names;have d2:=aE s3.names;have d3:=ah s3.names;generalize ak s3.names=Fs3 at *;generalize s3.names.length=ns3 at *;have e1:=aF s1.names;have e2:=aE s1.names;have e3:=ah s1.names;generalize ak s1.names=Fs1 at *;generalize s1.names.length=ns1 at *;simp[gA,oH,ai,hI,hP,dV,gH,aZ,bc,an,q1,q2,q3,qa,ql,rr,tr,ur,q4,d1,d2,d3,e1,e2,e3,x1,y1,g1,g2,g3,g4,g5,g6,kx,ky,rx,ry,-ae,-aj,-ag,-keeps,-cF,aH,aG,aL,aJ,ay,au,aN,aK,aM,aw,ax,aI]
 ·have h1:s1.names≠[]:=hlv.names h0;have h2:s3.names≠[]:=hl3 h1;rw[bd h0,dq h0 h1] at q1;rw[bd h1,bd (by rw[hn2.1];exact h1),hn2.1,hn2.2] at q2;rw[bd (by rw[hn2.1];exact h1),hn2.1,dq h1 h2,hn2.2] at q3;rw[bd h2,bd (by rw[hn4.1];exact h2),hn4.1,hn4.2] at q4;refine cX (n:=8) hE hlx hly 5 (by decide) h0 (by rw[hn4.1];exact h2) ?_ (gD _ _) rfl;show (az (bh hI (hP N)) 8 161 [.ptr 0 0] ⟨2,[.row (ak st.names),.row [x,y,.int .i64 st.at_,.int .i64 st.next,.vec 1 0 st.names.length 2 st.names.length]],2,2⟩).map _=_;rw[ar,hn4.1,hn4.2];generalize dO l t2=r at *;generalize bb [93] s3=b4 at *;obtain⟨b4,s4⟩:=b4;have d1:=aF s3.names;have d2:=aE s3.names;have d3:=ah s3.names;generalize ak s3.names=Fs3 at *;generalize s3.names.length=ns3 at *;have e1:=aF s1.names;have e2:=aE s1.names;have e3:=ah s1.names;generalize ak s1.names=Fs1 at *;generalize s1.names.length=ns1 at *;have f1:=aF st.names;have f2:=aE st.names;have f3:=ah st.names;generalize ak st.names=Fst at *;generalize st.names.length=nst at *;simp[gA,oH,ai,hI,hP,dV,gH,aZ,bc,an,q1,q2,q3,qa,ql,rr,tr,ur,q4,d1,d2,d3,e1,e2,e3,f1,f2,f3,x1,y1,g1,g2,g3,g4,g5,g6,kx,ky,rx,ry,-ae,-aj,-ag,-keeps,-cF,aH,aG,aL,aJ,ay,au,aN,aK,aM,aw,ax,aI]
noncomputable def ph (N:Nat):bM:=⟨161,fun
 | [.ptr 0 0],os=>(match qJ os with
   | some R=>if R.st.rest.length < N then some (.tuple [(fq R.T R.st).1.1.enc,.bool (fq R.T R.st).1.2],some (dm R.x R.y R.st.names (fq R.T R.st).2)) else none
   | none=>none)
 | _,_=>none⟩
theorem bA (N:Nat):(ph N).f=161:=(rfl)
theorem DM (N:Nat) {x y:AV} {T:List bO} {L:List Tok} {st:St} (hx:bx x=some T) (hy:br y=some L) (h:RC T L st) (hn:st.rest.length < N):
 (ph N).S [.ptr 0 0] (dj x y st)=some (.tuple [(fq T st).1.1.enc,.bool (fq T st).1.2],some (dm x y st.names (fq T st).2)):=by
 simp only[ph,iG hx hy h];rw[if_pos hn]
theorem DT (N:Nat) (hN:dy Tryz.prog cq (fO N)):dy Tryz.prog cq (ph N):=fun args os v r hv=>by
 unfold ph at hv;dsimp only at hv;split at hv
 ·rename_i os;split at hv
  ·rename_i R hR;split at hv
   ·rename_i hn;cases hv;obtain⟨hx,hy,rfl,h⟩:=gN hR;rw[bA];have hE:b8 Tryz.prog cq (bh hI (hP N)):=eV (by simp[hI,Bg.lift,Jr.lift]) (by simp[hP,hN,wm,uP N hN])
    cases hok:(aO R.T R.st).1.2 with
    | false=>exact QL N hx hy h hn hE hok
    | true=>
      cases hb:(bb [124] (aO R.T R.st).2).1 with
      | false=>exact Pc N hx hy h hn hE hok hb
      | true=>
        cases hr:(af R.T 999 (bb [124] (aO R.T R.st).2).2).1.2.2 with
        | false=>exact QD N hx hy h hn hE hok hb hr
        | true=>exact Om N hx hy h hn hE hok hb hr
   ·cases hv
  ·cases hv
 ·cases hv
def lT (t:Tok):gk:=⟨t.kind,t.text,t.num,t.ig,false⟩
noncomputable def jU:List aS:=[yd,Fo,n5,uk,rU]
noncomputable def jH (N:Nat):List bM:=[pE,fO N]
theorem bn (t:Tm) (n:Int) (b:Bool):(AV.tuple [t.enc,.int .i64 n,.bool b]).refs=0:=by simp[AV.refs,AV.aq,Tm.dh]
theorem gR (t:Tok) (n:Int):AV.aq [t.enc,.int .i64 n]=0:=rfl
theorem cL (t:Tm):t.cE.cells? =some [t.cE]:=by cases t<;>rfl
theorem nU (s:List UInt8) (u:Tm):(cm s [u]).enc=.agg [.int .i64 2,.int .i64 0,.str s,.sl [.agg [.int .i64 u.kind,.int .i64 u.num,.str u.name,u.cE]]]:=by
 rw[←ar];rfl
theorem yw (s:List UInt8) (u v:Tm):(cm s [u,v]).enc=.agg [.int .i64 2,.int .i64 0,.str s,.sl [.agg [.int .i64 u.kind,.int .i64 u.num,.str u.name,u.cE],.agg [.int .i64 v.kind,.int .i64 v.num,.str v.name,v.cE]]]:=by
 rw[←ar,←ar];rfl
theorem gT (s:List UInt8):(ie s).enc=.agg [.int .i64 2,.int .i64 0,.str s,.aA]:=rfl
theorem MY (N:Nat) {x y:AV} {T:List bO} {L:List Tok} {st:St} (hx:bx x=some T) (hy:br y=some L) (hc:RC T L st) (hN:st.rest.length < N) (hE:b8 Tryz.prog cq (bh jU (jH N))) (t:Tok) (n:Int) (hk:t.kind=2):
 b9 Tryz.prog cq 164 [.ptr 0 0,t.enc,.int .i64 n] (dj x y st) (.tuple [(ch (af T) T (lT t) n st).1.1.enc,.int .i64 (ch (af T) T (lT t) n st).1.2.1,.bool (ch (af T) T (lT t) n st).1.2.2]) (some (dm x y st.names (ch (af T) T (lT t) n st).2)):=by
 have e:ch (af T) T (lT t) n st=((ie t.text,0,true),st):=by unfold ch;exact if_pos hk
 rw[e];have hlx:=bD hx;have hly:=bo hy;have x1:=hlx.refs;have y1:=hly.refs;have g1:=cT hlx hly;have g2:=cR hlx hly;have g3:=cU hlx hly;have g4:=cS hlx hly;have g5:=cV hlx hly;have g6:=cQ hlx hly;have kx:=fun n0 acc r=>a8 n0 acc r hlx;have ky:=fun n0 acc r=>a8 n0 acc r hly;have rx:=fun n0 ks=>ba n0 ks hlx;have ry:=fun n0 ks=>ba n0 ks hly
 have hfx:=fun h=>hlx.fr h 0 6
 have qa:=kW t.text;dsimp only;by_cases h0:st.names=[]
 ·refine di (n:=8) hE hlx hly h0 h0 ?_ (bn _ _ _) (gR _ _);show (az (bh jU (jH N)) 8 164 [.ptr 0 0,t.enc,.int .i64 n] ⟨1,[.row [x,y,.int .i64 st.at_,.int .i64 st.next,.aA]],1,1⟩).map _=_;rw[bY];rw[gT];simp[jh,c164,ai,jU,jH,dV,eW,eM,bL,a6,fy,an,hfx,qa,hk,x1,y1,g1,g2,g3,g4,g5,g6,kx,ky,rx,ry,-ae,-aj,-ag,-keeps,-cF,aH,aG,aL,aJ,ay,au,aN,aK,aM,aw,ax,aI]
 ·refine cX (n:=8) hE hlx hly 1 (by decide) h0 h0 ?_ (bn _ _ _) (gR _ _);show (az (bh jU (jH N)) 8 164 [.ptr 0 0,t.enc,.int .i64 n] ⟨2,[.row (ak st.names),.row [x,y,.int .i64 st.at_,.int .i64 st.next,.vec 1 0 st.names.length 2 st.names.length]],2,2⟩).map _=_;rw[bY];rw[gT];have f1:=aF st.names;have f2:=aE st.names;have f3:=ah st.names;generalize ak st.names=Fst at *;generalize st.names.length=nst at *;simp[jh,c164,ai,jU,jH,dV,eW,eM,bL,a6,fy,an,hfx,f1,f2,f3,qa,hk,x1,y1,g1,g2,g3,g4,g5,g6,kx,ky,rx,ry,-ae,-aj,-ag,-keeps,-cF,aH,aG,aL,aJ,ay,au,aN,aK,aM,aw,ax,aI]
theorem NO (N:Nat) {x y:AV} {T:List bO} {L:List Tok} {st:St} (hx:bx x=some T) (hy:br y=some L) (hc:RC T L st) (hN:st.rest.length < N) (hE:b8 Tryz.prog cq (bh jU (jH N))) (t:Tok) (n:Int) (hk:¬ t.kind=2) (hp:((cd T t.text true).2&&decide ((cd T t.text true).1.l≤n)&&fI T st)=false):
 b9 Tryz.prog cq 164 [.ptr 0 0,t.enc,.int .i64 n] (dj x y st) (.tuple [(ch (af T) T (lT t) n st).1.1.enc,.int .i64 (ch (af T) T (lT t) n st).1.2.1,.bool (ch (af T) T (lT t) n st).1.2.2]) (some (dm x y st.names (ch (af T) T (lT t) n st).2)):=by
 have e:ch (af T) T (lT t) n st=((ie t.text,JC T t.text,decide (JC T t.text≤n)),st):=by
  unfold ch;refine (if_neg hk).trans (if_neg ?_);rw[show (lT t).text=t.text from rfl,hp];simp
 rw[e];have hlx:=bD hx;have hly:=bo hy;have x1:=hlx.refs;have y1:=hly.refs;have g1:=cT hlx hly;have g2:=cR hlx hly;have g3:=cU hlx hly;have g4:=cS hlx hly;have g5:=cV hlx hly;have g6:=cQ hlx hly;have kx:=fun n0 acc r=>a8 n0 acc r hlx;have ky:=fun n0 acc r=>a8 n0 acc r hly;have rx:=fun n0 ks=>ba n0 ks hlx;have ry:=fun n0 ks=>ba n0 ks hly
 have hfx:=fun h=>hlx.fr h 0 6
 have qa:=kW t.text;have q1:=Ae hx t.text (by have:=hc.tb;omega);have q2:=zL hx t.text (by have:=hc.tb;omega);have qb:=wz hx hy hc;simp only[bO.enc,bO.cells] at q1 q2;unfold JC;dsimp only;generalize cd T t.text false=I at *;obtain⟨⟨i1,i2,i3⟩,i4⟩:=I;generalize cd T t.text true=P at *;obtain⟨⟨p1,p2,p3⟩,p4⟩:=P;dsimp only at q1 q2 hp ⊢
 have hmx:(if i3 < p3 then p3 else i3)=max i3 p3:=by
  by_cases h:i3 < p3
  ·rw[if_pos h];omega
  ·rw[if_neg h];omega
 generalize fI T st=bg at *
 cases p4 with
 | false=>
   by_cases h0:st.names=[]
   ·refine di (n:=8) hE hlx hly h0 h0 ?_ (bn _ _ _) (gR _ _);show (az (bh jU (jH N)) 8 164 [.ptr 0 0,t.enc,.int .i64 n] ⟨1,[.row [x,y,.int .i64 st.at_,.int .i64 st.next,.aA]],1,1⟩).map _=_;rw[bY];rw[gT];simp[jh,c164,ai,jU,jH,dV,eW,eM,bL,a6,fy,an,hfx,qa,q1,q2,hk,nD,hmx,x1,y1,g1,g2,g3,g4,g5,g6,kx,ky,rx,ry,-ae,-aj,-ag,-keeps,-cF,aH,aG,aL,aJ,ay,au,aN,aK,aM,aw,ax,aI]
   ·refine cX (n:=8) hE hlx hly 1 (by decide) h0 h0 ?_ (bn _ _ _) (gR _ _);show (az (bh jU (jH N)) 8 164 [.ptr 0 0,t.enc,.int .i64 n] ⟨2,[.row (ak st.names),.row [x,y,.int .i64 st.at_,.int .i64 st.next,.vec 1 0 st.names.length 2 st.names.length]],2,2⟩).map _=_;rw[bY];rw[gT];have f1:=aF st.names;have f2:=aE st.names;have f3:=ah st.names;generalize ak st.names=Fst at *;generalize st.names.length=nst at *;simp[jh,c164,ai,jU,jH,dV,eW,eM,bL,a6,fy,an,hfx,f1,f2,f3,qa,q1,q2,hk,nD,hmx,x1,y1,g1,g2,g3,g4,g5,g6,kx,ky,rx,ry,-ae,-aj,-ag,-keeps,-cF,aH,aG,aL,aJ,ay,au,aN,aK,aM,aw,ax,aI]
 | true=>
   by_cases hpn:p3≤n
   ·have hbg:bg=false:=by simpa[hpn] using hp
    rw[hbg] at qb;by_cases h0:st.names=[]
    ·rw[bf h0] at qb;refine di (n:=8) hE hlx hly h0 h0 ?_ (bn _ _ _) (gR _ _);show (az (bh jU (jH N)) 8 164 [.ptr 0 0,t.enc,.int .i64 n] ⟨1,[.row [x,y,.int .i64 st.at_,.int .i64 st.next,.aA]],1,1⟩).map _=_;rw[bY];rw[gT];simp[jh,c164,ai,jU,jH,dV,eW,eM,bL,a6,fy,an,hfx,qa,q1,q2,qb,hk,hpn,nD,hmx,x1,y1,g1,g2,g3,g4,g5,g6,kx,ky,rx,ry,-ae,-aj,-ag,-keeps,-cF,aH,aG,aL,aJ,ay,au,aN,aK,aM,aw,ax,aI]
    ·rw[bd h0] at qb;refine cX (n:=8) hE hlx hly 1 (by decide) h0 h0 ?_ (bn _ _ _) (gR _ _);show (az (bh jU (jH N)) 8 164 [.ptr 0 0,t.enc,.int .i64 n] ⟨2,[.row (ak st.names),.row [x,y,.int .i64 st.at_,.int .i64 st.next,.vec 1 0 st.names.length 2 st.names.length]],2,2⟩).map _=_;rw[bY];rw[gT];have f1:=aF st.names;have f2:=aE st.names;have f3:=ah st.names;generalize ak st.names=Fst at *;generalize st.names.length=nst at *;simp[jh,c164,ai,jU,jH,dV,eW,eM,bL,a6,fy,an,hfx,f1,f2,f3,qa,q1,q2,qb,hk,hpn,nD,hmx,x1,y1,g1,g2,g3,g4,g5,g6,kx,ky,rx,ry,-ae,-aj,-ag,-keeps,-cF,aH,aG,aL,aJ,ay,au,aN,aK,aM,aw,ax,aI]
   ·skip;by_cases h0:st.names=[]
    ·refine di (n:=8) hE hlx hly h0 h0 ?_ (bn _ _ _) (gR _ _);show (az (bh jU (jH N)) 8 164 [.ptr 0 0,t.enc,.int .i64 n] ⟨1,[.row [x,y,.int .i64 st.at_,.int .i64 st.next,.aA]],1,1⟩).map _=_;rw[bY];rw[gT];simp[jh,c164,ai,jU,jH,dV,eW,eM,bL,a6,fy,an,hfx,qa,q1,q2,hk,hpn,nD,hmx,x1,y1,g1,g2,g3,g4,g5,g6,kx,ky,rx,ry,-ae,-aj,-ag,-keeps,-cF,aH,aG,aL,aJ,ay,au,aN,aK,aM,aw,ax,aI]
    ·refine cX (n:=8) hE hlx hly 1 (by decide) h0 h0 ?_ (bn _ _ _) (gR _ _);show (az (bh jU (jH N)) 8 164 [.ptr 0 0,t.enc,.int .i64 n] ⟨2,[.row (ak st.names),.row [x,y,.int .i64 st.at_,.int .i64 st.next,.vec 1 0 st.names.length 2 st.names.length]],2,2⟩).map _=_;rw[bY];rw[gT];have f1:=aF st.names;have f2:=aE st.names;have f3:=ah st.names;generalize ak st.names=Fst at *;generalize st.names.length=nst at *;simp[jh,c164,ai,jU,jH,dV,eW,eM,bL,a6,fy,an,hfx,f1,f2,f3,qa,q1,q2,hk,hpn,nD,hmx,x1,y1,g1,g2,g3,g4,g5,g6,kx,ky,rx,ry,-ae,-aj,-ag,-keeps,-cF,aH,aG,aL,aJ,ay,au,aN,aK,aM,aw,ax,aI]
theorem Ma (N:Nat) {x y:AV} {T:List bO} {L:List Tok} {st:St} (hx:bx x=some T) (hy:br y=some L) (hc:RC T L st) (hN:st.rest.length < N) (hE:b8 Tryz.prog cq (bh jU (jH N))) (t:Tok) (n:Int) (hk:¬ t.kind=2) (hp:((cd T t.text true).2&&decide ((cd T t.text true).1.l≤n)&&fI T st)=true):
 b9 Tryz.prog cq 164 [.ptr 0 0,t.enc,.int .i64 n] (dj x y st) (.tuple [(ch (af T) T (lT t) n st).1.1.enc,.int .i64 (ch (af T) T (lT t) n st).1.2.1,.bool (ch (af T) T (lT t) n st).1.2.2]) (some (dm x y st.names (ch (af T) T (lT t) n st).2)):=by
 have e:ch (af T) T (lT t) n st=((cm t.text [(af T (a7 (cd T t.text true).1).2 st).1.1],(cd T t.text true).1.l,(af T (a7 (cd T t.text true).1).2 st).1.2.2),(af T (a7 (cd T t.text true).1).2 st).2):=by
  unfold ch;exact (if_neg hk).trans (if_pos hp)
 rw[e];have hlx:=bD hx;have hly:=bo hy;have x1:=hlx.refs;have y1:=hly.refs;have g1:=cT hlx hly;have g2:=cR hlx hly;have g3:=cU hlx hly;have g4:=cS hlx hly;have g5:=cV hlx hly;have g6:=cQ hlx hly;have kx:=fun n0 acc r=>a8 n0 acc r hlx;have ky:=fun n0 acc r=>a8 n0 acc r hly;have rx:=fun n0 ks=>ba n0 ks hlx;have ry:=fun n0 ks=>ba n0 ks hly
 have hfx:=fun h=>hlx.fr h 0 6
 have qa:=kW t.text;have q1:=Ae hx t.text (by have:=hc.tb;omega);have q2:=zL hx t.text (by have:=hc.tb;omega);have qb:=wz hx hy hc;simp only[bO.enc,bO.cells] at q1 q2;have hlv:=(bP T).lv (a7 (cd T t.text true).1).2 st;have q3:=jK (cd T t.text true).1 ⟨(tR T t.text true).1,(tR T t.text true).2⟩;have q4:=dk N hx hy hc (a7 (cd T t.text true).1).2 hN;simp only[Bool.and_eq_true,decide_eq_true_eq] at hp;obtain⟨⟨hp1,hp2⟩,hp3⟩:=hp;rw[hp3] at qb;have hl1:st.names≠[]→(af T (a7 (cd T t.text true).1).2 st).2.names≠[]:=hlv.names;have qc:=iD t.text [(af T (a7 (cd T t.text true).1).2 st).1.1] (by simp);rw[nU,List.map_cons,List.map_nil,ar] at qc;rw[ar] at q4;dsimp only;clear hlv;generalize (af T (a7 (cd T t.text true).1).2 st).1.2.1=lv at *;generalize (af T (a7 (cd T t.text true).1).2 st).1.2.2=ok at *;generalize (af T (a7 (cd T t.text true).1).2 st).1.1=u at *;generalize (af T (a7 (cd T t.text true).1).2 st).2=s1 at *;generalize cd T t.text true=P at *;obtain⟨⟨p1,p2,p3⟩,p4⟩:=P;dsimp only at q2 q3 q4 hp1 hp2 ⊢;subst hp1;generalize a7 ⟨p1,p2,p3⟩=sd at *;obtain⟨sd1,sd2⟩:=sd;dsimp only at q3 q4;have ur:=aP u;have uc:=cL u;by_cases h0:st.names=[]
 ·by_cases h1:s1.names=[]
  ·rw[bf h0,h0,cA h1] at q4;rw[bf h0] at qb;refine di (n:=8) hE hlx hly h0 h1 ?_ (bn _ _ _) (gR _ _);show (az (bh jU (jH N)) 8 164 [.ptr 0 0,t.enc,.int .i64 n] ⟨1,[.row [x,y,.int .i64 st.at_,.int .i64 st.next,.aA]],1,1⟩).map _=_;rw[nU,bY];simp[jh,c164,ai,jU,jH,dV,eW,eM,bL,a6,fy,an,hfx,qa,q2,qb,q3,q4,qc,hk,hp2,ur,uc,aR,x1,y1,g1,g2,g3,g4,g5,g6,kx,ky,rx,ry,-ae,-aj,-ag,-keeps,-cF,aH,aG,aL,aJ,ay,au,aN,aK,aM,aw,ax,aI]
  ·rw[bf h0,h0,bX h1] at q4;rw[bf h0] at qb;refine dE (n:=8) hE hlx hly 4 (by decide) h0 h1 ?_ (bn _ _ _) (gR _ _);show (az (bh jU (jH N)) 8 164 [.ptr 0 0,t.enc,.int .i64 n] ⟨1,[.row [x,y,.int .i64 st.at_,.int .i64 st.next,.aA]],1,1⟩).map _=_;rw[nU,bY];have e1:=aF s1.names;have e2:=aE s1.names;have e3:=ah s1.names;generalize ak s1.names=Fs1 at *;generalize s1.names.length=ns1 at *;simp[jh,c164,ai,jU,jH,dV,eW,eM,bL,a6,fy,an,hfx,qa,q2,qb,q3,q4,qc,hk,hp2,ur,uc,aR,e1,e2,e3,x1,y1,g1,g2,g3,g4,g5,g6,kx,ky,rx,ry,-ae,-aj,-ag,-keeps,-cF,aH,aG,aL,aJ,ay,au,aN,aK,aM,aw,ax,aI]
 ·have h1:=hl1 h0;rw[bd h0,dq h0 h1] at q4;rw[bd h0] at qb;refine cX (n:=8) hE hlx hly 5 (by decide) h0 h1 ?_ (bn _ _ _) (gR _ _);show (az (bh jU (jH N)) 8 164 [.ptr 0 0,t.enc,.int .i64 n] ⟨2,[.row (ak st.names),.row [x,y,.int .i64 st.at_,.int .i64 st.next,.vec 1 0 st.names.length 2 st.names.length]],2,2⟩).map _=_;rw[nU,bY];have e1:=aF s1.names;have e2:=aE s1.names;have e3:=ah s1.names;generalize ak s1.names=Fs1 at *;generalize s1.names.length=ns1 at *;have f1:=aF st.names;have f2:=aE st.names;have f3:=ah st.names;generalize ak st.names=Fst at *;generalize st.names.length=nst at *;simp[jh,c164,ai,jU,jH,dV,eW,eM,bL,a6,fy,an,hfx,qa,q2,qb,q3,q4,qc,hk,hp2,ur,uc,aR,e1,e2,e3,f1,f2,f3,x1,y1,g1,g2,g3,g4,g5,g6,kx,ky,rx,ry,-ae,-aj,-ag,-keeps,-cF,aH,aG,aL,aJ,ay,au,aN,aK,aM,aw,ax,aI]
noncomputable def pG (N:Nat):bM:=⟨164,fun
 | [.ptr 0 0,w,.int .i64 n],os=>(match qJ os,rP w with
   | some R,some t=>if R.st.rest.length < N then some (.tuple [(ch (af R.T) R.T (lT t) n R.st).1.1.enc,.int .i64 (ch (af R.T) R.T (lT t) n R.st).1.2.1,.bool (ch (af R.T) R.T (lT t) n R.st).1.2.2],some (dm R.x R.y R.st.names (ch (af R.T) R.T (lT t) n R.st).2)) else none
   | _,_=>none)
 | _,_=>none⟩
theorem bB (N:Nat):(pG N).f=164:=(rfl)
theorem nQ (N:Nat) {x y:AV} {T:List bO} {L:List Tok} {st:St} (hx:bx x=some T) (hy:br y=some L) (h:RC T L st) (hn:st.rest.length < N) (t:Tok) (n:Int):
 (pG N).S [.ptr 0 0,t.enc,.int .i64 n] (dj x y st)=some (.tuple [(ch (af T) T (lT t) n st).1.1.enc,.int .i64 (ch (af T) T (lT t) n st).1.2.1,.bool (ch (af T) T (lT t) n st).1.2.2],some (dm x y st.names (ch (af T) T (lT t) n st).2)):=by
 simp only[pG,iG hx hy h,yk];rw[if_pos hn]
theorem DD (N:Nat) (hN:dy Tryz.prog cq (fO N)):dy Tryz.prog cq (pG N):=fun args os v r hv=>by
 unfold pG at hv;dsimp only at hv;split at hv
 ·rename_i os w n;split at hv
  ·rename_i R t hR ht;split at hv
   ·rename_i hn;cases hv;obtain⟨hx,hy,rfl,h⟩:=gN hR;rw[bB,rK ht];have hE:b8 Tryz.prog cq (bh jU (jH N)):=eV (by simp[jU,Bg.lift,De.lift,Ge.lift,yo.lift,rJ.lift]) (by simp[jH,hN,Dh]);by_cases hk:t.kind=2
    ·exact MY N hx hy h hn hE t _ hk
    ·cases hp:((cd R.T t.text true).2&&decide ((cd R.T t.text true).1.l≤_)&&fI R.T R.st) with
     | false=>exact NO N hx hy h hn hE t _ hk hp
     | true=>exact Ma N hx hy h hn hE t _ hk hp
   ·cases hv
  ·cases hv
 ·cases hv
theorem BA (k:Nat) (rec:Int→St→PR×St):Tb k rec rec:=fun _ _ _=>rfl
theorem Cr {T:List bO} {M:Nat} {st:St} (h:st.rest.length < M):bw (af T) M [] st=aO T st:=rH (bP T) (BA (st.rest.length+1) _) M _ [] st (by omega) h (by omega)
theorem LP {T:List bO} {M:Nat} {st:St} (h:st.rest.length < M):gm (af T) M st=fq T st:=Fj (bP T) (BA (st.rest.length+1) _) M _ st (by omega) h (by omega)
def bp (T:List bO) (n:Int) (st:St):PR×St:=dQ (af T) T (st.rest.length+1) n st
theorem P0 {st:St}:(aC st).rest.length < st.rest.length+1:=by rw[cI];omega
theorem dX {x y:AV} {st:St} (h:st.names=[]):dj x y (aC st)=[.row [x,y,.int .i64 ((st.at_:Int)+1),.int .i64 st.next,.aA]]:=bf (st:=aC st) h
theorem fU {x y:AV} {st:St} (h:st.names≠[]):dj x y (aC st)=[.row [x,y,.int .i64 ((st.at_:Int)+1),.int .i64 st.next,.vec 1 0 st.names.length 2 st.names.length],.row (ak st.names)]:=bd (st:=aC st) h
theorem ir (st:St):((aC st).at_:Int)=(st.at_:Int)+1:=rfl
theorem iu (st:St):(aC st).next=st.next:=rfl
theorem il (st:St):(aC st).names=st.names:=rfl
mutual
theorem I0:∀a:AV,a.AH a=true
 | .undef=>rfl
 | .bool a=>by simp[AV.AH]
 | .int k n=>by simp[AV.AH]
 | .str a=>by simp[AV.AH]
 | .jB=>rfl
 | .ptr i o=>by simp[AV.AH]
 | .ip a=>by rw[AV.AH];exact nG a
 | .aA=>rfl
 | .sl a=>by rw[AV.AH];exact nG a
 | .vec i o l s b=>by simp[AV.AH]
 | .iM=>rfl
 | .map i=>by simp[AV.AH]
 | .fW=>rfl
 | .fn f a=>by simp[AV.AH,nG a]
 | .jC=>rfl
 | .iface t a=>by simp[AV.AH,I0 a]
 | .agg a=>by rw[AV.AH];exact nG a
 | .tuple a=>by rw[AV.AH];exact nG a
theorem nG:∀l:List AV,AV.tW l l=true
 | []=>rfl
 | a::r=>by simp[AV.tW,I0 a,nG r]
end
theorem aW (l:List AV):Fk (some (.row l)) (some (.row l))=true:=nG l
noncomputable def cw:List aS:=[Kq,mP,rU]
noncomputable def ct (N:Nat):List bM:=[pY,Iw,fO N,uJ,ph N,kX N,pG N]
theorem pD (n:Int):(Tm.nl 1 n []).enc=.agg [.int .i64 1,.int .i64 n,.str [],.aA]:=rfl
theorem cN:tg.enc=.agg [.int .i64 0,.int .i64 0,.str [],.aA]:=rfl
theorem Jq (N:Nat) {x y:AV} {T:List bO} {L:List Tok} {st:St} (hx:bx x=some T) (hy:br y=some L) (hc:RC T L st) (hN:st.rest.length≤N) (hE:b8 Tryz.prog cq (bh cw (ct N))) (n:Int) (k4:(bm L st).kind=4):
 b9 Tryz.prog cq 120 [.ptr 0 0,.int .i64 n] (dj x y st) (.tuple [(bp T n st).1.1.enc,.int .i64 (bp T n st).1.2.1,.bool (bp T n st).1.2.2]) (some (dm x y st.names (bp T n st).2)):=by
 have ks:(aQ st).kind=(bm L st).kind:=by rw[bu hc]
 have ts:(aQ st).text=(bm L st).text:=by rw[bu hc]
 have us:(aQ st).num=(bm L st).num:=by rw[bu hc]
 have os:(aQ st).ig=(bm L st).ig:=by rw[bu hc]
 have e:bp T n st=((.nl 1 (bm L st).num [],0,true),aC st):=by
  unfold bp dQ;rw[if_pos (ks.trans k4),us]
 rw[e];have hlx:=bD hx;have hly:=bo hy;have x1:=hlx.refs;have y1:=hly.refs;have g1:=cT hlx hly;have g2:=cR hlx hly;have g3:=cU hlx hly;have g4:=cS hlx hly;have g5:=cV hlx hly;have g6:=cQ hlx hly;have kx:=fun n0 acc r=>a8 n0 acc r hlx;have ky:=fun n0 acc r=>a8 n0 acc r hly;have rx:=fun n0 ks=>ba n0 ks hlx;have ry:=fun n0 ks=>ba n0 ks hly
 have q0:=dp hx hy hc;rw[bY] at q0;have qn:=eH (bm L st);have w1:=wrap_i64 (n:=(st.at_:Int)+1) (by omega) (by have:=hc.le;have:=hc.lb;omega);have qi:=Ga (bm L st).num;rw[k4] at q0;dsimp only;by_cases h0:st.names=[]
 ·rw[bf h0] at q0;refine di (n:=8) hE hlx hly h0 h0 ?_ (bn _ _ _) rfl;show (az (bh cw (ct N)) 8 120 [.ptr 0 0,.int .i64 n] ⟨1,[.row [x,y,.int .i64 st.at_,.int .i64 st.next,.aA]],1,1⟩).map _=_;rw[pD];simp only[ir,iu,il];simp[aW,ck,ft,ai,cw,ct,da,bz,a6,aY,cZ,an,bc,bA,aZ,bB,w1,q0,qi,x1,y1,g1,g2,g3,g4,g5,g6,kx,ky,rx,ry,-ae,-aj,-ag,-keeps,-cF,aH,aG,aL,aJ,ay,au,aN,aK,aM,aw,ax,aI]
 ·rw[bd h0] at q0;refine cX (n:=8) hE hlx hly 1 (by decide) h0 h0 ?_ (bn _ _ _) rfl;show (az (bh cw (ct N)) 8 120 [.ptr 0 0,.int .i64 n] ⟨2,[.row (ak st.names),.row [x,y,.int .i64 st.at_,.int .i64 st.next,.vec 1 0 st.names.length 2 st.names.length]],2,2⟩).map _=_;rw[pD];simp only[ir,iu,il];have f1:=aF st.names;have f2:=aE st.names;have f3:=ah st.names;generalize ak st.names=Fst at *;generalize st.names.length=nst at *;simp[aW,ck,ft,ai,cw,ct,da,bz,a6,aY,cZ,an,bc,bA,aZ,bB,w1,f1,f2,f3,q0,qi,x1,y1,g1,g2,g3,g4,g5,g6,kx,ky,rx,ry,-ae,-aj,-ag,-keeps,-cF,aH,aG,aL,aJ,ay,au,aN,aK,aM,aw,ax,aI]
theorem JS (N:Nat) {x y:AV} {T:List bO} {L:List Tok} {st:St} (hx:bx x=some T) (hy:br y=some L) (hc:RC T L st) (hN:st.rest.length≤N) (hE:b8 Tryz.prog cq (bh cw (ct N))) (n:Int) (k3:(bm L st).kind=3):
 b9 Tryz.prog cq 120 [.ptr 0 0,.int .i64 n] (dj x y st) (.tuple [(bp T n st).1.1.enc,.int .i64 (bp T n st).1.2.1,.bool (bp T n st).1.2.2]) (some (dm x y st.names (bp T n st).2)):=by
 have ks:(aQ st).kind=(bm L st).kind:=by rw[bu hc]
 have ts:(aQ st).text=(bm L st).text:=by rw[bu hc]
 have us:(aQ st).num=(bm L st).num:=by rw[bu hc]
 have os:(aQ st).ig=(bm L st).ig:=by rw[bu hc]
 have e:bp T n st=(((jc (bm L st).text (aC st)).1,0,true),(jc (bm L st).text (aC st)).2):=by
  unfold bp dQ;rw[if_neg (by rw[ks,k3];decide),if_pos (ks.trans k3),ts]
 rw[e];have hlx:=bD hx;have hly:=bo hy;have x1:=hlx.refs;have y1:=hly.refs;have g1:=cT hlx hly;have g2:=cR hlx hly;have g3:=cU hlx hly;have g4:=cS hlx hly;have g5:=cV hlx hly;have g6:=cQ hlx hly;have kx:=fun n0 acc r=>a8 n0 acc r hlx;have ky:=fun n0 acc r=>a8 n0 acc r hly;have rx:=fun n0 ks=>ba n0 ks hlx;have ry:=fun n0 ks=>ba n0 ks hly
 have q0:=dp hx hy hc;rw[bY] at q0;have qn:=eH (bm L st);have w1:=wrap_i64 (n:=(st.at_:Int)+1) (by omega) (by have:=hc.le;have:=hc.lb;omega);have c1:=hc.xJ (by have:=eP hc (by rw[ks,k3];decide);omega);have qv:=MR hx hy c1 (bm L st).text;have hlv:st.names≠[]→(jc (bm L st).text (aC st)).2.names≠[]:=(Ek (bm L st).text (aC st)).names;rw[show (aC st).names=st.names from rfl,ar] at qv;rw[k3] at q0;dsimp only;have ur:=aP (jc (bm L st).text (aC st)).1;generalize (jc (bm L st).text (aC st)).2=s1 at *;generalize (jc (bm L st).text (aC st)).1=u at *;by_cases h0:st.names=[]
 ·by_cases h1:s1.names=[]
  ·rw[bf h0] at q0;rw[dX h0,h0,cA h1] at qv;refine di (n:=8) hE hlx hly h0 h1 ?_ (bn _ _ _) rfl;show (az (bh cw (ct N)) 8 120 [.ptr 0 0,.int .i64 n] ⟨1,[.row [x,y,.int .i64 st.at_,.int .i64 st.next,.aA]],1,1⟩).map _=_;rw[ar];simp[aW,ck,ft,ai,cw,ct,da,bz,a6,aY,cZ,an,bc,bA,aZ,bB,w1,q0,qv,ur,x1,y1,g1,g2,g3,g4,g5,g6,kx,ky,rx,ry,-ae,-aj,-ag,-keeps,-cF,aH,aG,aL,aJ,ay,au,aN,aK,aM,aw,ax,aI]
  ·rw[bf h0] at q0;rw[dX h0,h0,bX h1] at qv;refine dE (n:=8) hE hlx hly 3 (by decide) h0 h1 ?_ (bn _ _ _) rfl;show (az (bh cw (ct N)) 8 120 [.ptr 0 0,.int .i64 n] ⟨1,[.row [x,y,.int .i64 st.at_,.int .i64 st.next,.aA]],1,1⟩).map _=_;rw[ar];have e1:=aF s1.names;have e2:=aE s1.names;have e3:=ah s1.names;generalize ak s1.names=Fs1 at *;generalize s1.names.length=ns1 at *;simp[aW,ck,ft,ai,cw,ct,da,bz,a6,aY,cZ,an,bc,bA,aZ,bB,w1,q0,qv,ur,e1,e2,e3,x1,y1,g1,g2,g3,g4,g5,g6,kx,ky,rx,ry,-ae,-aj,-ag,-keeps,-cF,aH,aG,aL,aJ,ay,au,aN,aK,aM,aw,ax,aI]
 ·have h1:=hlv h0;rw[bd h0] at q0;rw[fU h0,dq h0 h1] at qv;refine cX (n:=8) hE hlx hly 4 (by decide) h0 h1 ?_ (bn _ _ _) rfl;show (az (bh cw (ct N)) 8 120 [.ptr 0 0,.int .i64 n] ⟨2,[.row (ak st.names),.row [x,y,.int .i64 st.at_,.int .i64 st.next,.vec 1 0 st.names.length 2 st.names.length]],2,2⟩).map _=_;rw[ar];have e1:=aF s1.names;have e2:=aE s1.names;have e3:=ah s1.names;generalize ak s1.names=Fs1 at *;generalize s1.names.length=ns1 at *;have f1:=aF st.names;have f2:=aE st.names;have f3:=ah st.names;generalize ak st.names=Fst at *;generalize st.names.length=nst at *;simp[aW,ck,ft,ai,cw,ct,da,bz,a6,aY,cZ,an,bc,bA,aZ,bB,w1,q0,qv,ur,e1,e2,e3,f1,f2,f3,x1,y1,g1,g2,g3,g4,g5,g6,kx,ky,rx,ry,-ae,-aj,-ag,-keeps,-cF,aH,aG,aL,aJ,ay,au,aN,aK,aM,aw,ax,aI]
theorem DU (N:Nat) {x y:AV} {T:List bO} {L:List Tok} {st:St} (hx:bx x=some T) (hy:br y=some L) (hc:RC T L st) (hN:st.rest.length≤N) (hE:b8 Tryz.prog cq (bh cw (ct N))) (n:Int) (k5:(bm L st).kind=5) (k5t:(bm L st).text=[40]) (hok:(af T 1200 (aC st)).1.2.2=false):
 b9 Tryz.prog cq 120 [.ptr 0 0,.int .i64 n] (dj x y st) (.tuple [(bp T n st).1.1.enc,.int .i64 (bp T n st).1.2.1,.bool (bp T n st).1.2.2]) (some (dm x y st.names (bp T n st).2)):=by
 have ks:(aQ st).kind=(bm L st).kind:=by rw[bu hc]
 have ts:(aQ st).text=(bm L st).text:=by rw[bu hc]
 have us:(aQ st).num=(bm L st).num:=by rw[bu hc]
 have os:(aQ st).ig=(bm L st).ig:=by rw[bu hc]
 have e:bp T n st=(((af T 1200 (aC st)).1.1,0,false),(af T 1200 (aC st)).2):=by
  unfold bp dQ;rw[if_neg (by rw[ks,k5];decide),if_neg (by rw[ks,k5];decide)];rw[if_pos ⟨ks.trans k5,ts.trans k5t⟩];unfold eZ;rw[hok];exact if_neg (by simp)
 rw[e];have hlx:=bD hx;have hly:=bo hy;have x1:=hlx.refs;have y1:=hly.refs;have g1:=cT hlx hly;have g2:=cR hlx hly;have g3:=cU hlx hly;have g4:=cS hlx hly;have g5:=cV hlx hly;have g6:=cQ hlx hly;have kx:=fun n0 acc r=>a8 n0 acc r hlx;have ky:=fun n0 acc r=>a8 n0 acc r hly;have rx:=fun n0 ks=>ba n0 ks hlx;have ry:=fun n0 ks=>ba n0 ks hly
 have q0:=dp hx hy hc;rw[bY] at q0;have qn:=eH (bm L st);have w1:=wrap_i64 (n:=(st.at_:Int)+1) (by omega) (by have:=hc.le;have:=hc.lb;omega);have hat:=eP hc (by rw[ks,k5];decide);have c1:=hc.xJ (by omega);have hl:=cI st;have hp:=bN (st:=st) (by rw[ks,k5];decide);have qt:=dk N hx hy c1 1200 (by omega);rw[hok,show (aC st).names=st.names from rfl,ar] at qt;have hlv:st.names≠[]→(af T 1200 (aC st)).2.names≠[]:=((bP T).lv 1200 (aC st)).names;have ur:=aP (af T 1200 (aC st)).1.1;have uc:=cL (af T 1200 (aC st)).1.1;rw[k5,k5t] at q0;dsimp only;generalize (af T 1200 (aC st)).2=s1 at *;generalize (af T 1200 (aC st)).1.1=u at *;generalize (af T 1200 (aC st)).1.2.1=lv at *;by_cases h0:st.names=[]
 ·by_cases h1:s1.names=[]
  ·rw[bf h0] at q0;rw[dX h0,h0,cA h1] at qt;refine di (n:=8) hE hlx hly h0 h1 ?_ (bn _ _ _) rfl;show (az (bh cw (ct N)) 8 120 [.ptr 0 0,.int .i64 n] ⟨1,[.row [x,y,.int .i64 st.at_,.int .i64 st.next,.aA]],1,1⟩).map _=_;rw[ar];simp[aW,ck,ft,ai,cw,ct,da,bz,a6,aY,cZ,an,bc,bA,aZ,bB,w1,q0,qt,ur,uc,aR,x1,y1,g1,g2,g3,g4,g5,g6,kx,ky,rx,ry,-ae,-aj,-ag,-keeps,-cF,aH,aG,aL,aJ,ay,au,aN,aK,aM,aw,ax,aI]
  ·rw[bf h0] at q0;rw[dX h0,h0,bX h1] at qt;refine dE (n:=8) hE hlx hly 3 (by decide) h0 h1 ?_ (bn _ _ _) rfl;show (az (bh cw (ct N)) 8 120 [.ptr 0 0,.int .i64 n] ⟨1,[.row [x,y,.int .i64 st.at_,.int .i64 st.next,.aA]],1,1⟩).map _=_;rw[ar];have e1:=aF s1.names;have e2:=aE s1.names;have e3:=ah s1.names;generalize ak s1.names=Fs1 at *;generalize s1.names.length=ns1 at *;simp[aW,ck,ft,ai,cw,ct,da,bz,a6,aY,cZ,an,bc,bA,aZ,bB,w1,q0,qt,ur,uc,aR,e1,e2,e3,x1,y1,g1,g2,g3,g4,g5,g6,kx,ky,rx,ry,-ae,-aj,-ag,-keeps,-cF,aH,aG,aL,aJ,ay,au,aN,aK,aM,aw,ax,aI]
 ·have h1:=hlv h0;rw[bd h0] at q0;rw[fU h0,dq h0 h1] at qt;refine cX (n:=8) hE hlx hly 4 (by decide) h0 h1 ?_ (bn _ _ _) rfl;show (az (bh cw (ct N)) 8 120 [.ptr 0 0,.int .i64 n] ⟨2,[.row (ak st.names),.row [x,y,.int .i64 st.at_,.int .i64 st.next,.vec 1 0 st.names.length 2 st.names.length]],2,2⟩).map _=_;rw[ar];have e1:=aF s1.names;have e2:=aE s1.names;have e3:=ah s1.names;generalize ak s1.names=Fs1 at *;generalize s1.names.length=ns1 at *;have f1:=aF st.names;have f2:=aE st.names;have f3:=ah st.names;generalize ak st.names=Fst at *;generalize st.names.length=nst at *;simp[aW,ck,ft,ai,cw,ct,da,bz,a6,aY,cZ,an,bc,bA,aZ,bB,w1,q0,qt,ur,uc,aR,e1,e2,e3,f1,f2,f3,x1,y1,g1,g2,g3,g4,g5,g6,kx,ky,rx,ry,-ae,-aj,-ag,-keeps,-cF,aH,aG,aL,aJ,ay,au,aN,aK,aM,aw,ax,aI]
theorem Ea (N:Nat) {x y:AV} {T:List bO} {L:List Tok} {st:St} (hx:bx x=some T) (hy:br y=some L) (hc:RC T L st) (hN:st.rest.length≤N) (hE:b8 Tryz.prog cq (bh cw (ct N))) (n:Int) (k5:(bm L st).kind=5) (k5t:(bm L st).text=[40]) (hok:(af T 1200 (aC st)).1.2.2=true):
 b9 Tryz.prog cq 120 [.ptr 0 0,.int .i64 n] (dj x y st) (.tuple [(bp T n st).1.1.enc,.int .i64 (bp T n st).1.2.1,.bool (bp T n st).1.2.2]) (some (dm x y st.names (bp T n st).2)):=by
 have ks:(aQ st).kind=(bm L st).kind:=by rw[bu hc]
 have ts:(aQ st).text=(bm L st).text:=by rw[bu hc]
 have us:(aQ st).num=(bm L st).num:=by rw[bu hc]
 have os:(aQ st).ig=(bm L st).ig:=by rw[bu hc]
 have e:bp T n st=(((af T 1200 (aC st)).1.1,0,(bb [41] (af T 1200 (aC st)).2).1),(bb [41] (af T 1200 (aC st)).2).2):=by
  unfold bp dQ;rw[if_neg (by rw[ks,k5];decide),if_neg (by rw[ks,k5];decide)];rw[if_pos ⟨ks.trans k5,ts.trans k5t⟩];unfold eZ;rw[hok];exact if_pos rfl
 rw[e];have hlx:=bD hx;have hly:=bo hy;have x1:=hlx.refs;have y1:=hly.refs;have g1:=cT hlx hly;have g2:=cR hlx hly;have g3:=cU hlx hly;have g4:=cS hlx hly;have g5:=cV hlx hly;have g6:=cQ hlx hly;have kx:=fun n0 acc r=>a8 n0 acc r hlx;have ky:=fun n0 acc r=>a8 n0 acc r hly;have rx:=fun n0 ks=>ba n0 ks hlx;have ry:=fun n0 ks=>ba n0 ks hly
 have q0:=dp hx hy hc;rw[bY] at q0;have qn:=eH (bm L st);have w1:=wrap_i64 (n:=(st.at_:Int)+1) (by omega) (by have:=hc.le;have:=hc.lb;omega);have hat:=eP hc (by rw[ks,k5];decide);have c1:=hc.xJ (by omega);have hl:=cI st;have hp:=bN (st:=st) (by rw[ks,k5];decide);have qt:=dk N hx hy c1 1200 (by omega);rw[hok,show (aC st).names=st.names from rfl,ar] at qt;have hlv:st.names≠[]→(af T 1200 (aC st)).2.names≠[]:=((bP T).lv 1200 (aC st)).names;have ur:=aP (af T 1200 (aC st)).1.1;have uc:=cL (af T 1200 (aC st)).1.1;rw[k5,k5t] at q0;obtain⟨c2,_⟩:=c1.ok ((bP T).ok 1200 (aC st) hok);have qk:=fP hx hy c2 [41];have hn4:=eK [41] (af T 1200 (aC st)).2;dsimp only;generalize (af T 1200 (aC st)).2=s1 at *;generalize (af T 1200 (aC st)).1.1=u at *;generalize (af T 1200 (aC st)).1.2.1=lv at *;by_cases h0:st.names=[]
 ·by_cases h1:s1.names=[]
  ·rw[bf h0] at q0;rw[dX h0,h0,cA h1] at qt;rw[bf h1,bf (by rw[hn4.1];exact h1),hn4.2] at qk;refine di (n:=8) hE hlx hly h0 (by rw[hn4.1];exact h1) ?_ (bn _ _ _) rfl;show (az (bh cw (ct N)) 8 120 [.ptr 0 0,.int .i64 n] ⟨1,[.row [x,y,.int .i64 st.at_,.int .i64 st.next,.aA]],1,1⟩).map _=_;rw[ar,hn4.2];generalize bb [41] s1=b4 at *;obtain⟨b4,s4⟩:=b4;simp[aW,ck,ft,ai,cw,ct,da,bz,a6,aY,cZ,an,bc,bA,aZ,bB,w1,q0,qt,ur,uc,aR,qk,x1,y1,g1,g2,g3,g4,g5,g6,kx,ky,rx,ry,-ae,-aj,-ag,-keeps,-cF,aH,aG,aL,aJ,ay,au,aN,aK,aM,aw,ax,aI]
  ·rw[bf h0] at q0;rw[dX h0,h0,bX h1] at qt;rw[bd h1,bd (by rw[hn4.1];exact h1),hn4.1,hn4.2] at qk;refine dE (n:=8) hE hlx hly 3 (by decide) h0 (by rw[hn4.1];exact h1) ?_ (bn _ _ _) rfl;show (az (bh cw (ct N)) 8 120 [.ptr 0 0,.int .i64 n] ⟨1,[.row [x,y,.int .i64 st.at_,.int .i64 st.next,.aA]],1,1⟩).map _=_;rw[ar,hn4.1,hn4.2];generalize bb [41] s1=b4 at *;obtain⟨b4,s4⟩:=b4;have e1:=aF s1.names;have e2:=aE s1.names;have e3:=ah s1.names;generalize ak s1.names=Fs1 at *;generalize s1.names.length=ns1 at *;simp[aW,ck,ft,ai,cw,ct,da,bz,a6,aY,cZ,an,bc,bA,aZ,bB,w1,q0,qt,ur,uc,aR,qk,e1,e2,e3,x1,y1,g1,g2,g3,g4,g5,g6,kx,ky,rx,ry,-ae,-aj,-ag,-keeps,-cF,aH,aG,aL,aJ,ay,au,aN,aK,aM,aw,ax,aI]
 ·have h1:=hlv h0;rw[bd h0] at q0;rw[fU h0,dq h0 h1] at qt;rw[bd h1,bd (by rw[hn4.1];exact h1),hn4.1,hn4.2] at qk;refine cX (n:=8) hE hlx hly 4 (by decide) h0 (by rw[hn4.1];exact h1) ?_ (bn _ _ _) rfl;show (az (bh cw (ct N)) 8 120 [.ptr 0 0,.int .i64 n] ⟨2,[.row (ak st.names),.row [x,y,.int .i64 st.at_,.int .i64 st.next,.vec 1 0 st.names.length 2 st.names.length]],2,2⟩).map _=_;rw[ar,hn4.1,hn4.2];generalize bb [41] s1=b4 at *;obtain⟨b4,s4⟩:=b4;have e1:=aF s1.names;have e2:=aE s1.names;have e3:=ah s1.names;generalize ak s1.names=Fs1 at *;generalize s1.names.length=ns1 at *;have f1:=aF st.names;have f2:=aE st.names;have f3:=ah st.names;generalize ak st.names=Fst at *;generalize st.names.length=nst at *;simp[aW,ck,ft,ai,cw,ct,da,bz,a6,aY,cZ,an,bc,bA,aZ,bB,w1,q0,qt,ur,uc,aR,qk,e1,e2,e3,f1,f2,f3,x1,y1,g1,g2,g3,g4,g5,g6,kx,ky,rx,ry,-ae,-aj,-ag,-keeps,-cF,aH,aG,aL,aJ,ay,au,aN,aK,aM,aw,ax,aI]
theorem Cy (N:Nat) {x y:AV} {T:List bO} {L:List Tok} {st:St} (hx:bx x=some T) (hy:br y=some L) (hc:RC T L st) (hN:st.rest.length≤N) (hE:b8 Tryz.prog cq (bh cw (ct N))) (n:Int) (k5:(bm L st).kind=5) (k5t:(bm L st).text=[123]) (hok:(af T 1200 (aC st)).1.2.2=false):
 b9 Tryz.prog cq 120 [.ptr 0 0,.int .i64 n] (dj x y st) (.tuple [(bp T n st).1.1.enc,.int .i64 (bp T n st).1.2.1,.bool (bp T n st).1.2.2]) (some (dm x y st.names (bp T n st).2)):=by
 have ks:(aQ st).kind=(bm L st).kind:=by rw[bu hc]
 have ts:(aQ st).text=(bm L st).text:=by rw[bu hc]
 have us:(aQ st).num=(bm L st).num:=by rw[bu hc]
 have os:(aQ st).ig=(bm L st).ig:=by rw[bu hc]
 have e:bp T n st=((cm [123,125] [(af T 1200 (aC st)).1.1],0,false),(af T 1200 (aC st)).2):=by
  unfold bp dQ;rw[if_neg (by rw[ks,k5];decide),if_neg (by rw[ks,k5];decide)];rw[if_neg (fun e=>by rw[ts,k5t] at e;exact absurd e.2 (by decide)),if_neg (fun e=>by rw[ts,k5t] at e;exact absurd e.2 (by decide))];rw[if_pos ⟨ks.trans k5,ts.trans k5t⟩];unfold eZ;rw[hok];exact if_neg (by simp)
 rw[e];have hlx:=bD hx;have hly:=bo hy;have x1:=hlx.refs;have y1:=hly.refs;have g1:=cT hlx hly;have g2:=cR hlx hly;have g3:=cU hlx hly;have g4:=cS hlx hly;have g5:=cV hlx hly;have g6:=cQ hlx hly;have kx:=fun n0 acc r=>a8 n0 acc r hlx;have ky:=fun n0 acc r=>a8 n0 acc r hly;have rx:=fun n0 ks=>ba n0 ks hlx;have ry:=fun n0 ks=>ba n0 ks hly
 have q0:=dp hx hy hc;rw[bY] at q0;have qn:=eH (bm L st);have w1:=wrap_i64 (n:=(st.at_:Int)+1) (by omega) (by have:=hc.le;have:=hc.lb;omega);have hat:=eP hc (by rw[ks,k5];decide);have c1:=hc.xJ (by omega);have hl:=cI st;have hp:=bN (st:=st) (by rw[ks,k5];decide);have qt:=dk N hx hy c1 1200 (by omega);rw[hok,show (aC st).names=st.names from rfl,ar] at qt;have hlv:st.names≠[]→(af T 1200 (aC st)).2.names≠[]:=((bP T).lv 1200 (aC st)).names;have ur:=aP (af T 1200 (aC st)).1.1;have uc:=cL (af T 1200 (aC st)).1.1;rw[k5,k5t] at q0;have qc:=iD [123,125] [(af T 1200 (aC st)).1.1] (by simp);rw[nU,List.map_cons,List.map_nil,ar] at qc;dsimp only;generalize (af T 1200 (aC st)).2=s1 at *;generalize (af T 1200 (aC st)).1.1=u at *;generalize (af T 1200 (aC st)).1.2.1=lv at *;by_cases h0:st.names=[]
 ·by_cases h1:s1.names=[]
  ·rw[bf h0] at q0;rw[dX h0,h0,cA h1] at qt;refine di (n:=8) hE hlx hly h0 h1 ?_ (bn _ _ _) rfl;show (az (bh cw (ct N)) 8 120 [.ptr 0 0,.int .i64 n] ⟨1,[.row [x,y,.int .i64 st.at_,.int .i64 st.next,.aA]],1,1⟩).map _=_;rw[nU];simp[aW,ck,ft,ai,cw,ct,da,bz,a6,aY,cZ,an,bc,bA,aZ,bB,w1,q0,qt,ur,uc,aR,qc,x1,y1,g1,g2,g3,g4,g5,g6,kx,ky,rx,ry,-ae,-aj,-ag,-keeps,-cF,aH,aG,aL,aJ,ay,au,aN,aK,aM,aw,ax,aI]
  ·rw[bf h0] at q0;rw[dX h0,h0,bX h1] at qt;refine dE (n:=8) hE hlx hly 3 (by decide) h0 h1 ?_ (bn _ _ _) rfl;show (az (bh cw (ct N)) 8 120 [.ptr 0 0,.int .i64 n] ⟨1,[.row [x,y,.int .i64 st.at_,.int .i64 st.next,.aA]],1,1⟩).map _=_;rw[nU];have e1:=aF s1.names;have e2:=aE s1.names;have e3:=ah s1.names;generalize ak s1.names=Fs1 at *;generalize s1.names.length=ns1 at *;simp[aW,ck,ft,ai,cw,ct,da,bz,a6,aY,cZ,an,bc,bA,aZ,bB,w1,q0,qt,ur,uc,aR,qc,e1,e2,e3,x1,y1,g1,g2,g3,g4,g5,g6,kx,ky,rx,ry,-ae,-aj,-ag,-keeps,-cF,aH,aG,aL,aJ,ay,au,aN,aK,aM,aw,ax,aI]
 ·have h1:=hlv h0;rw[bd h0] at q0;rw[fU h0,dq h0 h1] at qt;refine cX (n:=8) hE hlx hly 4 (by decide) h0 h1 ?_ (bn _ _ _) rfl;show (az (bh cw (ct N)) 8 120 [.ptr 0 0,.int .i64 n] ⟨2,[.row (ak st.names),.row [x,y,.int .i64 st.at_,.int .i64 st.next,.vec 1 0 st.names.length 2 st.names.length]],2,2⟩).map _=_;rw[nU];have e1:=aF s1.names;have e2:=aE s1.names;have e3:=ah s1.names;generalize ak s1.names=Fs1 at *;generalize s1.names.length=ns1 at *;have f1:=aF st.names;have f2:=aE st.names;have f3:=ah st.names;generalize ak st.names=Fst at *;generalize st.names.length=nst at *;simp[aW,ck,ft,ai,cw,ct,da,bz,a6,aY,cZ,an,bc,bA,aZ,bB,w1,q0,qt,ur,uc,aR,qc,e1,e2,e3,f1,f2,f3,x1,y1,g1,g2,g3,g4,g5,g6,kx,ky,rx,ry,-ae,-aj,-ag,-keeps,-cF,aH,aG,aL,aJ,ay,au,aN,aK,aM,aw,ax,aI]
theorem CS (N:Nat) {x y:AV} {T:List bO} {L:List Tok} {st:St} (hx:bx x=some T) (hy:br y=some L) (hc:RC T L st) (hN:st.rest.length≤N) (hE:b8 Tryz.prog cq (bh cw (ct N))) (n:Int) (k5:(bm L st).kind=5) (k5t:(bm L st).text=[123]) (hok:(af T 1200 (aC st)).1.2.2=true):
 b9 Tryz.prog cq 120 [.ptr 0 0,.int .i64 n] (dj x y st) (.tuple [(bp T n st).1.1.enc,.int .i64 (bp T n st).1.2.1,.bool (bp T n st).1.2.2]) (some (dm x y st.names (bp T n st).2)):=by
 have ks:(aQ st).kind=(bm L st).kind:=by rw[bu hc]
 have ts:(aQ st).text=(bm L st).text:=by rw[bu hc]
 have us:(aQ st).num=(bm L st).num:=by rw[bu hc]
 have os:(aQ st).ig=(bm L st).ig:=by rw[bu hc]
 have e:bp T n st=((cm [123,125] [(af T 1200 (aC st)).1.1],0,(bb [125] (af T 1200 (aC st)).2).1),(bb [125] (af T 1200 (aC st)).2).2):=by
  unfold bp dQ;rw[if_neg (by rw[ks,k5];decide),if_neg (by rw[ks,k5];decide)];rw[if_neg (fun e=>by rw[ts,k5t] at e;exact absurd e.2 (by decide)),if_neg (fun e=>by rw[ts,k5t] at e;exact absurd e.2 (by decide))];rw[if_pos ⟨ks.trans k5,ts.trans k5t⟩];unfold eZ;rw[hok];exact if_pos rfl
 rw[e];have hlx:=bD hx;have hly:=bo hy;have x1:=hlx.refs;have y1:=hly.refs;have g1:=cT hlx hly;have g2:=cR hlx hly;have g3:=cU hlx hly;have g4:=cS hlx hly;have g5:=cV hlx hly;have g6:=cQ hlx hly;have kx:=fun n0 acc r=>a8 n0 acc r hlx;have ky:=fun n0 acc r=>a8 n0 acc r hly;have rx:=fun n0 ks=>ba n0 ks hlx;have ry:=fun n0 ks=>ba n0 ks hly
 have q0:=dp hx hy hc;rw[bY] at q0;have qn:=eH (bm L st);have w1:=wrap_i64 (n:=(st.at_:Int)+1) (by omega) (by have:=hc.le;have:=hc.lb;omega);have hat:=eP hc (by rw[ks,k5];decide);have c1:=hc.xJ (by omega);have hl:=cI st;have hp:=bN (st:=st) (by rw[ks,k5];decide);have qt:=dk N hx hy c1 1200 (by omega);rw[hok,show (aC st).names=st.names from rfl,ar] at qt;have hlv:st.names≠[]→(af T 1200 (aC st)).2.names≠[]:=((bP T).lv 1200 (aC st)).names;have ur:=aP (af T 1200 (aC st)).1.1;have uc:=cL (af T 1200 (aC st)).1.1;rw[k5,k5t] at q0;have qc:=iD [123,125] [(af T 1200 (aC st)).1.1] (by simp);rw[nU,List.map_cons,List.map_nil,ar] at qc;obtain⟨c2,_⟩:=c1.ok ((bP T).ok 1200 (aC st) hok);have qk:=fP hx hy c2 [125];have hn4:=eK [125] (af T 1200 (aC st)).2;dsimp only;generalize (af T 1200 (aC st)).2=s1 at *;generalize (af T 1200 (aC st)).1.1=u at *;generalize (af T 1200 (aC st)).1.2.1=lv at *;by_cases h0:st.names=[]
 ·by_cases h1:s1.names=[]
  ·rw[bf h0] at q0;rw[dX h0,h0,cA h1] at qt;rw[bf h1,bf (by rw[hn4.1];exact h1),hn4.2] at qk;refine di (n:=8) hE hlx hly h0 (by rw[hn4.1];exact h1) ?_ (bn _ _ _) rfl;show (az (bh cw (ct N)) 8 120 [.ptr 0 0,.int .i64 n] ⟨1,[.row [x,y,.int .i64 st.at_,.int .i64 st.next,.aA]],1,1⟩).map _=_;rw[nU,hn4.2];generalize bb [125] s1=b4 at *;obtain⟨b4,s4⟩:=b4;simp[aW,ck,ft,ai,cw,ct,da,bz,a6,aY,cZ,an,bc,bA,aZ,bB,w1,q0,qt,ur,uc,aR,qc,qk,x1,y1,g1,g2,g3,g4,g5,g6,kx,ky,rx,ry,-ae,-aj,-ag,-keeps,-cF,aH,aG,aL,aJ,ay,au,aN,aK,aM,aw,ax,aI]
  ·rw[bf h0] at q0;rw[dX h0,h0,bX h1] at qt;rw[bd h1,bd (by rw[hn4.1];exact h1),hn4.1,hn4.2] at qk;refine dE (n:=8) hE hlx hly 3 (by decide) h0 (by rw[hn4.1];exact h1) ?_ (bn _ _ _) rfl;show (az (bh cw (ct N)) 8 120 [.ptr 0 0,.int .i64 n] ⟨1,[.row [x,y,.int .i64 st.at_,.int .i64 st.next,.aA]],1,1⟩).map _=_;rw[nU,hn4.1,hn4.2];generalize bb [125] s1=b4 at *;obtain⟨b4,s4⟩:=b4;have e1:=aF s1.names;have e2:=aE s1.names;have e3:=ah s1.names;generalize ak s1.names=Fs1 at *;generalize s1.names.length=ns1 at *;simp[aW,ck,ft,ai,cw,ct,da,bz,a6,aY,cZ,an,bc,bA,aZ,bB,w1,q0,qt,ur,uc,aR,qc,qk,e1,e2,e3,x1,y1,g1,g2,g3,g4,g5,g6,kx,ky,rx,ry,-ae,-aj,-ag,-keeps,-cF,aH,aG,aL,aJ,ay,au,aN,aK,aM,aw,ax,aI]
 ·have h1:=hlv h0;rw[bd h0] at q0;rw[fU h0,dq h0 h1] at qt;rw[bd h1,bd (by rw[hn4.1];exact h1),hn4.1,hn4.2] at qk;refine cX (n:=8) hE hlx hly 4 (by decide) h0 (by rw[hn4.1];exact h1) ?_ (bn _ _ _) rfl;show (az (bh cw (ct N)) 8 120 [.ptr 0 0,.int .i64 n] ⟨2,[.row (ak st.names),.row [x,y,.int .i64 st.at_,.int .i64 st.next,.vec 1 0 st.names.length 2 st.names.length]],2,2⟩).map _=_;rw[nU,hn4.1,hn4.2];generalize bb [125] s1=b4 at *;obtain⟨b4,s4⟩:=b4;have e1:=aF s1.names;have e2:=aE s1.names;have e3:=ah s1.names;generalize ak s1.names=Fs1 at *;generalize s1.names.length=ns1 at *;have f1:=aF st.names;have f2:=aE st.names;have f3:=ah st.names;generalize ak st.names=Fst at *;generalize st.names.length=nst at *;simp[aW,ck,ft,ai,cw,ct,da,bz,a6,aY,cZ,an,bc,bA,aZ,bB,w1,q0,qt,ur,uc,aR,qc,qk,e1,e2,e3,f1,f2,f3,x1,y1,g1,g2,g3,g4,g5,g6,kx,ky,rx,ry,-ae,-aj,-ag,-keeps,-cF,aH,aG,aL,aJ,ay,au,aN,aK,aM,aw,ax,aI]
theorem Iz (N:Nat) {x y:AV} {T:List bO} {L:List Tok} {st:St} (hx:bx x=some T) (hy:br y=some L) (hc:RC T L st) (hN:st.rest.length≤N) (hE:b8 Tryz.prog cq (bh cw (ct N))) (n:Int) (k5:(bm L st).kind=5) (k5t:(bm L st).text=[91]):
 b9 Tryz.prog cq 120 [.ptr 0 0,.int .i64 n] (dj x y st) (.tuple [(bp T n st).1.1.enc,.int .i64 (bp T n st).1.2.1,.bool (bp T n st).1.2.2]) (some (dm x y st.names (bp T n st).2)):=by
 have ks:(aQ st).kind=(bm L st).kind:=by rw[bu hc]
 have ts:(aQ st).text=(bm L st).text:=by rw[bu hc]
 have us:(aQ st).num=(bm L st).num:=by rw[bu hc]
 have os:(aQ st).ig=(bm L st).ig:=by rw[bu hc]
 have e:bp T n st=(((fq T (aC st)).1.1,0,(fq T (aC st)).1.2),(fq T (aC st)).2):=by
  unfold bp dQ;rw[if_neg (by rw[ks,k5];decide),if_neg (by rw[ks,k5];decide),if_neg (fun e=>by rw[ts,k5t] at e;exact absurd e.2 (by decide)),if_pos ⟨ks.trans k5,ts.trans k5t⟩,LP P0]
 rw[e];have hlx:=bD hx;have hly:=bo hy;have x1:=hlx.refs;have y1:=hly.refs;have g1:=cT hlx hly;have g2:=cR hlx hly;have g3:=cU hlx hly;have g4:=cS hlx hly;have g5:=cV hlx hly;have g6:=cQ hlx hly;have kx:=fun n0 acc r=>a8 n0 acc r hlx;have ky:=fun n0 acc r=>a8 n0 acc r hly;have rx:=fun n0 ks=>ba n0 ks hlx;have ry:=fun n0 ks=>ba n0 ks hly
 have q0:=dp hx hy hc;rw[bY] at q0;have qn:=eH (bm L st);have w1:=wrap_i64 (n:=(st.at_:Int)+1) (by omega) (by have:=hc.le;have:=hc.lb;omega);have hat:=eP hc (by rw[ks,k5];decide);have c1:=hc.xJ (by omega);have hl:=cI st;have hp:=bN (st:=st) (by rw[ks,k5];decide);have qt:=DM N hx hy c1 (by omega);rw[show (aC st).names=st.names from rfl,ar] at qt;have hlv:st.names≠[]→(fq T (aC st)).2.names≠[]:=(zM (bP T) _ (aC st)).1.names;have ur:=aP (fq T (aC st)).1.1;rw[k5,k5t] at q0;dsimp only;generalize (fq T (aC st)).2=s1 at *;generalize (fq T (aC st)).1.1=u at *;generalize (fq T (aC st)).1.2=ok at *;by_cases h0:st.names=[]
 ·by_cases h1:s1.names=[]
  ·rw[bf h0] at q0;rw[dX h0,h0,cA h1] at qt;refine di (n:=8) hE hlx hly h0 h1 ?_ (bn _ _ _) rfl;show (az (bh cw (ct N)) 8 120 [.ptr 0 0,.int .i64 n] ⟨1,[.row [x,y,.int .i64 st.at_,.int .i64 st.next,.aA]],1,1⟩).map _=_;rw[ar];simp[aW,ck,ft,ai,cw,ct,da,bz,a6,aY,cZ,an,bc,bA,aZ,bB,w1,q0,qt,ur,x1,y1,g1,g2,g3,g4,g5,g6,kx,ky,rx,ry,-ae,-aj,-ag,-keeps,-cF,aH,aG,aL,aJ,ay,au,aN,aK,aM,aw,ax,aI]
  ·rw[bf h0] at q0;rw[dX h0,h0,bX h1] at qt;refine dE (n:=8) hE hlx hly 3 (by decide) h0 h1 ?_ (bn _ _ _) rfl;show (az (bh cw (ct N)) 8 120 [.ptr 0 0,.int .i64 n] ⟨1,[.row [x,y,.int .i64 st.at_,.int .i64 st.next,.aA]],1,1⟩).map _=_;rw[ar];have e1:=aF s1.names;have e2:=aE s1.names;have e3:=ah s1.names;generalize ak s1.names=Fs1 at *;generalize s1.names.length=ns1 at *;simp[aW,ck,ft,ai,cw,ct,da,bz,a6,aY,cZ,an,bc,bA,aZ,bB,w1,q0,qt,ur,e1,e2,e3,x1,y1,g1,g2,g3,g4,g5,g6,kx,ky,rx,ry,-ae,-aj,-ag,-keeps,-cF,aH,aG,aL,aJ,ay,au,aN,aK,aM,aw,ax,aI]
 ·have h1:=hlv h0;rw[bd h0] at q0;rw[fU h0,dq h0 h1] at qt;refine cX (n:=8) hE hlx hly 4 (by decide) h0 h1 ?_ (bn _ _ _) rfl;show (az (bh cw (ct N)) 8 120 [.ptr 0 0,.int .i64 n] ⟨2,[.row (ak st.names),.row [x,y,.int .i64 st.at_,.int .i64 st.next,.vec 1 0 st.names.length 2 st.names.length]],2,2⟩).map _=_;rw[ar];have e1:=aF s1.names;have e2:=aE s1.names;have e3:=ah s1.names;generalize ak s1.names=Fs1 at *;generalize s1.names.length=ns1 at *;have f1:=aF st.names;have f2:=aE st.names;have f3:=ah st.names;generalize ak st.names=Fst at *;generalize st.names.length=nst at *;simp[aW,ck,ft,ai,cw,ct,da,bz,a6,aY,cZ,an,bc,bA,aZ,bB,w1,q0,qt,ur,e1,e2,e3,f1,f2,f3,x1,y1,g1,g2,g3,g4,g5,g6,kx,ky,rx,ry,-ae,-aj,-ag,-keeps,-cF,aH,aG,aL,aJ,ay,au,aN,aK,aM,aw,ax,aI]
theorem Kh (N:Nat) {x y:AV} {T:List bO} {L:List Tok} {st:St} (hx:bx x=some T) (hy:br y=some L) (hc:RC T L st) (hN:st.rest.length≤N) (hE:b8 Tryz.prog cq (bh cw (ct N))) (n:Int) (k5:(bm L st).kind=5) (t1:¬ (bm L st).text=[40]) (t2:¬ (bm L st).text=[91]) (t3:¬ (bm L st).text=[123]):
 b9 Tryz.prog cq 120 [.ptr 0 0,.int .i64 n] (dj x y st) (.tuple [(bp T n st).1.1.enc,.int .i64 (bp T n st).1.2.1,.bool (bp T n st).1.2.2]) (some (dm x y st.names (bp T n st).2)):=by
 have ks:(aQ st).kind=(bm L st).kind:=by rw[bu hc]
 have ts:(aQ st).text=(bm L st).text:=by rw[bu hc]
 have us:(aQ st).num=(bm L st).num:=by rw[bu hc]
 have os:(aQ st).ig=(bm L st).ig:=by rw[bu hc]
 have e:bp T n st=((tg,0,false),aC st):=by
  unfold bp dQ;rw[if_neg (by rw[ks,k5];decide),if_neg (by rw[ks,k5];decide),if_neg (fun e=>t1 (ts.symm.trans e.2)),if_neg (fun e=>t2 (ts.symm.trans e.2)),if_neg (fun e=>t3 (ts.symm.trans e.2)),if_pos (by unfold eN;rw[ks,k5];rfl)]
 rw[e];have hlx:=bD hx;have hly:=bo hy;have x1:=hlx.refs;have y1:=hly.refs;have g1:=cT hlx hly;have g2:=cR hlx hly;have g3:=cU hlx hly;have g4:=cS hlx hly;have g5:=cV hlx hly;have g6:=cQ hlx hly;have kx:=fun n0 acc r=>a8 n0 acc r hlx;have ky:=fun n0 acc r=>a8 n0 acc r hly;have rx:=fun n0 ks=>ba n0 ks hlx;have ry:=fun n0 ks=>ba n0 ks hly
 have q0:=dp hx hy hc;rw[bY] at q0;have qn:=eH (bm L st);have w1:=wrap_i64 (n:=(st.at_:Int)+1) (by omega) (by have:=hc.le;have:=hc.lb;omega);have b1:((bm L st).text==[40])=false:=by simpa using t1
 have b2:((bm L st).text==[91])=false:=by simpa using t2
 have b3:((bm L st).text==[123])=false:=by simpa using t3
 rw[k5] at q0 qn;dsimp only;by_cases h0:st.names=[]
 ·rw[bf h0] at q0;refine di (n:=8) hE hlx hly h0 h0 ?_ (bn _ _ _) rfl;show (az (bh cw (ct N)) 8 120 [.ptr 0 0,.int .i64 n] ⟨1,[.row [x,y,.int .i64 st.at_,.int .i64 st.next,.aA]],1,1⟩).map _=_;rw[cN];simp only[ir,iu,il];simp[aW,ck,ft,ai,cw,ct,da,bz,a6,aY,cZ,an,bc,bA,aZ,bB,w1,q0,qn,b1,b2,b3,t1,t2,t3,x1,y1,g1,g2,g3,g4,g5,g6,kx,ky,rx,ry,-ae,-aj,-ag,-keeps,-cF,aH,aG,aL,aJ,ay,au,aN,aK,aM,aw,ax,aI]
 ·rw[bd h0] at q0;refine cX (n:=8) hE hlx hly 1 (by decide) h0 h0 ?_ (bn _ _ _) rfl;show (az (bh cw (ct N)) 8 120 [.ptr 0 0,.int .i64 n] ⟨2,[.row (ak st.names),.row [x,y,.int .i64 st.at_,.int .i64 st.next,.vec 1 0 st.names.length 2 st.names.length]],2,2⟩).map _=_;rw[cN];simp only[ir,iu,il];have f1:=aF st.names;have f2:=aE st.names;have f3:=ah st.names;generalize ak st.names=Fst at *;generalize st.names.length=nst at *;simp[aW,ck,ft,ai,cw,ct,da,bz,a6,aY,cZ,an,bc,bA,aZ,bB,w1,f1,f2,f3,q0,qn,b1,b2,b3,t1,t2,t3,x1,y1,g1,g2,g3,g4,g5,g6,kx,ky,rx,ry,-ae,-aj,-ag,-keeps,-cF,aH,aG,aL,aJ,ay,au,aN,aK,aM,aw,ax,aI]
theorem HL (N:Nat) {x y:AV} {T:List bO} {L:List Tok} {st:St} (hx:bx x=some T) (hy:br y=some L) (hc:RC T L st) (hN:st.rest.length≤N) (hE:b8 Tryz.prog cq (bh cw (ct N))) (n:Int) (k1:¬ (bm L st).kind=1) (k2:¬ (bm L st).kind=2) (k3:¬ (bm L st).kind=3) (k4:¬ (bm L st).kind=4) (k5:¬ (bm L st).kind=5):
 b9 Tryz.prog cq 120 [.ptr 0 0,.int .i64 n] (dj x y st) (.tuple [(bp T n st).1.1.enc,.int .i64 (bp T n st).1.2.1,.bool (bp T n st).1.2.2]) (some (dm x y st.names (bp T n st).2)):=by
 have ks:(aQ st).kind=(bm L st).kind:=by rw[bu hc]
 have ts:(aQ st).text=(bm L st).text:=by rw[bu hc]
 have us:(aQ st).num=(bm L st).num:=by rw[bu hc]
 have os:(aQ st).ig=(bm L st).ig:=by rw[bu hc]
 have e:bp T n st=((tg,0,false),aC st):=by
  unfold bp dQ;rw[if_neg (fun e=>k4 (ks.symm.trans e)),if_neg (fun e=>k3 (ks.symm.trans e)),if_neg (fun e=>k5 (ks.symm.trans e.1)),if_neg (fun e=>k5 (ks.symm.trans e.1)),if_neg (fun e=>k5 (ks.symm.trans e.1)),if_pos (by unfold eN;rw[ks,decide_eq_false k1,decide_eq_false k2];rfl)]
 rw[e];have hlx:=bD hx;have hly:=bo hy;have x1:=hlx.refs;have y1:=hly.refs;have g1:=cT hlx hly;have g2:=cR hlx hly;have g3:=cU hlx hly;have g4:=cS hlx hly;have g5:=cV hlx hly;have g6:=cQ hlx hly;have kx:=fun n0 acc r=>a8 n0 acc r hlx;have ky:=fun n0 acc r=>a8 n0 acc r hly;have rx:=fun n0 ks=>ba n0 ks hlx;have ry:=fun n0 ks=>ba n0 ks hly
 have q0:=dp hx hy hc;rw[bY] at q0;have qn:=eH (bm L st);have w1:=wrap_i64 (n:=(st.at_:Int)+1) (by omega) (by have:=hc.le;have:=hc.lb;omega);rw[decide_eq_false k1,decide_eq_false k2] at qn;dsimp only;by_cases h0:st.names=[]
 ·rw[bf h0] at q0;refine di (n:=8) hE hlx hly h0 h0 ?_ (bn _ _ _) rfl;show (az (bh cw (ct N)) 8 120 [.ptr 0 0,.int .i64 n] ⟨1,[.row [x,y,.int .i64 st.at_,.int .i64 st.next,.aA]],1,1⟩).map _=_;rw[cN];simp only[ir,iu,il];simp[aW,ck,ft,ai,cw,ct,da,bz,a6,aY,cZ,an,bc,bA,aZ,bB,w1,q0,qn,k1,k2,k3,k4,k5,x1,y1,g1,g2,g3,g4,g5,g6,kx,ky,rx,ry,-ae,-aj,-ag,-keeps,-cF,aH,aG,aL,aJ,ay,au,aN,aK,aM,aw,ax,aI]
 ·rw[bd h0] at q0;refine cX (n:=8) hE hlx hly 1 (by decide) h0 h0 ?_ (bn _ _ _) rfl;show (az (bh cw (ct N)) 8 120 [.ptr 0 0,.int .i64 n] ⟨2,[.row (ak st.names),.row [x,y,.int .i64 st.at_,.int .i64 st.next,.vec 1 0 st.names.length 2 st.names.length]],2,2⟩).map _=_;rw[cN];simp only[ir,iu,il];have f1:=aF st.names;have f2:=aE st.names;have f3:=ah st.names;generalize ak st.names=Fst at *;generalize st.names.length=nst at *;simp[aW,ck,ft,ai,cw,ct,da,bz,a6,aY,cZ,an,bc,bA,aZ,bB,w1,f1,f2,f3,q0,qn,k1,k2,k3,k4,k5,x1,y1,g1,g2,g3,g4,g5,g6,kx,ky,rx,ry,-ae,-aj,-ag,-keeps,-cF,aH,aG,aL,aJ,ay,au,aN,aK,aM,aw,ax,aI]
theorem zu (l:List Tm):ng l=(cm [] l).cE:=by cases l<;>rfl
theorem yz (s:List UInt8) (l:List Tm):(cm s l).enc=.agg [.int .i64 2,.int .i64 0,.str s,(cm [] l).cE]:=by cases l<;>simp[cm,Tm.enc,Tm.cE,jq]
theorem OU {T:List bO} {L:List Tok} {st:St} (h:RC T L st) (hk:(aQ st).kind≠0):0≤(bm L st).num∧(bm L st).num < 9223372036854775808:=by
 have h1:st.rest.all sA=true:=by
  rw[h.rest];refine List.all_eq_true.mpr fun x hx=>List.all_eq_true.mp h.tk x (List.mem_of_mem_drop hx)
 have:=Ar h1 (bN hk);rw[bu h] at this;exact this
theorem A8 {T:List bO} {L:List Tok} {st:St} (h:RC T L st):0≤(bm L st).at_∧(bm L st).at_ < 1000000:=by
 rcases K5 h with⟨h1,h2⟩ | ⟨_,h2⟩
 ·have:=List.all_eq_true.mp h.rj _ (List.mem_of_getElem? h2);simpa using this
 ·rw[h2];exact⟨by decide,by decide⟩
theorem JX {T:List bO} {L:List Tok} {st:St} (h:RC T L st) (hl:st.at_+1 < L.length):(aQ st).Qt=decide ((bm L (aC st)).at_=(bm L st).at_+1):=by
 rw[bu h];show MN (bm L st) (L.drop (st.at_+1))=_;rw[List.drop_eq_getElem_cons hl];show decide (_=_)=decide ((L.getD (st.at_+1) rW).at_=_);simp[List.getD,hl]
theorem Ad {x y:AV} {st:St} (h:st.names=[]):dj x y (aC (aC st))=[.row [x,y,.int .i64 ((st.at_:Int)+1+1),.int .i64 st.next,.aA]]:=bf (st:=aC (aC st)) h
theorem Jc {x y:AV} {st:St} (h:st.names≠[]):dj x y (aC (aC st))=[.row [x,y,.int .i64 ((st.at_:Int)+1+1),.int .i64 st.next,.vec 1 0 st.names.length 2 st.names.length],.row (ak st.names)]:=bd (st:=aC (aC st)) h
theorem vt {rec:Int→St→PR×St} {T:List bO} {x x':gk} (n:Int) (st:St) (h1:x.kind=x'.kind) (h2:x.text=x'.text):ch rec T x n st=ch rec T x' n st:=by
 unfold ch;rw[h1,h2]
theorem lQ {rec:Int→St→PR×St} (H:uO rec) {T:List bO} {x:gk} {n:Int} {st:St} (h:st.names≠[]):(ch rec T x n st).2.names≠[]:=by
 unfold ch;split
 ·exact h
 ·split
  ·exact (H.lv _ st).names h
  ·exact h
theorem CE (N:Nat) {x y:AV} {T:List bO} {L:List Tok} {st:St} (hx:bx x=some T) (hy:br y=some L) (hc:RC T L st) (hN:st.rest.length≤N) (hE:b8 Tryz.prog cq (bh cw (ct N))) (n:Int) (kn:(decide ((bm L st).kind=1)||decide ((bm L st).kind=2))=true) (ko:(bm L st).ig=true) (hok:(aO T (aC (aC st))).1.2=false):
 b9 Tryz.prog cq 120 [.ptr 0 0,.int .i64 n] (dj x y st) (.tuple [(bp T n st).1.1.enc,.int .i64 (bp T n st).1.2.1,.bool (bp T n st).1.2.2]) (some (dm x y st.names (bp T n st).2)):=by
 have ks:(aQ st).kind=(bm L st).kind:=by rw[bu hc]
 have ts:(aQ st).text=(bm L st).text:=by rw[bu hc]
 have us:(aQ st).num=(bm L st).num:=by rw[bu hc]
 have os:(aQ st).ig=(bm L st).ig:=by rw[bu hc]
 have kc:(bm L st).kind=1∨(bm L st).kind=2:=by
  rw[Bool.or_eq_true,decide_eq_true_eq,decide_eq_true_eq] at kn;exact kn
 have k3:¬ (bm L st).kind=3:=by omega
 have k4:¬ (bm L st).kind=4:=by omega
 have k5:¬ (bm L st).kind=5:=by omega
 have k0:(aQ st).kind≠0:=by rw[ks];omega
 have nb:eN (aQ st)=true:=by unfold eN;rw[ks];exact kn
 have e:bp T n st=((cm (bm L st).text [],0,false),(aO T (aC (aC st))).2):=by
  unfold bp dQ;rw[if_neg (fun e=>k4 (ks.symm.trans e)),if_neg (fun e=>k3 (ks.symm.trans e)),if_neg (fun e=>k5 (ks.symm.trans e.1)),if_neg (fun e=>k5 (ks.symm.trans e.1)),if_neg (fun e=>k5 (ks.symm.trans e.1)),if_neg (by rw[nb];decide)];rw[if_pos (os.trans ko),ts];unfold iC;rw[Cr (by rw[cI,cI];omega),hok];exact if_neg (by simp)
 rw[e];have hlx:=bD hx;have hly:=bo hy;have x1:=hlx.refs;have y1:=hly.refs;have g1:=cT hlx hly;have g2:=cR hlx hly;have g3:=cU hlx hly;have g4:=cS hlx hly;have g5:=cV hlx hly;have g6:=cQ hlx hly;have kx:=fun n0 acc r=>a8 n0 acc r hlx;have ky:=fun n0 acc r=>a8 n0 acc r hly;have rx:=fun n0 ks=>ba n0 ks hlx;have ry:=fun n0 ks=>ba n0 ks hly
 have q0:=dp hx hy hc;rw[bY] at q0;have qn:=eH (bm L st);have w1:=wrap_i64 (n:=(st.at_:Int)+1) (by omega) (by have:=hc.le;have:=hc.lb;omega);have hat:=eP hc k0;have c1:=hc.xJ (by omega);have hl:=cI st;have hp:=bN (st:=st) k0;have hat2:st.at_+1≤L.length:=hat;have c2:=c1.xJ hat2;have hl2:=cI (aC st);have w2:=wrap_i64 (n:=(st.at_:Int)+1+1) (by omega) (by have:=hc.lb;omega);have qt:=iW N hx hy c2 (by omega);rw[hok,if_neg (by simp),show (aC (aC st)).names=st.names from rfl] at qt;have hlv:st.names≠[]→(aO T (aC (aC st))).2.names≠[]:=(fH T (aC (aC st))).1.names;rw[ko] at q0 qn;dsimp only;rw[kn] at qn;generalize (aO T (aC (aC st))).2=s1 at *;by_cases h0:st.names=[]
 ·by_cases h1:s1.names=[]
  ·rw[bf h0] at q0;rw[Ad h0,h0,cA h1] at qt;refine di (n:=8) hE hlx hly h0 h1 ?_ (bn _ _ _) rfl;show (az (bh cw (ct N)) 8 120 [.ptr 0 0,.int .i64 n] ⟨1,[.row [x,y,.int .i64 st.at_,.int .i64 st.next,.aA]],1,1⟩).map _=_;rw[yz];simp only[ng] at qt;rw[show (cm [] []).cE=.aA from rfl];simp[aW,ck,ft,ai,cw,ct,da,bz,a6,aY,cZ,an,bc,bA,aZ,bB,w1,q0,qt,qn,k3,k4,k5,w2,x1,y1,g1,g2,g3,g4,g5,g6,kx,ky,rx,ry,-ae,-aj,-ag,-keeps,-cF,aH,aG,aL,aJ,ay,au,aN,aK,aM,aw,ax,aI]
  ·rw[bf h0] at q0;rw[Ad h0,h0,bX h1] at qt;refine dE (n:=8) hE hlx hly 3 (by decide) h0 h1 ?_ (bn _ _ _) rfl;show (az (bh cw (ct N)) 8 120 [.ptr 0 0,.int .i64 n] ⟨1,[.row [x,y,.int .i64 st.at_,.int .i64 st.next,.aA]],1,1⟩).map _=_;rw[yz];simp only[ng] at qt;rw[show (cm [] []).cE=.aA from rfl];have e1:=aF s1.names;have e2:=aE s1.names;have e3:=ah s1.names;generalize ak s1.names=Fs1 at *;generalize s1.names.length=ns1 at *;simp[aW,ck,ft,ai,cw,ct,da,bz,a6,aY,cZ,an,bc,bA,aZ,bB,w1,q0,qt,qn,k3,k4,k5,w2,e1,e2,e3,x1,y1,g1,g2,g3,g4,g5,g6,kx,ky,rx,ry,-ae,-aj,-ag,-keeps,-cF,aH,aG,aL,aJ,ay,au,aN,aK,aM,aw,ax,aI]
 ·have h1:=hlv h0;rw[bd h0] at q0;rw[Jc h0,dq h0 h1] at qt;refine cX (n:=8) hE hlx hly 4 (by decide) h0 h1 ?_ (bn _ _ _) rfl;show (az (bh cw (ct N)) 8 120 [.ptr 0 0,.int .i64 n] ⟨2,[.row (ak st.names),.row [x,y,.int .i64 st.at_,.int .i64 st.next,.vec 1 0 st.names.length 2 st.names.length]],2,2⟩).map _=_;rw[yz];simp only[ng] at qt;rw[show (cm [] []).cE=.aA from rfl];have e1:=aF s1.names;have e2:=aE s1.names;have e3:=ah s1.names;generalize ak s1.names=Fs1 at *;generalize s1.names.length=ns1 at *;have f1:=aF st.names;have f2:=aE st.names;have f3:=ah st.names;generalize ak st.names=Fst at *;generalize st.names.length=nst at *;simp[aW,ck,ft,ai,cw,ct,da,bz,a6,aY,cZ,an,bc,bA,aZ,bB,w1,q0,qt,qn,k3,k4,k5,w2,e1,e2,e3,f1,f2,f3,x1,y1,g1,g2,g3,g4,g5,g6,kx,ky,rx,ry,-ae,-aj,-ag,-keeps,-cF,aH,aG,aL,aJ,ay,au,aN,aK,aM,aw,ax,aI]
theorem Co (N:Nat) {x y:AV} {T:List bO} {L:List Tok} {st:St} (hx:bx x=some T) (hy:br y=some L) (hc:RC T L st) (hN:st.rest.length≤N) (hE:b8 Tryz.prog cq (bh cw (ct N))) (n:Int) (kn:(decide ((bm L st).kind=1)||decide ((bm L st).kind=2))=true) (ko:(bm L st).ig=true) (hok:(aO T (aC (aC st))).1.2=true):
 b9 Tryz.prog cq 120 [.ptr 0 0,.int .i64 n] (dj x y st) (.tuple [(bp T n st).1.1.enc,.int .i64 (bp T n st).1.2.1,.bool (bp T n st).1.2.2]) (some (dm x y st.names (bp T n st).2)):=by
 have ks:(aQ st).kind=(bm L st).kind:=by rw[bu hc]
 have ts:(aQ st).text=(bm L st).text:=by rw[bu hc]
 have us:(aQ st).num=(bm L st).num:=by rw[bu hc]
 have os:(aQ st).ig=(bm L st).ig:=by rw[bu hc]
 have kc:(bm L st).kind=1∨(bm L st).kind=2:=by
  rw[Bool.or_eq_true,decide_eq_true_eq,decide_eq_true_eq] at kn;exact kn
 have k3:¬ (bm L st).kind=3:=by omega
 have k4:¬ (bm L st).kind=4:=by omega
 have k5:¬ (bm L st).kind=5:=by omega
 have k0:(aQ st).kind≠0:=by rw[ks];omega
 have nb:eN (aQ st)=true:=by unfold eN;rw[ks];exact kn
 have e:bp T n st=((cm (bm L st).text (aO T (aC (aC st))).1.1,0,(bb [41] (aO T (aC (aC st))).2).1),(bb [41] (aO T (aC (aC st))).2).2):=by
  unfold bp dQ;rw[if_neg (fun e=>k4 (ks.symm.trans e)),if_neg (fun e=>k3 (ks.symm.trans e)),if_neg (fun e=>k5 (ks.symm.trans e.1)),if_neg (fun e=>k5 (ks.symm.trans e.1)),if_neg (fun e=>k5 (ks.symm.trans e.1)),if_neg (by rw[nb];decide)];rw[if_pos (os.trans ko),ts];unfold iC;rw[Cr (by rw[cI,cI];omega),hok];exact if_pos rfl
 rw[e];have hlx:=bD hx;have hly:=bo hy;have x1:=hlx.refs;have y1:=hly.refs;have g1:=cT hlx hly;have g2:=cR hlx hly;have g3:=cU hlx hly;have g4:=cS hlx hly;have g5:=cV hlx hly;have g6:=cQ hlx hly;have kx:=fun n0 acc r=>a8 n0 acc r hlx;have ky:=fun n0 acc r=>a8 n0 acc r hly;have rx:=fun n0 ks=>ba n0 ks hlx;have ry:=fun n0 ks=>ba n0 ks hly
 have q0:=dp hx hy hc;rw[bY] at q0;have qn:=eH (bm L st);have w1:=wrap_i64 (n:=(st.at_:Int)+1) (by omega) (by have:=hc.le;have:=hc.lb;omega);have hat:=eP hc k0;have c1:=hc.xJ (by omega);have hl:=cI st;have hp:=bN (st:=st) k0;have hat2:st.at_+1≤L.length:=hat;have c2:=c1.xJ hat2;have hl2:=cI (aC st);have w2:=wrap_i64 (n:=(st.at_:Int)+1+1) (by omega) (by have:=hc.lb;omega);have qt:=iW N hx hy c2 (by omega);rw[hok,if_pos rfl,show (aC (aC st)).names=st.names from rfl] at qt;have hlv:st.names≠[]→(aO T (aC (aC st))).2.names≠[]:=(fH T (aC (aC st))).1.names;have ur:=aP (cm [] (aO T (aC (aC st))).1.1);have uc:=cL (cm [] (aO T (aC (aC st))).1.1);obtain⟨c3,_⟩:=c2.ok ((fH T (aC (aC st))).2 hok);have qk:=fP hx hy c3 [41];have hn4:=eK [41] (aO T (aC (aC st))).2;rw[ko] at q0 qn;dsimp only;rw[kn] at qn;generalize (aO T (aC (aC st))).2=s1 at *;generalize (aO T (aC (aC st))).1.1=us at *;by_cases h0:st.names=[]
 ·by_cases h1:s1.names=[]
  ·rw[bf h0] at q0;rw[Ad h0,h0,cA h1] at qt;rw[bf h1,bf (by rw[hn4.1];exact h1),hn4.2] at qk;refine di (n:=8) hE hlx hly h0 (by rw[hn4.1];exact h1) ?_ (bn _ _ _) rfl;show (az (bh cw (ct N)) 8 120 [.ptr 0 0,.int .i64 n] ⟨1,[.row [x,y,.int .i64 st.at_,.int .i64 st.next,.aA]],1,1⟩).map _=_;rw[yz,hn4.2];rw[zu] at qt;generalize cm [] us=cu at *;generalize bb [41] s1=b4 at *;obtain⟨b4,s4⟩:=b4;simp[aW,ck,ft,ai,cw,ct,da,bz,a6,aY,cZ,an,bc,bA,aZ,bB,w1,q0,qt,qn,k3,k4,k5,w2,ur,uc,qk,x1,y1,g1,g2,g3,g4,g5,g6,kx,ky,rx,ry,-ae,-aj,-ag,-keeps,-cF,aH,aG,aL,aJ,ay,au,aN,aK,aM,aw,ax,aI]
  ·rw[bf h0] at q0;rw[Ad h0,h0,bX h1] at qt;rw[bd h1,bd (by rw[hn4.1];exact h1),hn4.1,hn4.2] at qk;refine dE (n:=8) hE hlx hly 3 (by decide) h0 (by rw[hn4.1];exact h1) ?_ (bn _ _ _) rfl;show (az (bh cw (ct N)) 8 120 [.ptr 0 0,.int .i64 n] ⟨1,[.row [x,y,.int .i64 st.at_,.int .i64 st.next,.aA]],1,1⟩).map _=_;rw[yz,hn4.1,hn4.2];rw[zu] at qt;generalize cm [] us=cu at *;generalize bb [41] s1=b4 at *;obtain⟨b4,s4⟩:=b4;have e1:=aF s1.names;have e2:=aE s1.names;have e3:=ah s1.names;generalize ak s1.names=Fs1 at *;generalize s1.names.length=ns1 at *;simp[aW,ck,ft,ai,cw,ct,da,bz,a6,aY,cZ,an,bc,bA,aZ,bB,w1,q0,qt,qn,k3,k4,k5,w2,ur,uc,qk,e1,e2,e3,x1,y1,g1,g2,g3,g4,g5,g6,kx,ky,rx,ry,-ae,-aj,-ag,-keeps,-cF,aH,aG,aL,aJ,ay,au,aN,aK,aM,aw,ax,aI]
 ·have h1:=hlv h0;rw[bd h0] at q0;rw[Jc h0,dq h0 h1] at qt;rw[bd h1,bd (by rw[hn4.1];exact h1),hn4.1,hn4.2] at qk;refine cX (n:=8) hE hlx hly 4 (by decide) h0 (by rw[hn4.1];exact h1) ?_ (bn _ _ _) rfl;show (az (bh cw (ct N)) 8 120 [.ptr 0 0,.int .i64 n] ⟨2,[.row (ak st.names),.row [x,y,.int .i64 st.at_,.int .i64 st.next,.vec 1 0 st.names.length 2 st.names.length]],2,2⟩).map _=_;rw[yz,hn4.1,hn4.2];rw[zu] at qt;generalize cm [] us=cu at *;generalize bb [41] s1=b4 at *;obtain⟨b4,s4⟩:=b4;have e1:=aF s1.names;have e2:=aE s1.names;have e3:=ah s1.names;generalize ak s1.names=Fs1 at *;generalize s1.names.length=ns1 at *;have f1:=aF st.names;have f2:=aE st.names;have f3:=ah st.names;generalize ak st.names=Fst at *;generalize st.names.length=nst at *;simp[aW,ck,ft,ai,cw,ct,da,bz,a6,aY,cZ,an,bc,bA,aZ,bB,w1,q0,qt,qn,k3,k4,k5,w2,ur,uc,qk,e1,e2,e3,f1,f2,f3,x1,y1,g1,g2,g3,g4,g5,g6,kx,ky,rx,ry,-ae,-aj,-ag,-keeps,-cF,aH,aG,aL,aJ,ay,au,aN,aK,aM,aw,ax,aI]
theorem IN (N:Nat) {x y:AV} {T:List bO} {L:List Tok} {st:St} (hx:bx x=some T) (hy:br y=some L) (hc:RC T L st) (hN:st.rest.length≤N) (hE:b8 Tryz.prog cq (bh cw (ct N))) (n:Int) (k1:(bm L st).kind=1) (kt:(bm L st).text=[45]) (ko:(bm L st).ig=false) (k4:(bm L (aC st)).kind=4) (ka:(bm L (aC st)).at_=(bm L st).at_+1):
 b9 Tryz.prog cq 120 [.ptr 0 0,.int .i64 n] (dj x y st) (.tuple [(bp T n st).1.1.enc,.int .i64 (bp T n st).1.2.1,.bool (bp T n st).1.2.2]) (some (dm x y st.names (bp T n st).2)):=by
 have ks:(aQ st).kind=(bm L st).kind:=by rw[bu hc]
 have ts:(aQ st).text=(bm L st).text:=by rw[bu hc]
 have us:(aQ st).num=(bm L st).num:=by rw[bu hc]
 have os:(aQ st).ig=(bm L st).ig:=by rw[bu hc]
 have k0:(aQ st).kind≠0:=by rw[ks,k1];decide
 have hat:=eP hc k0;have c1:=hc.xJ (by omega);have hl:=cI st;have hp:=bN (st:=st) k0;have ks1:(aQ (aC st)).kind=(bm L (aC st)).kind:=by rw[bu c1]
 have us1:(aQ (aC st)).num=(bm L (aC st)).num:=by rw[bu c1]
 have k01:(aQ (aC st)).kind≠0:=by rw[ks1,k4];decide
 have hat1:=eP c1 k01;have hat2:st.at_+1 < L.length:=hat1
 have e:bp T n st=((.nl 1 (-(bm L (aC st)).num) [],0,true),aC (aC st)):=by
  unfold bp dQ;rw[if_neg (by rw[ks,k1];decide),if_neg (by rw[ks,k1];decide),if_neg (fun e=>absurd (k1.symm.trans (ks.symm.trans e.1)) (by decide)),if_neg (fun e=>absurd (k1.symm.trans (ks.symm.trans e.1)) (by decide)),if_neg (fun e=>absurd (k1.symm.trans (ks.symm.trans e.1)) (by decide)),if_neg (by unfold eN;rw[ks,k1];decide),if_neg (by rw[os,ko];simp),if_pos ⟨ks.trans k1,ts.trans kt,ks1.trans k4,by rw[JX hc hat2,ka];simp⟩,us1]
 rw[e];have hlx:=bD hx;have hly:=bo hy;have x1:=hlx.refs;have y1:=hly.refs;have g1:=cT hlx hly;have g2:=cR hlx hly;have g3:=cU hlx hly;have g4:=cS hlx hly;have g5:=cV hlx hly;have g6:=cQ hlx hly;have kx:=fun n0 acc r=>a8 n0 acc r hlx;have ky:=fun n0 acc r=>a8 n0 acc r hly;have rx:=fun n0 ks=>ba n0 ks hlx;have ry:=fun n0 ks=>ba n0 ks hly
 have q0:=dp hx hy hc;rw[bY] at q0;have qn:=eH (bm L st);have w1:=wrap_i64 (n:=(st.at_:Int)+1) (by omega) (by have:=hc.le;have:=hc.lb;omega);have w2:=wrap_i64 (n:=(st.at_:Int)+1+1) (by omega) (by have:=hc.lb;omega);have tn:=OU c1 k01;have w3:=wrap_i64 (n:=-(bm L (aC st)).num) (by omega) (by omega);have ta:=A8 hc;have w4:=wrap_i64 (n:=(bm L st).at_+1) (by omega) (by omega);have q1:=dp hx hy c1;rw[bY,k4,ka] at q1;have qi:=Ga (-(bm L (aC st)).num);rw[k1,kt,ko] at q0 qn;dsimp only;by_cases h0:st.names=[]
 ·rw[bf h0] at q0;rw[dX h0] at q1;refine di (n:=8) hE hlx hly h0 h0 ?_ (bn _ _ _) rfl;show (az (bh cw (ct N)) 8 120 [.ptr 0 0,.int .i64 n] ⟨1,[.row [x,y,.int .i64 st.at_,.int .i64 st.next,.aA]],1,1⟩).map _=_;rw[pD];simp only[ir,iu,il];simp[aW,ck,ft,ai,cw,ct,da,bz,a6,aY,cZ,an,bc,bA,aZ,bB,w1,q0,qi,qn,q1,w2,w3,w4,x1,y1,g1,g2,g3,g4,g5,g6,kx,ky,rx,ry,-ae,-aj,-ag,-keeps,-cF,aH,aG,aL,aJ,ay,au,aN,aK,aM,aw,ax,aI]
 ·rw[bd h0] at q0;rw[fU h0] at q1;refine cX (n:=8) hE hlx hly 1 (by decide) h0 h0 ?_ (bn _ _ _) rfl;show (az (bh cw (ct N)) 8 120 [.ptr 0 0,.int .i64 n] ⟨2,[.row (ak st.names),.row [x,y,.int .i64 st.at_,.int .i64 st.next,.vec 1 0 st.names.length 2 st.names.length]],2,2⟩).map _=_;rw[pD];simp only[ir,iu,il];have f1:=aF st.names;have f2:=aE st.names;have f3:=ah st.names;generalize ak st.names=Fst at *;generalize st.names.length=nst at *;simp[aW,ck,ft,ai,cw,ct,da,bz,a6,aY,cZ,an,bc,bA,aZ,bB,w1,f1,f2,f3,q0,qi,qn,q1,w2,w3,w4,x1,y1,g1,g2,g3,g4,g5,g6,kx,ky,rx,ry,-ae,-aj,-ag,-keeps,-cF,aH,aG,aL,aJ,ay,au,aN,aK,aM,aw,ax,aI]
theorem BR (N:Nat) {x y:AV} {T:List bO} {L:List Tok} {st:St} (hx:bx x=some T) (hy:br y=some L) (hc:RC T L st) (hN:st.rest.length≤N) (hE:b8 Tryz.prog cq (bh cw (ct N))) (n:Int) (kn:(decide ((bm L st).kind=1)||decide ((bm L st).kind=2))=true) (ko:(bm L st).ig=false) (kd:¬ (bm L st).kind=1):
 b9 Tryz.prog cq 120 [.ptr 0 0,.int .i64 n] (dj x y st) (.tuple [(bp T n st).1.1.enc,.int .i64 (bp T n st).1.2.1,.bool (bp T n st).1.2.2]) (some (dm x y st.names (bp T n st).2)):=by
 have ks:(aQ st).kind=(bm L st).kind:=by rw[bu hc]
 have ts:(aQ st).text=(bm L st).text:=by rw[bu hc]
 have us:(aQ st).num=(bm L st).num:=by rw[bu hc]
 have os:(aQ st).ig=(bm L st).ig:=by rw[bu hc]
 have kc:(bm L st).kind=1∨(bm L st).kind=2:=by
  rw[Bool.or_eq_true,decide_eq_true_eq,decide_eq_true_eq] at kn;exact kn
 have k3:¬ (bm L st).kind=3:=by omega
 have k4:¬ (bm L st).kind=4:=by omega
 have k5:¬ (bm L st).kind=5:=by omega
 have k0:(aQ st).kind≠0:=by rw[ks];omega
 have nb:eN (aQ st)=true:=by unfold eN;rw[ks];exact kn
 have hat:=eP hc k0;have c1:=hc.xJ (by omega);have hl:=cI st;have hp:=bN (st:=st) k0;have ks1:(aQ (aC st)).kind=(bm L (aC st)).kind:=by rw[bu c1]
 have e:bp T n st=ch (af T) T (lT (bm L st)) n (aC st):=by
  unfold bp dQ;rw[if_neg (fun e=>k4 (ks.symm.trans e)),if_neg (fun e=>k3 (ks.symm.trans e)),if_neg (fun e=>k5 (ks.symm.trans e.1)),if_neg (fun e=>k5 (ks.symm.trans e.1)),if_neg (fun e=>k5 (ks.symm.trans e.1)),if_neg (by rw[nb];decide)];rw[if_neg (by rw[os,ko];simp),if_neg (fun e=>kd (ks.symm.trans e.1))];exact vt _ _ ks ts
 rw[e];have hlx:=bD hx;have hly:=bo hy;have x1:=hlx.refs;have y1:=hly.refs;have g1:=cT hlx hly;have g2:=cR hlx hly;have g3:=cU hlx hly;have g4:=cS hlx hly;have g5:=cV hlx hly;have g6:=cQ hlx hly;have kx:=fun n0 acc r=>a8 n0 acc r hlx;have ky:=fun n0 acc r=>a8 n0 acc r hly;have rx:=fun n0 ks=>ba n0 ks hlx;have ry:=fun n0 ks=>ba n0 ks hly
 have q0:=dp hx hy hc;rw[bY] at q0;have qn:=eH (bm L st);have w1:=wrap_i64 (n:=(st.at_:Int)+1) (by omega) (by have:=hc.le;have:=hc.lb;omega);have ta:=A8 hc;have w4:=wrap_i64 (n:=(bm L st).at_+1) (by omega) (by omega);have q1:=dp hx hy c1;rw[bY] at q1;have qt:=nQ N hx hy c1 (by omega) (bm L st) n;rw[show (aC st).names=st.names from rfl,ar,bY] at qt;have hlv:st.names≠[]→(ch (af T) T (lT (bm L st)) n (aC st)).2.names≠[]:=fun h=>lQ (bP T) (st:=aC st) h
 have ur:=aP (ch (af T) T (lT (bm L st)) n (aC st)).1.1;have uc:=cL (ch (af T) T (lT (bm L st)) n (aC st)).1.1;rw[kn] at qn;rw[ko] at q0 qn qt;have k2:(bm L st).kind=2:=by omega
 rw[k2] at q0 qn qt;generalize (ch (af T) T (lT (bm L st)) n (aC st))=r at *;obtain⟨⟨u,lv,ok⟩,s1⟩:=r;dsimp only at *;by_cases h0:st.names=[]
 ·by_cases h1:s1.names=[]
  ·rw[bf h0] at q0;rw[dX h0,h0,cA h1] at qt;rw[dX h0] at q1;refine di (n:=8) hE hlx hly h0 h1 ?_ (bn _ _ _) rfl;show (az (bh cw (ct N)) 8 120 [.ptr 0 0,.int .i64 n] ⟨1,[.row [x,y,.int .i64 st.at_,.int .i64 st.next,.aA]],1,1⟩).map _=_;rw[ar];simp[aW,ck,ft,ai,cw,ct,da,bz,a6,aY,cZ,an,bc,bA,aZ,bB,w1,q0,qt,qn,q1,ur,uc,k3,k4,k5,kd,x1,y1,g1,g2,g3,g4,g5,g6,kx,ky,rx,ry,-ae,-aj,-ag,-keeps,-cF,aH,aG,aL,aJ,ay,au,aN,aK,aM,aw,ax,aI]
  ·rw[bf h0] at q0;rw[dX h0,h0,bX h1] at qt;rw[dX h0] at q1;refine dE (n:=8) hE hlx hly 4 (by decide) h0 h1 ?_ (bn _ _ _) rfl;show (az (bh cw (ct N)) 8 120 [.ptr 0 0,.int .i64 n] ⟨1,[.row [x,y,.int .i64 st.at_,.int .i64 st.next,.aA]],1,1⟩).map _=_;rw[ar];have e1:=aF s1.names;have e2:=aE s1.names;have e3:=ah s1.names;generalize ak s1.names=Fs1 at *;generalize s1.names.length=ns1 at *;simp[aW,ck,ft,ai,cw,ct,da,bz,a6,aY,cZ,an,bc,bA,aZ,bB,w1,q0,qt,qn,q1,ur,uc,k3,k4,k5,kd,e1,e2,e3,x1,y1,g1,g2,g3,g4,g5,g6,kx,ky,rx,ry,-ae,-aj,-ag,-keeps,-cF,aH,aG,aL,aJ,ay,au,aN,aK,aM,aw,ax,aI]
 ·have h1:=hlv h0;rw[bd h0] at q0;rw[fU h0,dq h0 h1] at qt;rw[fU h0] at q1;refine cX (n:=8) hE hlx hly 5 (by decide) h0 h1 ?_ (bn _ _ _) rfl;show (az (bh cw (ct N)) 8 120 [.ptr 0 0,.int .i64 n] ⟨2,[.row (ak st.names),.row [x,y,.int .i64 st.at_,.int .i64 st.next,.vec 1 0 st.names.length 2 st.names.length]],2,2⟩).map _=_;rw[ar];have e1:=aF s1.names;have e2:=aE s1.names;have e3:=ah s1.names;generalize ak s1.names=Fs1 at *;generalize s1.names.length=ns1 at *;have f1:=aF st.names;have f2:=aE st.names;have f3:=ah st.names;generalize ak st.names=Fst at *;generalize st.names.length=nst at *;simp[aW,ck,ft,ai,cw,ct,da,bz,a6,aY,cZ,an,bc,bA,aZ,bB,w1,q0,qt,qn,q1,ur,uc,k3,k4,k5,kd,e1,e2,e3,f1,f2,f3,x1,y1,g1,g2,g3,g4,g5,g6,kx,ky,rx,ry,-ae,-aj,-ag,-keeps,-cF,aH,aG,aL,aJ,ay,au,aN,aK,aM,aw,ax,aI]
theorem AJ (N:Nat) {x y:AV} {T:List bO} {L:List Tok} {st:St} (hx:bx x=some T) (hy:br y=some L) (hc:RC T L st) (hN:st.rest.length≤N) (hE:b8 Tryz.prog cq (bh cw (ct N))) (n:Int) (kn:(decide ((bm L st).kind=1)||decide ((bm L st).kind=2))=true) (ko:(bm L st).ig=false) (k1:(bm L st).kind=1) (kd:¬ (bm L st).text=[45]):
 b9 Tryz.prog cq 120 [.ptr 0 0,.int .i64 n] (dj x y st) (.tuple [(bp T n st).1.1.enc,.int .i64 (bp T n st).1.2.1,.bool (bp T n st).1.2.2]) (some (dm x y st.names (bp T n st).2)):=by
 have ks:(aQ st).kind=(bm L st).kind:=by rw[bu hc]
 have ts:(aQ st).text=(bm L st).text:=by rw[bu hc]
 have us:(aQ st).num=(bm L st).num:=by rw[bu hc]
 have os:(aQ st).ig=(bm L st).ig:=by rw[bu hc]
 have kc:(bm L st).kind=1∨(bm L st).kind=2:=by
  rw[Bool.or_eq_true,decide_eq_true_eq,decide_eq_true_eq] at kn;exact kn
 have k3:¬ (bm L st).kind=3:=by omega
 have k4:¬ (bm L st).kind=4:=by omega
 have k5:¬ (bm L st).kind=5:=by omega
 have k0:(aQ st).kind≠0:=by rw[ks];omega
 have nb:eN (aQ st)=true:=by unfold eN;rw[ks];exact kn
 have hat:=eP hc k0;have c1:=hc.xJ (by omega);have hl:=cI st;have hp:=bN (st:=st) k0;have ks1:(aQ (aC st)).kind=(bm L (aC st)).kind:=by rw[bu c1]
 have e:bp T n st=ch (af T) T (lT (bm L st)) n (aC st):=by
  unfold bp dQ;rw[if_neg (fun e=>k4 (ks.symm.trans e)),if_neg (fun e=>k3 (ks.symm.trans e)),if_neg (fun e=>k5 (ks.symm.trans e.1)),if_neg (fun e=>k5 (ks.symm.trans e.1)),if_neg (fun e=>k5 (ks.symm.trans e.1)),if_neg (by rw[nb];decide)];rw[if_neg (by rw[os,ko];simp),if_neg (fun e=>kd (ts.symm.trans e.2.1))];exact vt _ _ ks ts
 rw[e];have hlx:=bD hx;have hly:=bo hy;have x1:=hlx.refs;have y1:=hly.refs;have g1:=cT hlx hly;have g2:=cR hlx hly;have g3:=cU hlx hly;have g4:=cS hlx hly;have g5:=cV hlx hly;have g6:=cQ hlx hly;have kx:=fun n0 acc r=>a8 n0 acc r hlx;have ky:=fun n0 acc r=>a8 n0 acc r hly;have rx:=fun n0 ks=>ba n0 ks hlx;have ry:=fun n0 ks=>ba n0 ks hly
 have q0:=dp hx hy hc;rw[bY] at q0;have qn:=eH (bm L st);have w1:=wrap_i64 (n:=(st.at_:Int)+1) (by omega) (by have:=hc.le;have:=hc.lb;omega);have ta:=A8 hc;have w4:=wrap_i64 (n:=(bm L st).at_+1) (by omega) (by omega);have q1:=dp hx hy c1;rw[bY] at q1;have qt:=nQ N hx hy c1 (by omega) (bm L st) n;rw[show (aC st).names=st.names from rfl,ar,bY] at qt;have hlv:st.names≠[]→(ch (af T) T (lT (bm L st)) n (aC st)).2.names≠[]:=fun h=>lQ (bP T) (st:=aC st) h
 have ur:=aP (ch (af T) T (lT (bm L st)) n (aC st)).1.1;have uc:=cL (ch (af T) T (lT (bm L st)) n (aC st)).1.1;have kd2:((bm L st).text==[45])=false:=by simpa using kd
 rw[kn] at qn;rw[ko] at q0 qn qt;rw[k1] at q0 qn qt;generalize (ch (af T) T (lT (bm L st)) n (aC st))=r at *;obtain⟨⟨u,lv,ok⟩,s1⟩:=r;dsimp only at *;by_cases h0:st.names=[]
 ·by_cases h1:s1.names=[]
  ·rw[bf h0] at q0;rw[dX h0,h0,cA h1] at qt;rw[dX h0] at q1;refine di (n:=8) hE hlx hly h0 h1 ?_ (bn _ _ _) rfl;show (az (bh cw (ct N)) 8 120 [.ptr 0 0,.int .i64 n] ⟨1,[.row [x,y,.int .i64 st.at_,.int .i64 st.next,.aA]],1,1⟩).map _=_;rw[ar];simp[aW,ck,ft,ai,cw,ct,da,bz,a6,aY,cZ,an,bc,bA,aZ,bB,w1,q0,qt,qn,q1,ur,uc,k3,k4,k5,k1,kd,kd2,x1,y1,g1,g2,g3,g4,g5,g6,kx,ky,rx,ry,-ae,-aj,-ag,-keeps,-cF,aH,aG,aL,aJ,ay,au,aN,aK,aM,aw,ax,aI]
  ·rw[bf h0] at q0;rw[dX h0,h0,bX h1] at qt;rw[dX h0] at q1;refine dE (n:=8) hE hlx hly 4 (by decide) h0 h1 ?_ (bn _ _ _) rfl;show (az (bh cw (ct N)) 8 120 [.ptr 0 0,.int .i64 n] ⟨1,[.row [x,y,.int .i64 st.at_,.int .i64 st.next,.aA]],1,1⟩).map _=_;rw[ar];have e1:=aF s1.names;have e2:=aE s1.names;have e3:=ah s1.names;generalize ak s1.names=Fs1 at *;generalize s1.names.length=ns1 at *;simp[aW,ck,ft,ai,cw,ct,da,bz,a6,aY,cZ,an,bc,bA,aZ,bB,w1,q0,qt,qn,q1,ur,uc,k3,k4,k5,k1,kd,kd2,e1,e2,e3,x1,y1,g1,g2,g3,g4,g5,g6,kx,ky,rx,ry,-ae,-aj,-ag,-keeps,-cF,aH,aG,aL,aJ,ay,au,aN,aK,aM,aw,ax,aI]
 ·have h1:=hlv h0;rw[bd h0] at q0;rw[fU h0,dq h0 h1] at qt;rw[fU h0] at q1;refine cX (n:=8) hE hlx hly 5 (by decide) h0 h1 ?_ (bn _ _ _) rfl;show (az (bh cw (ct N)) 8 120 [.ptr 0 0,.int .i64 n] ⟨2,[.row (ak st.names),.row [x,y,.int .i64 st.at_,.int .i64 st.next,.vec 1 0 st.names.length 2 st.names.length]],2,2⟩).map _=_;rw[ar];have e1:=aF s1.names;have e2:=aE s1.names;have e3:=ah s1.names;generalize ak s1.names=Fs1 at *;generalize s1.names.length=ns1 at *;have f1:=aF st.names;have f2:=aE st.names;have f3:=ah st.names;generalize ak st.names=Fst at *;generalize st.names.length=nst at *;simp[aW,ck,ft,ai,cw,ct,da,bz,a6,aY,cZ,an,bc,bA,aZ,bB,w1,q0,qt,qn,q1,ur,uc,k3,k4,k5,k1,kd,kd2,e1,e2,e3,f1,f2,f3,x1,y1,g1,g2,g3,g4,g5,g6,kx,ky,rx,ry,-ae,-aj,-ag,-keeps,-cF,aH,aG,aL,aJ,ay,au,aN,aK,aM,aw,ax,aI]
theorem B8 (N:Nat) {x y:AV} {T:List bO} {L:List Tok} {st:St} (hx:bx x=some T) (hy:br y=some L) (hc:RC T L st) (hN:st.rest.length≤N) (hE:b8 Tryz.prog cq (bh cw (ct N))) (n:Int) (kn:(decide ((bm L st).kind=1)||decide ((bm L st).kind=2))=true) (ko:(bm L st).ig=false) (k1:(bm L st).kind=1) (kt:(bm L st).text=[45]) (kd:¬ (bm L (aC st)).kind=4):
 b9 Tryz.prog cq 120 [.ptr 0 0,.int .i64 n] (dj x y st) (.tuple [(bp T n st).1.1.enc,.int .i64 (bp T n st).1.2.1,.bool (bp T n st).1.2.2]) (some (dm x y st.names (bp T n st).2)):=by
 have ks:(aQ st).kind=(bm L st).kind:=by rw[bu hc]
 have ts:(aQ st).text=(bm L st).text:=by rw[bu hc]
 have us:(aQ st).num=(bm L st).num:=by rw[bu hc]
 have os:(aQ st).ig=(bm L st).ig:=by rw[bu hc]
 have kc:(bm L st).kind=1∨(bm L st).kind=2:=by
  rw[Bool.or_eq_true,decide_eq_true_eq,decide_eq_true_eq] at kn;exact kn
 have k3:¬ (bm L st).kind=3:=by omega
 have k4:¬ (bm L st).kind=4:=by omega
 have k5:¬ (bm L st).kind=5:=by omega
 have k0:(aQ st).kind≠0:=by rw[ks];omega
 have nb:eN (aQ st)=true:=by unfold eN;rw[ks];exact kn
 have hat:=eP hc k0;have c1:=hc.xJ (by omega);have hl:=cI st;have hp:=bN (st:=st) k0;have ks1:(aQ (aC st)).kind=(bm L (aC st)).kind:=by rw[bu c1]
 have e:bp T n st=ch (af T) T (lT (bm L st)) n (aC st):=by
  unfold bp dQ;rw[if_neg (fun e=>k4 (ks.symm.trans e)),if_neg (fun e=>k3 (ks.symm.trans e)),if_neg (fun e=>k5 (ks.symm.trans e.1)),if_neg (fun e=>k5 (ks.symm.trans e.1)),if_neg (fun e=>k5 (ks.symm.trans e.1)),if_neg (by rw[nb];decide)];rw[if_neg (by rw[os,ko];simp),if_neg (fun e=>kd (ks1.symm.trans e.2.2.1))];exact vt _ _ ks ts
 rw[e];have hlx:=bD hx;have hly:=bo hy;have x1:=hlx.refs;have y1:=hly.refs;have g1:=cT hlx hly;have g2:=cR hlx hly;have g3:=cU hlx hly;have g4:=cS hlx hly;have g5:=cV hlx hly;have g6:=cQ hlx hly;have kx:=fun n0 acc r=>a8 n0 acc r hlx;have ky:=fun n0 acc r=>a8 n0 acc r hly;have rx:=fun n0 ks=>ba n0 ks hlx;have ry:=fun n0 ks=>ba n0 ks hly
 have q0:=dp hx hy hc;rw[bY] at q0;have qn:=eH (bm L st);have w1:=wrap_i64 (n:=(st.at_:Int)+1) (by omega) (by have:=hc.le;have:=hc.lb;omega);have ta:=A8 hc;have w4:=wrap_i64 (n:=(bm L st).at_+1) (by omega) (by omega);have q1:=dp hx hy c1;rw[bY] at q1;have qt:=nQ N hx hy c1 (by omega) (bm L st) n;rw[show (aC st).names=st.names from rfl,ar,bY] at qt;have hlv:st.names≠[]→(ch (af T) T (lT (bm L st)) n (aC st)).2.names≠[]:=fun h=>lQ (bP T) (st:=aC st) h
 have ur:=aP (ch (af T) T (lT (bm L st)) n (aC st)).1.1;have uc:=cL (ch (af T) T (lT (bm L st)) n (aC st)).1.1;rw[kn] at qn;rw[ko] at q0 qn qt;rw[k1] at q0 qn qt;rw[kt] at q0 qn qt;generalize (ch (af T) T (lT (bm L st)) n (aC st))=r at *;obtain⟨⟨u,lv,ok⟩,s1⟩:=r;dsimp only at *;by_cases h0:st.names=[]
 ·by_cases h1:s1.names=[]
  ·rw[bf h0] at q0;rw[dX h0,h0,cA h1] at qt;rw[dX h0] at q1;refine di (n:=8) hE hlx hly h0 h1 ?_ (bn _ _ _) rfl;show (az (bh cw (ct N)) 8 120 [.ptr 0 0,.int .i64 n] ⟨1,[.row [x,y,.int .i64 st.at_,.int .i64 st.next,.aA]],1,1⟩).map _=_;rw[ar];simp[aW,ck,ft,ai,cw,ct,da,bz,a6,aY,cZ,an,bc,bA,aZ,bB,w1,q0,qt,qn,q1,ur,uc,k3,k4,k5,k1,kt,kd,x1,y1,g1,g2,g3,g4,g5,g6,kx,ky,rx,ry,-ae,-aj,-ag,-keeps,-cF,aH,aG,aL,aJ,ay,au,aN,aK,aM,aw,ax,aI]
  ·rw[bf h0] at q0;rw[dX h0,h0,bX h1] at qt;rw[dX h0] at q1;refine dE (n:=8) hE hlx hly 4 (by decide) h0 h1 ?_ (bn _ _ _) rfl;show (az (bh cw (ct N)) 8 120 [.ptr 0 0,.int .i64 n] ⟨1,[.row [x,y,.int .i64 st.at_,.int .i64 st.next,.aA]],1,1⟩).map _=_;rw[ar];have e1:=aF s1.names;have e2:=aE s1.names;have e3:=ah s1.names;generalize ak s1.names=Fs1 at *;generalize s1.names.length=ns1 at *;simp[aW,ck,ft,ai,cw,ct,da,bz,a6,aY,cZ,an,bc,bA,aZ,bB,w1,q0,qt,qn,q1,ur,uc,k3,k4,k5,k1,kt,kd,e1,e2,e3,x1,y1,g1,g2,g3,g4,g5,g6,kx,ky,rx,ry,-ae,-aj,-ag,-keeps,-cF,aH,aG,aL,aJ,ay,au,aN,aK,aM,aw,ax,aI]
 ·have h1:=hlv h0;rw[bd h0] at q0;rw[fU h0,dq h0 h1] at qt;rw[fU h0] at q1;refine cX (n:=8) hE hlx hly 5 (by decide) h0 h1 ?_ (bn _ _ _) rfl;show (az (bh cw (ct N)) 8 120 [.ptr 0 0,.int .i64 n] ⟨2,[.row (ak st.names),.row [x,y,.int .i64 st.at_,.int .i64 st.next,.vec 1 0 st.names.length 2 st.names.length]],2,2⟩).map _=_;rw[ar];have e1:=aF s1.names;have e2:=aE s1.names;have e3:=ah s1.names;generalize ak s1.names=Fs1 at *;generalize s1.names.length=ns1 at *;have f1:=aF st.names;have f2:=aE st.names;have f3:=ah st.names;generalize ak st.names=Fst at *;generalize st.names.length=nst at *;simp[aW,ck,ft,ai,cw,ct,da,bz,a6,aY,cZ,an,bc,bA,aZ,bB,w1,q0,qt,qn,q1,ur,uc,k3,k4,k5,k1,kt,kd,e1,e2,e3,f1,f2,f3,x1,y1,g1,g2,g3,g4,g5,g6,kx,ky,rx,ry,-ae,-aj,-ag,-keeps,-cF,aH,aG,aL,aJ,ay,au,aN,aK,aM,aw,ax,aI]
theorem B4 (N:Nat) {x y:AV} {T:List bO} {L:List Tok} {st:St} (hx:bx x=some T) (hy:br y=some L) (hc:RC T L st) (hN:st.rest.length≤N) (hE:b8 Tryz.prog cq (bh cw (ct N))) (n:Int) (kn:(decide ((bm L st).kind=1)||decide ((bm L st).kind=2))=true) (ko:(bm L st).ig=false) (k1:(bm L st).kind=1) (kt:(bm L st).text=[45]) (k44:(bm L (aC st)).kind=4) (kd:¬ (bm L (aC st)).at_=(bm L st).at_+1):
 b9 Tryz.prog cq 120 [.ptr 0 0,.int .i64 n] (dj x y st) (.tuple [(bp T n st).1.1.enc,.int .i64 (bp T n st).1.2.1,.bool (bp T n st).1.2.2]) (some (dm x y st.names (bp T n st).2)):=by
 have ks:(aQ st).kind=(bm L st).kind:=by rw[bu hc]
 have ts:(aQ st).text=(bm L st).text:=by rw[bu hc]
 have us:(aQ st).num=(bm L st).num:=by rw[bu hc]
 have os:(aQ st).ig=(bm L st).ig:=by rw[bu hc]
 have kc:(bm L st).kind=1∨(bm L st).kind=2:=by
  rw[Bool.or_eq_true,decide_eq_true_eq,decide_eq_true_eq] at kn;exact kn
 have k3:¬ (bm L st).kind=3:=by omega
 have k4:¬ (bm L st).kind=4:=by omega
 have k5:¬ (bm L st).kind=5:=by omega
 have k0:(aQ st).kind≠0:=by rw[ks];omega
 have nb:eN (aQ st)=true:=by unfold eN;rw[ks];exact kn
 have hat:=eP hc k0;have c1:=hc.xJ (by omega);have hl:=cI st;have hp:=bN (st:=st) k0;have ks1:(aQ (aC st)).kind=(bm L (aC st)).kind:=by rw[bu c1]
 have e:bp T n st=ch (af T) T (lT (bm L st)) n (aC st):=by
  unfold bp dQ;rw[if_neg (fun e=>k4 (ks.symm.trans e)),if_neg (fun e=>k3 (ks.symm.trans e)),if_neg (fun e=>k5 (ks.symm.trans e.1)),if_neg (fun e=>k5 (ks.symm.trans e.1)),if_neg (fun e=>k5 (ks.symm.trans e.1)),if_neg (by rw[nb];decide)];rw[if_neg (by rw[os,ko];simp),if_neg (fun e=>kd (of_decide_eq_true ((JX hc (eP c1 (by rw[ks1,k44];decide))).symm.trans e.2.2.2)))];exact vt _ _ ks ts
 rw[e];have hlx:=bD hx;have hly:=bo hy;have x1:=hlx.refs;have y1:=hly.refs;have g1:=cT hlx hly;have g2:=cR hlx hly;have g3:=cU hlx hly;have g4:=cS hlx hly;have g5:=cV hlx hly;have g6:=cQ hlx hly;have kx:=fun n0 acc r=>a8 n0 acc r hlx;have ky:=fun n0 acc r=>a8 n0 acc r hly;have rx:=fun n0 ks=>ba n0 ks hlx;have ry:=fun n0 ks=>ba n0 ks hly
 have q0:=dp hx hy hc;rw[bY] at q0;have qn:=eH (bm L st);have w1:=wrap_i64 (n:=(st.at_:Int)+1) (by omega) (by have:=hc.le;have:=hc.lb;omega);have ta:=A8 hc;have w4:=wrap_i64 (n:=(bm L st).at_+1) (by omega) (by omega);have q1:=dp hx hy c1;rw[bY] at q1;have qt:=nQ N hx hy c1 (by omega) (bm L st) n;rw[show (aC st).names=st.names from rfl,ar,bY] at qt;have hlv:st.names≠[]→(ch (af T) T (lT (bm L st)) n (aC st)).2.names≠[]:=fun h=>lQ (bP T) (st:=aC st) h
 have ur:=aP (ch (af T) T (lT (bm L st)) n (aC st)).1.1;have uc:=cL (ch (af T) T (lT (bm L st)) n (aC st)).1.1;rw[k44] at q1;rw[kn] at qn;rw[ko] at q0 qn qt;rw[k1] at q0 qn qt;rw[kt] at q0 qn qt;generalize (ch (af T) T (lT (bm L st)) n (aC st))=r at *;obtain⟨⟨u,lv,ok⟩,s1⟩:=r;dsimp only at *;by_cases h0:st.names=[]
 ·by_cases h1:s1.names=[]
  ·rw[bf h0] at q0;rw[dX h0,h0,cA h1] at qt;rw[dX h0] at q1;refine di (n:=8) hE hlx hly h0 h1 ?_ (bn _ _ _) rfl;show (az (bh cw (ct N)) 8 120 [.ptr 0 0,.int .i64 n] ⟨1,[.row [x,y,.int .i64 st.at_,.int .i64 st.next,.aA]],1,1⟩).map _=_;rw[ar];simp[aW,ck,ft,ai,cw,ct,da,bz,a6,aY,cZ,an,bc,bA,aZ,bB,w1,q0,qt,qn,q1,ur,uc,k3,k4,k5,k1,kt,kd,w4,x1,y1,g1,g2,g3,g4,g5,g6,kx,ky,rx,ry,-ae,-aj,-ag,-keeps,-cF,aH,aG,aL,aJ,ay,au,aN,aK,aM,aw,ax,aI]
  ·rw[bf h0] at q0;rw[dX h0,h0,bX h1] at qt;rw[dX h0] at q1;refine dE (n:=8) hE hlx hly 4 (by decide) h0 h1 ?_ (bn _ _ _) rfl;show (az (bh cw (ct N)) 8 120 [.ptr 0 0,.int .i64 n] ⟨1,[.row [x,y,.int .i64 st.at_,.int .i64 st.next,.aA]],1,1⟩).map _=_;rw[ar];have e1:=aF s1.names;have e2:=aE s1.names;have e3:=ah s1.names;generalize ak s1.names=Fs1 at *;generalize s1.names.length=ns1 at *;simp[aW,ck,ft,ai,cw,ct,da,bz,a6,aY,cZ,an,bc,bA,aZ,bB,w1,q0,qt,qn,q1,ur,uc,k3,k4,k5,k1,kt,kd,w4,e1,e2,e3,x1,y1,g1,g2,g3,g4,g5,g6,kx,ky,rx,ry,-ae,-aj,-ag,-keeps,-cF,aH,aG,aL,aJ,ay,au,aN,aK,aM,aw,ax,aI]
 ·have h1:=hlv h0;rw[bd h0] at q0;rw[fU h0,dq h0 h1] at qt;rw[fU h0] at q1;refine cX (n:=8) hE hlx hly 5 (by decide) h0 h1 ?_ (bn _ _ _) rfl;show (az (bh cw (ct N)) 8 120 [.ptr 0 0,.int .i64 n] ⟨2,[.row (ak st.names),.row [x,y,.int .i64 st.at_,.int .i64 st.next,.vec 1 0 st.names.length 2 st.names.length]],2,2⟩).map _=_;rw[ar];have e1:=aF s1.names;have e2:=aE s1.names;have e3:=ah s1.names;generalize ak s1.names=Fs1 at *;generalize s1.names.length=ns1 at *;have f1:=aF st.names;have f2:=aE st.names;have f3:=ah st.names;generalize ak st.names=Fst at *;generalize st.names.length=nst at *;simp[aW,ck,ft,ai,cw,ct,da,bz,a6,aY,cZ,an,bc,bA,aZ,bB,w1,q0,qt,qn,q1,ur,uc,k3,k4,k5,k1,kt,kd,w4,e1,e2,e3,f1,f2,f3,x1,y1,g1,g2,g3,g4,g5,g6,kx,ky,rx,ry,-ae,-aj,-ag,-keeps,-cF,aH,aG,aL,aJ,ay,au,aN,aK,aM,aw,ax,aI]
end Go.Proofs.YtjmeonoabiliiaaGreatDoor
