import Derived.Test.YtjmeonoabiliiaaGreatDoorAt
import Derived.Test.YtjmeonoabiliiaaGreatDoorBd2
set_option linter.unusedVariables false
set_option linter.unusedSimpArgs false
set_option linter.unusedSectionVars false
set_option maxHeartbeats 16000000
set_option maxRecDepth 100000

namespace Go.Proofs.YtjmeonoabiliiaaGreatDoor
open Go Sz
theorem bh {x y:AV} {st:St} (h:st.names=[]):c8 x y st=[.row [x,y,.int .i64 st.at_,.int .i64 st.next,.aw]]:=by unfold c8;rw[h];rfl
theorem bb {x y:AV} {st:St} (h:st.names≠[]):c8 x y st=[.row [x,y,.int .i64 st.at_,.int .i64 st.next,.vec 1 0 st.names.length 2 st.names.length],.row (aj st.names)]:=by
 unfold c8 kl rz
 cases hn:st.names with
 | nil=>exact absurd hn h
 | cons p r=>rfl
theorem cH {x y:AV} {st':St} (h:st'.names=[]):db x y [] st'=[.row [x,y,.int .i64 st'.at_,.int .i64 st'.next,.aw]]:=bh h
theorem cq {x y:AV} {st':St} (h:st'.names≠[]):db x y [] st'=[.row [x,y,.int .i64 st'.at_,.int .i64 st'.next,.vec 1 0 st'.names.length 2 st'.names.length],.row (aj st'.names)]:=bb h
theorem dn {x y:AV} {l:List (List UInt8×Int)} {st':St} (h0:l≠[]) (h:st'.names≠[]):db x y l st'=[.row [x,y,.int .i64 st'.at_,.int .i64 st'.next,.vec 2 0 st'.names.length 2 st'.names.length],.dead,.row (aj st'.names)]:=by
 unfold db
 cases l with
 | nil=>exact absurd rfl h0
 | cons p r=>
   dsimp only;unfold kl
   cases hm:st'.names with
   | nil=>exact absurd hm h
   | cons q s=>rfl
theorem Lv.names {st st':St} (h:Lv st st') (h0:st.names≠[]):st'.names≠[]:=by
 obtain⟨q,hq⟩:=h.pre;rw[hq];intro e;exact h0 (List.append_eq_nil_iff.1 e).1
theorem bQ (t:Tok):t.enc=.agg [.int .i64 t.kind,.str t.text,.int .i64 t.num,.bool t.gS,.int .i64 t.at_]:=rfl
noncomputable def uP:bL:=⟨160,fun
 | [.ptr 0 0,.str s],os=>(match qh os with | some R=>some (.bool (a8 s R.st).1,some (c8 R.x R.y (a8 s R.st).2)) | none=>none)
 | _,_=>none⟩
theorem ba:uP.f=160:=(rfl)
theorem fK {x y:AV} {T:List bM} {L:List Tok} {st:St} (hx:bD x=some T) (hy:bz y=some L) (h:RC T L st) (s:List UInt8):uP.S [.ptr 0 0,.str s] (c8 x y st)=some (.bool (a8 s st).1,some (c8 x y (a8 s st).2)):=by
 simp only[uP,iy hx hy h]
theorem ez (s:List UInt8) (st:St):(a8 s st).2.names=st.names∧(a8 s st).2.next=st.next:=by
 unfold a8;split<;>exact⟨rfl,rfl⟩
theorem xk:dk Tryz.prog cm uP:=fun args os v r hv=>by
 unfold uP at hv;dsimp only at hv;split at hv
 ·rename_i os s;split at hv
  ·rename_i R hR;cases hv;obtain⟨hx,hy,rfl,hc⟩:=gN hR;obtain⟨x,y,T,L,st⟩:=R;dsimp only at hx hy hc ⊢;rw[ba];have hE:bW Tryz.prog cm (bj [] [pG]):=eW (by simp) (by simp[qV]);have hlx:=bG hx;have hly:=bu hy;have q:=dc hx hy hc;rw[bQ] at q;have hsee:=bp hc;have hlt:=hc.le;have hlb:=hc.lb;have w:=wrap_i64 (n:=(st.at_:Int)+1) (by omega) (by omega);have x1:=hlx.refs;have y1:=hly.refs;have g1:=cW hlx hly;have g2:=cV hlx hly;have g3:=cU hlx hly;have g4:=cX hlx hly;have g5:=cZ hlx hly;have g6:=cY hlx hly
   have key:∀c d:Bool,(bm L st).kind=5∧c=true∨¬ (bm L st).kind=5∧c=false→((bm L st).text==s)=d→
    (st.names=[]→(au (bj [] [pG]) 6 160 [.ptr 0 0,.str s] ⟨1,[.row [x,y,.int .i64 st.at_,.int .i64 st.next,.aw]],1,1⟩).map (fun p=>(p.1,p.2.get 0))=some (.bool (c&&d),some (.row [x,y,.int .i64 (if c&&d then (st.at_:Int)+1 else st.at_),.int .i64 st.next,.aw])))∧
    (st.names≠[]→(au (bj [] [pG]) 6 160 [.ptr 0 0,.str s] ⟨2,[.row (aj st.names),.row [x,y,.int .i64 st.at_,.int .i64 st.next,.vec 1 0 st.names.length 2 st.names.length]],2,2⟩).map (fun p=>(p.1,p.2.get 0,p.2.get 1))=
     some (.bool (c&&d),some (.row [x,y,.int .i64 (if c&&d then (st.at_:Int)+1 else st.at_),.int .i64 st.next,.vec 1 0 st.names.length 2 st.names.length]),some (.row (aj st.names)))):=fun c d hcd hd=>by
    have f1:=aG st.names;have f2:=aF st.names;have f3:=ah st.names;refine⟨fun h0=>?_,fun h0=>?_⟩
    ·rw[bh h0] at q;generalize bm L st=t at *;rcases hcd with⟨k5,rfl⟩ | ⟨k5,rfl⟩
     ·rw[k5] at q
      cases d with
      | true=>
        have:t.text=s:=by simpa using hd
        subst this;simp[o6,c160,aX,q,x1,y1,g1,g2,g3,g4,g5,g6,-af,-aq,-ag,w]
      | false=>
        have hn:¬ t.text=s:=by simpa using hd
        simp[o6,c160,aX,q,x1,y1,g1,g2,g3,g4,g5,g6,-af,-aq,-ag,w,hd,hn]
     ·simp[o6,c160,aX,q,x1,y1,g1,g2,g3,g4,g5,g6,-af,-aq,-ag,w,k5]
    ·rw[bb h0] at q;generalize aj st.names=F at *;generalize bm L st=t at *;generalize st.names.length=n at *;rcases hcd with⟨k5,rfl⟩ | ⟨k5,rfl⟩
     ·rw[k5] at q
      cases d with
      | true=>
        have:t.text=s:=by simpa using hd
        subst this;simp[o6,c160,aX,q,x1,y1,g1,g2,g3,g4,g5,g6,-af,-aq,-ag,f1,f2,f3,w]
      | false=>
        have hn:¬ t.text=s:=by simpa using hd
        simp[o6,c160,aX,q,x1,y1,g1,g2,g3,g4,g5,g6,-af,-aq,-ag,f1,f2,f3,w,hd,hn]
     ·simp[o6,c160,aX,q,x1,y1,g1,g2,g3,g4,g5,g6,-af,-aq,-ag,f1,f2,f3,w,k5]
   obtain⟨hn1,hn2⟩:=ez s st
   have hval:∀c d:Bool,(bm L st).kind=5∧c=true∨¬ (bm L st).kind=5∧c=false→((bm L st).text==s)=d→(a8 s st).1=(c&&d)∧((a8 s st).2.at_:Int)=(if c&&d then (st.at_:Int)+1 else st.at_):=fun c d hcd hd=>by
    have k1:(aH st).kind=(bm L st).kind:=by rw[hsee]
    have k2:(aH st).text=(bm L st).text:=by rw[hsee]
    unfold a8;rw[k1,k2];rcases hcd with⟨k5,rfl⟩ | ⟨k5,rfl⟩
    ·cases d with
     | true=>
       rw[if_pos ⟨k5,by simpa using hd⟩];exact⟨rfl,by simp[ax]⟩
     | false=>
       rw[if_neg (fun e=>by rw[e.2] at hd;simp at hd)];exact⟨rfl,by simp⟩
    ·rw[if_neg (fun e=>k5 e.1)];exact⟨rfl,by simp⟩
   obtain⟨c,hcc⟩:∃c:Bool,(bm L st).kind=5∧c=true∨¬ (bm L st).kind=5∧c=false:=by
    by_cases h:(bm L st).kind=5
    ·exact⟨true,.inl ⟨h,rfl⟩⟩
    ·exact⟨false,.inr ⟨h,rfl⟩⟩
   obtain⟨k1,k2⟩:=key c _ hcc rfl;obtain⟨v1,v2⟩:=hval c _ hcc rfl;refine G8 (n:=6) hE hlx hly hn1 (fun h0=>?_) (fun h0=>?_) rfl rfl
   ·rw[v1,v2,hn2];exact k1 h0
   ·rw[v1,v2,hn2];exact k2 h0
  ·cases hv
 ·cases hv
theorem xT (n:Nat) (s:List UInt8) (l:List (List UInt8×Int)) (hl:l.length < 1000000) (R:List AV):∀(post pre:List (List UInt8×Int)) (m md:Nat),l=pre++post→post.length < m→
 ∃md',ju 3 2 (cM (aT (au (bj [wm] []) (n+1)) (n+1) mZ) jn 3 m (EZ (.ptr 0 0) (.str s) (.ptr 2 0) (.vec 1 0 l.length 2 l.length) (.int .i64 l.length) (.int .i64 pre.length)) ⟨3,[.row [.int .i64 0,.int .i64 0,.str [],.aw],.row (aj l),.row R],3,md⟩)=
   (match nF s post with
    | some k=>some (.ret,FM 52 [(4,.ptr 2 0)],⟨3,[.row [.int .i64 0,.int .i64 k,.str [],.aw],.row (aj l),.row R],2,md'⟩)
    | none=>some (.exit 0,FM 52 [(0,.ptr 0 0),(1,.str s),(4,.ptr 2 0)],⟨3,[.row [.int .i64 0,.int .i64 0,.str [],.aw],.row (aj l),.row R],2,md'⟩))
 | _,_,0,_,_,h=>by omega
 | [],pre,m+1,md,hs,_=>by
   rw[aC];rw[List.append_nil] at hs;subst hs;have f3:=ah l;generalize aj l=F at *;exact⟨md,by simp[mZ,jn,nF,f3]⟩
 | p::r,pre,m+1,md,hs,hm=>by
   rw[aC];have hps:pre.length+r.length+1=l.length:=by rw[hs];simp;omega
   have h6:((pre.length:Int) < (l.length:Int))=True:=eq_true (by omega);have h6':(pre.length < l.length)=True:=eq_true (by omega);have h3:IntKind.i64.wrap ((pre.length:Int)+1)=(pre.length:Int)+1:=wrap_i64 (by omega) (by omega)
   have hd:(aj l).drop (pre.length*2)=.str p.1::.int .i64 p.2::aj r:=by
    have e:aj l=aj pre++aj (p::r):=by rw[hs];unfold aj;rw[List.flatMap_append]
    rw[e,←mu pre,List.drop_left];rfl
   have hfl:(pre.length*2+2≤(aj l).length)=True:=eq_true (by rw[mu];omega);have q:=EY p.2;have f3:=ah l;obtain⟨md',ih⟩:=xT n s l hl R r (pre++[p]) m (min md 3) (by rw[hs];simp) (by simp at hm;omega);simp only[List.length_append,List.length_cons,List.length_nil,Nat.zero_add,Int.natCast_add,Int.natCast_one] at ih;have hnil:(l=[])=False:=eq_false (fun e=>by rw[e] at hps;simp at hps);unfold nF;generalize aj l=F at *;by_cases hv:p.1=s
   ·rw[if_pos hv];subst hv;refine⟨min md 2,?_⟩;simp[mZ,jn,h3,h6,h6',hd,hfl,q,qo,f3]
   ·rw[if_neg hv];have hvb:(p.1==s)=false:=by simpa using hv
    refine⟨md',?_⟩;simp[mZ,jn,h3,h6,h6',hd,hfl,q,qo,f3,hv,hvb];exact ih
theorem Gb {s:List UInt8} {st:St} {k:Int} (h:nF s st.names=some k):iS s st=(.nl 0 k [],st):=by unfold iS;rw[h]
theorem Fk {s:List UInt8} {st:St} (h:nF s st.names=none):iS s st=(.nl 0 st.next [],⟨st.at_,st.rest,st.next+1,if s=[95] then st.names else st.names++[(s,(st.next:Int))]⟩):=by unfold iS;rw[h]
theorem Rj (k:Int):(Tm.nl 0 k []).enc=.agg [.int .i64 0,.int .i64 k,.str [],.aw]:=rfl
noncomputable def Gy:bL:=⟨159,fun
 | [.ptr 0 0,.str s],os=>(match qh os with | some R=>some ((iS s R.st).1.enc,some (db R.x R.y R.st.names (iS s R.st).2)) | none=>none)
 | _,_=>none⟩
theorem cL:Gy.f=159:=(rfl)
theorem Lp {x y:AV} {T:List bM} {L:List Tok} {st:St} (hx:bD x=some T) (hy:bz y=some L) (h:RC T L st) (s:List UInt8):Gy.S [.ptr 0 0,.str s] (c8 x y st)=some ((iS s st).1.enc,some (db x y st.names (iS s st).2)):=by
 simp only[Gy,iy hx hy h]
theorem MN:dk Tryz.prog cm Gy:=fun args os v r hv=>by
 unfold Gy at hv;dsimp only at hv;split at hv
 ·rename_i os s;split at hv
  ·rename_i R hR;cases hv;obtain⟨hx,hy,rfl,hc⟩:=gN hR;obtain⟨x,y,T,L,st⟩:=R;dsimp only at hx hy hc ⊢;rw[cL];have hE:bW Tryz.prog cm (bj [wm] []):=eW (by simp[Mz.lift]) (by simp);have hlx:=bG hx;have hly:=bu hy;have hlt:=hc.le;have hlb:=hc.lb;have hnx:=hc.nx;have hnm:=hc.nm;have w:=wrap_i64 (n:=(st.next:Int)+1) (by omega) (by omega);have x1:=hlx.refs;have y1:=hly.refs;have q:=fun k=>EY k
   by_cases h0:st.names=[]
   ·have hf:nF s st.names=none:=by rw[h0];rfl
    rw[Fk hf];by_cases hs:s=[95]
    ·subst hs;refine c7 (n:=6) hE hlx hly h0 ?_ ?_ (Tm.cT _) rfl
     ·show (if ([95]:List UInt8)=[95] then st.names else st.names++[([95],(st.next:Int))])=[];rw[if_pos rfl,h0]
     ·rw[Rj];show (au (bj [wm] []) 6 159 [.ptr 0 0,.str [95]] ⟨1,[.row [x,y,.int .i64 st.at_,.int .i64 st.next,.aw]],1,1⟩).map _=_;simp[r7,c159,jn,mZ,aC,qo,q,x1,y1,w]
    ·have hsb:(s==[95])=false:=by simpa using hs
     refine dv (n:=6) hE hlx hly 3 (by decide) h0 ?_ ?_ (Tm.cT _) rfl
     ·show (if s=[95] then st.names else st.names++[(s,(st.next:Int))])≠[];rw[if_neg hs,h0];simp
     ·rw[Rj];show (au (bj [wm] []) 6 159 [.ptr 0 0,.str s] ⟨1,[.row [x,y,.int .i64 st.at_,.int .i64 st.next,.aw]],1,1⟩).map _=_;simp only[if_neg hs,h0,List.nil_append];simp[r7,c159,jn,mZ,aC,qo,q,x1,y1,w,hs,hsb,aj,aS]
   ·have hlen:0 < st.names.length:=List.length_pos_iff.2 h0;have f3:=ah st.names;have fl:=mu st.names;obtain⟨md',lp⟩:=xT 199998 s st.names (by omega) [x,y,.int .i64 st.at_,.int .i64 st.next,.vec 1 0 st.names.length 2 st.names.length] st.names [] 199999 2 rfl (by omega);simp only[jn,EZ,List.length_nil,Int.natCast_zero] at lp;have hb1:(st.names.length+1)*24≤140737488355328:=by omega
    have hb2:st.names.length+1 < 9223372036854775808:=by omega
    cases hf:nF s st.names with
    | some k=>
      rw[hf] at lp;rw[Gb hf];refine cJ (n:=200000) hE hlx hly 1 (by decide) h0 h0 ?_ (Tm.cT _) rfl;rw[Rj];show (au (bj [wm] []) 200000 159 [.ptr 0 0,.str s] ⟨2,[.row (aj st.names),.row [x,y,.int .i64 st.at_,.int .i64 st.next,.vec 1 0 st.names.length 2 st.names.length]],2,2⟩).map _=_;generalize aj st.names=F at *;generalize st.names.length=n at *;simp[r7,c159,jn,qo,q,x1,y1,w,lp,f3]
    | none=>
      rw[hf] at lp;rw[Fk hf];by_cases hs:s=[95]
      ·subst hs;have hn:(if ([95]:List UInt8)=[95] then st.names else st.names++[([95],(st.next:Int))])=st.names:=if_pos rfl;rw[hn];refine cJ (n:=200000) hE hlx hly 1 (by decide) h0 h0 ?_ (Tm.cT _) rfl;rw[Rj];show (au (bj [wm] []) 200000 159 [.ptr 0 0,.str [95]] ⟨2,[.row (aj st.names),.row [x,y,.int .i64 st.at_,.int .i64 st.next,.vec 1 0 st.names.length 2 st.names.length]],2,2⟩).map _=some (_,some (bf.row [x,y,.int .i64 st.at_,.int .i64 ((st.next+1:Nat):Int),.vec 1 0 st.names.length 2 st.names.length]),some (bf.row (aj st.names)));generalize aj st.names=F at *;generalize st.names.length=n at *;simp[r7,c159,jn,qo,q,x1,y1,w,lp,f3]
      ·have hsb:(s==[95])=false:=by simpa using hs
       have hn:(if s=[95] then st.names else st.names++[(s,(st.next:Int))])=st.names++[(s,(st.next:Int))]:=if_neg hs;rw[hn];refine cJ (n:=200000) hE hlx hly 4 (by decide) h0 (by simp) ?_ (Tm.cT _) rfl;rw[Rj]
       show (au (bj [wm] []) 200000 159 [.ptr 0 0,.str s] ⟨2,[.row (aj st.names),.row [x,y,.int .i64 st.at_,.int .i64 st.next,.vec 1 0 st.names.length 2 st.names.length]],2,2⟩).map _=
        some (_,some (bf.row [x,y,.int .i64 st.at_,.int .i64 ((st.next+1:Nat):Int),.vec 4 0 (st.names++[(s,(st.next:Int))]).length 2 (st.names++[(s,(st.next:Int))]).length]),some (bf.row (aj (st.names++[(s,(st.next:Int))]))))
       rw[D8,List.length_append,List.length_cons,List.length_nil];have ht:(aj st.names).take (st.names.length*2)=aj st.names:=List.take_of_length_le (by omega);generalize aj st.names=F at *;generalize st.names.length=n at *;have hb3:(n*2≤F.length)=True:=eq_true (by omega);have hb4:((n+1)*2≤F.length)=False:=eq_false (by omega);have hb5:(n+1≤n)=False:=eq_false (by omega);simp[r7,c159,jn,qo,q,x1,y1,w,lp,f3,hs,hsb,aS,hb1,hb2,hb3,hb4,hb5,ht]
  ·cases hv
 ·cases hv
def vj (T:List bM) (t:Tok):Bool:=
 if t.kind=0∨t.kind=6 then false
 else if t.kind=5 then decide (t.text=[40])||decide (t.text=[91])||decide (t.text=[123])
 else if !(decide (t.kind=1)||decide (t.kind=2))||t.gS then true
 else !(bZ T t.text false).2||(bZ T t.text true).2
theorem DZ {T:List bM} {L:List Tok} {st:St} (h:RC T L st):fC T st=vj T (bm L st):=by
 unfold fC;rw[bp h];rfl
noncomputable def py:bL:=⟨181,fun
 | [.ptr 0 0],os=>(match qh os with | some R=>some (.bool (fC R.T R.st),none) | none=>none)
 | _,_=>none⟩
theorem fo:py.f=181:=(rfl)
theorem wg {x y:AV} {T:List bM} {L:List Tok} {st:St} (hx:bD x=some T) (hy:bz y=some L) (h:RC T L st):py.S [.ptr 0 0] (c8 x y st)=some (.bool (fC T st),none):=by
 simp only[py,iy hx hy h]
noncomputable def QE:List aR:=[l6,FE,nI]
theorem Qw:∀s ∈ QE,eK Tryz.prog cm s:=by simp[QE,xn.lift,CD.lift,Fc.lift]
theorem Ef {x y:AV} {T:List bM} {L:List Tok} {st:St} (hx:bD x=some T) (hy:bz y=some L) (hc:RC T L st):
 (st.names=[]→(au (bj QE [pG]) 6 181 [.ptr 0 0] ⟨1,[.row [x,y,.int .i64 st.at_,.int .i64 st.next,.aw]],1,1⟩).map (fun p=>(p.1,p.2.get 0))=some (.bool (vj T (bm L st)),some (.row [x,y,.int .i64 st.at_,.int .i64 st.next,.aw])))∧
 (st.names≠[]→(au (bj QE [pG]) 6 181 [.ptr 0 0] ⟨2,[.row (aj st.names),.row [x,y,.int .i64 st.at_,.int .i64 st.next,.vec 1 0 st.names.length 2 st.names.length]],2,2⟩).map (fun p=>(p.1,p.2.get 0,p.2.get 1))=
  some (.bool (vj T (bm L st)),some (.row [x,y,.int .i64 st.at_,.int .i64 st.next,.vec 1 0 st.names.length 2 st.names.length]),some (.row (aj st.names)))):=by
 have hlx:=bG hx;have hly:=bu hy;have q:=dc hx hy hc;rw[bQ] at q;have x1:=hlx.refs;have y1:=hly.refs;have g1:=cW hlx hly;have g2:=cV hlx hly;have g3:=cU hlx hly;have g4:=cX hlx hly;have g5:=cZ hlx hly;have g6:=cY hlx hly;have hfx:=fun h=>hlx.fr h 0 6
 have f1:=aG st.names;have f2:=aF st.names;have f3:=ah st.names;have q1:=eh (bm L st);have q2:=zr hx (bm L st).text (by have:=hc.tb;omega);have q3:=ze hx (bm L st).text (by have:=hc.tb;omega);simp only[bM.enc,bM.cells] at q2 q3;unfold vj;simp only[QE];have main:∀(h0:List bf) (nx:Nat),True:=fun _ _=>trivial
 by_cases k0:(bm L st).kind=0
 ·rw[if_pos (.inl k0)];rw[k0] at q;refine⟨fun h0=>?_,fun h0=>?_⟩
  ·rw[bh h0] at q;simp[fB,mQ,bw,eJ,eB,aX,q,x1,y1,g1,g2,g3,g4,g5,g6,-af,-aq,-ag]
  ·rw[bb h0] at q;generalize aj st.names=F at *;generalize st.names.length=n at *;simp[fB,mQ,bw,eJ,eB,aX,q,x1,y1,g1,g2,g3,g4,g5,g6,-af,-aq,-ag,f1,f2,f3]
 by_cases k6:(bm L st).kind=6
 ·rw[if_pos (.inr k6)];rw[k6] at q;refine⟨fun h0=>?_,fun h0=>?_⟩
  ·rw[bh h0] at q;simp[fB,mQ,bw,eJ,eB,aX,q,x1,y1,g1,g2,g3,g4,g5,g6,-af,-aq,-ag]
  ·rw[bb h0] at q;generalize aj st.names=F at *;generalize st.names.length=n at *;simp[fB,mQ,bw,eJ,eB,aX,q,x1,y1,g1,g2,g3,g4,g5,g6,-af,-aq,-ag,f1,f2,f3]
 rw[if_neg (by rintro (h | h);exact k0 h;exact k6 h)];by_cases k5:(bm L st).kind=5
 ·rw[if_pos k5];rw[k5] at q
  have fin:∀s,(bm L st).text=s→∀e1 e2 e3:Bool,(s==[40])=e1→(s==[91])=e2→(s==[123])=e3→
   (st.names=[]→(au (bj [l6,FE,nI] [pG]) 6 181 [.ptr 0 0] ⟨1,[.row [x,y,.int .i64 st.at_,.int .i64 st.next,.aw]],1,1⟩).map (fun p=>(p.1,p.2.get 0))=some (.bool (decide (s=[40])||decide (s=[91])||decide (s=[123])),some (.row [x,y,.int .i64 st.at_,.int .i64 st.next,.aw])))∧
   (st.names≠[]→(au (bj [l6,FE,nI] [pG]) 6 181 [.ptr 0 0] ⟨2,[.row (aj st.names),.row [x,y,.int .i64 st.at_,.int .i64 st.next,.vec 1 0 st.names.length 2 st.names.length]],2,2⟩).map (fun p=>(p.1,p.2.get 0,p.2.get 1))=
    some (.bool (decide (s=[40])||decide (s=[91])||decide (s=[123])),some (.row [x,y,.int .i64 st.at_,.int .i64 st.next,.vec 1 0 st.names.length 2 st.names.length]),some (.row (aj st.names)))):=fun s hs e1 e2 e3 h1 h2 h3=>by
   rw[hs] at q;clear q1 q2 q3
   cases e1 with
   | true=>
     have:s=[40]:=by simpa using h1
     subst this;refine⟨fun h0=>?_,fun h0=>?_⟩
     ·rw[bh h0] at q;simp[fB,mQ,bw,eJ,eB,aX,q,x1,y1,g1,g2,g3,g4,g5,g6,-af,-aq,-ag]
     ·rw[bb h0] at q;generalize aj st.names=F at *;generalize st.names.length=n at *;simp[fB,mQ,bw,eJ,eB,aX,q,x1,y1,g1,g2,g3,g4,g5,g6,-af,-aq,-ag,f1,f2,f3]
   | false=>
     have n1:¬ s=[40]:=by simpa using h1
     cases e2 with
     | true=>
       have:s=[91]:=by simpa using h2
       subst this;refine⟨fun h0=>?_,fun h0=>?_⟩
       ·rw[bh h0] at q;simp[fB,mQ,bw,eJ,eB,aX,q,x1,y1,g1,g2,g3,g4,g5,g6,-af,-aq,-ag]
       ·rw[bb h0] at q;generalize aj st.names=F at *;generalize st.names.length=n at *;simp[fB,mQ,bw,eJ,eB,aX,q,x1,y1,g1,g2,g3,g4,g5,g6,-af,-aq,-ag,f1,f2,f3]
     | false=>
       have n2:¬ s=[91]:=by simpa using h2
       have n3:(s==[123])=decide (s=[123]):=L7 _ _;refine⟨fun h0=>?_,fun h0=>?_⟩
       ·rw[bh h0] at q;simp[fB,mQ,bw,eJ,eB,aX,q,x1,y1,g1,g2,g3,g4,g5,g6,-af,-aq,-ag,h1,h2,n1,n2,n3]
       ·rw[bb h0] at q;generalize aj st.names=F at *;generalize st.names.length=n at *;simp[fB,mQ,bw,eJ,eB,aX,q,x1,y1,g1,g2,g3,g4,g5,g6,-af,-aq,-ag,f1,f2,f3,h1,h2,n1,n2,n3]
  exact fin _ rfl _ _ _ rfl rfl rfl
 rw[if_neg k5];generalize bm L st=t at *;by_cases kn:(decide (t.kind=1)||decide (t.kind=2))=true
 ·rw[kn] at q1 ⊢
  cases ho:t.gS with
  | true=>
    rw[ho] at q q1;refine⟨fun h0=>?_,fun h0=>?_⟩
    ·rw[bh h0] at q;simp[fB,mQ,bw,eJ,eB,aX,q,q1,x1,y1,g1,g2,g3,g4,g5,g6,-af,-aq,-ag,k0,k5,k6]
    ·rw[bb h0] at q;generalize aj st.names=F at *;generalize st.names.length=n at *;simp[fB,mQ,bw,eJ,eB,aX,q,q1,x1,y1,g1,g2,g3,g4,g5,g6,-af,-aq,-ag,f1,f2,f3,k0,k5,k6]
  | false=>
    rw[ho] at q q1;generalize bZ T t.text false=I at *;obtain⟨⟨i1,i2,i3⟩,i4⟩:=I;generalize bZ T t.text true=J at *;obtain⟨⟨j1,j2,j3⟩,j4⟩:=J;dsimp only at q2 q3 ⊢;refine⟨fun h0=>?_,fun h0=>?_⟩
    ·rw[bh h0] at q;cases i4<;>simp[fB,mQ,bw,eJ,eB,aX,hfx,q,q1,q2,q3,x1,y1,g1,g2,g3,g4,g5,g6,-af,-aq,-ag,k0,k5,k6]
    ·rw[bb h0] at q;generalize aj st.names=F at *;generalize st.names.length=n at *;cases i4<;>simp[fB,mQ,bw,eJ,eB,aX,hfx,q,q1,q2,q3,x1,y1,g1,g2,g3,g4,g5,g6,-af,-aq,-ag,f1,f2,f3,k0,k5,k6]
 ·rw[Bool.not_eq_true] at kn;rw[kn] at q1 ⊢;refine⟨fun h0=>?_,fun h0=>?_⟩
  ·rw[bh h0] at q;simp[fB,mQ,bw,eJ,eB,aX,q,q1,x1,y1,g1,g2,g3,g4,g5,g6,-af,-aq,-ag,k0,k5,k6]
  ·rw[bb h0] at q;generalize aj st.names=F at *;generalize st.names.length=n at *;simp[fB,mQ,bw,eJ,eB,aX,q,q1,x1,y1,g1,g2,g3,g4,g5,g6,-af,-aq,-ag,f1,f2,f3,k0,k5,k6]
theorem C2:dk Tryz.prog cm py:=fun args os v r hv=>by
 unfold py at hv;dsimp only at hv;split at hv
 ·rename_i os;split at hv
  ·rename_i R hR;cases hv;obtain⟨hx,hy,rfl,hc⟩:=gN hR;rw[fo,DZ hc];have hE:bW Tryz.prog cm (bj QE [pG]):=eW Qw (by simp[qV]);obtain⟨r1,r2⟩:=Ef hx hy hc;exact tj (n:=6) hE (bG hx) (bu hy) r1 r2 rfl rfl
  ·cases hv
 ·cases hv
section
variable (n0:Nat) (ks acc:List Nat) (r:List AV)
theorem aL:keeps n0 [] acc=acc:=by simp[keeps]
theorem aJ (id o l s b:Nat):keeps n0 (.vec id o l s b::r) acc=if n0≤id∧acc.contains id=false then keeps n0 r (acc++[id]) else keeps n0 r acc:=by simp[keeps,AV.top]
theorem aQ (id o:Nat):keeps n0 (.ptr id o::r) acc=if n0≤id∧acc.contains id=false then keeps n0 r (acc++[id]) else keeps n0 r acc:=by simp[keeps,AV.top]
theorem aK (k:IntKind) (n:Int):keeps n0 (.int k n::r) acc=keeps n0 r acc:=by simp[keeps,AV.top]
theorem ay (b:Bool):keeps n0 (.bool b::r) acc=keeps n0 r acc:=by simp[keeps,AV.top]
theorem aB:keeps n0 (.aw::r) acc=keeps n0 r acc:=by simp[keeps,AV.top]
theorem bc {x:AV} (h:Laid x):keeps n0 (x::r) acc=keeps n0 r acc:=by
 conv=>lhs;unfold keeps
 rw[h.top]
theorem aP (id o l s b:Nat):cN n0 ks (.vec id o l s b)=.vec (lJ n0 ks id) o l s b:=rfl
theorem aO (id o:Nat):cN n0 ks (.ptr id o)=.ptr (lJ n0 ks id) o:=rfl
theorem aM (k:IntKind) (n:Int):cN n0 ks (.int k n)=.int k n:=rfl
theorem aA (b:Bool):cN n0 ks (.bool b)=.bool b:=rfl
theorem az:cN n0 ks .aw=.aw:=rfl
theorem bd {x:AV} (h:Laid x):cN n0 ks x=x:=by
 have:=h.sg (lJ n0 ks);cases x<;>exact this
end
theorem aI (n:Nat) (cs:List AV):fb n (.row cs)=decide (AV.ai cs≤n):=rZ n cs
noncomputable def fI (N:Nat):bL:=⟨71,fun
 | [.ptr 0 0,.int .i64 n],os=>(match qh os with
   | some R=>if R.st.rest.length < N then some (.tuple [(ae R.T n R.st).1.1.enc,.int .i64 (ae R.T n R.st).1.2.1,.bool (ae R.T n R.st).1.2.2],some (db R.x R.y R.st.names (ae R.T n R.st).2)) else none
   | none=>none)
 | _,_=>none⟩
theorem ak (N:Nat):(fI N).f=71:=(rfl)
theorem da (N:Nat) {x y:AV} {T:List bM} {L:List Tok} {st:St} (hx:bD x=some T) (hy:bz y=some L) (h:RC T L st) (n:Int) (hn:st.rest.length < N):
 (fI N).S [.ptr 0 0,.int .i64 n] (c8 x y st)=some (.tuple [(ae T n st).1.1.enc,.int .i64 (ae T n st).1.2.1,.bool (ae T n st).1.2.2],some (db x y st.names (ae T n st).2)):=by
 simp only[fI,iy hx hy h];rw[if_pos hn]
theorem Gn (N:Nat) {x y:AV} {T:List bM} {L:List Tok} {st:St} (hx:bD x=some T) (hy:bz y=some L) (h:RC T L st) (n:Int) (hn:N≤st.rest.length):
 (fI N).S [.ptr 0 0,.int .i64 n] (c8 x y st)=none:=by
 simp only[fI,iy hx hy h];rw[if_neg (by omega)]
theorem bK (T:List bM):uA (ae T):=⟨fun n st=>(mN T _).lv n st,fun n st h=>(mN T _).ok n st h⟩
theorem ar (t:Tm):t.enc=.agg [.int .i64 t.kind,.int .i64 t.num,.str t.name,t.cp]:=by rw[Tm.cw];rfl
theorem dr (acc:List Tm) (t:Tm):aZ acc++[.int .i64 t.kind,.int .i64 t.num,.str t.name,t.cp]=aZ (acc++[t]):=by
 rw[qp];rfl
noncomputable def kJ (N:Nat):List bL:=[fI N,uP]
theorem my {rec:Int→St→PR×St} {M:Nat} {acc:List Tm} {st:St} (h:(rec 999 st).1.2.2=false):br rec (M+1) acc st=((acc,false),(rec 999 st).2):=by
 unfold br;rw[h,if_neg (by simp)]
theorem iF {rec:Int→St→PR×St} {M:Nat} {acc:List Tm} {st:St} (h:(rec 999 st).1.2.2=true) (h2:(a8 [44] (rec 999 st).2).1=false):br rec (M+1) acc st=((acc++[(rec 999 st).1.1],true),(rec 999 st).2):=by
 unfold br;rw[h,if_pos rfl,h2,if_neg (by simp)]
theorem jE {rec:Int→St→PR×St} {M:Nat} {acc:List Tm} {st:St} (h:(rec 999 st).1.2.2=true) (h2:(a8 [44] (rec 999 st).2).1=true):br rec (M+1) acc st=br rec M (acc++[(rec 999 st).1.1]) (a8 [44] (rec 999 st).2).2:=by
 conv=>lhs;unfold br
 rw[h,if_pos rfl,h2,if_pos rfl]
theorem uN {rec:Int→St→PR×St} (H:uA rec) {M:Nat} {acc:List Tm} {st:St} (h:st.names≠[]):(br rec M acc st).2.names≠[]:=(im H M acc st).1.names h
theorem FY (n N w:Nat) {x y:AV} {T:List bM} {L:List Tok} (hx:bD x=some T) (hy:bz y=some L):∀(M:Nat) (acc:List Tm) (st:St) (m md:Nat),RC T L st→st.names≠[]→acc≠[]→acc.length+st.rest.length≤200000→st.rest.length < N→st.rest.length < M→M≤m→
 ∃md',ju 1 w (cM (aT (au (bj [] (kJ N)) (n+1)) (n+1) dw) cr 1 m (hI (.ptr 0 0) (.vec 1 0 acc.length 4 acc.length)) ⟨3,[.row (aj st.names),.row (aZ acc),.row [x,y,.int .i64 st.at_,.int .i64 st.next,.vec 2 0 st.names.length 2 st.names.length]],0,md⟩)=
   (match br (ae T) M acc st with
    | ((l,true),st')=>some (.ret,FM 24 [(2,.vec 1 0 l.length 4 l.length),(3,.bool true)],⟨3,[.row (aj st'.names),.row (aZ l),.row [x,y,.int .i64 st'.at_,.int .i64 st'.next,.vec 2 0 st'.names.length 2 st'.names.length]],0,md'⟩)
    | ((_,false),st')=>some (.ret,FM 24 [(2,.aw),(3,.bool false)],⟨2,[.row (aj st'.names),.row [x,y,.int .i64 st'.at_,.int .i64 st'.next,.vec 1 0 st'.names.length 2 st'.names.length]],0,md'⟩))
 | 0,_,_,_,_,_,_,_,_,_,h,_=>by omega
 | M+1,acc,st,0,_,_,_,_,_,_,_,h=>by omega
 | M+1,acc,st,m+1,md,hc,h0,hne,hal,hN,hM,hm=>by
   have hlx:=bG hx;have hly:=bu hy;have x1:=hlx.refs;have y1:=hly.refs;have g1:=cW hlx hly;have g2:=cV hlx hly;have g3:=cU hlx hly;have g4:=cX hlx hly;have g5:=cZ hlx hly;have g6:=cY hlx hly;have kx:=fun n0 acc r=>bc n0 acc r hlx;have ky:=fun n0 acc r=>bc n0 acc r hly;have rx:=fun n0 ks=>bd n0 ks hlx;have ry:=fun n0 ks=>bd n0 ks hly
   rw[aC];have H:=bK T;have q:=da N hx hy hc 999 hN;have hlv:=H.lv 999 st;have h1:=hlv.names h0;rw[bb h0,dn h0 h1,ar] at q;have f1:=aG st.names;have f2:=aF st.names;have f3:=ah st.names;have e1:=aG (ae T 999 st).2.names;have e2:=aF (ae T 999 st).2.names;have e3:=ah (ae T 999 st).2.names;have hf:=bP acc
   cases hok:(ae T 999 st).1.2.2 with
   | false=>
     rw[my hok];rw[hok] at q;dsimp only;have tr:=aN (ae T 999 st).1.1;generalize (ae T 999 st).1.1=t at *;generalize (ae T 999 st).2=s1 at *;generalize aj st.names=F at *;generalize aj s1.names=G at *;generalize st.names.length=fl at *;generalize s1.names.length=gl at *;generalize aZ acc=A at *;refine⟨min md 0,?_⟩;simp[dw,cr,kJ,ak,ba,q,x1,y1,g1,g2,g3,g4,g5,g6,kx,ky,rx,ry,-af,-aq,-ag,-keeps,-cN,aL,aJ,aQ,aK,ay,aB,aP,aO,aM,aA,az,aI,f1,f2,f3,e1,e2,e3,hf,tr]
   | true=>
     have ho:=H.ok 999 st hok;obtain⟨c1,l1⟩:=hc.ok ho;have hpos:=ho.pos;have qt:=fK hx hy c1 [44];have hn2:=ez [44] (ae T 999 st).2;rw[bb h1,bb (by rw[hn2.1];exact h1),hn2.1,hn2.2] at qt;rw[hok] at q;have hf2:=bP (acc++[(ae T 999 st).1.1]);have h8:(acc.length+1)*56≤140737488355328:=by omega
     have h9:acc.length+1 < 9223372036854775808:=by omega
     have h10:(aZ acc).take (acc.length*4)=aZ acc:=by rw[List.take_of_length_le];rw[dD];exact Nat.le_refl _
     have h11:=dD acc;have tr:=aN (ae T 999 st).1.1
     cases hb:(a8 [44] (ae T 999 st).2).1 with
     | false=>
       have hs:=lH hb;rw[iF hok hb];rw[hb,hs] at qt;dsimp only;rw[←dr] at hf2 ⊢;rw[List.length_append,List.length_cons,List.length_nil];generalize (ae T 999 st).1.1=t at *;generalize (ae T 999 st).2=s1 at *;generalize aj st.names=F at *;generalize aj s1.names=G at *;generalize st.names.length=fl at *;generalize s1.names.length=gl at *;generalize aZ acc=A at *;refine⟨min md 0,?_⟩;simp[dw,cr,kJ,ak,ba,q,qt,x1,y1,g1,g2,g3,g4,g5,g6,kx,ky,rx,ry,-af,-aq,-ag,-keeps,-cN,aL,aJ,aQ,aK,ay,aB,aP,aO,aM,aA,az,aI,f1,f2,f3,e1,e2,e3,hf,hf2,h8,h9,h10,h11,tr,aS]
     | true=>
       have ho2:=ef hb;obtain⟨c2,l2⟩:=c1.ok ho2;have hpos2:=ho2.pos;rw[jE hok hb];obtain⟨md',ih⟩:=FY n N w hx hy M (acc++[(ae T 999 st).1.1]) (a8 [44] (ae T 999 st).2).2 m 0 c2 (by rw[hn2.1];exact h1) (by simp) (by simp;omega) (by omega) (by omega) (by omega);rw[hb] at qt;rw[hn2.1,hn2.2,←dr,List.length_append,List.length_cons,List.length_nil] at ih;rw[←dr] at hf2;refine⟨md',?_⟩;refine Eq.trans ?_ ih;generalize (a8 [44] (ae T 999 st).2).2=s2 at *;generalize (ae T 999 st).1.1=t at *;generalize (ae T 999 st).2=s1 at *;generalize aj st.names=F at *;generalize aj s1.names=G at *;generalize st.names.length=fl at *;generalize s1.names.length=gl at *;generalize aZ acc=A at *;simp[dw,cr,kJ,ak,ba,q,qt,x1,y1,g1,g2,g3,g4,g5,g6,kx,ky,rx,ry,-af,-aq,-ag,-keeps,-cN,aL,aJ,aQ,aK,ay,aB,aP,aO,aM,aA,az,aI,f1,f2,f3,e1,e2,e3,hf,hf2,h8,h9,h10,h11,tr,aS]
theorem Fx (n N w:Nat) {x y:AV} {T:List bM} {L:List Tok} (hx:bD x=some T) (hy:bz y=some L):∀(M:Nat) (acc:List Tm) (st:St) (m md:Nat),RC T L st→st.names≠[]→acc≠[]→acc.length+st.rest.length≤200000→st.rest.length < N→st.rest.length < M→M≤m→
 ∃md',ju 2 w (cM (aT (au (bj [] (kJ N)) (n+1)) (n+1) dw) cr 2 m (hI (.ptr 0 0) (.vec 2 0 acc.length 4 acc.length)) ⟨4,[.row (aj st.names),.row (aZ acc),.dead,.row [x,y,.int .i64 st.at_,.int .i64 st.next,.vec 3 0 st.names.length 2 st.names.length]],0,md⟩)=
   (match br (ae T) M acc st with
    | ((l,true),st')=>some (.ret,FM 24 [(2,.vec 2 0 l.length 4 l.length),(3,.bool true)],⟨4,[.row (aj st'.names),.row (aZ l),.dead,.row [x,y,.int .i64 st'.at_,.int .i64 st'.next,.vec 3 0 st'.names.length 2 st'.names.length]],0,md'⟩)
    | ((_,false),st')=>some (.ret,FM 24 [(2,.aw),(3,.bool false)],⟨3,[.row (aj st'.names),.dead,.row [x,y,.int .i64 st'.at_,.int .i64 st'.next,.vec 2 0 st'.names.length 2 st'.names.length]],0,md'⟩))
 | 0,_,_,_,_,_,_,_,_,_,h,_=>by omega
 | M+1,acc,st,0,_,_,_,_,_,_,_,h=>by omega
 | M+1,acc,st,m+1,md,hc,h0,hne,hal,hN,hM,hm=>by
   have hlx:=bG hx;have hly:=bu hy;have x1:=hlx.refs;have y1:=hly.refs;have g1:=cW hlx hly;have g2:=cV hlx hly;have g3:=cU hlx hly;have g4:=cX hlx hly;have g5:=cZ hlx hly;have g6:=cY hlx hly;have kx:=fun n0 acc r=>bc n0 acc r hlx;have ky:=fun n0 acc r=>bc n0 acc r hly;have rx:=fun n0 ks=>bd n0 ks hlx;have ry:=fun n0 ks=>bd n0 ks hly
   rw[aC];have H:=bK T;have q:=da N hx hy hc 999 hN;have hlv:=H.lv 999 st;have h1:=hlv.names h0;rw[bb h0,dn h0 h1,ar] at q;have f1:=aG st.names;have f2:=aF st.names;have f3:=ah st.names;have e1:=aG (ae T 999 st).2.names;have e2:=aF (ae T 999 st).2.names;have e3:=ah (ae T 999 st).2.names;have hf:=bP acc
   cases hok:(ae T 999 st).1.2.2 with
   | false=>
     rw[my hok];rw[hok] at q;dsimp only;have tr:=aN (ae T 999 st).1.1;generalize (ae T 999 st).1.1=t at *;generalize (ae T 999 st).2=s1 at *;generalize aj st.names=F at *;generalize aj s1.names=G at *;generalize st.names.length=fl at *;generalize s1.names.length=gl at *;generalize aZ acc=A at *;refine⟨min md 0,?_⟩;simp[dw,cr,kJ,ak,ba,q,x1,y1,g1,g2,g3,g4,g5,g6,kx,ky,rx,ry,-af,-aq,-ag,-keeps,-cN,aL,aJ,aQ,aK,ay,aB,aP,aO,aM,aA,az,aI,f1,f2,f3,e1,e2,e3,hf,tr]
   | true=>
     have ho:=H.ok 999 st hok;obtain⟨c1,l1⟩:=hc.ok ho;have hpos:=ho.pos;have qt:=fK hx hy c1 [44];have hn2:=ez [44] (ae T 999 st).2;rw[bb h1,bb (by rw[hn2.1];exact h1),hn2.1,hn2.2] at qt;rw[hok] at q;have hf2:=bP (acc++[(ae T 999 st).1.1]);have h8:(acc.length+1)*56≤140737488355328:=by omega
     have h9:acc.length+1 < 9223372036854775808:=by omega
     have h10:(aZ acc).take (acc.length*4)=aZ acc:=by rw[List.take_of_length_le];rw[dD];exact Nat.le_refl _
     have h11:=dD acc;have tr:=aN (ae T 999 st).1.1
     cases hb:(a8 [44] (ae T 999 st).2).1 with
     | false=>
       have hs:=lH hb;rw[iF hok hb];rw[hb,hs] at qt;dsimp only;rw[←dr] at hf2 ⊢;rw[List.length_append,List.length_cons,List.length_nil];generalize (ae T 999 st).1.1=t at *;generalize (ae T 999 st).2=s1 at *;generalize aj st.names=F at *;generalize aj s1.names=G at *;generalize st.names.length=fl at *;generalize s1.names.length=gl at *;generalize aZ acc=A at *;refine⟨min md 0,?_⟩;simp[dw,cr,kJ,ak,ba,q,qt,x1,y1,g1,g2,g3,g4,g5,g6,kx,ky,rx,ry,-af,-aq,-ag,-keeps,-cN,aL,aJ,aQ,aK,ay,aB,aP,aO,aM,aA,az,aI,f1,f2,f3,e1,e2,e3,hf,hf2,h8,h9,h10,h11,tr,aS]
     | true=>
       have ho2:=ef hb;obtain⟨c2,l2⟩:=c1.ok ho2;have hpos2:=ho2.pos;rw[jE hok hb];obtain⟨md',ih⟩:=Fx n N w hx hy M (acc++[(ae T 999 st).1.1]) (a8 [44] (ae T 999 st).2).2 m 0 c2 (by rw[hn2.1];exact h1) (by simp) (by simp;omega) (by omega) (by omega) (by omega);rw[hb] at qt;rw[hn2.1,hn2.2,←dr,List.length_append,List.length_cons,List.length_nil] at ih;rw[←dr] at hf2;refine⟨md',?_⟩;refine Eq.trans ?_ ih;generalize (a8 [44] (ae T 999 st).2).2=s2 at *;generalize (ae T 999 st).1.1=t at *;generalize (ae T 999 st).2=s1 at *;generalize aj st.names=F at *;generalize aj s1.names=G at *;generalize st.names.length=fl at *;generalize s1.names.length=gl at *;generalize aZ acc=A at *;simp[dw,cr,kJ,ak,ba,q,qt,x1,y1,g1,g2,g3,g4,g5,g6,kx,ky,rx,ry,-af,-aq,-ag,-keeps,-cN,aL,aJ,aQ,aK,ay,aB,aP,aO,aM,aA,az,aI,f1,f2,f3,e1,e2,e3,hf,hf2,h8,h9,h10,h11,tr,aS]
def uW (x y:AV) (l:List Tm) (ok:Bool) (st:St) (md:Nat):Option (Ex×List AV×aa):=
 match st.names,ok with
 | [],true=>some (.ret,FM 24 [(2,.vec 1 0 l.length 4 l.length),(3,.bool true)],⟨2,[.row (aZ l),.row [x,y,.int .i64 st.at_,.int .i64 st.next,.aw]],1,md⟩)
 | [],false=>some (.ret,FM 24 [(2,.aw),(3,.bool false)],⟨1,[.row [x,y,.int .i64 st.at_,.int .i64 st.next,.aw]],1,md⟩)
 | q::r,true=>some (.ret,FM 24 [(2,.vec 1 0 l.length 4 l.length),(3,.bool true)],⟨3,[.row (aj (q::r)),.row (aZ l),.row [x,y,.int .i64 st.at_,.int .i64 st.next,.vec 2 0 (q::r).length 2 (q::r).length]],0,md⟩)
 | q::r,false=>some (.ret,FM 24 [(2,.aw),(3,.bool false)],⟨2,[.row (aj (q::r)),.row [x,y,.int .i64 st.at_,.int .i64 st.next,.vec 1 0 (q::r).length 2 (q::r).length]],0,md⟩)
theorem zH {x y:AV} {l:List Tm} {st:St} {md:Nat} (h:st.names=[]):uW x y l true st md=some (.ret,FM 24 [(2,.vec 1 0 l.length 4 l.length),(3,.bool true)],⟨2,[.row (aZ l),.row [x,y,.int .i64 st.at_,.int .i64 st.next,.aw]],1,md⟩):=by unfold uW;rw[h]
theorem Ak {x y:AV} {l:List Tm} {st:St} {md:Nat} (h:st.names=[]):uW x y l false st md=some (.ret,FM 24 [(2,.aw),(3,.bool false)],⟨1,[.row [x,y,.int .i64 st.at_,.int .i64 st.next,.aw]],1,md⟩):=by unfold uW;rw[h]
theorem u5 {x y:AV} {l:List Tm} {st:St} {md:Nat} (h:st.names≠[]):uW x y l true st md=some (.ret,FM 24 [(2,.vec 1 0 l.length 4 l.length),(3,.bool true)],⟨3,[.row (aj st.names),.row (aZ l),.row [x,y,.int .i64 st.at_,.int .i64 st.next,.vec 2 0 st.names.length 2 st.names.length]],0,md⟩):=by
 unfold uW
 cases hn:st.names with
 | nil=>exact absurd hn h
 | cons q r=>rfl
theorem vd {x y:AV} {l:List Tm} {st:St} {md:Nat} (h:st.names≠[]):uW x y l false st md=some (.ret,FM 24 [(2,.aw),(3,.bool false)],⟨2,[.row (aj st.names),.row [x,y,.int .i64 st.at_,.int .i64 st.next,.vec 1 0 st.names.length 2 st.names.length]],0,md⟩):=by
 unfold uW
 cases hn:st.names with
 | nil=>exact absurd hn h
 | cons q r=>rfl
theorem Au (n N w:Nat) {x y:AV} {T:List bM} {L:List Tok} (hx:bD x=some T) (hy:bz y=some L) (M:Nat) (acc:List Tm) (st:St) (m md:Nat) (hc:RC T L st) (h0:st.names≠[]) (hne:acc≠[]) (h1:acc.length+st.rest.length≤200000) (h2:st.rest.length < N) (h3:st.rest.length < M) (h4:M≤m):
 ∃md',ju 1 w (cM (aT (au (bj [] (kJ N)) (n+1)) (n+1) dw) cr 1 m (hI (.ptr 0 0) (.vec 1 0 acc.length 4 acc.length)) ⟨3,[.row (aj st.names),.row (aZ acc),.row [x,y,.int .i64 st.at_,.int .i64 st.next,.vec 2 0 st.names.length 2 st.names.length]],0,md⟩)=
   uW x y (br (ae T) M acc st).1.1 (br (ae T) M acc st).1.2 (br (ae T) M acc st).2 md':=by
 obtain⟨md',e⟩:=FY n N w hx hy M acc st m md hc h0 hne h1 h2 h3 h4;have hn:=uN (bK T) (M:=M) (acc:=acc) h0;refine⟨md',e.trans ?_⟩;generalize br (ae T) M acc st=I at *;obtain⟨⟨l,ok⟩,s⟩:=I
 cases ok with
 | true=>exact (u5 hn).symm
 | false=>exact (vd hn).symm
theorem IB (n N:Nat) {x y:AV} {T:List bM} {L:List Tok} (hx:bD x=some T) (hy:bz y=some L):∀(M:Nat) (acc:List Tm) (st:St) (m md:Nat),RC T L st→st.names=[]→acc≠[]→acc.length+st.rest.length≤200000→st.rest.length < N→st.rest.length < M→M≤m→
 ∃md',ju 1 1 (cM (aT (au (bj [] (kJ N)) (n+1)) (n+1) dw) cr 1 m (hI (.ptr 0 0) (.vec 1 0 acc.length 4 acc.length)) ⟨2,[.row (aZ acc),.row [x,y,.int .i64 st.at_,.int .i64 st.next,.aw]],1,md⟩)=
   uW x y (br (ae T) M acc st).1.1 (br (ae T) M acc st).1.2 (br (ae T) M acc st).2 md'
 | 0,_,_,_,_,_,_,_,_,_,h,_=>by omega
 | M+1,acc,st,0,_,_,_,_,_,_,_,h=>by omega
 | M+1,acc,st,m+1,md,hc,h0,hne,hal,hN,hM,hm=>by
   have hlx:=bG hx;have hly:=bu hy;have x1:=hlx.refs;have y1:=hly.refs;have g1:=cW hlx hly;have g2:=cV hlx hly;have g3:=cU hlx hly;have g4:=cX hlx hly;have g5:=cZ hlx hly;have g6:=cY hlx hly;have kx:=fun n0 acc r=>bc n0 acc r hlx;have ky:=fun n0 acc r=>bc n0 acc r hly;have rx:=fun n0 ks=>bd n0 ks hlx;have ry:=fun n0 ks=>bd n0 ks hly
   rw[aC];have H:=bK T;have q:=da N hx hy hc 999 hN;have hlv:=H.lv 999 st;rw[bh h0,h0,ar] at q;have e1:=aG (ae T 999 st).2.names;have e2:=aF (ae T 999 st).2.names;have e3:=ah (ae T 999 st).2.names;have hf:=bP acc
   cases hok:(ae T 999 st).1.2.2 with
   | false=>
     rw[my hok];rw[hok] at q;dsimp only;have tr:=aN (ae T 999 st).1.1;by_cases h1:(ae T 999 st).2.names=[]
     ·rw[cH h1] at q;simp only[Ak h1];generalize (ae T 999 st).1.1=t at *;generalize (ae T 999 st).2=s1 at *;generalize aZ acc=A at *;exact⟨min md 0,by simp[dw,cr,kJ,ak,ba,q,x1,y1,g1,g2,g3,g4,g5,g6,kx,ky,rx,ry,-af,-aq,-ag,-keeps,-cN,aL,aJ,aQ,aK,ay,aB,aP,aO,aM,aA,az,aI,tr,hf]⟩
     ·rw[cq h1] at q;simp only[vd h1];generalize (ae T 999 st).1.1=t at *;generalize (ae T 999 st).2=s1 at *;generalize aj s1.names=G at *;generalize s1.names.length=gl at *;generalize aZ acc=A at *;exact⟨min md 0,by simp[dw,cr,kJ,ak,ba,q,x1,y1,g1,g2,g3,g4,g5,g6,kx,ky,rx,ry,-af,-aq,-ag,-keeps,-cN,aL,aJ,aQ,aK,ay,aB,aP,aO,aM,aA,az,aI,e1,e2,e3,tr,hf]⟩
   | true=>
     have ho:=H.ok 999 st hok;obtain⟨c1,l1⟩:=hc.ok ho;have hpos:=ho.pos;have qt:=fK hx hy c1 [44];have hn2:=ez [44] (ae T 999 st).2;rw[hok] at q;have hf2:=bP (acc++[(ae T 999 st).1.1]);have h8:(acc.length+1)*56≤140737488355328:=by omega
     have h9:acc.length+1 < 9223372036854775808:=by omega
     have h10:(aZ acc).take (acc.length*4)=aZ acc:=by rw[List.take_of_length_le];rw[dD];exact Nat.le_refl _
     have h11:=dD acc;have tr:=aN (ae T 999 st).1.1;by_cases h1:(ae T 999 st).2.names=[]
     ·rw[cH h1] at q;rw[bh h1,bh (by rw[hn2.1];exact h1),hn2.2] at qt
      cases hb:(a8 [44] (ae T 999 st).2).1 with
      | false=>
        have hs:=lH hb;rw[iF hok hb];rw[hb,hs] at qt;dsimp only;simp only[zH h1];rw[←dr] at hf2 ⊢;rw[List.length_append,List.length_cons,List.length_nil];generalize (ae T 999 st).1.1=t at *;generalize (ae T 999 st).2=s1 at *;generalize aZ acc=A at *;exact⟨min md 0,by simp[dw,cr,kJ,ak,ba,q,qt,x1,y1,g1,g2,g3,g4,g5,g6,kx,ky,rx,ry,-af,-aq,-ag,-keeps,-cN,aL,aJ,aQ,aK,ay,aB,aP,aO,aM,aA,az,aI,hf2,tr,aS,hf,h8,h9,h10,h11]⟩
      | true=>
        have ho2:=ef hb;obtain⟨c2,l2⟩:=c1.ok ho2;have hpos2:=ho2.pos;rw[jE hok hb];obtain⟨md',ih⟩:=IB n N hx hy M (acc++[(ae T 999 st).1.1]) (a8 [44] (ae T 999 st).2).2 m 0 c2 (by rw[hn2.1];exact h1) (by simp) (by simp;omega) (by omega) (by omega) (by omega);rw[hb] at qt;rw[hn2.2,←dr,List.length_append,List.length_cons,List.length_nil] at ih;rw[←dr] at hf2;refine⟨md',?_⟩;refine Eq.trans ?_ ih;generalize (a8 [44] (ae T 999 st).2).2=s2 at *;generalize (ae T 999 st).1.1=t at *;generalize (ae T 999 st).2=s1 at *;generalize aZ acc=A at *;simp[dw,cr,kJ,ak,ba,q,qt,x1,y1,g1,g2,g3,g4,g5,g6,kx,ky,rx,ry,-af,-aq,-ag,-keeps,-cN,aL,aJ,aQ,aK,ay,aB,aP,aO,aM,aA,az,aI,hf2,tr,aS,hf,h8,h9,h10,h11]
     ·rw[cq h1] at q;rw[bb h1,bb (by rw[hn2.1];exact h1),hn2.1,hn2.2] at qt
      cases hb:(a8 [44] (ae T 999 st).2).1 with
      | false=>
        have hs:=lH hb;rw[iF hok hb];rw[hb,hs] at qt;dsimp only;simp only[u5 h1];rw[←dr] at hf2 ⊢;rw[List.length_append,List.length_cons,List.length_nil];generalize (ae T 999 st).1.1=t at *;generalize (ae T 999 st).2=s1 at *;generalize aj s1.names=G at *;generalize s1.names.length=gl at *;generalize aZ acc=A at *;exact⟨min md 0,by simp[dw,cr,kJ,ak,ba,q,qt,x1,y1,g1,g2,g3,g4,g5,g6,kx,ky,rx,ry,-af,-aq,-ag,-keeps,-cN,aL,aJ,aQ,aK,ay,aB,aP,aO,aM,aA,az,aI,e1,e2,e3,hf2,tr,aS,hf,h8,h9,h10,h11]⟩
      | true=>
        have ho2:=ef hb;obtain⟨c2,l2⟩:=c1.ok ho2;have hpos2:=ho2.pos;rw[jE hok hb];obtain⟨md',ih⟩:=Au n N 1 hx hy M (acc++[(ae T 999 st).1.1]) (a8 [44] (ae T 999 st).2).2 m 0 c2 (by rw[hn2.1];exact h1) (by simp) (by simp;omega) (by omega) (by omega) (by omega);rw[hb] at qt;rw[hn2.1,hn2.2,←dr,List.length_append,List.length_cons,List.length_nil] at ih;rw[←dr] at hf2;refine⟨md',?_⟩;refine Eq.trans ?_ ih;generalize (a8 [44] (ae T 999 st).2).2=s2 at *;generalize (ae T 999 st).1.1=t at *;generalize (ae T 999 st).2=s1 at *;generalize aj s1.names=G at *;generalize s1.names.length=gl at *;generalize aZ acc=A at *;simp[dw,cr,kJ,ak,ba,q,qt,x1,y1,g1,g2,g3,g4,g5,g6,kx,ky,rx,ry,-af,-aq,-ag,-keeps,-cN,aL,aJ,aQ,aK,ay,aB,aP,aO,aM,aA,az,aI,e1,e2,e3,hf2,tr,aS,hf,h8,h9,h10,h11]
theorem Oy (n N:Nat) {x y:AV} {T:List bM} {L:List Tok} (hx:bD x=some T) (hy:bz y=some L):∀(M:Nat) (st:St) (m md:Nat),RC T L st→st.names=[]→0+st.rest.length≤200000→st.rest.length < N→st.rest.length < M→M≤m→
 ∃md',ju 1 1 (cM (aT (au (bj [] (kJ N)) (n+1)) (n+1) dw) cr 1 m (hI (.ptr 0 0) .aw) ⟨1,[.row [x,y,.int .i64 st.at_,.int .i64 st.next,.aw]],1,md⟩)=
   uW x y (br (ae T) M [] st).1.1 (br (ae T) M [] st).1.2 (br (ae T) M [] st).2 md'
 | 0,_,_,_,_,_,_,_,h,_=>by omega
 | M+1,st,0,_,_,_,_,_,_,h=>by omega
 | M+1,st,m+1,md,hc,h0,hal,hN,hM,hm=>by
   have hlx:=bG hx;have hly:=bu hy;have x1:=hlx.refs;have y1:=hly.refs;have g1:=cW hlx hly;have g2:=cV hlx hly;have g3:=cU hlx hly;have g4:=cX hlx hly;have g5:=cZ hlx hly;have g6:=cY hlx hly;have kx:=fun n0 acc r=>bc n0 acc r hlx;have ky:=fun n0 acc r=>bc n0 acc r hly;have rx:=fun n0 ks=>bd n0 ks hlx;have ry:=fun n0 ks=>bd n0 ks hly
   rw[aC];have H:=bK T;have q:=da N hx hy hc 999 hN;have hlv:=H.lv 999 st;rw[bh h0,h0,ar] at q;have e1:=aG (ae T 999 st).2.names;have e2:=aF (ae T 999 st).2.names;have e3:=ah (ae T 999 st).2.names
   cases hok:(ae T 999 st).1.2.2 with
   | false=>
     rw[my hok];rw[hok] at q;dsimp only;have tr:=aN (ae T 999 st).1.1;by_cases h1:(ae T 999 st).2.names=[]
     ·rw[cH h1] at q;simp only[Ak h1];generalize (ae T 999 st).1.1=t at *;generalize (ae T 999 st).2=s1 at *;exact⟨min md 0,by simp[dw,cr,kJ,ak,ba,q,x1,y1,g1,g2,g3,g4,g5,g6,kx,ky,rx,ry,-af,-aq,-ag,-keeps,-cN,aL,aJ,aQ,aK,ay,aB,aP,aO,aM,aA,az,aI,tr]⟩
     ·rw[cq h1] at q;simp only[vd h1];generalize (ae T 999 st).1.1=t at *;generalize (ae T 999 st).2=s1 at *;generalize aj s1.names=G at *;generalize s1.names.length=gl at *;exact⟨min md 0,by simp[dw,cr,kJ,ak,ba,q,x1,y1,g1,g2,g3,g4,g5,g6,kx,ky,rx,ry,-af,-aq,-ag,-keeps,-cN,aL,aJ,aQ,aK,ay,aB,aP,aO,aM,aA,az,aI,e1,e2,e3,tr]⟩
   | true=>
     have ho:=H.ok 999 st hok;obtain⟨c1,l1⟩:=hc.ok ho;have hpos:=ho.pos;have qt:=fK hx hy c1 [44];have hn2:=ez [44] (ae T 999 st).2;rw[hok] at q;have hf2:=bP ([]++[(ae T 999 st).1.1]);have tr:=aN (ae T 999 st).1.1;by_cases h1:(ae T 999 st).2.names=[]
     ·rw[cH h1] at q;rw[bh h1,bh (by rw[hn2.1];exact h1),hn2.2] at qt
      cases hb:(a8 [44] (ae T 999 st).2).1 with
      | false=>
        have hs:=lH hb;rw[iF hok hb];rw[hb,hs] at qt;dsimp only;simp only[zH h1];rw[←dr] at hf2 ⊢;rw[List.length_append,List.length_cons,List.length_nil];generalize (ae T 999 st).1.1=t at *;generalize (ae T 999 st).2=s1 at *;exact⟨min md 0,by simp[dw,cr,kJ,ak,ba,q,qt,x1,y1,g1,g2,g3,g4,g5,g6,kx,ky,rx,ry,-af,-aq,-ag,-keeps,-cN,aL,aJ,aQ,aK,ay,aB,aP,aO,aM,aA,az,aI,hf2,tr,aS,aZ]⟩
      | true=>
        have ho2:=ef hb;obtain⟨c2,l2⟩:=c1.ok ho2;have hpos2:=ho2.pos;rw[jE hok hb];obtain⟨md',ih⟩:=IB n N hx hy M ([]++[(ae T 999 st).1.1]) (a8 [44] (ae T 999 st).2).2 m 0 c2 (by rw[hn2.1];exact h1) (by simp) (by simp;omega) (by omega) (by omega) (by omega);rw[hb] at qt;rw[hn2.2,←dr,List.length_append,List.length_cons,List.length_nil] at ih;rw[←dr] at hf2;refine⟨md',?_⟩;refine Eq.trans ?_ ih;generalize (a8 [44] (ae T 999 st).2).2=s2 at *;generalize (ae T 999 st).1.1=t at *;generalize (ae T 999 st).2=s1 at *;simp[dw,cr,kJ,ak,ba,q,qt,x1,y1,g1,g2,g3,g4,g5,g6,kx,ky,rx,ry,-af,-aq,-ag,-keeps,-cN,aL,aJ,aQ,aK,ay,aB,aP,aO,aM,aA,az,aI,hf2,tr,aS,aZ]
     ·rw[cq h1] at q;rw[bb h1,bb (by rw[hn2.1];exact h1),hn2.1,hn2.2] at qt
      cases hb:(a8 [44] (ae T 999 st).2).1 with
      | false=>
        have hs:=lH hb;rw[iF hok hb];rw[hb,hs] at qt;dsimp only;simp only[u5 h1];rw[←dr] at hf2 ⊢;rw[List.length_append,List.length_cons,List.length_nil];generalize (ae T 999 st).1.1=t at *;generalize (ae T 999 st).2=s1 at *;generalize aj s1.names=G at *;generalize s1.names.length=gl at *;exact⟨min md 0,by simp[dw,cr,kJ,ak,ba,q,qt,x1,y1,g1,g2,g3,g4,g5,g6,kx,ky,rx,ry,-af,-aq,-ag,-keeps,-cN,aL,aJ,aQ,aK,ay,aB,aP,aO,aM,aA,az,aI,e1,e2,e3,hf2,tr,aS,aZ]⟩
      | true=>
        have ho2:=ef hb;obtain⟨c2,l2⟩:=c1.ok ho2;have hpos2:=ho2.pos;rw[jE hok hb];obtain⟨md',ih⟩:=Au n N 1 hx hy M ([]++[(ae T 999 st).1.1]) (a8 [44] (ae T 999 st).2).2 m 0 c2 (by rw[hn2.1];exact h1) (by simp) (by simp;omega) (by omega) (by omega) (by omega);rw[hb] at qt;rw[hn2.1,hn2.2,←dr,List.length_append,List.length_cons,List.length_nil] at ih;rw[←dr] at hf2;refine⟨md',?_⟩;refine Eq.trans ?_ ih;generalize (a8 [44] (ae T 999 st).2).2=s2 at *;generalize (ae T 999 st).1.1=t at *;generalize (ae T 999 st).2=s1 at *;generalize aj s1.names=G at *;generalize s1.names.length=gl at *;simp[dw,cr,kJ,ak,ba,q,qt,x1,y1,g1,g2,g3,g4,g5,g6,kx,ky,rx,ry,-af,-aq,-ag,-keeps,-cN,aL,aJ,aQ,aK,ay,aB,aP,aO,aM,aA,az,aI,e1,e2,e3,hf2,tr,aS,aZ]
theorem nT {rec:Int→St→PR×St}:∀(M:Nat) (acc:List Tm) (st:St),(br rec M acc st).1.2=true→(br rec M acc st).1.1≠[]∧(br rec M acc st).1.1.length≤acc.length+M
 | 0,acc,st,h=>by cases h
 | M+1,acc,st,h=>by
   unfold br at h ⊢;by_cases d1:(rec 999 st).1.2.2=true
   ·rw[if_pos d1] at h ⊢;by_cases d2:(a8 [44] (rec 999 st).2).1=true
    ·rw[if_pos d2] at h ⊢;have:=nT M _ _ h;simp only[List.length_append,List.length_cons,List.length_nil] at this;exact⟨this.1,by omega⟩
    ·rw[if_neg d2];exact⟨by simp,by simp⟩
   ·rw[if_neg d1] at h;cases h
def CP (x y:AV) (l:List Tm) (ok:Bool) (st:St) (md:Nat):Option (Ex×List AV×aa):=
 if ok then some (.ret,FM 24 [(2,.vec 2 0 l.length 4 l.length),(3,.bool true)],⟨4,[.row (aj st.names),.row (aZ l),.dead,.row [x,y,.int .i64 st.at_,.int .i64 st.next,.vec 3 0 st.names.length 2 st.names.length]],0,md⟩)
 else some (.ret,FM 24 [(2,.aw),(3,.bool false)],⟨3,[.row (aj st.names),.dead,.row [x,y,.int .i64 st.at_,.int .i64 st.next,.vec 2 0 st.names.length 2 st.names.length]],0,md⟩)
theorem Jz (n N w:Nat) {x y:AV} {T:List bM} {L:List Tok} (hx:bD x=some T) (hy:bz y=some L) (M:Nat) (acc:List Tm) (st:St) (m md:Nat) (hc:RC T L st) (h0:st.names≠[]) (hne:acc≠[]) (h1:acc.length+st.rest.length≤200000) (h2:st.rest.length < N) (h3:st.rest.length < M) (h4:M≤m):
 ∃md',ju 2 w (cM (aT (au (bj [] (kJ N)) (n+1)) (n+1) dw) cr 2 m (hI (.ptr 0 0) (.vec 2 0 acc.length 4 acc.length)) ⟨4,[.row (aj st.names),.row (aZ acc),.dead,.row [x,y,.int .i64 st.at_,.int .i64 st.next,.vec 3 0 st.names.length 2 st.names.length]],0,md⟩)=
   CP x y (br (ae T) M acc st).1.1 (br (ae T) M acc st).1.2 (br (ae T) M acc st).2 md':=by
 obtain⟨md',e⟩:=Fx n N w hx hy M acc st m md hc h0 hne h1 h2 h3 h4;refine⟨md',e.trans ?_⟩;generalize br (ae T) M acc st=I at *;obtain⟨⟨l,ok⟩,s⟩:=I;cases ok<;>rfl
theorem N8 (n N:Nat) {x y:AV} {T:List bM} {L:List Tok} (hx:bD x=some T) (hy:bz y=some L) (M:Nat) (st:St) (m md:Nat) (hc:RC T L st) (h0:st.names≠[]) (hal:st.rest.length≤190000) (hN:st.rest.length < N) (hM:st.rest.length < M+1) (hm:M≤m):
 ∃md',ju 2 2 (cM (aT (au (bj [] (kJ N)) (n+1)) (n+1) dw) cr 2 (m+1) (hI (.ptr 0 0) .aw) ⟨2,[.row (aj st.names),.row [x,y,.int .i64 st.at_,.int .i64 st.next,.vec 1 0 st.names.length 2 st.names.length]],2,md⟩)=
   CP x y (br (ae T) (M+1) [] st).1.1 (br (ae T) (M+1) [] st).1.2 (br (ae T) (M+1) [] st).2 md':=by
 have hlx:=bG hx;have hly:=bu hy;have x1:=hlx.refs;have y1:=hly.refs;have g1:=cW hlx hly;have g2:=cV hlx hly;have g3:=cU hlx hly;have g4:=cX hlx hly;have g5:=cZ hlx hly;have g6:=cY hlx hly;have kx:=fun n0 acc r=>bc n0 acc r hlx;have ky:=fun n0 acc r=>bc n0 acc r hly;have rx:=fun n0 ks=>bd n0 ks hlx;have ry:=fun n0 ks=>bd n0 ks hly
 rw[aC];have H:=bK T;have q:=da N hx hy hc 999 hN;have hlv:=H.lv 999 st;have h1:=hlv.names h0;rw[bb h0,dn h0 h1,ar] at q;have f1:=aG st.names;have f2:=aF st.names;have f3:=ah st.names;have e1:=aG (ae T 999 st).2.names;have e2:=aF (ae T 999 st).2.names;have e3:=ah (ae T 999 st).2.names;have tr:=aN (ae T 999 st).1.1
 cases hok:(ae T 999 st).1.2.2 with
 | false=>
   rw[my hok];rw[hok] at q;simp only[CP,if_false,Bool.false_eq_true];generalize (ae T 999 st).1.1=t at *;generalize (ae T 999 st).2=s1 at *;generalize aj st.names=F at *;generalize aj s1.names=G at *;generalize st.names.length=fl at *;generalize s1.names.length=gl at *;exact⟨min md 0,by simp[dw,cr,kJ,ak,ba,q,x1,y1,g1,g2,g3,g4,g5,g6,kx,ky,rx,ry,-af,-aq,-ag,-keeps,-cN,aL,aJ,aQ,aK,ay,aB,aP,aO,aM,aA,az,aI,f1,f2,f3,e1,e2,e3,tr]⟩
 | true=>
   have ho:=H.ok 999 st hok;obtain⟨c1,l1⟩:=hc.ok ho;have hpos:=ho.pos;have qt:=fK hx hy c1 [44];have hn2:=ez [44] (ae T 999 st).2;rw[bb h1,bb (by rw[hn2.1];exact h1),hn2.1,hn2.2] at qt;rw[hok] at q;have hf2:=bP ([]++[(ae T 999 st).1.1])
   cases hb:(a8 [44] (ae T 999 st).2).1 with
   | false=>
     have hs:=lH hb;rw[iF hok hb];rw[hb,hs] at qt;simp only[CP,if_true];rw[←dr] at hf2 ⊢;rw[List.length_append,List.length_cons,List.length_nil];generalize (ae T 999 st).1.1=t at *;generalize (ae T 999 st).2=s1 at *;generalize aj st.names=F at *;generalize aj s1.names=G at *;generalize st.names.length=fl at *;generalize s1.names.length=gl at *;exact⟨min md 0,by simp[dw,cr,kJ,ak,ba,q,qt,x1,y1,g1,g2,g3,g4,g5,g6,kx,ky,rx,ry,-af,-aq,-ag,-keeps,-cN,aL,aJ,aQ,aK,ay,aB,aP,aO,aM,aA,az,aI,f1,f2,f3,e1,e2,e3,hf2,tr,aS,aZ]⟩
   | true=>
     have ho2:=ef hb;obtain⟨c2,l2⟩:=c1.ok ho2;have hpos2:=ho2.pos;rw[jE hok hb];obtain⟨md',ih⟩:=Jz n N 2 hx hy M ([]++[(ae T 999 st).1.1]) (a8 [44] (ae T 999 st).2).2 m 0 c2 (by rw[hn2.1];exact h1) (by simp) (by simp;omega) (by omega) (by omega) (by omega);rw[hb] at qt;rw[hn2.1,hn2.2,←dr,List.length_append,List.length_cons,List.length_nil] at ih;rw[←dr] at hf2;refine⟨md',?_⟩;refine Eq.trans ?_ ih;generalize (a8 [44] (ae T 999 st).2).2=s2 at *;generalize (ae T 999 st).1.1=t at *;generalize (ae T 999 st).2=s1 at *;generalize aj st.names=F at *;generalize aj s1.names=G at *;generalize st.names.length=fl at *;generalize s1.names.length=gl at *;simp[dw,cr,kJ,ak,ba,q,qt,x1,y1,g1,g2,g3,g4,g5,g6,kx,ky,rx,ry,-af,-aq,-ag,-keeps,-cN,aL,aJ,aQ,aK,ay,aB,aP,aO,aM,aA,az,aI,f1,f2,f3,e1,e2,e3,hf2,tr,aS,aZ]
def aE (T:List bM) (st:St):(List Tm×Bool)×St:=br (ae T) (st.rest.length+1) [] st
noncomputable def kY (N:Nat):bL:=⟨163,fun
 | [.ptr 0 0],os=>(match qh os with
   | some R=>if R.st.rest.length < N then some (.tuple [DN (if (aE R.T R.st).1.2 then (aE R.T R.st).1.1 else []),.bool (aE R.T R.st).1.2],some (db R.x R.y R.st.names (aE R.T R.st).2)) else none
   | none=>none)
 | _,_=>none⟩
theorem aY (N:Nat):(kY N).f=163:=(rfl)
theorem iL (N:Nat) {x y:AV} {T:List bM} {L:List Tok} {st:St} (hx:bD x=some T) (hy:bz y=some L) (h:RC T L st) (hn:st.rest.length < N):
 (kY N).S [.ptr 0 0] (c8 x y st)=some (.tuple [DN (if (aE T st).1.2 then (aE T st).1.1 else []),.bool (aE T st).1.2],some (db x y st.names (aE T st).2)):=by
 simp only[kY,iy hx hy h];rw[if_pos hn]
theorem tq {l:List Tm} (h:l≠[]):DN l=.sl (l.map Tm.enc):=by
 cases l with
 | nil=>exact absurd rfl h
 | cons a r=>rfl
theorem CO {h:aa} {n0 d id:Nat} {l:List Tm} (hl:l≠[]) (hid:n0≤id) (hg:h.get id=some (.row (aZ l))):hO h n0 (d+2) (.vec id 0 l.length 4 l.length)=some (.sl (l.map Tm.enc),[id]):=by
 cases l with
 | nil=>exact absurd rfl hl
 | cons a r=>exact ND a r hid hg
theorem Di (N:Nat) {x y:AV} {T:List bM} {L:List Tok} {st:St} (hx:bD x=some T) (hy:bz y=some L) (hc:RC T L st) (hN:st.rest.length < N) (hE:bW Tryz.prog cm (bj [] (kJ N))):
 bX Tryz.prog cm 163 [.ptr 0 0] (c8 x y st) (.tuple [DN (if (aE T st).1.2 then (aE T st).1.1 else []),.bool (aE T st).1.2]) (some (db x y st.names (aE T st).2)):=by
 have hlx:=bG hx;have hly:=bu hy;have x1:=hlx.refs;have y1:=hly.refs;have hrl:st.rest.length≤100000:=by rw[hc.rest,List.length_drop,fF];have:=hc.lb;omega
 have hv:∀(l:List Tm) (b:Bool),(AV.tuple [DN l,.bool b]).refs=0:=fun l b=>by simp[AV.refs,AV.ai,Kn]
 have hne:=nT (rec:=ae T) (st.rest.length+1) [] st;by_cases h0:st.names=[]
 ·obtain⟨md',lp⟩:=Oy 199998 N hx hy (st.rest.length+1) st 199999 1 hc h0 (by omega) hN (by omega) (by omega);change _=uW x y (aE T st).1.1 (aE T st).1.2 (aE T st).2 md' at lp;change (aE T st).1.2=true→(aE T st).1.1≠[]∧_ at hne;by_cases h1:(aE T st).2.names=[]
  ·cases hok:(aE T st).1.2 with
   | true=>
     have hl:=(hne hok).1;rw[hok,zH h1] at lp;rw[if_pos rfl];refine c7 (n:=200000) hE hlx hly h0 h1 ?_ (hv _ _) rfl;show (au (bj [] (kJ N)) 200000 163 [.ptr 0 0] ⟨1,[.row [x,y,.int .i64 st.at_,.int .i64 st.next,.aw]],1,1⟩).map _=_;rw[tq hl];have fk:∀(A:bf) (wl md d:Nat),hO ⟨2,[.row (aZ (aE T st).1.1),A],wl,md⟩ 1 (d+2) (.vec 1 0 (aE T st).1.1.length 4 (aE T st).1.1.length)=some (.sl ((aE T st).1.1.map Tm.enc),[1]):=fun A wl md d=>CO hl (by omega) rfl
     have hr:=bN (aE T st).1.1;simp only[cr,hI,kJ] at lp;generalize (aE T st).1.1.map Tm.enc=U at *;generalize aZ (aE T st).1.1=A at *;generalize (aE T st).1.1.length=k at *;generalize (aE T st).2=s1 at *;simp[px,zQ,cr,kJ,ak,ba,lp,fk,x1,y1,hr,-mB]
   | false=>
     rw[hok,Ak h1] at lp;rw[if_neg (by simp)];refine c7 (n:=200000) hE hlx hly h0 h1 ?_ (hv _ _) rfl;show (au (bj [] (kJ N)) 200000 163 [.ptr 0 0] ⟨1,[.row [x,y,.int .i64 st.at_,.int .i64 st.next,.aw]],1,1⟩).map _=_;simp only[cr,hI,kJ] at lp;generalize (aE T st).2=s1 at *;simp[px,zQ,cr,kJ,ak,ba,lp,x1,y1,DN]
  ·have e3:=ah (aE T st).2.names
   cases hok:(aE T st).1.2 with
   | true=>
     have hl:=(hne hok).1;rw[hok,u5 h1] at lp;rw[if_pos rfl];refine dv (n:=200000) hE hlx hly 2 (by decide) h0 h1 ?_ (hv _ _) rfl;show (au (bj [] (kJ N)) 200000 163 [.ptr 0 0] ⟨1,[.row [x,y,.int .i64 st.at_,.int .i64 st.next,.aw]],1,1⟩).map _=_;rw[tq hl];have fk:∀(A B:bf) (wl md d:Nat),hO ⟨3,[B,.row (aZ (aE T st).1.1),A],wl,md⟩ 1 (d+2) (.vec 1 0 (aE T st).1.1.length 4 (aE T st).1.1.length)=some (.sl ((aE T st).1.1.map Tm.enc),[1]):=fun A B wl md d=>CO hl (by omega) rfl
     have hr:=bN (aE T st).1.1;simp only[cr,hI,kJ] at lp;generalize (aE T st).1.1.map Tm.enc=U at *;generalize aZ (aE T st).1.1=A at *;generalize (aE T st).1.1.length=k at *;generalize (aE T st).2=s1 at *;generalize aj s1.names=G at *;generalize s1.names.length=gl at *;simp[px,zQ,cr,kJ,ak,ba,lp,fk,x1,y1,hr,e3,-mB]
   | false=>
     rw[hok,vd h1] at lp;rw[if_neg (by simp)];refine dv (n:=200000) hE hlx hly 1 (by decide) h0 h1 ?_ (hv _ _) rfl;show (au (bj [] (kJ N)) 200000 163 [.ptr 0 0] ⟨1,[.row [x,y,.int .i64 st.at_,.int .i64 st.next,.aw]],1,1⟩).map _=_;simp only[cr,hI,kJ] at lp;generalize (aE T st).2=s1 at *;generalize aj s1.names=G at *;generalize s1.names.length=gl at *;simp[px,zQ,cr,kJ,ak,ba,lp,x1,y1,e3,DN]
 ·obtain⟨md',lp⟩:=N8 199998 N hx hy st.rest.length st 199998 2 hc h0 (by omega) hN (by omega) (by omega);change _=CP x y (aE T st).1.1 (aE T st).1.2 (aE T st).2 md' at lp;change (aE T st).1.2=true→(aE T st).1.1≠[]∧_ at hne;have h1:(aE T st).2.names≠[]:=uN (bK T) h0;have e3:=ah (aE T st).2.names;have f3:=ah st.names
  cases hok:(aE T st).1.2 with
  | true=>
    have hl:=(hne hok).1;rw[hok] at lp;simp only[CP,if_true] at lp;rw[if_pos rfl];refine cJ (n:=200000) hE hlx hly 3 (by decide) h0 h1 ?_ (hv _ _) rfl;show (au (bj [] (kJ N)) 200000 163 [.ptr 0 0] ⟨2,[.row (aj st.names),.row [x,y,.int .i64 st.at_,.int .i64 st.next,.vec 1 0 st.names.length 2 st.names.length]],2,2⟩).map _=_;rw[tq hl];have fk:∀(A B C:bf) (wl md d:Nat),hO ⟨4,[B,.row (aZ (aE T st).1.1),C,A],wl,md⟩ 2 (d+2) (.vec 2 0 (aE T st).1.1.length 4 (aE T st).1.1.length)=some (.sl ((aE T st).1.1.map Tm.enc),[2]):=fun A B C wl md d=>CO hl (by omega) rfl
    have hr:=bN (aE T st).1.1;simp only[cr,hI,kJ] at lp;generalize (aE T st).1.1.map Tm.enc=U at *;generalize aZ (aE T st).1.1=A at *;generalize (aE T st).1.1.length=k at *;generalize (aE T st).2=s1 at *;generalize aj st.names=F at *;generalize st.names.length=fl at *;generalize aj s1.names=G at *;generalize s1.names.length=gl at *;simp[px,zQ,cr,kJ,ak,ba,lp,fk,x1,y1,hr,e3,f3,-mB]
  | false=>
    rw[hok] at lp;simp only[CP,if_false,Bool.false_eq_true] at lp;rw[if_neg (by simp)];refine cJ (n:=200000) hE hlx hly 2 (by decide) h0 h1 ?_ (hv _ _) rfl;show (au (bj [] (kJ N)) 200000 163 [.ptr 0 0] ⟨2,[.row (aj st.names),.row [x,y,.int .i64 st.at_,.int .i64 st.next,.vec 1 0 st.names.length 2 st.names.length]],2,2⟩).map _=_;simp only[cr,hI,kJ] at lp;generalize (aE T st).2=s1 at *;generalize aj st.names=F at *;generalize st.names.length=fl at *;generalize aj s1.names=G at *;generalize s1.names.length=gl at *;simp[px,zQ,cr,kJ,ak,ba,lp,x1,y1,e3,f3,DN]
theorem uM (N:Nat) (hN:dk Tryz.prog cm (fI N)):dk Tryz.prog cm (kY N):=fun args os v r hv=>by
 unfold kY at hv;dsimp only at hv;split at hv
 ·rename_i os;split at hv
  ·rename_i R hR;split at hv
   ·rename_i hc;cases hv;obtain⟨hx,hy,rfl,h⟩:=gN hR;rw[aY];exact Di N hx hy h hc (eW (by simp) (by simp[kJ,hN,xk]))
   ·cases hv
  ·cases hv
 ·cases hv
def eV (T:List bM) (st:St):(Tm×Bool)×St:=gd (ae T) (st.rest.length+1) st
theorem Hi {T:List bM} {st:St} (h:(aE T st).1.2=false):eV T st=((hP [91,93],false),(aE T st).2):=by
 unfold eV gd;change (if (aE T st).1.2=true then _ else ((hP [91,93],false),(aE T st).2))=_;rw[h,if_neg (by simp)]
theorem Ac {T:List bM} {st:St} (h:(aE T st).1.2=true):eV T st=gA (ae T) (aE T st).1.1 (aE T st).2:=by
 unfold eV gd;change (if (aE T st).1.2=true then gA (ae T) (aE T st).1.1 (aE T st).2 else _)=_;rw[h,if_pos rfl]
theorem Me {rec:Int→St→PR×St} {l:List Tm} {st:St} (h:(a8 [124] st).1=false):gA rec l st=((dH l (hP [91,93]),(a8 [93] st).1),(a8 [93] st).2):=by
 unfold gA;rw[h,if_neg (by simp)]
theorem Iw {rec:Int→St→PR×St} {l:List Tm} {st:St} (h:(a8 [124] st).1=true) (h2:(rec 999 (a8 [124] st).2).1.2.2=false):gA rec l st=((dH l (rec 999 (a8 [124] st).2).1.1,false),(rec 999 (a8 [124] st).2).2):=by
 unfold gA;rw[h,if_pos rfl,h2,if_neg (by simp)]
theorem GS {rec:Int→St→PR×St} {l:List Tm} {st:St} (h:(a8 [124] st).1=true) (h2:(rec 999 (a8 [124] st).2).1.2.2=true):gA rec l st=((dH l (rec 999 (a8 [124] st).2).1.1,(a8 [93] (rec 999 (a8 [124] st).2).2).1),(a8 [93] (rec 999 (a8 [124] st).2).2).2):=by
 unfold gA;rw[h,if_pos rfl,h2,if_pos rfl]
theorem fw (T:List bM) (st:St):Lv st (aE T st).2∧((aE T st).1.2=true→Ok st (aE T st).2):=im (bK T) _ [] st
noncomputable def gX:List aR:=[yA,vO]
noncomputable def gZ (N:Nat):List bL:=[kY N,uP,fI N]
theorem gv (t:Tm) (b:Bool):(AV.tuple [t.enc,.bool b]).refs=0:=by simp[AV.refs,AV.ai,Tm.cT]
theorem OL (N:Nat) {x y:AV} {T:List bM} {L:List Tok} {st:St} (hx:bD x=some T) (hy:bz y=some L) (hc:RC T L st) (hN:st.rest.length < N) (hE:bW Tryz.prog cm (bj gX (gZ N))) (hok:(aE T st).1.2=false):
 bX Tryz.prog cm 161 [.ptr 0 0] (c8 x y st) (.tuple [(eV T st).1.1.enc,.bool (eV T st).1.2]) (some (db x y st.names (eV T st).2)):=by
 rw[Hi hok];have hlx:=bG hx;have hly:=bu hy;have x1:=hlx.refs;have y1:=hly.refs;have g1:=cW hlx hly;have g2:=cV hlx hly;have g3:=cU hlx hly;have g4:=cX hlx hly;have g5:=cZ hlx hly;have g6:=cY hlx hly;have kx:=fun n0 acc r=>bc n0 acc r hlx;have ky:=fun n0 acc r=>bc n0 acc r hly;have rx:=fun n0 ks=>bd n0 ks hlx;have ry:=fun n0 ks=>bd n0 ks hly
 have q1:=iL N hx hy hc hN;rw[hok,if_neg (by simp)] at q1;simp only[DN] at q1;have qa:=k9 [91,93];have ql:vO.S [.aw,.agg [.int .i64 2,.int .i64 0,.str [91,93],.aw]]=some (.agg [.int .i64 2,.int .i64 0,.str [91,93],.aw]):=rfl;have hlv:=(fw T st).1;dsimp only;generalize (aE T st).2=s1 at *;by_cases h0:st.names=[]
 ·by_cases h1:s1.names=[]
  ·rw[bh h0,h0,cH h1] at q1;refine c7 (n:=8) hE hlx hly h0 h1 ?_ (gv _ _) rfl;show (au (bj gX (gZ N)) 8 161 [.ptr 0 0] ⟨1,[.row [x,y,.int .i64 st.at_,.int .i64 st.next,.aw]],1,1⟩).map _=_;rw[show (hP [91,93]).enc=.agg [.int .i64 2,.int .i64 0,.str [91,93],.aw] from rfl];simp[gw,nO,an,gX,gZ,dN,gC,aY,ba,ak,q1,qa,ql,x1,y1,g1,g2,g3,g4,g5,g6,kx,ky,rx,ry,-af,-aq,-ag,-keeps,-cN,aL,aJ,aQ,aK,ay,aB,aP,aO,aM,aA,az,aI]
  ·rw[bh h0,h0,cq h1] at q1;refine dv (n:=8) hE hlx hly 2 (by decide) h0 h1 ?_ (gv _ _) rfl;show (au (bj gX (gZ N)) 8 161 [.ptr 0 0] ⟨1,[.row [x,y,.int .i64 st.at_,.int .i64 st.next,.aw]],1,1⟩).map _=_;rw[show (hP [91,93]).enc=.agg [.int .i64 2,.int .i64 0,.str [91,93],.aw] from rfl];have e1:=aG s1.names;have e2:=aF s1.names;have e3:=ah s1.names;generalize aj s1.names=Fs1 at *;generalize s1.names.length=ns1 at *;simp[gw,nO,an,gX,gZ,dN,gC,aY,ba,ak,q1,qa,ql,e1,e2,e3,x1,y1,g1,g2,g3,g4,g5,g6,kx,ky,rx,ry,-af,-aq,-ag,-keeps,-cN,aL,aJ,aQ,aK,ay,aB,aP,aO,aM,aA,az,aI]
 ·have h1:s1.names≠[]:=hlv.names h0;rw[bb h0,dn h0 h1] at q1;refine cJ (n:=8) hE hlx hly 3 (by decide) h0 h1 ?_ (gv _ _) rfl;show (au (bj gX (gZ N)) 8 161 [.ptr 0 0] ⟨2,[.row (aj st.names),.row [x,y,.int .i64 st.at_,.int .i64 st.next,.vec 1 0 st.names.length 2 st.names.length]],2,2⟩).map _=_;rw[show (hP [91,93]).enc=.agg [.int .i64 2,.int .i64 0,.str [91,93],.aw] from rfl];have e1:=aG s1.names;have e2:=aF s1.names;have e3:=ah s1.names;generalize aj s1.names=Fs1 at *;generalize s1.names.length=ns1 at *;have f1:=aG st.names;have f2:=aF st.names;have f3:=ah st.names;generalize aj st.names=Fst at *;generalize st.names.length=nst at *;simp[gw,nO,an,gX,gZ,dN,gC,aY,ba,ak,q1,qa,ql,e1,e2,e3,f1,f2,f3,x1,y1,g1,g2,g3,g4,g5,g6,kx,ky,rx,ry,-af,-aq,-ag,-keeps,-cN,aL,aJ,aQ,aK,ay,aB,aP,aO,aM,aA,az,aI]
theorem O6 (N:Nat) {x y:AV} {T:List bM} {L:List Tok} {st:St} (hx:bD x=some T) (hy:bz y=some L) (hc:RC T L st) (hN:st.rest.length < N) (hE:bW Tryz.prog cm (bj gX (gZ N))) (hok:(aE T st).1.2=true) (hb:(a8 [124] (aE T st).2).1=false):
 bX Tryz.prog cm 161 [.ptr 0 0] (c8 x y st) (.tuple [(eV T st).1.1.enc,.bool (eV T st).1.2]) (some (db x y st.names (eV T st).2)):=by
 rw[Ac hok,Me hb];have hlx:=bG hx;have hly:=bu hy;have x1:=hlx.refs;have y1:=hly.refs;have g1:=cW hlx hly;have g2:=cV hlx hly;have g3:=cU hlx hly;have g4:=cX hlx hly;have g5:=cZ hlx hly;have g6:=cY hlx hly;have kx:=fun n0 acc r=>bc n0 acc r hlx;have ky:=fun n0 acc r=>bc n0 acc r hly;have rx:=fun n0 ks=>bd n0 ks hlx;have ry:=fun n0 ks=>bd n0 ks hly
 have hlv:=(fw T st).1;have ho:=(fw T st).2 hok;obtain⟨c1,l1⟩:=hc.ok ho;have hl:=nT (rec:=ae T) (st.rest.length+1) [] st hok;change (aE T st).1.1≠[]∧(aE T st).1.1.length≤_ at hl;have hrl:st.rest.length≤100000:=by rw[hc.rest,List.length_drop,fF];have:=hc.lb;omega
 have q1:=iL N hx hy hc hN;rw[hok,if_pos rfl,tq hl.1] at q1;have qa:=k9 [91,93];have q2:=fK hx hy c1 [124];have pos1:=ho.pos;have q4:=fK hx hy c1 [93];have hn4:=ez [93] (aE T st).2;rw[hb,lH hb] at q2;have ql:=xd (aE T st).1.1 (hP [91,93]) (by simp at hl;omega);rw[show (hP [91,93]).enc=.agg [.int .i64 2,.int .i64 0,.str [91,93],.aw] from rfl,ar] at ql;have ur:=bN (aE T st).1.1;dsimp only;generalize (aE T st).2=s1 at *;generalize (aE T st).1.1=l at *;have rr:=aN (dH l (hP [91,93]));clear hl;generalize l.map Tm.enc=U at *;by_cases h0:st.names=[]
 ·by_cases h1:s1.names=[]
  ·rw[bh h0,h0,cH h1] at q1;rw[bh h1] at q2;rw[bh h1,bh (by rw[hn4.1];exact h1),hn4.2] at q4;refine c7 (n:=8) hE hlx hly h0 (by rw[hn4.1];exact h1) ?_ (gv _ _) rfl;show (au (bj gX (gZ N)) 8 161 [.ptr 0 0] ⟨1,[.row [x,y,.int .i64 st.at_,.int .i64 st.next,.aw]],1,1⟩).map _=_;rw[ar,hn4.2];generalize dH l (hP [91,93])=r at *;generalize a8 [93] s1=b4 at *;obtain⟨b4,s4⟩:=b4;simp[gw,nO,an,gX,gZ,dN,gC,aY,ba,ak,q1,q2,q4,qa,ql,rr,ur,x1,y1,g1,g2,g3,g4,g5,g6,kx,ky,rx,ry,-af,-aq,-ag,-keeps,-cN,aL,aJ,aQ,aK,ay,aB,aP,aO,aM,aA,az,aI]
  ·rw[bh h0,h0,cq h1] at q1;rw[bb h1] at q2;rw[bb h1,bb (by rw[hn4.1];exact h1),hn4.1,hn4.2] at q4;refine dv (n:=8) hE hlx hly 2 (by decide) h0 (by rw[hn4.1];exact h1) ?_ (gv _ _) rfl;show (au (bj gX (gZ N)) 8 161 [.ptr 0 0] ⟨1,[.row [x,y,.int .i64 st.at_,.int .i64 st.next,.aw]],1,1⟩).map _=_;rw[ar,hn4.1,hn4.2];generalize dH l (hP [91,93])=r at *;generalize a8 [93] s1=b4 at *;obtain⟨b4,s4⟩:=b4;have e1:=aG s1.names;have e2:=aF s1.names;have e3:=ah s1.names;generalize aj s1.names=Fs1 at *;generalize s1.names.length=ns1 at *;simp[gw,nO,an,gX,gZ,dN,gC,aY,ba,ak,q1,q2,q4,qa,ql,rr,ur,e1,e2,e3,x1,y1,g1,g2,g3,g4,g5,g6,kx,ky,rx,ry,-af,-aq,-ag,-keeps,-cN,aL,aJ,aQ,aK,ay,aB,aP,aO,aM,aA,az,aI]
 ·have h1:s1.names≠[]:=hlv.names h0;rw[bb h0,dn h0 h1] at q1;rw[bb h1] at q2;rw[bb h1,bb (by rw[hn4.1];exact h1),hn4.1,hn4.2] at q4;refine cJ (n:=8) hE hlx hly 3 (by decide) h0 (by rw[hn4.1];exact h1) ?_ (gv _ _) rfl;show (au (bj gX (gZ N)) 8 161 [.ptr 0 0] ⟨2,[.row (aj st.names),.row [x,y,.int .i64 st.at_,.int .i64 st.next,.vec 1 0 st.names.length 2 st.names.length]],2,2⟩).map _=_;rw[ar,hn4.1,hn4.2];generalize dH l (hP [91,93])=r at *;generalize a8 [93] s1=b4 at *;obtain⟨b4,s4⟩:=b4;have e1:=aG s1.names;have e2:=aF s1.names;have e3:=ah s1.names;generalize aj s1.names=Fs1 at *;generalize s1.names.length=ns1 at *;have f1:=aG st.names;have f2:=aF st.names;have f3:=ah st.names;generalize aj st.names=Fst at *;generalize st.names.length=nst at *;simp[gw,nO,an,gX,gZ,dN,gC,aY,ba,ak,q1,q2,q4,qa,ql,rr,ur,e1,e2,e3,f1,f2,f3,x1,y1,g1,g2,g3,g4,g5,g6,kx,ky,rx,ry,-af,-aq,-ag,-keeps,-cN,aL,aJ,aQ,aK,ay,aB,aP,aO,aM,aA,az,aI]
theorem Qm (N:Nat) {x y:AV} {T:List bM} {L:List Tok} {st:St} (hx:bD x=some T) (hy:bz y=some L) (hc:RC T L st) (hN:st.rest.length < N) (hE:bW Tryz.prog cm (bj gX (gZ N))) (hok:(aE T st).1.2=true) (hb:(a8 [124] (aE T st).2).1=true) (hr:(ae T 999 (a8 [124] (aE T st).2).2).1.2.2=false):
 bX Tryz.prog cm 161 [.ptr 0 0] (c8 x y st) (.tuple [(eV T st).1.1.enc,.bool (eV T st).1.2]) (some (db x y st.names (eV T st).2)):=by
 rw[Ac hok,Iw hb hr];have hlx:=bG hx;have hly:=bu hy;have x1:=hlx.refs;have y1:=hly.refs;have g1:=cW hlx hly;have g2:=cV hlx hly;have g3:=cU hlx hly;have g4:=cX hlx hly;have g5:=cZ hlx hly;have g6:=cY hlx hly;have kx:=fun n0 acc r=>bc n0 acc r hlx;have ky:=fun n0 acc r=>bc n0 acc r hly;have rx:=fun n0 ks=>bd n0 ks hlx;have ry:=fun n0 ks=>bd n0 ks hly
 have hlv:=(fw T st).1;have ho:=(fw T st).2 hok;obtain⟨c1,l1⟩:=hc.ok ho;have hl:=nT (rec:=ae T) (st.rest.length+1) [] st hok;change (aE T st).1.1≠[]∧(aE T st).1.1.length≤_ at hl;have hrl:st.rest.length≤100000:=by rw[hc.rest,List.length_drop,fF];have:=hc.lb;omega
 have q1:=iL N hx hy hc hN;rw[hok,if_pos rfl,tq hl.1] at q1;have qa:=k9 [91,93];have q2:=fK hx hy c1 [124];have pos1:=ho.pos;have ho2:=ef hb;obtain⟨c2,l2⟩:=c1.ok ho2;have pos2:=ho2.pos;have hn2:=ez [124] (aE T st).2;rw[hb] at q2;have q3:=da N hx hy c2 999 (by omega);rw[hr,ar] at q3;have hlv3:=(bK T).lv 999 (a8 [124] (aE T st).2).2;have hl3:(aE T st).2.names≠[]→(ae T 999 (a8 [124] (aE T st).2).2).2.names≠[]:=fun h=>hlv3.names (by rw[hn2.1];exact h)
 have ql:=xd (aE T st).1.1 (ae T 999 (a8 [124] (aE T st).2).2).1.1 (by simp at hl;omega);rw[ar,ar (dH _ _)] at ql;have ur:=bN (aE T st).1.1;dsimp only;clear hlv3;generalize (ae T 999 (a8 [124] (aE T st).2).2).2=s3 at *;generalize (ae T 999 (a8 [124] (aE T st).2).2).1.1=t2 at *;generalize (a8 [124] (aE T st).2).2=s2 at *;generalize (aE T st).2=s1 at *;generalize (aE T st).1.1=l at *;have tr:=aN t2;have rr:=aN (dH l t2);clear hl;generalize l.map Tm.enc=U at *;by_cases h0:st.names=[]
 ·by_cases h1:s1.names=[]
  ·by_cases h2:s3.names=[]
   ·rw[bh h0,h0,cH h1] at q1;rw[bh h1,bh (by rw[hn2.1];exact h1),hn2.2] at q2;rw[bh (by rw[hn2.1];exact h1),hn2.1,h1,cH h2,hn2.2] at q3;refine c7 (n:=8) hE hlx hly h0 h2 ?_ (gv _ _) rfl;show (au (bj gX (gZ N)) 8 161 [.ptr 0 0] ⟨1,[.row [x,y,.int .i64 st.at_,.int .i64 st.next,.aw]],1,1⟩).map _=_;rw[ar];generalize dH l t2=r at *;simp[gw,nO,an,gX,gZ,dN,gC,aY,ba,ak,q1,q2,q3,qa,ql,rr,tr,ur,x1,y1,g1,g2,g3,g4,g5,g6,kx,ky,rx,ry,-af,-aq,-ag,-keeps,-cN,aL,aJ,aQ,aK,ay,aB,aP,aO,aM,aA,az,aI]
   ·rw[bh h0,h0,cH h1] at q1;rw[bh h1,bh (by rw[hn2.1];exact h1),hn2.2] at q2;rw[bh (by rw[hn2.1];exact h1),hn2.1,h1,cq h2,hn2.2] at q3;refine dv (n:=8) hE hlx hly 3 (by decide) h0 h2 ?_ (gv _ _) rfl;show (au (bj gX (gZ N)) 8 161 [.ptr 0 0] ⟨1,[.row [x,y,.int .i64 st.at_,.int .i64 st.next,.aw]],1,1⟩).map _=_;rw[ar];generalize dH l t2=r at *;have d1:=aG s3.names;have d2:=aF s3.names;have d3:=ah s3.names;generalize aj s3.names=Fs3 at *;generalize s3.names.length=ns3 at *;simp[gw,nO,an,gX,gZ,dN,gC,aY,ba,ak,q1,q2,q3,qa,ql,rr,tr,ur,d1,d2,d3,x1,y1,g1,g2,g3,g4,g5,g6,kx,ky,rx,ry,-af,-aq,-ag,-keeps,-cN,aL,aJ,aQ,aK,ay,aB,aP,aO,aM,aA,az,aI]
  ·have h2:s3.names≠[]:=hl3 h1;rw[bh h0,h0,cq h1] at q1;rw[bb h1,bb (by rw[hn2.1];exact h1),hn2.1,hn2.2] at q2;rw[bb (by rw[hn2.1];exact h1),hn2.1,dn h1 h2,hn2.2] at q3;refine dv (n:=8) hE hlx hly 4 (by decide) h0 h2 ?_ (gv _ _) rfl;show (au (bj gX (gZ N)) 8 161 [.ptr 0 0] ⟨1,[.row [x,y,.int .i64 st.at_,.int .i64 st.next,.aw]],1,1⟩).map _=_;rw[ar];generalize dH l t2=r at *;have d1:=aG s3.names;have d2:=aF s3.names;have d3:=ah s3.names;generalize aj s3.names=Fs3 at *;generalize s3.names.length=ns3 at *;have e1:=aG s1.names;have e2:=aF s1.names;have e3:=ah s1.names;generalize aj s1.names=Fs1 at *;generalize s1.names.length=ns1 at *;simp[gw,nO,an,gX,gZ,dN,gC,aY,ba,ak,q1,q2,q3,qa,ql,rr,tr,ur,d1,d2,d3,e1,e2,e3,x1,y1,g1,g2,g3,g4,g5,g6,kx,ky,rx,ry,-af,-aq,-ag,-keeps,-cN,aL,aJ,aQ,aK,ay,aB,aP,aO,aM,aA,az,aI]
 ·have h1:s1.names≠[]:=hlv.names h0;have h2:s3.names≠[]:=hl3 h1;rw[bb h0,dn h0 h1] at q1;rw[bb h1,bb (by rw[hn2.1];exact h1),hn2.1,hn2.2] at q2;rw[bb (by rw[hn2.1];exact h1),hn2.1,dn h1 h2,hn2.2] at q3;refine cJ (n:=8) hE hlx hly 5 (by decide) h0 h2 ?_ (gv _ _) rfl;show (au (bj gX (gZ N)) 8 161 [.ptr 0 0] ⟨2,[.row (aj st.names),.row [x,y,.int .i64 st.at_,.int .i64 st.next,.vec 1 0 st.names.length 2 st.names.length]],2,2⟩).map _=_;rw[ar];generalize dH l t2=r at *;have d1:=aG s3.names;have d2:=aF s3.names;have d3:=ah s3.names;generalize aj s3.names=Fs3 at *;generalize s3.names.length=ns3 at *;have e1:=aG s1.names;have e2:=aF s1.names;have e3:=ah s1.names;generalize aj s1.names=Fs1 at *;generalize s1.names.length=ns1 at *;have f1:=aG st.names;have f2:=aF st.names;have f3:=ah st.names;generalize aj st.names=Fst at *;generalize st.names.length=nst at *;simp[gw,nO,an,gX,gZ,dN,gC,aY,ba,ak,q1,q2,q3,qa,ql,rr,tr,ur,d1,d2,d3,e1,e2,e3,f1,f2,f3,x1,y1,g1,g2,g3,g4,g5,g6,kx,ky,rx,ry,-af,-aq,-ag,-keeps,-cN,aL,aJ,aQ,aK,ay,aB,aP,aO,aM,aA,az,aI]
theorem Qy (N:Nat) {x y:AV} {T:List bM} {L:List Tok} {st:St} (hx:bD x=some T) (hy:bz y=some L) (hc:RC T L st) (hN:st.rest.length < N) (hE:bW Tryz.prog cm (bj gX (gZ N))) (hok:(aE T st).1.2=true) (hb:(a8 [124] (aE T st).2).1=true) (hr:(ae T 999 (a8 [124] (aE T st).2).2).1.2.2=true):
 bX Tryz.prog cm 161 [.ptr 0 0] (c8 x y st) (.tuple [(eV T st).1.1.enc,.bool (eV T st).1.2]) (some (db x y st.names (eV T st).2)):=by
 rw[Ac hok,GS hb hr];have hlx:=bG hx;have hly:=bu hy;have x1:=hlx.refs;have y1:=hly.refs;have g1:=cW hlx hly;have g2:=cV hlx hly;have g3:=cU hlx hly;have g4:=cX hlx hly;have g5:=cZ hlx hly;have g6:=cY hlx hly;have kx:=fun n0 acc r=>bc n0 acc r hlx;have ky:=fun n0 acc r=>bc n0 acc r hly;have rx:=fun n0 ks=>bd n0 ks hlx;have ry:=fun n0 ks=>bd n0 ks hly
 have hlv:=(fw T st).1;have ho:=(fw T st).2 hok;obtain⟨c1,l1⟩:=hc.ok ho;have hl:=nT (rec:=ae T) (st.rest.length+1) [] st hok;change (aE T st).1.1≠[]∧(aE T st).1.1.length≤_ at hl;have hrl:st.rest.length≤100000:=by rw[hc.rest,List.length_drop,fF];have:=hc.lb;omega
 have q1:=iL N hx hy hc hN;rw[hok,if_pos rfl,tq hl.1] at q1;have qa:=k9 [91,93];have q2:=fK hx hy c1 [124];have pos1:=ho.pos;have ho2:=ef hb;obtain⟨c2,l2⟩:=c1.ok ho2;have pos2:=ho2.pos;have hn2:=ez [124] (aE T st).2;rw[hb] at q2;have q3:=da N hx hy c2 999 (by omega);rw[hr,ar] at q3;have hlv3:=(bK T).lv 999 (a8 [124] (aE T st).2).2;have hl3:(aE T st).2.names≠[]→(ae T 999 (a8 [124] (aE T st).2).2).2.names≠[]:=fun h=>hlv3.names (by rw[hn2.1];exact h)
 have ql:=xd (aE T st).1.1 (ae T 999 (a8 [124] (aE T st).2).2).1.1 (by simp at hl;omega);rw[ar,ar (dH _ _)] at ql;obtain⟨c3,l3⟩:=c2.ok ((bK T).ok 999 _ hr);have q4:=fK hx hy c3 [93];have hn4:=ez [93] (ae T 999 (a8 [124] (aE T st).2).2).2;have ur:=bN (aE T st).1.1;dsimp only;clear hlv3;generalize (ae T 999 (a8 [124] (aE T st).2).2).2=s3 at *;generalize (ae T 999 (a8 [124] (aE T st).2).2).1.1=t2 at *;generalize (a8 [124] (aE T st).2).2=s2 at *;generalize (aE T st).2=s1 at *;generalize (aE T st).1.1=l at *;have tr:=aN t2;have rr:=aN (dH l t2);clear hl;generalize l.map Tm.enc=U at *;by_cases h0:st.names=[]
 ·by_cases h1:s1.names=[]
  ·by_cases h2:s3.names=[]
   ·rw[bh h0,h0,cH h1] at q1;rw[bh h1,bh (by rw[hn2.1];exact h1),hn2.2] at q2;rw[bh (by rw[hn2.1];exact h1),hn2.1,h1,cH h2,hn2.2] at q3;rw[bh h2,bh (by rw[hn4.1];exact h2),hn4.2] at q4;refine c7 (n:=8) hE hlx hly h0 (by rw[hn4.1];exact h2) ?_ (gv _ _) rfl;show (au (bj gX (gZ N)) 8 161 [.ptr 0 0] ⟨1,[.row [x,y,.int .i64 st.at_,.int .i64 st.next,.aw]],1,1⟩).map _=_;rw[ar,hn4.2];generalize dH l t2=r at *;generalize a8 [93] s3=b4 at *;obtain⟨b4,s4⟩:=b4;simp[gw,nO,an,gX,gZ,dN,gC,aY,ba,ak,q1,q2,q3,qa,ql,rr,tr,ur,q4,x1,y1,g1,g2,g3,g4,g5,g6,kx,ky,rx,ry,-af,-aq,-ag,-keeps,-cN,aL,aJ,aQ,aK,ay,aB,aP,aO,aM,aA,az,aI]
   ·rw[bh h0,h0,cH h1] at q1;rw[bh h1,bh (by rw[hn2.1];exact h1),hn2.2] at q2;rw[bh (by rw[hn2.1];exact h1),hn2.1,h1,cq h2,hn2.2] at q3;rw[bb h2,bb (by rw[hn4.1];exact h2),hn4.1,hn4.2] at q4;refine dv (n:=8) hE hlx hly 3 (by decide) h0 (by rw[hn4.1];exact h2) ?_ (gv _ _) rfl;show (au (bj gX (gZ N)) 8 161 [.ptr 0 0] ⟨1,[.row [x,y,.int .i64 st.at_,.int .i64 st.next,.aw]],1,1⟩).map _=_;rw[ar,hn4.1,hn4.2];generalize dH l t2=r at *;generalize a8 [93] s3=b4 at *;obtain⟨b4,s4⟩:=b4;have d1:=aG s3.names;have d2:=aF s3.names;have d3:=ah s3.names;generalize aj s3.names=Fs3 at *;generalize s3.names.length=ns3 at *;simp[gw,nO,an,gX,gZ,dN,gC,aY,ba,ak,q1,q2,q3,qa,ql,rr,tr,ur,q4,d1,d2,d3,x1,y1,g1,g2,g3,g4,g5,g6,kx,ky,rx,ry,-af,-aq,-ag,-keeps,-cN,aL,aJ,aQ,aK,ay,aB,aP,aO,aM,aA,az,aI]
  ·have h2:s3.names≠[]:=hl3 h1;rw[bh h0,h0,cq h1] at q1;rw[bb h1,bb (by rw[hn2.1];exact h1),hn2.1,hn2.2] at q2;rw[bb (by rw[hn2.1];exact h1),hn2.1,dn h1 h2,hn2.2] at q3;rw[bb h2,bb (by rw[hn4.1];exact h2),hn4.1,hn4.2] at q4;refine dv (n:=8) hE hlx hly 4 (by decide) h0 (by rw[hn4.1];exact h2) ?_ (gv _ _) rfl;show (au (bj gX (gZ N)) 8 161 [.ptr 0 0] ⟨1,[.row [x,y,.int .i64 st.at_,.int .i64 st.next,.aw]],1,1⟩).map _=_;rw[ar,hn4.1,hn4.2];generalize dH l t2=r at *;generalize a8 [93] s3=b4 at *;obtain⟨b4,s4⟩:=b4;have d1:=aG s3.names;have d2:=aF s3.names;have d3:=ah s3.names;generalize aj s3.names=Fs3 at *;generalize s3.names.length=ns3 at *;have e1:=aG s1.names;have e2:=aF s1.names;have e3:=ah s1.names;generalize aj s1.names=Fs1 at *;generalize s1.names.length=ns1 at *;simp[gw,nO,an,gX,gZ,dN,gC,aY,ba,ak,q1,q2,q3,qa,ql,rr,tr,ur,q4,d1,d2,d3,e1,e2,e3,x1,y1,g1,g2,g3,g4,g5,g6,kx,ky,rx,ry,-af,-aq,-ag,-keeps,-cN,aL,aJ,aQ,aK,ay,aB,aP,aO,aM,aA,az,aI]
 ·have h1:s1.names≠[]:=hlv.names h0;have h2:s3.names≠[]:=hl3 h1;rw[bb h0,dn h0 h1] at q1;rw[bb h1,bb (by rw[hn2.1];exact h1),hn2.1,hn2.2] at q2;rw[bb (by rw[hn2.1];exact h1),hn2.1,dn h1 h2,hn2.2] at q3;rw[bb h2,bb (by rw[hn4.1];exact h2),hn4.1,hn4.2] at q4;refine cJ (n:=8) hE hlx hly 5 (by decide) h0 (by rw[hn4.1];exact h2) ?_ (gv _ _) rfl;show (au (bj gX (gZ N)) 8 161 [.ptr 0 0] ⟨2,[.row (aj st.names),.row [x,y,.int .i64 st.at_,.int .i64 st.next,.vec 1 0 st.names.length 2 st.names.length]],2,2⟩).map _=_;rw[ar,hn4.1,hn4.2];generalize dH l t2=r at *;generalize a8 [93] s3=b4 at *;obtain⟨b4,s4⟩:=b4;have d1:=aG s3.names;have d2:=aF s3.names;have d3:=ah s3.names;generalize aj s3.names=Fs3 at *;generalize s3.names.length=ns3 at *;have e1:=aG s1.names;have e2:=aF s1.names;have e3:=ah s1.names;generalize aj s1.names=Fs1 at *;generalize s1.names.length=ns1 at *;have f1:=aG st.names;have f2:=aF st.names;have f3:=ah st.names;generalize aj st.names=Fst at *;generalize st.names.length=nst at *;simp[gw,nO,an,gX,gZ,dN,gC,aY,ba,ak,q1,q2,q3,qa,ql,rr,tr,ur,q4,d1,d2,d3,e1,e2,e3,f1,f2,f3,x1,y1,g1,g2,g3,g4,g5,g6,kx,ky,rx,ry,-af,-aq,-ag,-keeps,-cN,aL,aJ,aQ,aK,ay,aB,aP,aO,aM,aA,az,aI]
noncomputable def pB (N:Nat):bL:=⟨161,fun
 | [.ptr 0 0],os=>(match qh os with
   | some R=>if R.st.rest.length < N then some (.tuple [(eV R.T R.st).1.1.enc,.bool (eV R.T R.st).1.2],some (db R.x R.y R.st.names (eV R.T R.st).2)) else none
   | none=>none)
 | _,_=>none⟩
theorem bA (N:Nat):(pB N).f=161:=(rfl)
theorem Ea (N:Nat) {x y:AV} {T:List bM} {L:List Tok} {st:St} (hx:bD x=some T) (hy:bz y=some L) (h:RC T L st) (hn:st.rest.length < N):
 (pB N).S [.ptr 0 0] (c8 x y st)=some (.tuple [(eV T st).1.1.enc,.bool (eV T st).1.2],some (db x y st.names (eV T st).2)):=by
 simp only[pB,iy hx hy h];rw[if_pos hn]
theorem Dv (N:Nat) (hN:dk Tryz.prog cm (fI N)):dk Tryz.prog cm (pB N):=fun args os v r hv=>by
 unfold pB at hv;dsimp only at hv;split at hv
 ·rename_i os;split at hv
  ·rename_i R hR;split at hv
   ·rename_i hn;cases hv;obtain⟨hx,hy,rfl,h⟩:=gN hR;rw[bA];have hE:bW Tryz.prog cm (bj gX (gZ N)):=eW (by simp[gX,A8.lift,IY.lift]) (by simp[gZ,hN,xk,uM N hN])
    cases hok:(aE R.T R.st).1.2 with
    | false=>exact OL N hx hy h hn hE hok
    | true=>
      cases hb:(a8 [124] (aE R.T R.st).2).1 with
      | false=>exact O6 N hx hy h hn hE hok hb
      | true=>
        cases hr:(ae R.T 999 (a8 [124] (aE R.T R.st).2).2).1.2.2 with
        | false=>exact Qm N hx hy h hn hE hok hb hr
        | true=>exact Qy N hx hy h hn hE hok hb hr
   ·cases hv
  ·cases hv
 ·cases hv
def lx (t:Tok):eS:=⟨t.kind,t.text,t.num,t.gS,false⟩
noncomputable def jP:List aR:=[yA,FE,nI,tJ,rO]
noncomputable def jL (N:Nat):List bL:=[py,fI N]
theorem bn (t:Tm) (n:Int) (b:Bool):(AV.tuple [t.enc,.int .i64 n,.bool b]).refs=0:=by simp[AV.refs,AV.ai,Tm.cT]
theorem gL (t:Tok) (n:Int):AV.ai [t.enc,.int .i64 n]=0:=rfl
theorem dq (t:Tm):t.cp.cells? =some [t.cp]:=by cases t<;>rfl
theorem nB (s:List UInt8) (u:Tm):(cb s [u]).enc=.agg [.int .i64 2,.int .i64 0,.str s,.sl [.agg [.int .i64 u.kind,.int .i64 u.num,.str u.name,u.cp]]]:=by
 rw[←ar];rfl
theorem yk (s:List UInt8) (u v:Tm):(cb s [u,v]).enc=.agg [.int .i64 2,.int .i64 0,.str s,.sl [.agg [.int .i64 u.kind,.int .i64 u.num,.str u.name,u.cp],.agg [.int .i64 v.kind,.int .i64 v.num,.str v.name,v.cp]]]:=by
 rw[←ar,←ar];rfl
theorem gO (s:List UInt8):(hP s).enc=.agg [.int .i64 2,.int .i64 0,.str s,.aw]:=rfl
theorem Mu (N:Nat) {x y:AV} {T:List bM} {L:List Tok} {st:St} (hx:bD x=some T) (hy:bz y=some L) (hc:RC T L st) (hN:st.rest.length < N) (hE:bW Tryz.prog cm (bj jP (jL N))) (t:Tok) (n:Int) (hk:t.kind=2):
 bX Tryz.prog cm 164 [.ptr 0 0,t.enc,.int .i64 n] (c8 x y st) (.tuple [(b9 (ae T) T (lx t) n st).1.1.enc,.int .i64 (b9 (ae T) T (lx t) n st).1.2.1,.bool (b9 (ae T) T (lx t) n st).1.2.2]) (some (db x y st.names (b9 (ae T) T (lx t) n st).2)):=by
 have e:b9 (ae T) T (lx t) n st=((hP t.text,0,true),st):=by unfold b9;exact if_pos hk
 rw[e];have hlx:=bG hx;have hly:=bu hy;have x1:=hlx.refs;have y1:=hly.refs;have g1:=cW hlx hly;have g2:=cV hlx hly;have g3:=cU hlx hly;have g4:=cX hlx hly;have g5:=cZ hlx hly;have g6:=cY hlx hly;have kx:=fun n0 acc r=>bc n0 acc r hlx;have ky:=fun n0 acc r=>bc n0 acc r hly;have rx:=fun n0 ks=>bd n0 ks hlx;have ry:=fun n0 ks=>bd n0 ks hly
 have hfx:=fun h=>hlx.fr h 0 6
 have qa:=k9 t.text;dsimp only;by_cases h0:st.names=[]
 ·refine c7 (n:=8) hE hlx hly h0 h0 ?_ (bn _ _ _) (gL _ _);show (au (bj jP (jL N)) 8 164 [.ptr 0 0,t.enc,.int .i64 n] ⟨1,[.row [x,y,.int .i64 st.at_,.int .i64 st.next,.aw]],1,1⟩).map _=_;rw[bQ];rw[gO];simp[jo,c164,an,jP,jL,dN,eJ,eB,bJ,a6,fo,ak,hfx,qa,hk,x1,y1,g1,g2,g3,g4,g5,g6,kx,ky,rx,ry,-af,-aq,-ag,-keeps,-cN,aL,aJ,aQ,aK,ay,aB,aP,aO,aM,aA,az,aI]
 ·refine cJ (n:=8) hE hlx hly 1 (by decide) h0 h0 ?_ (bn _ _ _) (gL _ _);show (au (bj jP (jL N)) 8 164 [.ptr 0 0,t.enc,.int .i64 n] ⟨2,[.row (aj st.names),.row [x,y,.int .i64 st.at_,.int .i64 st.next,.vec 1 0 st.names.length 2 st.names.length]],2,2⟩).map _=_;rw[bQ];rw[gO];have f1:=aG st.names;have f2:=aF st.names;have f3:=ah st.names;generalize aj st.names=Fst at *;generalize st.names.length=nst at *;simp[jo,c164,an,jP,jL,dN,eJ,eB,bJ,a6,fo,ak,hfx,f1,f2,f3,qa,hk,x1,y1,g1,g2,g3,g4,g5,g6,kx,ky,rx,ry,-af,-aq,-ag,-keeps,-cN,aL,aJ,aQ,aK,ay,aB,aP,aO,aM,aA,az,aI]
theorem M9 (N:Nat) {x y:AV} {T:List bM} {L:List Tok} {st:St} (hx:bD x=some T) (hy:bz y=some L) (hc:RC T L st) (hN:st.rest.length < N) (hE:bW Tryz.prog cm (bj jP (jL N))) (t:Tok) (n:Int) (hk:¬ t.kind=2) (hp:((bZ T t.text true).2&&decide ((bZ T t.text true).1.l≤n)&&fC T st)=false):
 bX Tryz.prog cm 164 [.ptr 0 0,t.enc,.int .i64 n] (c8 x y st) (.tuple [(b9 (ae T) T (lx t) n st).1.1.enc,.int .i64 (b9 (ae T) T (lx t) n st).1.2.1,.bool (b9 (ae T) T (lx t) n st).1.2.2]) (some (db x y st.names (b9 (ae T) T (lx t) n st).2)):=by
 have e:b9 (ae T) T (lx t) n st=((hP t.text,Im T t.text,decide (Im T t.text≤n)),st):=by
  unfold b9;refine (if_neg hk).trans (if_neg ?_);rw[show (lx t).text=t.text from rfl,hp];simp
 rw[e];have hlx:=bG hx;have hly:=bu hy;have x1:=hlx.refs;have y1:=hly.refs;have g1:=cW hlx hly;have g2:=cV hlx hly;have g3:=cU hlx hly;have g4:=cX hlx hly;have g5:=cZ hlx hly;have g6:=cY hlx hly;have kx:=fun n0 acc r=>bc n0 acc r hlx;have ky:=fun n0 acc r=>bc n0 acc r hly;have rx:=fun n0 ks=>bd n0 ks hlx;have ry:=fun n0 ks=>bd n0 ks hly
 have hfx:=fun h=>hlx.fr h 0 6
 have qa:=k9 t.text;have q1:=zr hx t.text (by have:=hc.tb;omega);have q2:=ze hx t.text (by have:=hc.tb;omega);have qb:=wg hx hy hc;simp only[bM.enc,bM.cells] at q1 q2;unfold Im;dsimp only;generalize bZ T t.text false=I at *;obtain⟨⟨i1,i2,i3⟩,i4⟩:=I;generalize bZ T t.text true=P at *;obtain⟨⟨p1,p2,p3⟩,p4⟩:=P;dsimp only at q1 q2 hp ⊢
 have hmx:(if i3 < p3 then p3 else i3)=max i3 p3:=by
  by_cases h:i3 < p3
  ·rw[if_pos h];omega
  ·rw[if_neg h];omega
 generalize fC T st=bg at *
 cases p4 with
 | false=>
   by_cases h0:st.names=[]
   ·refine c7 (n:=8) hE hlx hly h0 h0 ?_ (bn _ _ _) (gL _ _);show (au (bj jP (jL N)) 8 164 [.ptr 0 0,t.enc,.int .i64 n] ⟨1,[.row [x,y,.int .i64 st.at_,.int .i64 st.next,.aw]],1,1⟩).map _=_;rw[bQ];rw[gO];simp[jo,c164,an,jP,jL,dN,eJ,eB,bJ,a6,fo,ak,hfx,qa,q1,q2,hk,mW,hmx,x1,y1,g1,g2,g3,g4,g5,g6,kx,ky,rx,ry,-af,-aq,-ag,-keeps,-cN,aL,aJ,aQ,aK,ay,aB,aP,aO,aM,aA,az,aI]
   ·refine cJ (n:=8) hE hlx hly 1 (by decide) h0 h0 ?_ (bn _ _ _) (gL _ _);show (au (bj jP (jL N)) 8 164 [.ptr 0 0,t.enc,.int .i64 n] ⟨2,[.row (aj st.names),.row [x,y,.int .i64 st.at_,.int .i64 st.next,.vec 1 0 st.names.length 2 st.names.length]],2,2⟩).map _=_;rw[bQ];rw[gO];have f1:=aG st.names;have f2:=aF st.names;have f3:=ah st.names;generalize aj st.names=Fst at *;generalize st.names.length=nst at *;simp[jo,c164,an,jP,jL,dN,eJ,eB,bJ,a6,fo,ak,hfx,f1,f2,f3,qa,q1,q2,hk,mW,hmx,x1,y1,g1,g2,g3,g4,g5,g6,kx,ky,rx,ry,-af,-aq,-ag,-keeps,-cN,aL,aJ,aQ,aK,ay,aB,aP,aO,aM,aA,az,aI]
 | true=>
   by_cases hpn:p3≤n
   ·have hbg:bg=false:=by simpa[hpn] using hp
    rw[hbg] at qb;by_cases h0:st.names=[]
    ·rw[bh h0] at qb;refine c7 (n:=8) hE hlx hly h0 h0 ?_ (bn _ _ _) (gL _ _);show (au (bj jP (jL N)) 8 164 [.ptr 0 0,t.enc,.int .i64 n] ⟨1,[.row [x,y,.int .i64 st.at_,.int .i64 st.next,.aw]],1,1⟩).map _=_;rw[bQ];rw[gO];simp[jo,c164,an,jP,jL,dN,eJ,eB,bJ,a6,fo,ak,hfx,qa,q1,q2,qb,hk,hpn,mW,hmx,x1,y1,g1,g2,g3,g4,g5,g6,kx,ky,rx,ry,-af,-aq,-ag,-keeps,-cN,aL,aJ,aQ,aK,ay,aB,aP,aO,aM,aA,az,aI]
    ·rw[bb h0] at qb;refine cJ (n:=8) hE hlx hly 1 (by decide) h0 h0 ?_ (bn _ _ _) (gL _ _);show (au (bj jP (jL N)) 8 164 [.ptr 0 0,t.enc,.int .i64 n] ⟨2,[.row (aj st.names),.row [x,y,.int .i64 st.at_,.int .i64 st.next,.vec 1 0 st.names.length 2 st.names.length]],2,2⟩).map _=_;rw[bQ];rw[gO];have f1:=aG st.names;have f2:=aF st.names;have f3:=ah st.names;generalize aj st.names=Fst at *;generalize st.names.length=nst at *;simp[jo,c164,an,jP,jL,dN,eJ,eB,bJ,a6,fo,ak,hfx,f1,f2,f3,qa,q1,q2,qb,hk,hpn,mW,hmx,x1,y1,g1,g2,g3,g4,g5,g6,kx,ky,rx,ry,-af,-aq,-ag,-keeps,-cN,aL,aJ,aQ,aK,ay,aB,aP,aO,aM,aA,az,aI]
   ·skip;by_cases h0:st.names=[]
    ·refine c7 (n:=8) hE hlx hly h0 h0 ?_ (bn _ _ _) (gL _ _);show (au (bj jP (jL N)) 8 164 [.ptr 0 0,t.enc,.int .i64 n] ⟨1,[.row [x,y,.int .i64 st.at_,.int .i64 st.next,.aw]],1,1⟩).map _=_;rw[bQ];rw[gO];simp[jo,c164,an,jP,jL,dN,eJ,eB,bJ,a6,fo,ak,hfx,qa,q1,q2,hk,hpn,mW,hmx,x1,y1,g1,g2,g3,g4,g5,g6,kx,ky,rx,ry,-af,-aq,-ag,-keeps,-cN,aL,aJ,aQ,aK,ay,aB,aP,aO,aM,aA,az,aI]
    ·refine cJ (n:=8) hE hlx hly 1 (by decide) h0 h0 ?_ (bn _ _ _) (gL _ _);show (au (bj jP (jL N)) 8 164 [.ptr 0 0,t.enc,.int .i64 n] ⟨2,[.row (aj st.names),.row [x,y,.int .i64 st.at_,.int .i64 st.next,.vec 1 0 st.names.length 2 st.names.length]],2,2⟩).map _=_;rw[bQ];rw[gO];have f1:=aG st.names;have f2:=aF st.names;have f3:=ah st.names;generalize aj st.names=Fst at *;generalize st.names.length=nst at *;simp[jo,c164,an,jP,jL,dN,eJ,eB,bJ,a6,fo,ak,hfx,f1,f2,f3,qa,q1,q2,hk,hpn,mW,hmx,x1,y1,g1,g2,g3,g4,g5,g6,kx,ky,rx,ry,-af,-aq,-ag,-keeps,-cN,aL,aJ,aQ,aK,ay,aB,aP,aO,aM,aA,az,aI]
theorem MY (N:Nat) {x y:AV} {T:List bM} {L:List Tok} {st:St} (hx:bD x=some T) (hy:bz y=some L) (hc:RC T L st) (hN:st.rest.length < N) (hE:bW Tryz.prog cm (bj jP (jL N))) (t:Tok) (n:Int) (hk:¬ t.kind=2) (hp:((bZ T t.text true).2&&decide ((bZ T t.text true).1.l≤n)&&fC T st)=true):
 bX Tryz.prog cm 164 [.ptr 0 0,t.enc,.int .i64 n] (c8 x y st) (.tuple [(b9 (ae T) T (lx t) n st).1.1.enc,.int .i64 (b9 (ae T) T (lx t) n st).1.2.1,.bool (b9 (ae T) T (lx t) n st).1.2.2]) (some (db x y st.names (b9 (ae T) T (lx t) n st).2)):=by
 have e:b9 (ae T) T (lx t) n st=((cb t.text [(ae T (a7 (bZ T t.text true).1).2 st).1.1],(bZ T t.text true).1.l,(ae T (a7 (bZ T t.text true).1).2 st).1.2.2),(ae T (a7 (bZ T t.text true).1).2 st).2):=by
  unfold b9;exact (if_neg hk).trans (if_pos hp)
 rw[e];have hlx:=bG hx;have hly:=bu hy;have x1:=hlx.refs;have y1:=hly.refs;have g1:=cW hlx hly;have g2:=cV hlx hly;have g3:=cU hlx hly;have g4:=cX hlx hly;have g5:=cZ hlx hly;have g6:=cY hlx hly;have kx:=fun n0 acc r=>bc n0 acc r hlx;have ky:=fun n0 acc r=>bc n0 acc r hly;have rx:=fun n0 ks=>bd n0 ks hlx;have ry:=fun n0 ks=>bd n0 ks hly
 have hfx:=fun h=>hlx.fr h 0 6
 have qa:=k9 t.text;have q1:=zr hx t.text (by have:=hc.tb;omega);have q2:=ze hx t.text (by have:=hc.tb;omega);have qb:=wg hx hy hc;simp only[bM.enc,bM.cells] at q1 q2;have hlv:=(bK T).lv (a7 (bZ T t.text true).1).2 st;have q3:=jR (bZ T t.text true).1 ⟨(ua T t.text true).1,(ua T t.text true).2⟩;have q4:=da N hx hy hc (a7 (bZ T t.text true).1).2 hN;simp only[Bool.and_eq_true,decide_eq_true_eq] at hp;obtain⟨⟨hp1,hp2⟩,hp3⟩:=hp;rw[hp3] at qb;have hl1:st.names≠[]→(ae T (a7 (bZ T t.text true).1).2 st).2.names≠[]:=hlv.names;have qc:=iq t.text [(ae T (a7 (bZ T t.text true).1).2 st).1.1] (by simp);rw[nB,List.map_cons,List.map_nil,ar] at qc;rw[ar] at q4;dsimp only;clear hlv;generalize (ae T (a7 (bZ T t.text true).1).2 st).1.2.1=lv at *;generalize (ae T (a7 (bZ T t.text true).1).2 st).1.2.2=ok at *;generalize (ae T (a7 (bZ T t.text true).1).2 st).1.1=u at *;generalize (ae T (a7 (bZ T t.text true).1).2 st).2=s1 at *;generalize bZ T t.text true=P at *;obtain⟨⟨p1,p2,p3⟩,p4⟩:=P;dsimp only at q2 q3 q4 hp1 hp2 ⊢;subst hp1;generalize a7 ⟨p1,p2,p3⟩=sd at *;obtain⟨sd1,sd2⟩:=sd;dsimp only at q3 q4;have ur:=aN u;have uc:=dq u;by_cases h0:st.names=[]
 ·by_cases h1:s1.names=[]
  ·rw[bh h0,h0,cH h1] at q4;rw[bh h0] at qb;refine c7 (n:=8) hE hlx hly h0 h1 ?_ (bn _ _ _) (gL _ _);show (au (bj jP (jL N)) 8 164 [.ptr 0 0,t.enc,.int .i64 n] ⟨1,[.row [x,y,.int .i64 st.at_,.int .i64 st.next,.aw]],1,1⟩).map _=_;rw[nB,bQ];simp[jo,c164,an,jP,jL,dN,eJ,eB,bJ,a6,fo,ak,hfx,qa,q2,qb,q3,q4,qc,hk,hp2,ur,uc,aS,x1,y1,g1,g2,g3,g4,g5,g6,kx,ky,rx,ry,-af,-aq,-ag,-keeps,-cN,aL,aJ,aQ,aK,ay,aB,aP,aO,aM,aA,az,aI]
  ·rw[bh h0,h0,cq h1] at q4;rw[bh h0] at qb;refine dv (n:=8) hE hlx hly 4 (by decide) h0 h1 ?_ (bn _ _ _) (gL _ _);show (au (bj jP (jL N)) 8 164 [.ptr 0 0,t.enc,.int .i64 n] ⟨1,[.row [x,y,.int .i64 st.at_,.int .i64 st.next,.aw]],1,1⟩).map _=_;rw[nB,bQ];have e1:=aG s1.names;have e2:=aF s1.names;have e3:=ah s1.names;generalize aj s1.names=Fs1 at *;generalize s1.names.length=ns1 at *;simp[jo,c164,an,jP,jL,dN,eJ,eB,bJ,a6,fo,ak,hfx,qa,q2,qb,q3,q4,qc,hk,hp2,ur,uc,aS,e1,e2,e3,x1,y1,g1,g2,g3,g4,g5,g6,kx,ky,rx,ry,-af,-aq,-ag,-keeps,-cN,aL,aJ,aQ,aK,ay,aB,aP,aO,aM,aA,az,aI]
 ·have h1:=hl1 h0;rw[bb h0,dn h0 h1] at q4;rw[bb h0] at qb;refine cJ (n:=8) hE hlx hly 5 (by decide) h0 h1 ?_ (bn _ _ _) (gL _ _);show (au (bj jP (jL N)) 8 164 [.ptr 0 0,t.enc,.int .i64 n] ⟨2,[.row (aj st.names),.row [x,y,.int .i64 st.at_,.int .i64 st.next,.vec 1 0 st.names.length 2 st.names.length]],2,2⟩).map _=_;rw[nB,bQ];have e1:=aG s1.names;have e2:=aF s1.names;have e3:=ah s1.names;generalize aj s1.names=Fs1 at *;generalize s1.names.length=ns1 at *;have f1:=aG st.names;have f2:=aF st.names;have f3:=ah st.names;generalize aj st.names=Fst at *;generalize st.names.length=nst at *;simp[jo,c164,an,jP,jL,dN,eJ,eB,bJ,a6,fo,ak,hfx,qa,q2,qb,q3,q4,qc,hk,hp2,ur,uc,aS,e1,e2,e3,f1,f2,f3,x1,y1,g1,g2,g3,g4,g5,g6,kx,ky,rx,ry,-af,-aq,-ag,-keeps,-cN,aL,aJ,aQ,aK,ay,aB,aP,aO,aM,aA,az,aI]
noncomputable def pk (N:Nat):bL:=⟨164,fun
 | [.ptr 0 0,w,.int .i64 n],os=>(match qh os,ri w with
   | some R,some t=>if R.st.rest.length < N then some (.tuple [(b9 (ae R.T) R.T (lx t) n R.st).1.1.enc,.int .i64 (b9 (ae R.T) R.T (lx t) n R.st).1.2.1,.bool (b9 (ae R.T) R.T (lx t) n R.st).1.2.2],some (db R.x R.y R.st.names (b9 (ae R.T) R.T (lx t) n R.st).2)) else none
   | _,_=>none)
 | _,_=>none⟩
theorem bB (N:Nat):(pk N).f=164:=(rfl)
theorem nc (N:Nat) {x y:AV} {T:List bM} {L:List Tok} {st:St} (hx:bD x=some T) (hy:bz y=some L) (h:RC T L st) (hn:st.rest.length < N) (t:Tok) (n:Int):
 (pk N).S [.ptr 0 0,t.enc,.int .i64 n] (c8 x y st)=some (.tuple [(b9 (ae T) T (lx t) n st).1.1.enc,.int .i64 (b9 (ae T) T (lx t) n st).1.2.1,.bool (b9 (ae T) T (lx t) n st).1.2.2],some (db x y st.names (b9 (ae T) T (lx t) n st).2)):=by
 simp only[pk,iy hx hy h,yv];rw[if_pos hn]
theorem CY (N:Nat) (hN:dk Tryz.prog cm (fI N)):dk Tryz.prog cm (pk N):=fun args os v r hv=>by
 unfold pk at hv;dsimp only at hv;split at hv
 ·rename_i os w n;split at hv
  ·rename_i R t hR ht;split at hv
   ·rename_i hn;cases hv;obtain⟨hx,hy,rfl,h⟩:=gN hR;rw[bB,rB ht];have hE:bW Tryz.prog cm (bj jP (jL N)):=eW (by simp[jP,A8.lift,CD.lift,Fc.lift,yO.lift,rL.lift]) (by simp[jL,hN,C2]);by_cases hk:t.kind=2
    ·exact Mu N hx hy h hn hE t _ hk
    ·cases hp:((bZ R.T t.text true).2&&decide ((bZ R.T t.text true).1.l≤_)&&fC R.T R.st) with
     | false=>exact M9 N hx hy h hn hE t _ hk hp
     | true=>exact MY N hx hy h hn hE t _ hk hp
   ·cases hv
  ·cases hv
 ·cases hv
theorem Ax (k:Nat) (rec:Int→St→PR×St):Tb k rec rec:=fun _ _ _=>rfl
theorem Cm {T:List bM} {M:Nat} {st:St} (h:st.rest.length < M):br (ae T) M [] st=aE T st:=sh (bK T) (Ax (st.rest.length+1) _) M _ [] st (by omega) h (by omega)
theorem LZ {T:List bM} {M:Nat} {st:St} (h:st.rest.length < M):gd (ae T) M st=eV T st:=Fl (bK T) (Ax (st.rest.length+1) _) M _ st (by omega) h (by omega)
def bo (T:List bM) (n:Int) (st:St):PR×St:=dI (ae T) T (st.rest.length+1) n st
theorem Pz {st:St}:(ax st).rest.length < st.rest.length+1:=by rw[cD];omega
theorem dO {x y:AV} {st:St} (h:st.names=[]):c8 x y (ax st)=[.row [x,y,.int .i64 ((st.at_:Int)+1),.int .i64 st.next,.aw]]:=bh (st:=ax st) h
theorem fM {x y:AV} {st:St} (h:st.names≠[]):c8 x y (ax st)=[.row [x,y,.int .i64 ((st.at_:Int)+1),.int .i64 st.next,.vec 1 0 st.names.length 2 st.names.length],.row (aj st.names)]:=bb (st:=ax st) h
theorem ig (st:St):((ax st).at_:Int)=(st.at_:Int)+1:=rfl
theorem ic (st:St):(ax st).next=st.next:=rfl
theorem ib (st:St):(ax st).names=st.names:=rfl
mutual
theorem KS:∀a:AV,a.Am a=true
 | .undef=>rfl
 | .bool a=>by simp[AV.Am]
 | .int k n=>by simp[AV.Am]
 | .str a=>by simp[AV.Am]
 | .jr=>rfl
 | .ptr i o=>by simp[AV.Am]
 | .ip a=>by rw[AV.Am];exact ni a
 | .aw=>rfl
 | .sl a=>by rw[AV.Am];exact ni a
 | .vec i o l s b=>by simp[AV.Am]
 | .iC=>rfl
 | .map i=>by simp[AV.Am]
 | .fQ=>rfl
 | .fn f a=>by simp[AV.Am,ni a]
 | .jt=>rfl
 | .iface t a=>by simp[AV.Am,KS a]
 | .agg a=>by rw[AV.Am];exact ni a
 | .tuple a=>by rw[AV.Am];exact ni a
theorem ni:∀l:List AV,AV.tg l l=true
 | []=>rfl
 | a::r=>by simp[AV.tg,KS a,ni r]
end
theorem aV (l:List AV):F3 (some (.row l)) (some (.row l))=true:=ni l
noncomputable def ch:List aR:=[IE,l6,rO]
noncomputable def cg (N:Nat):List bL:=[pG,Gy,fI N,uP,pB N,kY N,pk N]
theorem pb (n:Int):(Tm.nl 1 n []).enc=.agg [.int .i64 1,.int .i64 n,.str [],.aw]:=rfl
theorem fg:sW.enc=.agg [.int .i64 0,.int .i64 0,.str [],.aw]:=rfl
theorem KI (N:Nat) {x y:AV} {T:List bM} {L:List Tok} {st:St} (hx:bD x=some T) (hy:bz y=some L) (hc:RC T L st) (hN:st.rest.length≤N) (hE:bW Tryz.prog cm (bj ch (cg N))) (n:Int) (k4:(bm L st).kind=4):
 bX Tryz.prog cm 120 [.ptr 0 0,.int .i64 n] (c8 x y st) (.tuple [(bo T n st).1.1.enc,.int .i64 (bo T n st).1.2.1,.bool (bo T n st).1.2.2]) (some (db x y st.names (bo T n st).2)):=by
 have ks:(aH st).kind=(bm L st).kind:=by rw[bp hc]
 have ts:(aH st).text=(bm L st).text:=by rw[bp hc]
 have us:(aH st).num=(bm L st).num:=by rw[bp hc]
 have os:(aH st).gS=(bm L st).gS:=by rw[bp hc]
 have e:bo T n st=((.nl 1 (bm L st).num [],0,true),ax st):=by
  unfold bo dI;rw[if_pos (ks.trans k4),us]
 rw[e];have hlx:=bG hx;have hly:=bu hy;have x1:=hlx.refs;have y1:=hly.refs;have g1:=cW hlx hly;have g2:=cV hlx hly;have g3:=cU hlx hly;have g4:=cX hlx hly;have g5:=cZ hlx hly;have g6:=cY hlx hly;have kx:=fun n0 acc r=>bc n0 acc r hlx;have ky:=fun n0 acc r=>bc n0 acc r hly;have rx:=fun n0 ks=>bd n0 ks hlx;have ry:=fun n0 ks=>bd n0 ks hly
 have q0:=dc hx hy hc;rw[bQ] at q0;have qn:=eh (bm L st);have w1:=wrap_i64 (n:=(st.at_:Int)+1) (by omega) (by have:=hc.le;have:=hc.lb;omega);have qi:=FH (bm L st).num;rw[k4] at q0;dsimp only;by_cases h0:st.names=[]
 ·rw[bh h0] at q0;refine c7 (n:=8) hE hlx hly h0 h0 ?_ (bn _ _ _) rfl;show (au (bj ch (cg N)) 8 120 [.ptr 0 0,.int .i64 n] ⟨1,[.row [x,y,.int .i64 st.at_,.int .i64 st.next,.aw]],1,1⟩).map _=_;rw[pb];simp only[ig,ic,ib];simp[aV,ca,ff,an,ch,cg,cO,bw,a6,aX,cL,ak,ba,bA,aY,bB,w1,q0,qi,x1,y1,g1,g2,g3,g4,g5,g6,kx,ky,rx,ry,-af,-aq,-ag,-keeps,-cN,aL,aJ,aQ,aK,ay,aB,aP,aO,aM,aA,az,aI]
 ·rw[bb h0] at q0;refine cJ (n:=8) hE hlx hly 1 (by decide) h0 h0 ?_ (bn _ _ _) rfl;show (au (bj ch (cg N)) 8 120 [.ptr 0 0,.int .i64 n] ⟨2,[.row (aj st.names),.row [x,y,.int .i64 st.at_,.int .i64 st.next,.vec 1 0 st.names.length 2 st.names.length]],2,2⟩).map _=_;rw[pb];simp only[ig,ic,ib];have f1:=aG st.names;have f2:=aF st.names;have f3:=ah st.names;generalize aj st.names=Fst at *;generalize st.names.length=nst at *;simp[aV,ca,ff,an,ch,cg,cO,bw,a6,aX,cL,ak,ba,bA,aY,bB,w1,f1,f2,f3,q0,qi,x1,y1,g1,g2,g3,g4,g5,g6,kx,ky,rx,ry,-af,-aq,-ag,-keeps,-cN,aL,aJ,aQ,aK,ay,aB,aP,aO,aM,aA,az,aI]
theorem J8 (N:Nat) {x y:AV} {T:List bM} {L:List Tok} {st:St} (hx:bD x=some T) (hy:bz y=some L) (hc:RC T L st) (hN:st.rest.length≤N) (hE:bW Tryz.prog cm (bj ch (cg N))) (n:Int) (k3:(bm L st).kind=3):
 bX Tryz.prog cm 120 [.ptr 0 0,.int .i64 n] (c8 x y st) (.tuple [(bo T n st).1.1.enc,.int .i64 (bo T n st).1.2.1,.bool (bo T n st).1.2.2]) (some (db x y st.names (bo T n st).2)):=by
 have ks:(aH st).kind=(bm L st).kind:=by rw[bp hc]
 have ts:(aH st).text=(bm L st).text:=by rw[bp hc]
 have us:(aH st).num=(bm L st).num:=by rw[bp hc]
 have os:(aH st).gS=(bm L st).gS:=by rw[bp hc]
 have e:bo T n st=(((iS (bm L st).text (ax st)).1,0,true),(iS (bm L st).text (ax st)).2):=by
  unfold bo dI;rw[if_neg (by rw[ks,k3];decide),if_pos (ks.trans k3),ts]
 rw[e];have hlx:=bG hx;have hly:=bu hy;have x1:=hlx.refs;have y1:=hly.refs;have g1:=cW hlx hly;have g2:=cV hlx hly;have g3:=cU hlx hly;have g4:=cX hlx hly;have g5:=cZ hlx hly;have g6:=cY hlx hly;have kx:=fun n0 acc r=>bc n0 acc r hlx;have ky:=fun n0 acc r=>bc n0 acc r hly;have rx:=fun n0 ks=>bd n0 ks hlx;have ry:=fun n0 ks=>bd n0 ks hly
 have q0:=dc hx hy hc;rw[bQ] at q0;have qn:=eh (bm L st);have w1:=wrap_i64 (n:=(st.at_:Int)+1) (by omega) (by have:=hc.le;have:=hc.lb;omega);have c1:=hc.xu (by have:=eE hc (by rw[ks,k3];decide);omega);have qv:=Lp hx hy c1 (bm L st).text;have hlv:st.names≠[]→(iS (bm L st).text (ax st)).2.names≠[]:=(CG (bm L st).text (ax st)).names;rw[show (ax st).names=st.names from rfl,ar] at qv;rw[k3] at q0;dsimp only;have ur:=aN (iS (bm L st).text (ax st)).1;generalize (iS (bm L st).text (ax st)).2=s1 at *;generalize (iS (bm L st).text (ax st)).1=u at *;by_cases h0:st.names=[]
 ·by_cases h1:s1.names=[]
  ·rw[bh h0] at q0;rw[dO h0,h0,cH h1] at qv;refine c7 (n:=8) hE hlx hly h0 h1 ?_ (bn _ _ _) rfl;show (au (bj ch (cg N)) 8 120 [.ptr 0 0,.int .i64 n] ⟨1,[.row [x,y,.int .i64 st.at_,.int .i64 st.next,.aw]],1,1⟩).map _=_;rw[ar];simp[aV,ca,ff,an,ch,cg,cO,bw,a6,aX,cL,ak,ba,bA,aY,bB,w1,q0,qv,ur,x1,y1,g1,g2,g3,g4,g5,g6,kx,ky,rx,ry,-af,-aq,-ag,-keeps,-cN,aL,aJ,aQ,aK,ay,aB,aP,aO,aM,aA,az,aI]
  ·rw[bh h0] at q0;rw[dO h0,h0,cq h1] at qv;refine dv (n:=8) hE hlx hly 3 (by decide) h0 h1 ?_ (bn _ _ _) rfl;show (au (bj ch (cg N)) 8 120 [.ptr 0 0,.int .i64 n] ⟨1,[.row [x,y,.int .i64 st.at_,.int .i64 st.next,.aw]],1,1⟩).map _=_;rw[ar];have e1:=aG s1.names;have e2:=aF s1.names;have e3:=ah s1.names;generalize aj s1.names=Fs1 at *;generalize s1.names.length=ns1 at *;simp[aV,ca,ff,an,ch,cg,cO,bw,a6,aX,cL,ak,ba,bA,aY,bB,w1,q0,qv,ur,e1,e2,e3,x1,y1,g1,g2,g3,g4,g5,g6,kx,ky,rx,ry,-af,-aq,-ag,-keeps,-cN,aL,aJ,aQ,aK,ay,aB,aP,aO,aM,aA,az,aI]
 ·have h1:=hlv h0;rw[bb h0] at q0;rw[fM h0,dn h0 h1] at qv;refine cJ (n:=8) hE hlx hly 4 (by decide) h0 h1 ?_ (bn _ _ _) rfl;show (au (bj ch (cg N)) 8 120 [.ptr 0 0,.int .i64 n] ⟨2,[.row (aj st.names),.row [x,y,.int .i64 st.at_,.int .i64 st.next,.vec 1 0 st.names.length 2 st.names.length]],2,2⟩).map _=_;rw[ar];have e1:=aG s1.names;have e2:=aF s1.names;have e3:=ah s1.names;generalize aj s1.names=Fs1 at *;generalize s1.names.length=ns1 at *;have f1:=aG st.names;have f2:=aF st.names;have f3:=ah st.names;generalize aj st.names=Fst at *;generalize st.names.length=nst at *;simp[aV,ca,ff,an,ch,cg,cO,bw,a6,aX,cL,ak,ba,bA,aY,bB,w1,q0,qv,ur,e1,e2,e3,f1,f2,f3,x1,y1,g1,g2,g3,g4,g5,g6,kx,ky,rx,ry,-af,-aq,-ag,-keeps,-cN,aL,aJ,aQ,aK,ay,aB,aP,aO,aM,aA,az,aI]
theorem Eu (N:Nat) {x y:AV} {T:List bM} {L:List Tok} {st:St} (hx:bD x=some T) (hy:bz y=some L) (hc:RC T L st) (hN:st.rest.length≤N) (hE:bW Tryz.prog cm (bj ch (cg N))) (n:Int) (k5:(bm L st).kind=5) (k5t:(bm L st).text=[40]) (hok:(ae T 1200 (ax st)).1.2.2=false):
 bX Tryz.prog cm 120 [.ptr 0 0,.int .i64 n] (c8 x y st) (.tuple [(bo T n st).1.1.enc,.int .i64 (bo T n st).1.2.1,.bool (bo T n st).1.2.2]) (some (db x y st.names (bo T n st).2)):=by
 have ks:(aH st).kind=(bm L st).kind:=by rw[bp hc]
 have ts:(aH st).text=(bm L st).text:=by rw[bp hc]
 have us:(aH st).num=(bm L st).num:=by rw[bp hc]
 have os:(aH st).gS=(bm L st).gS:=by rw[bp hc]
 have e:bo T n st=(((ae T 1200 (ax st)).1.1,0,false),(ae T 1200 (ax st)).2):=by
  unfold bo dI;rw[if_neg (by rw[ks,k5];decide),if_neg (by rw[ks,k5];decide)];rw[if_pos ⟨ks.trans k5,ts.trans k5t⟩];unfold eH;rw[hok];exact if_neg (by simp)
 rw[e];have hlx:=bG hx;have hly:=bu hy;have x1:=hlx.refs;have y1:=hly.refs;have g1:=cW hlx hly;have g2:=cV hlx hly;have g3:=cU hlx hly;have g4:=cX hlx hly;have g5:=cZ hlx hly;have g6:=cY hlx hly;have kx:=fun n0 acc r=>bc n0 acc r hlx;have ky:=fun n0 acc r=>bc n0 acc r hly;have rx:=fun n0 ks=>bd n0 ks hlx;have ry:=fun n0 ks=>bd n0 ks hly
 have q0:=dc hx hy hc;rw[bQ] at q0;have qn:=eh (bm L st);have w1:=wrap_i64 (n:=(st.at_:Int)+1) (by omega) (by have:=hc.le;have:=hc.lb;omega);have hat:=eE hc (by rw[ks,k5];decide);have c1:=hc.xu (by omega);have hl:=cD st;have hp:=bH (st:=st) (by rw[ks,k5];decide);have qt:=da N hx hy c1 1200 (by omega);rw[hok,show (ax st).names=st.names from rfl,ar] at qt;have hlv:st.names≠[]→(ae T 1200 (ax st)).2.names≠[]:=((bK T).lv 1200 (ax st)).names;have ur:=aN (ae T 1200 (ax st)).1.1;have uc:=dq (ae T 1200 (ax st)).1.1;rw[k5,k5t] at q0;dsimp only;generalize (ae T 1200 (ax st)).2=s1 at *;generalize (ae T 1200 (ax st)).1.1=u at *;generalize (ae T 1200 (ax st)).1.2.1=lv at *;by_cases h0:st.names=[]
 ·by_cases h1:s1.names=[]
  ·rw[bh h0] at q0;rw[dO h0,h0,cH h1] at qt;refine c7 (n:=8) hE hlx hly h0 h1 ?_ (bn _ _ _) rfl;show (au (bj ch (cg N)) 8 120 [.ptr 0 0,.int .i64 n] ⟨1,[.row [x,y,.int .i64 st.at_,.int .i64 st.next,.aw]],1,1⟩).map _=_;rw[ar];simp[aV,ca,ff,an,ch,cg,cO,bw,a6,aX,cL,ak,ba,bA,aY,bB,w1,q0,qt,ur,uc,aS,x1,y1,g1,g2,g3,g4,g5,g6,kx,ky,rx,ry,-af,-aq,-ag,-keeps,-cN,aL,aJ,aQ,aK,ay,aB,aP,aO,aM,aA,az,aI]
  ·rw[bh h0] at q0;rw[dO h0,h0,cq h1] at qt;refine dv (n:=8) hE hlx hly 3 (by decide) h0 h1 ?_ (bn _ _ _) rfl;show (au (bj ch (cg N)) 8 120 [.ptr 0 0,.int .i64 n] ⟨1,[.row [x,y,.int .i64 st.at_,.int .i64 st.next,.aw]],1,1⟩).map _=_;rw[ar];have e1:=aG s1.names;have e2:=aF s1.names;have e3:=ah s1.names;generalize aj s1.names=Fs1 at *;generalize s1.names.length=ns1 at *;simp[aV,ca,ff,an,ch,cg,cO,bw,a6,aX,cL,ak,ba,bA,aY,bB,w1,q0,qt,ur,uc,aS,e1,e2,e3,x1,y1,g1,g2,g3,g4,g5,g6,kx,ky,rx,ry,-af,-aq,-ag,-keeps,-cN,aL,aJ,aQ,aK,ay,aB,aP,aO,aM,aA,az,aI]
 ·have h1:=hlv h0;rw[bb h0] at q0;rw[fM h0,dn h0 h1] at qt;refine cJ (n:=8) hE hlx hly 4 (by decide) h0 h1 ?_ (bn _ _ _) rfl;show (au (bj ch (cg N)) 8 120 [.ptr 0 0,.int .i64 n] ⟨2,[.row (aj st.names),.row [x,y,.int .i64 st.at_,.int .i64 st.next,.vec 1 0 st.names.length 2 st.names.length]],2,2⟩).map _=_;rw[ar];have e1:=aG s1.names;have e2:=aF s1.names;have e3:=ah s1.names;generalize aj s1.names=Fs1 at *;generalize s1.names.length=ns1 at *;have f1:=aG st.names;have f2:=aF st.names;have f3:=ah st.names;generalize aj st.names=Fst at *;generalize st.names.length=nst at *;simp[aV,ca,ff,an,ch,cg,cO,bw,a6,aX,cL,ak,ba,bA,aY,bB,w1,q0,qt,ur,uc,aS,e1,e2,e3,f1,f2,f3,x1,y1,g1,g2,g3,g4,g5,g6,kx,ky,rx,ry,-af,-aq,-ag,-keeps,-cN,aL,aJ,aQ,aK,ay,aB,aP,aO,aM,aA,az,aI]
theorem Ep (N:Nat) {x y:AV} {T:List bM} {L:List Tok} {st:St} (hx:bD x=some T) (hy:bz y=some L) (hc:RC T L st) (hN:st.rest.length≤N) (hE:bW Tryz.prog cm (bj ch (cg N))) (n:Int) (k5:(bm L st).kind=5) (k5t:(bm L st).text=[40]) (hok:(ae T 1200 (ax st)).1.2.2=true):
 bX Tryz.prog cm 120 [.ptr 0 0,.int .i64 n] (c8 x y st) (.tuple [(bo T n st).1.1.enc,.int .i64 (bo T n st).1.2.1,.bool (bo T n st).1.2.2]) (some (db x y st.names (bo T n st).2)):=by
 have ks:(aH st).kind=(bm L st).kind:=by rw[bp hc]
 have ts:(aH st).text=(bm L st).text:=by rw[bp hc]
 have us:(aH st).num=(bm L st).num:=by rw[bp hc]
 have os:(aH st).gS=(bm L st).gS:=by rw[bp hc]
 have e:bo T n st=(((ae T 1200 (ax st)).1.1,0,(a8 [41] (ae T 1200 (ax st)).2).1),(a8 [41] (ae T 1200 (ax st)).2).2):=by
  unfold bo dI;rw[if_neg (by rw[ks,k5];decide),if_neg (by rw[ks,k5];decide)];rw[if_pos ⟨ks.trans k5,ts.trans k5t⟩];unfold eH;rw[hok];exact if_pos rfl
 rw[e];have hlx:=bG hx;have hly:=bu hy;have x1:=hlx.refs;have y1:=hly.refs;have g1:=cW hlx hly;have g2:=cV hlx hly;have g3:=cU hlx hly;have g4:=cX hlx hly;have g5:=cZ hlx hly;have g6:=cY hlx hly;have kx:=fun n0 acc r=>bc n0 acc r hlx;have ky:=fun n0 acc r=>bc n0 acc r hly;have rx:=fun n0 ks=>bd n0 ks hlx;have ry:=fun n0 ks=>bd n0 ks hly
 have q0:=dc hx hy hc;rw[bQ] at q0;have qn:=eh (bm L st);have w1:=wrap_i64 (n:=(st.at_:Int)+1) (by omega) (by have:=hc.le;have:=hc.lb;omega);have hat:=eE hc (by rw[ks,k5];decide);have c1:=hc.xu (by omega);have hl:=cD st;have hp:=bH (st:=st) (by rw[ks,k5];decide);have qt:=da N hx hy c1 1200 (by omega);rw[hok,show (ax st).names=st.names from rfl,ar] at qt;have hlv:st.names≠[]→(ae T 1200 (ax st)).2.names≠[]:=((bK T).lv 1200 (ax st)).names;have ur:=aN (ae T 1200 (ax st)).1.1;have uc:=dq (ae T 1200 (ax st)).1.1;rw[k5,k5t] at q0;obtain⟨c2,_⟩:=c1.ok ((bK T).ok 1200 (ax st) hok);have qk:=fK hx hy c2 [41];have hn4:=ez [41] (ae T 1200 (ax st)).2;dsimp only;generalize (ae T 1200 (ax st)).2=s1 at *;generalize (ae T 1200 (ax st)).1.1=u at *;generalize (ae T 1200 (ax st)).1.2.1=lv at *;by_cases h0:st.names=[]
 ·by_cases h1:s1.names=[]
  ·rw[bh h0] at q0;rw[dO h0,h0,cH h1] at qt;rw[bh h1,bh (by rw[hn4.1];exact h1),hn4.2] at qk;refine c7 (n:=8) hE hlx hly h0 (by rw[hn4.1];exact h1) ?_ (bn _ _ _) rfl;show (au (bj ch (cg N)) 8 120 [.ptr 0 0,.int .i64 n] ⟨1,[.row [x,y,.int .i64 st.at_,.int .i64 st.next,.aw]],1,1⟩).map _=_;rw[ar,hn4.2];generalize a8 [41] s1=b4 at *;obtain⟨b4,s4⟩:=b4;simp[aV,ca,ff,an,ch,cg,cO,bw,a6,aX,cL,ak,ba,bA,aY,bB,w1,q0,qt,ur,uc,aS,qk,x1,y1,g1,g2,g3,g4,g5,g6,kx,ky,rx,ry,-af,-aq,-ag,-keeps,-cN,aL,aJ,aQ,aK,ay,aB,aP,aO,aM,aA,az,aI]
  ·rw[bh h0] at q0;rw[dO h0,h0,cq h1] at qt;rw[bb h1,bb (by rw[hn4.1];exact h1),hn4.1,hn4.2] at qk;refine dv (n:=8) hE hlx hly 3 (by decide) h0 (by rw[hn4.1];exact h1) ?_ (bn _ _ _) rfl;show (au (bj ch (cg N)) 8 120 [.ptr 0 0,.int .i64 n] ⟨1,[.row [x,y,.int .i64 st.at_,.int .i64 st.next,.aw]],1,1⟩).map _=_;rw[ar,hn4.1,hn4.2];generalize a8 [41] s1=b4 at *;obtain⟨b4,s4⟩:=b4;have e1:=aG s1.names;have e2:=aF s1.names;have e3:=ah s1.names;generalize aj s1.names=Fs1 at *;generalize s1.names.length=ns1 at *;simp[aV,ca,ff,an,ch,cg,cO,bw,a6,aX,cL,ak,ba,bA,aY,bB,w1,q0,qt,ur,uc,aS,qk,e1,e2,e3,x1,y1,g1,g2,g3,g4,g5,g6,kx,ky,rx,ry,-af,-aq,-ag,-keeps,-cN,aL,aJ,aQ,aK,ay,aB,aP,aO,aM,aA,az,aI]
 ·have h1:=hlv h0;rw[bb h0] at q0;rw[fM h0,dn h0 h1] at qt;rw[bb h1,bb (by rw[hn4.1];exact h1),hn4.1,hn4.2] at qk;refine cJ (n:=8) hE hlx hly 4 (by decide) h0 (by rw[hn4.1];exact h1) ?_ (bn _ _ _) rfl;show (au (bj ch (cg N)) 8 120 [.ptr 0 0,.int .i64 n] ⟨2,[.row (aj st.names),.row [x,y,.int .i64 st.at_,.int .i64 st.next,.vec 1 0 st.names.length 2 st.names.length]],2,2⟩).map _=_;rw[ar,hn4.1,hn4.2];generalize a8 [41] s1=b4 at *;obtain⟨b4,s4⟩:=b4;have e1:=aG s1.names;have e2:=aF s1.names;have e3:=ah s1.names;generalize aj s1.names=Fs1 at *;generalize s1.names.length=ns1 at *;have f1:=aG st.names;have f2:=aF st.names;have f3:=ah st.names;generalize aj st.names=Fst at *;generalize st.names.length=nst at *;simp[aV,ca,ff,an,ch,cg,cO,bw,a6,aX,cL,ak,ba,bA,aY,bB,w1,q0,qt,ur,uc,aS,qk,e1,e2,e3,f1,f2,f3,x1,y1,g1,g2,g3,g4,g5,g6,kx,ky,rx,ry,-af,-aq,-ag,-keeps,-cN,aL,aJ,aQ,aK,ay,aB,aP,aO,aM,aA,az,aI]
theorem BP (N:Nat) {x y:AV} {T:List bM} {L:List Tok} {st:St} (hx:bD x=some T) (hy:bz y=some L) (hc:RC T L st) (hN:st.rest.length≤N) (hE:bW Tryz.prog cm (bj ch (cg N))) (n:Int) (k5:(bm L st).kind=5) (k5t:(bm L st).text=[123]) (hok:(ae T 1200 (ax st)).1.2.2=false):
 bX Tryz.prog cm 120 [.ptr 0 0,.int .i64 n] (c8 x y st) (.tuple [(bo T n st).1.1.enc,.int .i64 (bo T n st).1.2.1,.bool (bo T n st).1.2.2]) (some (db x y st.names (bo T n st).2)):=by
 have ks:(aH st).kind=(bm L st).kind:=by rw[bp hc]
 have ts:(aH st).text=(bm L st).text:=by rw[bp hc]
 have us:(aH st).num=(bm L st).num:=by rw[bp hc]
 have os:(aH st).gS=(bm L st).gS:=by rw[bp hc]
 have e:bo T n st=((cb [123,125] [(ae T 1200 (ax st)).1.1],0,false),(ae T 1200 (ax st)).2):=by
  unfold bo dI;rw[if_neg (by rw[ks,k5];decide),if_neg (by rw[ks,k5];decide)];rw[if_neg (fun e=>by rw[ts,k5t] at e;exact absurd e.2 (by decide)),if_neg (fun e=>by rw[ts,k5t] at e;exact absurd e.2 (by decide))];rw[if_pos ⟨ks.trans k5,ts.trans k5t⟩];unfold eH;rw[hok];exact if_neg (by simp)
 rw[e];have hlx:=bG hx;have hly:=bu hy;have x1:=hlx.refs;have y1:=hly.refs;have g1:=cW hlx hly;have g2:=cV hlx hly;have g3:=cU hlx hly;have g4:=cX hlx hly;have g5:=cZ hlx hly;have g6:=cY hlx hly;have kx:=fun n0 acc r=>bc n0 acc r hlx;have ky:=fun n0 acc r=>bc n0 acc r hly;have rx:=fun n0 ks=>bd n0 ks hlx;have ry:=fun n0 ks=>bd n0 ks hly
 have q0:=dc hx hy hc;rw[bQ] at q0;have qn:=eh (bm L st);have w1:=wrap_i64 (n:=(st.at_:Int)+1) (by omega) (by have:=hc.le;have:=hc.lb;omega);have hat:=eE hc (by rw[ks,k5];decide);have c1:=hc.xu (by omega);have hl:=cD st;have hp:=bH (st:=st) (by rw[ks,k5];decide);have qt:=da N hx hy c1 1200 (by omega);rw[hok,show (ax st).names=st.names from rfl,ar] at qt;have hlv:st.names≠[]→(ae T 1200 (ax st)).2.names≠[]:=((bK T).lv 1200 (ax st)).names;have ur:=aN (ae T 1200 (ax st)).1.1;have uc:=dq (ae T 1200 (ax st)).1.1;rw[k5,k5t] at q0;have qc:=iq [123,125] [(ae T 1200 (ax st)).1.1] (by simp);rw[nB,List.map_cons,List.map_nil,ar] at qc;dsimp only;generalize (ae T 1200 (ax st)).2=s1 at *;generalize (ae T 1200 (ax st)).1.1=u at *;generalize (ae T 1200 (ax st)).1.2.1=lv at *;by_cases h0:st.names=[]
 ·by_cases h1:s1.names=[]
  ·rw[bh h0] at q0;rw[dO h0,h0,cH h1] at qt;refine c7 (n:=8) hE hlx hly h0 h1 ?_ (bn _ _ _) rfl;show (au (bj ch (cg N)) 8 120 [.ptr 0 0,.int .i64 n] ⟨1,[.row [x,y,.int .i64 st.at_,.int .i64 st.next,.aw]],1,1⟩).map _=_;rw[nB];simp[aV,ca,ff,an,ch,cg,cO,bw,a6,aX,cL,ak,ba,bA,aY,bB,w1,q0,qt,ur,uc,aS,qc,x1,y1,g1,g2,g3,g4,g5,g6,kx,ky,rx,ry,-af,-aq,-ag,-keeps,-cN,aL,aJ,aQ,aK,ay,aB,aP,aO,aM,aA,az,aI]
  ·rw[bh h0] at q0;rw[dO h0,h0,cq h1] at qt;refine dv (n:=8) hE hlx hly 3 (by decide) h0 h1 ?_ (bn _ _ _) rfl;show (au (bj ch (cg N)) 8 120 [.ptr 0 0,.int .i64 n] ⟨1,[.row [x,y,.int .i64 st.at_,.int .i64 st.next,.aw]],1,1⟩).map _=_;rw[nB];have e1:=aG s1.names;have e2:=aF s1.names;have e3:=ah s1.names;generalize aj s1.names=Fs1 at *;generalize s1.names.length=ns1 at *;simp[aV,ca,ff,an,ch,cg,cO,bw,a6,aX,cL,ak,ba,bA,aY,bB,w1,q0,qt,ur,uc,aS,qc,e1,e2,e3,x1,y1,g1,g2,g3,g4,g5,g6,kx,ky,rx,ry,-af,-aq,-ag,-keeps,-cN,aL,aJ,aQ,aK,ay,aB,aP,aO,aM,aA,az,aI]
 ·have h1:=hlv h0;rw[bb h0] at q0;rw[fM h0,dn h0 h1] at qt;refine cJ (n:=8) hE hlx hly 4 (by decide) h0 h1 ?_ (bn _ _ _) rfl;show (au (bj ch (cg N)) 8 120 [.ptr 0 0,.int .i64 n] ⟨2,[.row (aj st.names),.row [x,y,.int .i64 st.at_,.int .i64 st.next,.vec 1 0 st.names.length 2 st.names.length]],2,2⟩).map _=_;rw[nB];have e1:=aG s1.names;have e2:=aF s1.names;have e3:=ah s1.names;generalize aj s1.names=Fs1 at *;generalize s1.names.length=ns1 at *;have f1:=aG st.names;have f2:=aF st.names;have f3:=ah st.names;generalize aj st.names=Fst at *;generalize st.names.length=nst at *;simp[aV,ca,ff,an,ch,cg,cO,bw,a6,aX,cL,ak,ba,bA,aY,bB,w1,q0,qt,ur,uc,aS,qc,e1,e2,e3,f1,f2,f3,x1,y1,g1,g2,g3,g4,g5,g6,kx,ky,rx,ry,-af,-aq,-ag,-keeps,-cN,aL,aJ,aQ,aK,ay,aB,aP,aO,aM,aA,az,aI]
theorem AM (N:Nat) {x y:AV} {T:List bM} {L:List Tok} {st:St} (hx:bD x=some T) (hy:bz y=some L) (hc:RC T L st) (hN:st.rest.length≤N) (hE:bW Tryz.prog cm (bj ch (cg N))) (n:Int) (k5:(bm L st).kind=5) (k5t:(bm L st).text=[123]) (hok:(ae T 1200 (ax st)).1.2.2=true):
 bX Tryz.prog cm 120 [.ptr 0 0,.int .i64 n] (c8 x y st) (.tuple [(bo T n st).1.1.enc,.int .i64 (bo T n st).1.2.1,.bool (bo T n st).1.2.2]) (some (db x y st.names (bo T n st).2)):=by
 have ks:(aH st).kind=(bm L st).kind:=by rw[bp hc]
 have ts:(aH st).text=(bm L st).text:=by rw[bp hc]
 have us:(aH st).num=(bm L st).num:=by rw[bp hc]
 have os:(aH st).gS=(bm L st).gS:=by rw[bp hc]
 have e:bo T n st=((cb [123,125] [(ae T 1200 (ax st)).1.1],0,(a8 [125] (ae T 1200 (ax st)).2).1),(a8 [125] (ae T 1200 (ax st)).2).2):=by
  unfold bo dI;rw[if_neg (by rw[ks,k5];decide),if_neg (by rw[ks,k5];decide)];rw[if_neg (fun e=>by rw[ts,k5t] at e;exact absurd e.2 (by decide)),if_neg (fun e=>by rw[ts,k5t] at e;exact absurd e.2 (by decide))];rw[if_pos ⟨ks.trans k5,ts.trans k5t⟩];unfold eH;rw[hok];exact if_pos rfl
 rw[e];have hlx:=bG hx;have hly:=bu hy;have x1:=hlx.refs;have y1:=hly.refs;have g1:=cW hlx hly;have g2:=cV hlx hly;have g3:=cU hlx hly;have g4:=cX hlx hly;have g5:=cZ hlx hly;have g6:=cY hlx hly;have kx:=fun n0 acc r=>bc n0 acc r hlx;have ky:=fun n0 acc r=>bc n0 acc r hly;have rx:=fun n0 ks=>bd n0 ks hlx;have ry:=fun n0 ks=>bd n0 ks hly
 have q0:=dc hx hy hc;rw[bQ] at q0;have qn:=eh (bm L st);have w1:=wrap_i64 (n:=(st.at_:Int)+1) (by omega) (by have:=hc.le;have:=hc.lb;omega);have hat:=eE hc (by rw[ks,k5];decide);have c1:=hc.xu (by omega);have hl:=cD st;have hp:=bH (st:=st) (by rw[ks,k5];decide);have qt:=da N hx hy c1 1200 (by omega);rw[hok,show (ax st).names=st.names from rfl,ar] at qt;have hlv:st.names≠[]→(ae T 1200 (ax st)).2.names≠[]:=((bK T).lv 1200 (ax st)).names;have ur:=aN (ae T 1200 (ax st)).1.1;have uc:=dq (ae T 1200 (ax st)).1.1;rw[k5,k5t] at q0;have qc:=iq [123,125] [(ae T 1200 (ax st)).1.1] (by simp);rw[nB,List.map_cons,List.map_nil,ar] at qc;obtain⟨c2,_⟩:=c1.ok ((bK T).ok 1200 (ax st) hok);have qk:=fK hx hy c2 [125];have hn4:=ez [125] (ae T 1200 (ax st)).2;dsimp only;generalize (ae T 1200 (ax st)).2=s1 at *;generalize (ae T 1200 (ax st)).1.1=u at *;generalize (ae T 1200 (ax st)).1.2.1=lv at *;by_cases h0:st.names=[]
 ·by_cases h1:s1.names=[]
  ·rw[bh h0] at q0;rw[dO h0,h0,cH h1] at qt;rw[bh h1,bh (by rw[hn4.1];exact h1),hn4.2] at qk;refine c7 (n:=8) hE hlx hly h0 (by rw[hn4.1];exact h1) ?_ (bn _ _ _) rfl;show (au (bj ch (cg N)) 8 120 [.ptr 0 0,.int .i64 n] ⟨1,[.row [x,y,.int .i64 st.at_,.int .i64 st.next,.aw]],1,1⟩).map _=_;rw[nB,hn4.2];generalize a8 [125] s1=b4 at *;obtain⟨b4,s4⟩:=b4;simp[aV,ca,ff,an,ch,cg,cO,bw,a6,aX,cL,ak,ba,bA,aY,bB,w1,q0,qt,ur,uc,aS,qc,qk,x1,y1,g1,g2,g3,g4,g5,g6,kx,ky,rx,ry,-af,-aq,-ag,-keeps,-cN,aL,aJ,aQ,aK,ay,aB,aP,aO,aM,aA,az,aI]
  ·rw[bh h0] at q0;rw[dO h0,h0,cq h1] at qt;rw[bb h1,bb (by rw[hn4.1];exact h1),hn4.1,hn4.2] at qk;refine dv (n:=8) hE hlx hly 3 (by decide) h0 (by rw[hn4.1];exact h1) ?_ (bn _ _ _) rfl;show (au (bj ch (cg N)) 8 120 [.ptr 0 0,.int .i64 n] ⟨1,[.row [x,y,.int .i64 st.at_,.int .i64 st.next,.aw]],1,1⟩).map _=_;rw[nB,hn4.1,hn4.2];generalize a8 [125] s1=b4 at *;obtain⟨b4,s4⟩:=b4;have e1:=aG s1.names;have e2:=aF s1.names;have e3:=ah s1.names;generalize aj s1.names=Fs1 at *;generalize s1.names.length=ns1 at *;simp[aV,ca,ff,an,ch,cg,cO,bw,a6,aX,cL,ak,ba,bA,aY,bB,w1,q0,qt,ur,uc,aS,qc,qk,e1,e2,e3,x1,y1,g1,g2,g3,g4,g5,g6,kx,ky,rx,ry,-af,-aq,-ag,-keeps,-cN,aL,aJ,aQ,aK,ay,aB,aP,aO,aM,aA,az,aI]
 ·have h1:=hlv h0;rw[bb h0] at q0;rw[fM h0,dn h0 h1] at qt;rw[bb h1,bb (by rw[hn4.1];exact h1),hn4.1,hn4.2] at qk;refine cJ (n:=8) hE hlx hly 4 (by decide) h0 (by rw[hn4.1];exact h1) ?_ (bn _ _ _) rfl;show (au (bj ch (cg N)) 8 120 [.ptr 0 0,.int .i64 n] ⟨2,[.row (aj st.names),.row [x,y,.int .i64 st.at_,.int .i64 st.next,.vec 1 0 st.names.length 2 st.names.length]],2,2⟩).map _=_;rw[nB,hn4.1,hn4.2];generalize a8 [125] s1=b4 at *;obtain⟨b4,s4⟩:=b4;have e1:=aG s1.names;have e2:=aF s1.names;have e3:=ah s1.names;generalize aj s1.names=Fs1 at *;generalize s1.names.length=ns1 at *;have f1:=aG st.names;have f2:=aF st.names;have f3:=ah st.names;generalize aj st.names=Fst at *;generalize st.names.length=nst at *;simp[aV,ca,ff,an,ch,cg,cO,bw,a6,aX,cL,ak,ba,bA,aY,bB,w1,q0,qt,ur,uc,aS,qc,qk,e1,e2,e3,f1,f2,f3,x1,y1,g1,g2,g3,g4,g5,g6,kx,ky,rx,ry,-af,-aq,-ag,-keeps,-cN,aL,aJ,aQ,aK,ay,aB,aP,aO,aM,aA,az,aI]
theorem GW (N:Nat) {x y:AV} {T:List bM} {L:List Tok} {st:St} (hx:bD x=some T) (hy:bz y=some L) (hc:RC T L st) (hN:st.rest.length≤N) (hE:bW Tryz.prog cm (bj ch (cg N))) (n:Int) (k5:(bm L st).kind=5) (k5t:(bm L st).text=[91]):
 bX Tryz.prog cm 120 [.ptr 0 0,.int .i64 n] (c8 x y st) (.tuple [(bo T n st).1.1.enc,.int .i64 (bo T n st).1.2.1,.bool (bo T n st).1.2.2]) (some (db x y st.names (bo T n st).2)):=by
 have ks:(aH st).kind=(bm L st).kind:=by rw[bp hc]
 have ts:(aH st).text=(bm L st).text:=by rw[bp hc]
 have us:(aH st).num=(bm L st).num:=by rw[bp hc]
 have os:(aH st).gS=(bm L st).gS:=by rw[bp hc]
 have e:bo T n st=(((eV T (ax st)).1.1,0,(eV T (ax st)).1.2),(eV T (ax st)).2):=by
  unfold bo dI;rw[if_neg (by rw[ks,k5];decide),if_neg (by rw[ks,k5];decide),if_neg (fun e=>by rw[ts,k5t] at e;exact absurd e.2 (by decide)),if_pos ⟨ks.trans k5,ts.trans k5t⟩,LZ Pz]
 rw[e];have hlx:=bG hx;have hly:=bu hy;have x1:=hlx.refs;have y1:=hly.refs;have g1:=cW hlx hly;have g2:=cV hlx hly;have g3:=cU hlx hly;have g4:=cX hlx hly;have g5:=cZ hlx hly;have g6:=cY hlx hly;have kx:=fun n0 acc r=>bc n0 acc r hlx;have ky:=fun n0 acc r=>bc n0 acc r hly;have rx:=fun n0 ks=>bd n0 ks hlx;have ry:=fun n0 ks=>bd n0 ks hly
 have q0:=dc hx hy hc;rw[bQ] at q0;have qn:=eh (bm L st);have w1:=wrap_i64 (n:=(st.at_:Int)+1) (by omega) (by have:=hc.le;have:=hc.lb;omega);have hat:=eE hc (by rw[ks,k5];decide);have c1:=hc.xu (by omega);have hl:=cD st;have hp:=bH (st:=st) (by rw[ks,k5];decide);have qt:=Ea N hx hy c1 (by omega);rw[show (ax st).names=st.names from rfl,ar] at qt;have hlv:st.names≠[]→(eV T (ax st)).2.names≠[]:=(zh (bK T) _ (ax st)).1.names;have ur:=aN (eV T (ax st)).1.1;rw[k5,k5t] at q0;dsimp only;generalize (eV T (ax st)).2=s1 at *;generalize (eV T (ax st)).1.1=u at *;generalize (eV T (ax st)).1.2=ok at *;by_cases h0:st.names=[]
 ·by_cases h1:s1.names=[]
  ·rw[bh h0] at q0;rw[dO h0,h0,cH h1] at qt;refine c7 (n:=8) hE hlx hly h0 h1 ?_ (bn _ _ _) rfl;show (au (bj ch (cg N)) 8 120 [.ptr 0 0,.int .i64 n] ⟨1,[.row [x,y,.int .i64 st.at_,.int .i64 st.next,.aw]],1,1⟩).map _=_;rw[ar];simp[aV,ca,ff,an,ch,cg,cO,bw,a6,aX,cL,ak,ba,bA,aY,bB,w1,q0,qt,ur,x1,y1,g1,g2,g3,g4,g5,g6,kx,ky,rx,ry,-af,-aq,-ag,-keeps,-cN,aL,aJ,aQ,aK,ay,aB,aP,aO,aM,aA,az,aI]
  ·rw[bh h0] at q0;rw[dO h0,h0,cq h1] at qt;refine dv (n:=8) hE hlx hly 3 (by decide) h0 h1 ?_ (bn _ _ _) rfl;show (au (bj ch (cg N)) 8 120 [.ptr 0 0,.int .i64 n] ⟨1,[.row [x,y,.int .i64 st.at_,.int .i64 st.next,.aw]],1,1⟩).map _=_;rw[ar];have e1:=aG s1.names;have e2:=aF s1.names;have e3:=ah s1.names;generalize aj s1.names=Fs1 at *;generalize s1.names.length=ns1 at *;simp[aV,ca,ff,an,ch,cg,cO,bw,a6,aX,cL,ak,ba,bA,aY,bB,w1,q0,qt,ur,e1,e2,e3,x1,y1,g1,g2,g3,g4,g5,g6,kx,ky,rx,ry,-af,-aq,-ag,-keeps,-cN,aL,aJ,aQ,aK,ay,aB,aP,aO,aM,aA,az,aI]
 ·have h1:=hlv h0;rw[bb h0] at q0;rw[fM h0,dn h0 h1] at qt;refine cJ (n:=8) hE hlx hly 4 (by decide) h0 h1 ?_ (bn _ _ _) rfl;show (au (bj ch (cg N)) 8 120 [.ptr 0 0,.int .i64 n] ⟨2,[.row (aj st.names),.row [x,y,.int .i64 st.at_,.int .i64 st.next,.vec 1 0 st.names.length 2 st.names.length]],2,2⟩).map _=_;rw[ar];have e1:=aG s1.names;have e2:=aF s1.names;have e3:=ah s1.names;generalize aj s1.names=Fs1 at *;generalize s1.names.length=ns1 at *;have f1:=aG st.names;have f2:=aF st.names;have f3:=ah st.names;generalize aj st.names=Fst at *;generalize st.names.length=nst at *;simp[aV,ca,ff,an,ch,cg,cO,bw,a6,aX,cL,ak,ba,bA,aY,bB,w1,q0,qt,ur,e1,e2,e3,f1,f2,f3,x1,y1,g1,g2,g3,g4,g5,g6,kx,ky,rx,ry,-af,-aq,-ag,-keeps,-cN,aL,aJ,aQ,aK,ay,aB,aP,aO,aM,aA,az,aI]
theorem Kc (N:Nat) {x y:AV} {T:List bM} {L:List Tok} {st:St} (hx:bD x=some T) (hy:bz y=some L) (hc:RC T L st) (hN:st.rest.length≤N) (hE:bW Tryz.prog cm (bj ch (cg N))) (n:Int) (k5:(bm L st).kind=5) (t1:¬ (bm L st).text=[40]) (t2:¬ (bm L st).text=[91]) (t3:¬ (bm L st).text=[123]):
 bX Tryz.prog cm 120 [.ptr 0 0,.int .i64 n] (c8 x y st) (.tuple [(bo T n st).1.1.enc,.int .i64 (bo T n st).1.2.1,.bool (bo T n st).1.2.2]) (some (db x y st.names (bo T n st).2)):=by
 have ks:(aH st).kind=(bm L st).kind:=by rw[bp hc]
 have ts:(aH st).text=(bm L st).text:=by rw[bp hc]
 have us:(aH st).num=(bm L st).num:=by rw[bp hc]
 have os:(aH st).gS=(bm L st).gS:=by rw[bp hc]
 have e:bo T n st=((sW,0,false),ax st):=by
  unfold bo dI;rw[if_neg (by rw[ks,k5];decide),if_neg (by rw[ks,k5];decide),if_neg (fun e=>t1 (ts.symm.trans e.2)),if_neg (fun e=>t2 (ts.symm.trans e.2)),if_neg (fun e=>t3 (ts.symm.trans e.2)),if_pos (by unfold ey;rw[ks,k5];rfl)]
 rw[e];have hlx:=bG hx;have hly:=bu hy;have x1:=hlx.refs;have y1:=hly.refs;have g1:=cW hlx hly;have g2:=cV hlx hly;have g3:=cU hlx hly;have g4:=cX hlx hly;have g5:=cZ hlx hly;have g6:=cY hlx hly;have kx:=fun n0 acc r=>bc n0 acc r hlx;have ky:=fun n0 acc r=>bc n0 acc r hly;have rx:=fun n0 ks=>bd n0 ks hlx;have ry:=fun n0 ks=>bd n0 ks hly
 have q0:=dc hx hy hc;rw[bQ] at q0;have qn:=eh (bm L st);have w1:=wrap_i64 (n:=(st.at_:Int)+1) (by omega) (by have:=hc.le;have:=hc.lb;omega);have b1:((bm L st).text==[40])=false:=by simpa using t1
 have b2:((bm L st).text==[91])=false:=by simpa using t2
 have b3:((bm L st).text==[123])=false:=by simpa using t3
 rw[k5] at q0 qn;dsimp only;by_cases h0:st.names=[]
 ·rw[bh h0] at q0;refine c7 (n:=8) hE hlx hly h0 h0 ?_ (bn _ _ _) rfl;show (au (bj ch (cg N)) 8 120 [.ptr 0 0,.int .i64 n] ⟨1,[.row [x,y,.int .i64 st.at_,.int .i64 st.next,.aw]],1,1⟩).map _=_;rw[fg];simp only[ig,ic,ib];simp[aV,ca,ff,an,ch,cg,cO,bw,a6,aX,cL,ak,ba,bA,aY,bB,w1,q0,qn,b1,b2,b3,t1,t2,t3,x1,y1,g1,g2,g3,g4,g5,g6,kx,ky,rx,ry,-af,-aq,-ag,-keeps,-cN,aL,aJ,aQ,aK,ay,aB,aP,aO,aM,aA,az,aI]
 ·rw[bb h0] at q0;refine cJ (n:=8) hE hlx hly 1 (by decide) h0 h0 ?_ (bn _ _ _) rfl;show (au (bj ch (cg N)) 8 120 [.ptr 0 0,.int .i64 n] ⟨2,[.row (aj st.names),.row [x,y,.int .i64 st.at_,.int .i64 st.next,.vec 1 0 st.names.length 2 st.names.length]],2,2⟩).map _=_;rw[fg];simp only[ig,ic,ib];have f1:=aG st.names;have f2:=aF st.names;have f3:=ah st.names;generalize aj st.names=Fst at *;generalize st.names.length=nst at *;simp[aV,ca,ff,an,ch,cg,cO,bw,a6,aX,cL,ak,ba,bA,aY,bB,w1,f1,f2,f3,q0,qn,b1,b2,b3,t1,t2,t3,x1,y1,g1,g2,g3,g4,g5,g6,kx,ky,rx,ry,-af,-aq,-ag,-keeps,-cN,aL,aJ,aQ,aK,ay,aB,aP,aO,aM,aA,az,aI]
theorem Hr (N:Nat) {x y:AV} {T:List bM} {L:List Tok} {st:St} (hx:bD x=some T) (hy:bz y=some L) (hc:RC T L st) (hN:st.rest.length≤N) (hE:bW Tryz.prog cm (bj ch (cg N))) (n:Int) (k1:¬ (bm L st).kind=1) (k2:¬ (bm L st).kind=2) (k3:¬ (bm L st).kind=3) (k4:¬ (bm L st).kind=4) (k5:¬ (bm L st).kind=5):
 bX Tryz.prog cm 120 [.ptr 0 0,.int .i64 n] (c8 x y st) (.tuple [(bo T n st).1.1.enc,.int .i64 (bo T n st).1.2.1,.bool (bo T n st).1.2.2]) (some (db x y st.names (bo T n st).2)):=by
 have ks:(aH st).kind=(bm L st).kind:=by rw[bp hc]
 have ts:(aH st).text=(bm L st).text:=by rw[bp hc]
 have us:(aH st).num=(bm L st).num:=by rw[bp hc]
 have os:(aH st).gS=(bm L st).gS:=by rw[bp hc]
 have e:bo T n st=((sW,0,false),ax st):=by
  unfold bo dI;rw[if_neg (fun e=>k4 (ks.symm.trans e)),if_neg (fun e=>k3 (ks.symm.trans e)),if_neg (fun e=>k5 (ks.symm.trans e.1)),if_neg (fun e=>k5 (ks.symm.trans e.1)),if_neg (fun e=>k5 (ks.symm.trans e.1)),if_pos (by unfold ey;rw[ks,decide_eq_false k1,decide_eq_false k2];rfl)]
 rw[e];have hlx:=bG hx;have hly:=bu hy;have x1:=hlx.refs;have y1:=hly.refs;have g1:=cW hlx hly;have g2:=cV hlx hly;have g3:=cU hlx hly;have g4:=cX hlx hly;have g5:=cZ hlx hly;have g6:=cY hlx hly;have kx:=fun n0 acc r=>bc n0 acc r hlx;have ky:=fun n0 acc r=>bc n0 acc r hly;have rx:=fun n0 ks=>bd n0 ks hlx;have ry:=fun n0 ks=>bd n0 ks hly
 have q0:=dc hx hy hc;rw[bQ] at q0;have qn:=eh (bm L st);have w1:=wrap_i64 (n:=(st.at_:Int)+1) (by omega) (by have:=hc.le;have:=hc.lb;omega);rw[decide_eq_false k1,decide_eq_false k2] at qn;dsimp only;by_cases h0:st.names=[]
 ·rw[bh h0] at q0;refine c7 (n:=8) hE hlx hly h0 h0 ?_ (bn _ _ _) rfl;show (au (bj ch (cg N)) 8 120 [.ptr 0 0,.int .i64 n] ⟨1,[.row [x,y,.int .i64 st.at_,.int .i64 st.next,.aw]],1,1⟩).map _=_;rw[fg];simp only[ig,ic,ib];simp[aV,ca,ff,an,ch,cg,cO,bw,a6,aX,cL,ak,ba,bA,aY,bB,w1,q0,qn,k1,k2,k3,k4,k5,x1,y1,g1,g2,g3,g4,g5,g6,kx,ky,rx,ry,-af,-aq,-ag,-keeps,-cN,aL,aJ,aQ,aK,ay,aB,aP,aO,aM,aA,az,aI]
 ·rw[bb h0] at q0;refine cJ (n:=8) hE hlx hly 1 (by decide) h0 h0 ?_ (bn _ _ _) rfl;show (au (bj ch (cg N)) 8 120 [.ptr 0 0,.int .i64 n] ⟨2,[.row (aj st.names),.row [x,y,.int .i64 st.at_,.int .i64 st.next,.vec 1 0 st.names.length 2 st.names.length]],2,2⟩).map _=_;rw[fg];simp only[ig,ic,ib];have f1:=aG st.names;have f2:=aF st.names;have f3:=ah st.names;generalize aj st.names=Fst at *;generalize st.names.length=nst at *;simp[aV,ca,ff,an,ch,cg,cO,bw,a6,aX,cL,ak,ba,bA,aY,bB,w1,f1,f2,f3,q0,qn,k1,k2,k3,k4,k5,x1,y1,g1,g2,g3,g4,g5,g6,kx,ky,rx,ry,-af,-aq,-ag,-keeps,-cN,aL,aJ,aQ,aK,ay,aB,aP,aO,aM,aA,az,aI]
theorem zj (l:List Tm):DN l=(cb [] l).cp:=by cases l<;>rfl
theorem ye (s:List UInt8) (l:List Tm):(cb s l).enc=.agg [.int .i64 2,.int .i64 0,.str s,(cb [] l).cp]:=by cases l<;>simp[cb,Tm.enc,Tm.cp,jc]
theorem Qq {T:List bM} {L:List Tok} {st:St} (h:RC T L st) (hk:(aH st).kind≠0):0≤(bm L st).num∧(bm L st).num < 9223372036854775808:=by
 have h1:st.rest.all mi=true:=by
  rw[h.rest];refine List.all_eq_true.mpr fun x hx=>List.all_eq_true.mp h.tk x (List.mem_of_mem_drop hx)
 have:=zi h1 (bH hk);rw[bp h] at this;exact this
theorem Bo {T:List bM} {L:List Tok} {st:St} (h:RC T L st):0≤(bm L st).at_∧(bm L st).at_ < 1000000:=by
 rcases KC h with⟨h1,h2⟩ | ⟨_,h2⟩
 ·have:=List.all_eq_true.mp h.rF _ (List.mem_of_getElem? h2);simpa using this
 ·rw[h2];exact⟨by decide,by decide⟩
theorem I6 {T:List bM} {L:List Tok} {st:St} (h:RC T L st) (hl:st.at_+1 < L.length):(aH st).Nx=decide ((bm L (ax st)).at_=(bm L st).at_+1):=by
 rw[bp h];show M4 (bm L st) (L.drop (st.at_+1))=_;rw[List.drop_eq_getElem_cons hl];show decide (_=_)=decide ((L.getD (st.at_+1) rC).at_=_);simp[List.getD,hl]
theorem zm {x y:AV} {st:St} (h:st.names=[]):c8 x y (ax (ax st))=[.row [x,y,.int .i64 ((st.at_:Int)+1+1),.int .i64 st.next,.aw]]:=bh (st:=ax (ax st)) h
theorem Je {x y:AV} {st:St} (h:st.names≠[]):c8 x y (ax (ax st))=[.row [x,y,.int .i64 ((st.at_:Int)+1+1),.int .i64 st.next,.vec 1 0 st.names.length 2 st.names.length],.row (aj st.names)]:=bb (st:=ax (ax st)) h
theorem vw {rec:Int→St→PR×St} {T:List bM} {x x':eS} (n:Int) (st:St) (h1:x.kind=x'.kind) (h2:x.text=x'.text):b9 rec T x n st=b9 rec T x' n st:=by
 unfold b9;rw[h1,h2]
theorem lM {rec:Int→St→PR×St} (H:uA rec) {T:List bM} {x:eS} {n:Int} {st:St} (h:st.names≠[]):(b9 rec T x n st).2.names≠[]:=by
 unfold b9;split
 ·exact h
 ·split
  ·exact (H.lv _ st).names h
  ·exact h
theorem Cs (N:Nat) {x y:AV} {T:List bM} {L:List Tok} {st:St} (hx:bD x=some T) (hy:bz y=some L) (hc:RC T L st) (hN:st.rest.length≤N) (hE:bW Tryz.prog cm (bj ch (cg N))) (n:Int) (kn:(decide ((bm L st).kind=1)||decide ((bm L st).kind=2))=true) (ko:(bm L st).gS=true) (hok:(aE T (ax (ax st))).1.2=false):
 bX Tryz.prog cm 120 [.ptr 0 0,.int .i64 n] (c8 x y st) (.tuple [(bo T n st).1.1.enc,.int .i64 (bo T n st).1.2.1,.bool (bo T n st).1.2.2]) (some (db x y st.names (bo T n st).2)):=by
 have ks:(aH st).kind=(bm L st).kind:=by rw[bp hc]
 have ts:(aH st).text=(bm L st).text:=by rw[bp hc]
 have us:(aH st).num=(bm L st).num:=by rw[bp hc]
 have os:(aH st).gS=(bm L st).gS:=by rw[bp hc]
 have kc:(bm L st).kind=1∨(bm L st).kind=2:=by
  rw[Bool.or_eq_true,decide_eq_true_eq,decide_eq_true_eq] at kn;exact kn
 have k3:¬ (bm L st).kind=3:=by omega
 have k4:¬ (bm L st).kind=4:=by omega
 have k5:¬ (bm L st).kind=5:=by omega
 have k0:(aH st).kind≠0:=by rw[ks];omega
 have nb:ey (aH st)=true:=by unfold ey;rw[ks];exact kn
 have e:bo T n st=((cb (bm L st).text [],0,false),(aE T (ax (ax st))).2):=by
  unfold bo dI;rw[if_neg (fun e=>k4 (ks.symm.trans e)),if_neg (fun e=>k3 (ks.symm.trans e)),if_neg (fun e=>k5 (ks.symm.trans e.1)),if_neg (fun e=>k5 (ks.symm.trans e.1)),if_neg (fun e=>k5 (ks.symm.trans e.1)),if_neg (by rw[nb];decide)];rw[if_pos (os.trans ko),ts];unfold ix;rw[Cm (by rw[cD,cD];omega),hok];exact if_neg (by simp)
 rw[e];have hlx:=bG hx;have hly:=bu hy;have x1:=hlx.refs;have y1:=hly.refs;have g1:=cW hlx hly;have g2:=cV hlx hly;have g3:=cU hlx hly;have g4:=cX hlx hly;have g5:=cZ hlx hly;have g6:=cY hlx hly;have kx:=fun n0 acc r=>bc n0 acc r hlx;have ky:=fun n0 acc r=>bc n0 acc r hly;have rx:=fun n0 ks=>bd n0 ks hlx;have ry:=fun n0 ks=>bd n0 ks hly
 have q0:=dc hx hy hc;rw[bQ] at q0;have qn:=eh (bm L st);have w1:=wrap_i64 (n:=(st.at_:Int)+1) (by omega) (by have:=hc.le;have:=hc.lb;omega);have hat:=eE hc k0;have c1:=hc.xu (by omega);have hl:=cD st;have hp:=bH (st:=st) k0;have hat2:st.at_+1≤L.length:=hat;have c2:=c1.xu hat2;have hl2:=cD (ax st);have w2:=wrap_i64 (n:=(st.at_:Int)+1+1) (by omega) (by have:=hc.lb;omega);have qt:=iL N hx hy c2 (by omega);rw[hok,if_neg (by simp),show (ax (ax st)).names=st.names from rfl] at qt;have hlv:st.names≠[]→(aE T (ax (ax st))).2.names≠[]:=(fw T (ax (ax st))).1.names;rw[ko] at q0 qn;dsimp only;rw[kn] at qn;generalize (aE T (ax (ax st))).2=s1 at *;by_cases h0:st.names=[]
 ·by_cases h1:s1.names=[]
  ·rw[bh h0] at q0;rw[zm h0,h0,cH h1] at qt;refine c7 (n:=8) hE hlx hly h0 h1 ?_ (bn _ _ _) rfl;show (au (bj ch (cg N)) 8 120 [.ptr 0 0,.int .i64 n] ⟨1,[.row [x,y,.int .i64 st.at_,.int .i64 st.next,.aw]],1,1⟩).map _=_;rw[ye];simp only[DN] at qt;rw[show (cb [] []).cp=.aw from rfl];simp[aV,ca,ff,an,ch,cg,cO,bw,a6,aX,cL,ak,ba,bA,aY,bB,w1,q0,qt,qn,k3,k4,k5,w2,x1,y1,g1,g2,g3,g4,g5,g6,kx,ky,rx,ry,-af,-aq,-ag,-keeps,-cN,aL,aJ,aQ,aK,ay,aB,aP,aO,aM,aA,az,aI]
  ·rw[bh h0] at q0;rw[zm h0,h0,cq h1] at qt;refine dv (n:=8) hE hlx hly 3 (by decide) h0 h1 ?_ (bn _ _ _) rfl;show (au (bj ch (cg N)) 8 120 [.ptr 0 0,.int .i64 n] ⟨1,[.row [x,y,.int .i64 st.at_,.int .i64 st.next,.aw]],1,1⟩).map _=_;rw[ye];simp only[DN] at qt;rw[show (cb [] []).cp=.aw from rfl];have e1:=aG s1.names;have e2:=aF s1.names;have e3:=ah s1.names;generalize aj s1.names=Fs1 at *;generalize s1.names.length=ns1 at *;simp[aV,ca,ff,an,ch,cg,cO,bw,a6,aX,cL,ak,ba,bA,aY,bB,w1,q0,qt,qn,k3,k4,k5,w2,e1,e2,e3,x1,y1,g1,g2,g3,g4,g5,g6,kx,ky,rx,ry,-af,-aq,-ag,-keeps,-cN,aL,aJ,aQ,aK,ay,aB,aP,aO,aM,aA,az,aI]
 ·have h1:=hlv h0;rw[bb h0] at q0;rw[Je h0,dn h0 h1] at qt;refine cJ (n:=8) hE hlx hly 4 (by decide) h0 h1 ?_ (bn _ _ _) rfl;show (au (bj ch (cg N)) 8 120 [.ptr 0 0,.int .i64 n] ⟨2,[.row (aj st.names),.row [x,y,.int .i64 st.at_,.int .i64 st.next,.vec 1 0 st.names.length 2 st.names.length]],2,2⟩).map _=_;rw[ye];simp only[DN] at qt;rw[show (cb [] []).cp=.aw from rfl];have e1:=aG s1.names;have e2:=aF s1.names;have e3:=ah s1.names;generalize aj s1.names=Fs1 at *;generalize s1.names.length=ns1 at *;have f1:=aG st.names;have f2:=aF st.names;have f3:=ah st.names;generalize aj st.names=Fst at *;generalize st.names.length=nst at *;simp[aV,ca,ff,an,ch,cg,cO,bw,a6,aX,cL,ak,ba,bA,aY,bB,w1,q0,qt,qn,k3,k4,k5,w2,e1,e2,e3,f1,f2,f3,x1,y1,g1,g2,g3,g4,g5,g6,kx,ky,rx,ry,-af,-aq,-ag,-keeps,-cN,aL,aJ,aQ,aK,ay,aB,aP,aO,aM,aA,az,aI]
theorem Ct (N:Nat) {x y:AV} {T:List bM} {L:List Tok} {st:St} (hx:bD x=some T) (hy:bz y=some L) (hc:RC T L st) (hN:st.rest.length≤N) (hE:bW Tryz.prog cm (bj ch (cg N))) (n:Int) (kn:(decide ((bm L st).kind=1)||decide ((bm L st).kind=2))=true) (ko:(bm L st).gS=true) (hok:(aE T (ax (ax st))).1.2=true):
 bX Tryz.prog cm 120 [.ptr 0 0,.int .i64 n] (c8 x y st) (.tuple [(bo T n st).1.1.enc,.int .i64 (bo T n st).1.2.1,.bool (bo T n st).1.2.2]) (some (db x y st.names (bo T n st).2)):=by
 have ks:(aH st).kind=(bm L st).kind:=by rw[bp hc]
 have ts:(aH st).text=(bm L st).text:=by rw[bp hc]
 have us:(aH st).num=(bm L st).num:=by rw[bp hc]
 have os:(aH st).gS=(bm L st).gS:=by rw[bp hc]
 have kc:(bm L st).kind=1∨(bm L st).kind=2:=by
  rw[Bool.or_eq_true,decide_eq_true_eq,decide_eq_true_eq] at kn;exact kn
 have k3:¬ (bm L st).kind=3:=by omega
 have k4:¬ (bm L st).kind=4:=by omega
 have k5:¬ (bm L st).kind=5:=by omega
 have k0:(aH st).kind≠0:=by rw[ks];omega
 have nb:ey (aH st)=true:=by unfold ey;rw[ks];exact kn
 have e:bo T n st=((cb (bm L st).text (aE T (ax (ax st))).1.1,0,(a8 [41] (aE T (ax (ax st))).2).1),(a8 [41] (aE T (ax (ax st))).2).2):=by
  unfold bo dI;rw[if_neg (fun e=>k4 (ks.symm.trans e)),if_neg (fun e=>k3 (ks.symm.trans e)),if_neg (fun e=>k5 (ks.symm.trans e.1)),if_neg (fun e=>k5 (ks.symm.trans e.1)),if_neg (fun e=>k5 (ks.symm.trans e.1)),if_neg (by rw[nb];decide)];rw[if_pos (os.trans ko),ts];unfold ix;rw[Cm (by rw[cD,cD];omega),hok];exact if_pos rfl
 rw[e];have hlx:=bG hx;have hly:=bu hy;have x1:=hlx.refs;have y1:=hly.refs;have g1:=cW hlx hly;have g2:=cV hlx hly;have g3:=cU hlx hly;have g4:=cX hlx hly;have g5:=cZ hlx hly;have g6:=cY hlx hly;have kx:=fun n0 acc r=>bc n0 acc r hlx;have ky:=fun n0 acc r=>bc n0 acc r hly;have rx:=fun n0 ks=>bd n0 ks hlx;have ry:=fun n0 ks=>bd n0 ks hly
 have q0:=dc hx hy hc;rw[bQ] at q0;have qn:=eh (bm L st);have w1:=wrap_i64 (n:=(st.at_:Int)+1) (by omega) (by have:=hc.le;have:=hc.lb;omega);have hat:=eE hc k0;have c1:=hc.xu (by omega);have hl:=cD st;have hp:=bH (st:=st) k0;have hat2:st.at_+1≤L.length:=hat;have c2:=c1.xu hat2;have hl2:=cD (ax st);have w2:=wrap_i64 (n:=(st.at_:Int)+1+1) (by omega) (by have:=hc.lb;omega);have qt:=iL N hx hy c2 (by omega);rw[hok,if_pos rfl,show (ax (ax st)).names=st.names from rfl] at qt;have hlv:st.names≠[]→(aE T (ax (ax st))).2.names≠[]:=(fw T (ax (ax st))).1.names;have ur:=aN (cb [] (aE T (ax (ax st))).1.1);have uc:=dq (cb [] (aE T (ax (ax st))).1.1);obtain⟨c3,_⟩:=c2.ok ((fw T (ax (ax st))).2 hok);have qk:=fK hx hy c3 [41];have hn4:=ez [41] (aE T (ax (ax st))).2;rw[ko] at q0 qn;dsimp only;rw[kn] at qn;generalize (aE T (ax (ax st))).2=s1 at *;generalize (aE T (ax (ax st))).1.1=us at *;by_cases h0:st.names=[]
 ·by_cases h1:s1.names=[]
  ·rw[bh h0] at q0;rw[zm h0,h0,cH h1] at qt;rw[bh h1,bh (by rw[hn4.1];exact h1),hn4.2] at qk;refine c7 (n:=8) hE hlx hly h0 (by rw[hn4.1];exact h1) ?_ (bn _ _ _) rfl;show (au (bj ch (cg N)) 8 120 [.ptr 0 0,.int .i64 n] ⟨1,[.row [x,y,.int .i64 st.at_,.int .i64 st.next,.aw]],1,1⟩).map _=_;rw[ye,hn4.2];rw[zj] at qt;generalize cb [] us=cu at *;generalize a8 [41] s1=b4 at *;obtain⟨b4,s4⟩:=b4;simp[aV,ca,ff,an,ch,cg,cO,bw,a6,aX,cL,ak,ba,bA,aY,bB,w1,q0,qt,qn,k3,k4,k5,w2,ur,uc,qk,x1,y1,g1,g2,g3,g4,g5,g6,kx,ky,rx,ry,-af,-aq,-ag,-keeps,-cN,aL,aJ,aQ,aK,ay,aB,aP,aO,aM,aA,az,aI]
  ·rw[bh h0] at q0;rw[zm h0,h0,cq h1] at qt;rw[bb h1,bb (by rw[hn4.1];exact h1),hn4.1,hn4.2] at qk;refine dv (n:=8) hE hlx hly 3 (by decide) h0 (by rw[hn4.1];exact h1) ?_ (bn _ _ _) rfl;show (au (bj ch (cg N)) 8 120 [.ptr 0 0,.int .i64 n] ⟨1,[.row [x,y,.int .i64 st.at_,.int .i64 st.next,.aw]],1,1⟩).map _=_;rw[ye,hn4.1,hn4.2];rw[zj] at qt;generalize cb [] us=cu at *;generalize a8 [41] s1=b4 at *;obtain⟨b4,s4⟩:=b4;have e1:=aG s1.names;have e2:=aF s1.names;have e3:=ah s1.names;generalize aj s1.names=Fs1 at *;generalize s1.names.length=ns1 at *;simp[aV,ca,ff,an,ch,cg,cO,bw,a6,aX,cL,ak,ba,bA,aY,bB,w1,q0,qt,qn,k3,k4,k5,w2,ur,uc,qk,e1,e2,e3,x1,y1,g1,g2,g3,g4,g5,g6,kx,ky,rx,ry,-af,-aq,-ag,-keeps,-cN,aL,aJ,aQ,aK,ay,aB,aP,aO,aM,aA,az,aI]
 ·have h1:=hlv h0;rw[bb h0] at q0;rw[Je h0,dn h0 h1] at qt;rw[bb h1,bb (by rw[hn4.1];exact h1),hn4.1,hn4.2] at qk;refine cJ (n:=8) hE hlx hly 4 (by decide) h0 (by rw[hn4.1];exact h1) ?_ (bn _ _ _) rfl;show (au (bj ch (cg N)) 8 120 [.ptr 0 0,.int .i64 n] ⟨2,[.row (aj st.names),.row [x,y,.int .i64 st.at_,.int .i64 st.next,.vec 1 0 st.names.length 2 st.names.length]],2,2⟩).map _=_;rw[ye,hn4.1,hn4.2];rw[zj] at qt;generalize cb [] us=cu at *;generalize a8 [41] s1=b4 at *;obtain⟨b4,s4⟩:=b4;have e1:=aG s1.names;have e2:=aF s1.names;have e3:=ah s1.names;generalize aj s1.names=Fs1 at *;generalize s1.names.length=ns1 at *;have f1:=aG st.names;have f2:=aF st.names;have f3:=ah st.names;generalize aj st.names=Fst at *;generalize st.names.length=nst at *;simp[aV,ca,ff,an,ch,cg,cO,bw,a6,aX,cL,ak,ba,bA,aY,bB,w1,q0,qt,qn,k3,k4,k5,w2,ur,uc,qk,e1,e2,e3,f1,f2,f3,x1,y1,g1,g2,g3,g4,g5,g6,kx,ky,rx,ry,-af,-aq,-ag,-keeps,-cN,aL,aJ,aQ,aK,ay,aB,aP,aO,aM,aA,az,aI]
theorem JH (N:Nat) {x y:AV} {T:List bM} {L:List Tok} {st:St} (hx:bD x=some T) (hy:bz y=some L) (hc:RC T L st) (hN:st.rest.length≤N) (hE:bW Tryz.prog cm (bj ch (cg N))) (n:Int) (k1:(bm L st).kind=1) (kt:(bm L st).text=[45]) (ko:(bm L st).gS=false) (k4:(bm L (ax st)).kind=4) (ka:(bm L (ax st)).at_=(bm L st).at_+1):
 bX Tryz.prog cm 120 [.ptr 0 0,.int .i64 n] (c8 x y st) (.tuple [(bo T n st).1.1.enc,.int .i64 (bo T n st).1.2.1,.bool (bo T n st).1.2.2]) (some (db x y st.names (bo T n st).2)):=by
 have ks:(aH st).kind=(bm L st).kind:=by rw[bp hc]
 have ts:(aH st).text=(bm L st).text:=by rw[bp hc]
 have us:(aH st).num=(bm L st).num:=by rw[bp hc]
 have os:(aH st).gS=(bm L st).gS:=by rw[bp hc]
 have k0:(aH st).kind≠0:=by rw[ks,k1];decide
 have hat:=eE hc k0;have c1:=hc.xu (by omega);have hl:=cD st;have hp:=bH (st:=st) k0;have ks1:(aH (ax st)).kind=(bm L (ax st)).kind:=by rw[bp c1]
 have us1:(aH (ax st)).num=(bm L (ax st)).num:=by rw[bp c1]
 have k01:(aH (ax st)).kind≠0:=by rw[ks1,k4];decide
 have hat1:=eE c1 k01;have hat2:st.at_+1 < L.length:=hat1
 have e:bo T n st=((.nl 1 (-(bm L (ax st)).num) [],0,true),ax (ax st)):=by
  unfold bo dI;rw[if_neg (by rw[ks,k1];decide),if_neg (by rw[ks,k1];decide),if_neg (fun e=>absurd (k1.symm.trans (ks.symm.trans e.1)) (by decide)),if_neg (fun e=>absurd (k1.symm.trans (ks.symm.trans e.1)) (by decide)),if_neg (fun e=>absurd (k1.symm.trans (ks.symm.trans e.1)) (by decide)),if_neg (by unfold ey;rw[ks,k1];decide),if_neg (by rw[os,ko];simp),if_pos ⟨ks.trans k1,ts.trans kt,ks1.trans k4,by rw[I6 hc hat2,ka];simp⟩,us1]
 rw[e];have hlx:=bG hx;have hly:=bu hy;have x1:=hlx.refs;have y1:=hly.refs;have g1:=cW hlx hly;have g2:=cV hlx hly;have g3:=cU hlx hly;have g4:=cX hlx hly;have g5:=cZ hlx hly;have g6:=cY hlx hly;have kx:=fun n0 acc r=>bc n0 acc r hlx;have ky:=fun n0 acc r=>bc n0 acc r hly;have rx:=fun n0 ks=>bd n0 ks hlx;have ry:=fun n0 ks=>bd n0 ks hly
 have q0:=dc hx hy hc;rw[bQ] at q0;have qn:=eh (bm L st);have w1:=wrap_i64 (n:=(st.at_:Int)+1) (by omega) (by have:=hc.le;have:=hc.lb;omega);have w2:=wrap_i64 (n:=(st.at_:Int)+1+1) (by omega) (by have:=hc.lb;omega);have tn:=Qq c1 k01;have w3:=wrap_i64 (n:=-(bm L (ax st)).num) (by omega) (by omega);have ta:=Bo hc;have w4:=wrap_i64 (n:=(bm L st).at_+1) (by omega) (by omega);have q1:=dc hx hy c1;rw[bQ,k4,ka] at q1;have qi:=FH (-(bm L (ax st)).num);rw[k1,kt,ko] at q0 qn;dsimp only;by_cases h0:st.names=[]
 ·rw[bh h0] at q0;rw[dO h0] at q1;refine c7 (n:=8) hE hlx hly h0 h0 ?_ (bn _ _ _) rfl;show (au (bj ch (cg N)) 8 120 [.ptr 0 0,.int .i64 n] ⟨1,[.row [x,y,.int .i64 st.at_,.int .i64 st.next,.aw]],1,1⟩).map _=_;rw[pb];simp only[ig,ic,ib];simp[aV,ca,ff,an,ch,cg,cO,bw,a6,aX,cL,ak,ba,bA,aY,bB,w1,q0,qi,qn,q1,w2,w3,w4,x1,y1,g1,g2,g3,g4,g5,g6,kx,ky,rx,ry,-af,-aq,-ag,-keeps,-cN,aL,aJ,aQ,aK,ay,aB,aP,aO,aM,aA,az,aI]
 ·rw[bb h0] at q0;rw[fM h0] at q1;refine cJ (n:=8) hE hlx hly 1 (by decide) h0 h0 ?_ (bn _ _ _) rfl;show (au (bj ch (cg N)) 8 120 [.ptr 0 0,.int .i64 n] ⟨2,[.row (aj st.names),.row [x,y,.int .i64 st.at_,.int .i64 st.next,.vec 1 0 st.names.length 2 st.names.length]],2,2⟩).map _=_;rw[pb];simp only[ig,ic,ib];have f1:=aG st.names;have f2:=aF st.names;have f3:=ah st.names;generalize aj st.names=Fst at *;generalize st.names.length=nst at *;simp[aV,ca,ff,an,ch,cg,cO,bw,a6,aX,cL,ak,ba,bA,aY,bB,w1,f1,f2,f3,q0,qi,qn,q1,w2,w3,w4,x1,y1,g1,g2,g3,g4,g5,g6,kx,ky,rx,ry,-af,-aq,-ag,-keeps,-cN,aL,aJ,aQ,aK,ay,aB,aP,aO,aM,aA,az,aI]
theorem A6 (N:Nat) {x y:AV} {T:List bM} {L:List Tok} {st:St} (hx:bD x=some T) (hy:bz y=some L) (hc:RC T L st) (hN:st.rest.length≤N) (hE:bW Tryz.prog cm (bj ch (cg N))) (n:Int) (kn:(decide ((bm L st).kind=1)||decide ((bm L st).kind=2))=true) (ko:(bm L st).gS=false) (kd:¬ (bm L st).kind=1):
 bX Tryz.prog cm 120 [.ptr 0 0,.int .i64 n] (c8 x y st) (.tuple [(bo T n st).1.1.enc,.int .i64 (bo T n st).1.2.1,.bool (bo T n st).1.2.2]) (some (db x y st.names (bo T n st).2)):=by
 have ks:(aH st).kind=(bm L st).kind:=by rw[bp hc]
 have ts:(aH st).text=(bm L st).text:=by rw[bp hc]
 have us:(aH st).num=(bm L st).num:=by rw[bp hc]
 have os:(aH st).gS=(bm L st).gS:=by rw[bp hc]
 have kc:(bm L st).kind=1∨(bm L st).kind=2:=by
  rw[Bool.or_eq_true,decide_eq_true_eq,decide_eq_true_eq] at kn;exact kn
 have k3:¬ (bm L st).kind=3:=by omega
 have k4:¬ (bm L st).kind=4:=by omega
 have k5:¬ (bm L st).kind=5:=by omega
 have k0:(aH st).kind≠0:=by rw[ks];omega
 have nb:ey (aH st)=true:=by unfold ey;rw[ks];exact kn
 have hat:=eE hc k0;have c1:=hc.xu (by omega);have hl:=cD st;have hp:=bH (st:=st) k0;have ks1:(aH (ax st)).kind=(bm L (ax st)).kind:=by rw[bp c1]
 have e:bo T n st=b9 (ae T) T (lx (bm L st)) n (ax st):=by
  unfold bo dI;rw[if_neg (fun e=>k4 (ks.symm.trans e)),if_neg (fun e=>k3 (ks.symm.trans e)),if_neg (fun e=>k5 (ks.symm.trans e.1)),if_neg (fun e=>k5 (ks.symm.trans e.1)),if_neg (fun e=>k5 (ks.symm.trans e.1)),if_neg (by rw[nb];decide)];rw[if_neg (by rw[os,ko];simp),if_neg (fun e=>kd (ks.symm.trans e.1))];exact vw _ _ ks ts
 rw[e];have hlx:=bG hx;have hly:=bu hy;have x1:=hlx.refs;have y1:=hly.refs;have g1:=cW hlx hly;have g2:=cV hlx hly;have g3:=cU hlx hly;have g4:=cX hlx hly;have g5:=cZ hlx hly;have g6:=cY hlx hly;have kx:=fun n0 acc r=>bc n0 acc r hlx;have ky:=fun n0 acc r=>bc n0 acc r hly;have rx:=fun n0 ks=>bd n0 ks hlx;have ry:=fun n0 ks=>bd n0 ks hly
 have q0:=dc hx hy hc;rw[bQ] at q0;have qn:=eh (bm L st);have w1:=wrap_i64 (n:=(st.at_:Int)+1) (by omega) (by have:=hc.le;have:=hc.lb;omega);have ta:=Bo hc;have w4:=wrap_i64 (n:=(bm L st).at_+1) (by omega) (by omega);have q1:=dc hx hy c1;rw[bQ] at q1;have qt:=nc N hx hy c1 (by omega) (bm L st) n;rw[show (ax st).names=st.names from rfl,ar,bQ] at qt;have hlv:st.names≠[]→(b9 (ae T) T (lx (bm L st)) n (ax st)).2.names≠[]:=fun h=>lM (bK T) (st:=ax st) h
 have ur:=aN (b9 (ae T) T (lx (bm L st)) n (ax st)).1.1;have uc:=dq (b9 (ae T) T (lx (bm L st)) n (ax st)).1.1;rw[kn] at qn;rw[ko] at q0 qn qt;have k2:(bm L st).kind=2:=by omega
 rw[k2] at q0 qn qt;generalize (b9 (ae T) T (lx (bm L st)) n (ax st))=r at *;obtain⟨⟨u,lv,ok⟩,s1⟩:=r;dsimp only at *;by_cases h0:st.names=[]
 ·by_cases h1:s1.names=[]
  ·rw[bh h0] at q0;rw[dO h0,h0,cH h1] at qt;rw[dO h0] at q1;refine c7 (n:=8) hE hlx hly h0 h1 ?_ (bn _ _ _) rfl;show (au (bj ch (cg N)) 8 120 [.ptr 0 0,.int .i64 n] ⟨1,[.row [x,y,.int .i64 st.at_,.int .i64 st.next,.aw]],1,1⟩).map _=_;rw[ar];simp[aV,ca,ff,an,ch,cg,cO,bw,a6,aX,cL,ak,ba,bA,aY,bB,w1,q0,qt,qn,q1,ur,uc,k3,k4,k5,kd,x1,y1,g1,g2,g3,g4,g5,g6,kx,ky,rx,ry,-af,-aq,-ag,-keeps,-cN,aL,aJ,aQ,aK,ay,aB,aP,aO,aM,aA,az,aI]
  ·rw[bh h0] at q0;rw[dO h0,h0,cq h1] at qt;rw[dO h0] at q1;refine dv (n:=8) hE hlx hly 4 (by decide) h0 h1 ?_ (bn _ _ _) rfl;show (au (bj ch (cg N)) 8 120 [.ptr 0 0,.int .i64 n] ⟨1,[.row [x,y,.int .i64 st.at_,.int .i64 st.next,.aw]],1,1⟩).map _=_;rw[ar];have e1:=aG s1.names;have e2:=aF s1.names;have e3:=ah s1.names;generalize aj s1.names=Fs1 at *;generalize s1.names.length=ns1 at *;simp[aV,ca,ff,an,ch,cg,cO,bw,a6,aX,cL,ak,ba,bA,aY,bB,w1,q0,qt,qn,q1,ur,uc,k3,k4,k5,kd,e1,e2,e3,x1,y1,g1,g2,g3,g4,g5,g6,kx,ky,rx,ry,-af,-aq,-ag,-keeps,-cN,aL,aJ,aQ,aK,ay,aB,aP,aO,aM,aA,az,aI]
 ·have h1:=hlv h0;rw[bb h0] at q0;rw[fM h0,dn h0 h1] at qt;rw[fM h0] at q1;refine cJ (n:=8) hE hlx hly 5 (by decide) h0 h1 ?_ (bn _ _ _) rfl;show (au (bj ch (cg N)) 8 120 [.ptr 0 0,.int .i64 n] ⟨2,[.row (aj st.names),.row [x,y,.int .i64 st.at_,.int .i64 st.next,.vec 1 0 st.names.length 2 st.names.length]],2,2⟩).map _=_;rw[ar];have e1:=aG s1.names;have e2:=aF s1.names;have e3:=ah s1.names;generalize aj s1.names=Fs1 at *;generalize s1.names.length=ns1 at *;have f1:=aG st.names;have f2:=aF st.names;have f3:=ah st.names;generalize aj st.names=Fst at *;generalize st.names.length=nst at *;simp[aV,ca,ff,an,ch,cg,cO,bw,a6,aX,cL,ak,ba,bA,aY,bB,w1,q0,qt,qn,q1,ur,uc,k3,k4,k5,kd,e1,e2,e3,f1,f2,f3,x1,y1,g1,g2,g3,g4,g5,g6,kx,ky,rx,ry,-af,-aq,-ag,-keeps,-cN,aL,aJ,aQ,aK,ay,aB,aP,aO,aM,aA,az,aI]
theorem As (N:Nat) {x y:AV} {T:List bM} {L:List Tok} {st:St} (hx:bD x=some T) (hy:bz y=some L) (hc:RC T L st) (hN:st.rest.length≤N) (hE:bW Tryz.prog cm (bj ch (cg N))) (n:Int) (kn:(decide ((bm L st).kind=1)||decide ((bm L st).kind=2))=true) (ko:(bm L st).gS=false) (k1:(bm L st).kind=1) (kd:¬ (bm L st).text=[45]):
 bX Tryz.prog cm 120 [.ptr 0 0,.int .i64 n] (c8 x y st) (.tuple [(bo T n st).1.1.enc,.int .i64 (bo T n st).1.2.1,.bool (bo T n st).1.2.2]) (some (db x y st.names (bo T n st).2)):=by
 have ks:(aH st).kind=(bm L st).kind:=by rw[bp hc]
 have ts:(aH st).text=(bm L st).text:=by rw[bp hc]
 have us:(aH st).num=(bm L st).num:=by rw[bp hc]
 have os:(aH st).gS=(bm L st).gS:=by rw[bp hc]
 have kc:(bm L st).kind=1∨(bm L st).kind=2:=by
  rw[Bool.or_eq_true,decide_eq_true_eq,decide_eq_true_eq] at kn;exact kn
 have k3:¬ (bm L st).kind=3:=by omega
 have k4:¬ (bm L st).kind=4:=by omega
 have k5:¬ (bm L st).kind=5:=by omega
 have k0:(aH st).kind≠0:=by rw[ks];omega
 have nb:ey (aH st)=true:=by unfold ey;rw[ks];exact kn
 have hat:=eE hc k0;have c1:=hc.xu (by omega);have hl:=cD st;have hp:=bH (st:=st) k0;have ks1:(aH (ax st)).kind=(bm L (ax st)).kind:=by rw[bp c1]
 have e:bo T n st=b9 (ae T) T (lx (bm L st)) n (ax st):=by
  unfold bo dI;rw[if_neg (fun e=>k4 (ks.symm.trans e)),if_neg (fun e=>k3 (ks.symm.trans e)),if_neg (fun e=>k5 (ks.symm.trans e.1)),if_neg (fun e=>k5 (ks.symm.trans e.1)),if_neg (fun e=>k5 (ks.symm.trans e.1)),if_neg (by rw[nb];decide)];rw[if_neg (by rw[os,ko];simp),if_neg (fun e=>kd (ts.symm.trans e.2.1))];exact vw _ _ ks ts
 rw[e];have hlx:=bG hx;have hly:=bu hy;have x1:=hlx.refs;have y1:=hly.refs;have g1:=cW hlx hly;have g2:=cV hlx hly;have g3:=cU hlx hly;have g4:=cX hlx hly;have g5:=cZ hlx hly;have g6:=cY hlx hly;have kx:=fun n0 acc r=>bc n0 acc r hlx;have ky:=fun n0 acc r=>bc n0 acc r hly;have rx:=fun n0 ks=>bd n0 ks hlx;have ry:=fun n0 ks=>bd n0 ks hly
 have q0:=dc hx hy hc;rw[bQ] at q0;have qn:=eh (bm L st);have w1:=wrap_i64 (n:=(st.at_:Int)+1) (by omega) (by have:=hc.le;have:=hc.lb;omega);have ta:=Bo hc;have w4:=wrap_i64 (n:=(bm L st).at_+1) (by omega) (by omega);have q1:=dc hx hy c1;rw[bQ] at q1;have qt:=nc N hx hy c1 (by omega) (bm L st) n;rw[show (ax st).names=st.names from rfl,ar,bQ] at qt;have hlv:st.names≠[]→(b9 (ae T) T (lx (bm L st)) n (ax st)).2.names≠[]:=fun h=>lM (bK T) (st:=ax st) h
 have ur:=aN (b9 (ae T) T (lx (bm L st)) n (ax st)).1.1;have uc:=dq (b9 (ae T) T (lx (bm L st)) n (ax st)).1.1;have kd2:((bm L st).text==[45])=false:=by simpa using kd
 rw[kn] at qn;rw[ko] at q0 qn qt;rw[k1] at q0 qn qt;generalize (b9 (ae T) T (lx (bm L st)) n (ax st))=r at *;obtain⟨⟨u,lv,ok⟩,s1⟩:=r;dsimp only at *;by_cases h0:st.names=[]
 ·by_cases h1:s1.names=[]
  ·rw[bh h0] at q0;rw[dO h0,h0,cH h1] at qt;rw[dO h0] at q1;refine c7 (n:=8) hE hlx hly h0 h1 ?_ (bn _ _ _) rfl;show (au (bj ch (cg N)) 8 120 [.ptr 0 0,.int .i64 n] ⟨1,[.row [x,y,.int .i64 st.at_,.int .i64 st.next,.aw]],1,1⟩).map _=_;rw[ar];simp[aV,ca,ff,an,ch,cg,cO,bw,a6,aX,cL,ak,ba,bA,aY,bB,w1,q0,qt,qn,q1,ur,uc,k3,k4,k5,k1,kd,kd2,x1,y1,g1,g2,g3,g4,g5,g6,kx,ky,rx,ry,-af,-aq,-ag,-keeps,-cN,aL,aJ,aQ,aK,ay,aB,aP,aO,aM,aA,az,aI]
  ·rw[bh h0] at q0;rw[dO h0,h0,cq h1] at qt;rw[dO h0] at q1;refine dv (n:=8) hE hlx hly 4 (by decide) h0 h1 ?_ (bn _ _ _) rfl;show (au (bj ch (cg N)) 8 120 [.ptr 0 0,.int .i64 n] ⟨1,[.row [x,y,.int .i64 st.at_,.int .i64 st.next,.aw]],1,1⟩).map _=_;rw[ar];have e1:=aG s1.names;have e2:=aF s1.names;have e3:=ah s1.names;generalize aj s1.names=Fs1 at *;generalize s1.names.length=ns1 at *;simp[aV,ca,ff,an,ch,cg,cO,bw,a6,aX,cL,ak,ba,bA,aY,bB,w1,q0,qt,qn,q1,ur,uc,k3,k4,k5,k1,kd,kd2,e1,e2,e3,x1,y1,g1,g2,g3,g4,g5,g6,kx,ky,rx,ry,-af,-aq,-ag,-keeps,-cN,aL,aJ,aQ,aK,ay,aB,aP,aO,aM,aA,az,aI]
 ·have h1:=hlv h0;rw[bb h0] at q0;rw[fM h0,dn h0 h1] at qt;rw[fM h0] at q1;refine cJ (n:=8) hE hlx hly 5 (by decide) h0 h1 ?_ (bn _ _ _) rfl;show (au (bj ch (cg N)) 8 120 [.ptr 0 0,.int .i64 n] ⟨2,[.row (aj st.names),.row [x,y,.int .i64 st.at_,.int .i64 st.next,.vec 1 0 st.names.length 2 st.names.length]],2,2⟩).map _=_;rw[ar];have e1:=aG s1.names;have e2:=aF s1.names;have e3:=ah s1.names;generalize aj s1.names=Fs1 at *;generalize s1.names.length=ns1 at *;have f1:=aG st.names;have f2:=aF st.names;have f3:=ah st.names;generalize aj st.names=Fst at *;generalize st.names.length=nst at *;simp[aV,ca,ff,an,ch,cg,cO,bw,a6,aX,cL,ak,ba,bA,aY,bB,w1,q0,qt,qn,q1,ur,uc,k3,k4,k5,k1,kd,kd2,e1,e2,e3,f1,f2,f3,x1,y1,g1,g2,g3,g4,g5,g6,kx,ky,rx,ry,-af,-aq,-ag,-keeps,-cN,aL,aJ,aQ,aK,ay,aB,aP,aO,aM,aA,az,aI]
theorem B0 (N:Nat) {x y:AV} {T:List bM} {L:List Tok} {st:St} (hx:bD x=some T) (hy:bz y=some L) (hc:RC T L st) (hN:st.rest.length≤N) (hE:bW Tryz.prog cm (bj ch (cg N))) (n:Int) (kn:(decide ((bm L st).kind=1)||decide ((bm L st).kind=2))=true) (ko:(bm L st).gS=false) (k1:(bm L st).kind=1) (kt:(bm L st).text=[45]) (kd:¬ (bm L (ax st)).kind=4):
 bX Tryz.prog cm 120 [.ptr 0 0,.int .i64 n] (c8 x y st) (.tuple [(bo T n st).1.1.enc,.int .i64 (bo T n st).1.2.1,.bool (bo T n st).1.2.2]) (some (db x y st.names (bo T n st).2)):=by
 have ks:(aH st).kind=(bm L st).kind:=by rw[bp hc]
 have ts:(aH st).text=(bm L st).text:=by rw[bp hc]
 have us:(aH st).num=(bm L st).num:=by rw[bp hc]
 have os:(aH st).gS=(bm L st).gS:=by rw[bp hc]
 have kc:(bm L st).kind=1∨(bm L st).kind=2:=by
  rw[Bool.or_eq_true,decide_eq_true_eq,decide_eq_true_eq] at kn;exact kn
 have k3:¬ (bm L st).kind=3:=by omega
 have k4:¬ (bm L st).kind=4:=by omega
 have k5:¬ (bm L st).kind=5:=by omega
 have k0:(aH st).kind≠0:=by rw[ks];omega
 have nb:ey (aH st)=true:=by unfold ey;rw[ks];exact kn
 have hat:=eE hc k0;have c1:=hc.xu (by omega);have hl:=cD st;have hp:=bH (st:=st) k0;have ks1:(aH (ax st)).kind=(bm L (ax st)).kind:=by rw[bp c1]
 have e:bo T n st=b9 (ae T) T (lx (bm L st)) n (ax st):=by
  unfold bo dI;rw[if_neg (fun e=>k4 (ks.symm.trans e)),if_neg (fun e=>k3 (ks.symm.trans e)),if_neg (fun e=>k5 (ks.symm.trans e.1)),if_neg (fun e=>k5 (ks.symm.trans e.1)),if_neg (fun e=>k5 (ks.symm.trans e.1)),if_neg (by rw[nb];decide)];rw[if_neg (by rw[os,ko];simp),if_neg (fun e=>kd (ks1.symm.trans e.2.2.1))];exact vw _ _ ks ts
 rw[e];have hlx:=bG hx;have hly:=bu hy;have x1:=hlx.refs;have y1:=hly.refs;have g1:=cW hlx hly;have g2:=cV hlx hly;have g3:=cU hlx hly;have g4:=cX hlx hly;have g5:=cZ hlx hly;have g6:=cY hlx hly;have kx:=fun n0 acc r=>bc n0 acc r hlx;have ky:=fun n0 acc r=>bc n0 acc r hly;have rx:=fun n0 ks=>bd n0 ks hlx;have ry:=fun n0 ks=>bd n0 ks hly
 have q0:=dc hx hy hc;rw[bQ] at q0;have qn:=eh (bm L st);have w1:=wrap_i64 (n:=(st.at_:Int)+1) (by omega) (by have:=hc.le;have:=hc.lb;omega);have ta:=Bo hc;have w4:=wrap_i64 (n:=(bm L st).at_+1) (by omega) (by omega);have q1:=dc hx hy c1;rw[bQ] at q1;have qt:=nc N hx hy c1 (by omega) (bm L st) n;rw[show (ax st).names=st.names from rfl,ar,bQ] at qt;have hlv:st.names≠[]→(b9 (ae T) T (lx (bm L st)) n (ax st)).2.names≠[]:=fun h=>lM (bK T) (st:=ax st) h
 have ur:=aN (b9 (ae T) T (lx (bm L st)) n (ax st)).1.1;have uc:=dq (b9 (ae T) T (lx (bm L st)) n (ax st)).1.1;rw[kn] at qn;rw[ko] at q0 qn qt;rw[k1] at q0 qn qt;rw[kt] at q0 qn qt;generalize (b9 (ae T) T (lx (bm L st)) n (ax st))=r at *;obtain⟨⟨u,lv,ok⟩,s1⟩:=r;dsimp only at *;by_cases h0:st.names=[]
 ·by_cases h1:s1.names=[]
  ·rw[bh h0] at q0;rw[dO h0,h0,cH h1] at qt;rw[dO h0] at q1;refine c7 (n:=8) hE hlx hly h0 h1 ?_ (bn _ _ _) rfl;show (au (bj ch (cg N)) 8 120 [.ptr 0 0,.int .i64 n] ⟨1,[.row [x,y,.int .i64 st.at_,.int .i64 st.next,.aw]],1,1⟩).map _=_;rw[ar];simp[aV,ca,ff,an,ch,cg,cO,bw,a6,aX,cL,ak,ba,bA,aY,bB,w1,q0,qt,qn,q1,ur,uc,k3,k4,k5,k1,kt,kd,x1,y1,g1,g2,g3,g4,g5,g6,kx,ky,rx,ry,-af,-aq,-ag,-keeps,-cN,aL,aJ,aQ,aK,ay,aB,aP,aO,aM,aA,az,aI]
  ·rw[bh h0] at q0;rw[dO h0,h0,cq h1] at qt;rw[dO h0] at q1;refine dv (n:=8) hE hlx hly 4 (by decide) h0 h1 ?_ (bn _ _ _) rfl;show (au (bj ch (cg N)) 8 120 [.ptr 0 0,.int .i64 n] ⟨1,[.row [x,y,.int .i64 st.at_,.int .i64 st.next,.aw]],1,1⟩).map _=_;rw[ar];have e1:=aG s1.names;have e2:=aF s1.names;have e3:=ah s1.names;generalize aj s1.names=Fs1 at *;generalize s1.names.length=ns1 at *;simp[aV,ca,ff,an,ch,cg,cO,bw,a6,aX,cL,ak,ba,bA,aY,bB,w1,q0,qt,qn,q1,ur,uc,k3,k4,k5,k1,kt,kd,e1,e2,e3,x1,y1,g1,g2,g3,g4,g5,g6,kx,ky,rx,ry,-af,-aq,-ag,-keeps,-cN,aL,aJ,aQ,aK,ay,aB,aP,aO,aM,aA,az,aI]
 ·have h1:=hlv h0;rw[bb h0] at q0;rw[fM h0,dn h0 h1] at qt;rw[fM h0] at q1;refine cJ (n:=8) hE hlx hly 5 (by decide) h0 h1 ?_ (bn _ _ _) rfl;show (au (bj ch (cg N)) 8 120 [.ptr 0 0,.int .i64 n] ⟨2,[.row (aj st.names),.row [x,y,.int .i64 st.at_,.int .i64 st.next,.vec 1 0 st.names.length 2 st.names.length]],2,2⟩).map _=_;rw[ar];have e1:=aG s1.names;have e2:=aF s1.names;have e3:=ah s1.names;generalize aj s1.names=Fs1 at *;generalize s1.names.length=ns1 at *;have f1:=aG st.names;have f2:=aF st.names;have f3:=ah st.names;generalize aj st.names=Fst at *;generalize st.names.length=nst at *;simp[aV,ca,ff,an,ch,cg,cO,bw,a6,aX,cL,ak,ba,bA,aY,bB,w1,q0,qt,qn,q1,ur,uc,k3,k4,k5,k1,kt,kd,e1,e2,e3,f1,f2,f3,x1,y1,g1,g2,g3,g4,g5,g6,kx,ky,rx,ry,-af,-aq,-ag,-keeps,-cN,aL,aJ,aQ,aK,ay,aB,aP,aO,aM,aA,az,aI]
theorem Bf (N:Nat) {x y:AV} {T:List bM} {L:List Tok} {st:St} (hx:bD x=some T) (hy:bz y=some L) (hc:RC T L st) (hN:st.rest.length≤N) (hE:bW Tryz.prog cm (bj ch (cg N))) (n:Int) (kn:(decide ((bm L st).kind=1)||decide ((bm L st).kind=2))=true) (ko:(bm L st).gS=false) (k1:(bm L st).kind=1) (kt:(bm L st).text=[45]) (k44:(bm L (ax st)).kind=4) (kd:¬ (bm L (ax st)).at_=(bm L st).at_+1):
 bX Tryz.prog cm 120 [.ptr 0 0,.int .i64 n] (c8 x y st) (.tuple [(bo T n st).1.1.enc,.int .i64 (bo T n st).1.2.1,.bool (bo T n st).1.2.2]) (some (db x y st.names (bo T n st).2)):=by
 have ks:(aH st).kind=(bm L st).kind:=by rw[bp hc]
 have ts:(aH st).text=(bm L st).text:=by rw[bp hc]
 have us:(aH st).num=(bm L st).num:=by rw[bp hc]
 have os:(aH st).gS=(bm L st).gS:=by rw[bp hc]
 have kc:(bm L st).kind=1∨(bm L st).kind=2:=by
  rw[Bool.or_eq_true,decide_eq_true_eq,decide_eq_true_eq] at kn;exact kn
 have k3:¬ (bm L st).kind=3:=by omega
 have k4:¬ (bm L st).kind=4:=by omega
 have k5:¬ (bm L st).kind=5:=by omega
 have k0:(aH st).kind≠0:=by rw[ks];omega
 have nb:ey (aH st)=true:=by unfold ey;rw[ks];exact kn
 have hat:=eE hc k0;have c1:=hc.xu (by omega);have hl:=cD st;have hp:=bH (st:=st) k0;have ks1:(aH (ax st)).kind=(bm L (ax st)).kind:=by rw[bp c1]
 have e:bo T n st=b9 (ae T) T (lx (bm L st)) n (ax st):=by
  unfold bo dI;rw[if_neg (fun e=>k4 (ks.symm.trans e)),if_neg (fun e=>k3 (ks.symm.trans e)),if_neg (fun e=>k5 (ks.symm.trans e.1)),if_neg (fun e=>k5 (ks.symm.trans e.1)),if_neg (fun e=>k5 (ks.symm.trans e.1)),if_neg (by rw[nb];decide)];rw[if_neg (by rw[os,ko];simp),if_neg (fun e=>kd (of_decide_eq_true ((I6 hc (eE c1 (by rw[ks1,k44];decide))).symm.trans e.2.2.2)))];exact vw _ _ ks ts
 rw[e];have hlx:=bG hx;have hly:=bu hy;have x1:=hlx.refs;have y1:=hly.refs;have g1:=cW hlx hly;have g2:=cV hlx hly;have g3:=cU hlx hly;have g4:=cX hlx hly;have g5:=cZ hlx hly;have g6:=cY hlx hly;have kx:=fun n0 acc r=>bc n0 acc r hlx;have ky:=fun n0 acc r=>bc n0 acc r hly;have rx:=fun n0 ks=>bd n0 ks hlx;have ry:=fun n0 ks=>bd n0 ks hly
 have q0:=dc hx hy hc;rw[bQ] at q0;have qn:=eh (bm L st);have w1:=wrap_i64 (n:=(st.at_:Int)+1) (by omega) (by have:=hc.le;have:=hc.lb;omega);have ta:=Bo hc;have w4:=wrap_i64 (n:=(bm L st).at_+1) (by omega) (by omega);have q1:=dc hx hy c1;rw[bQ] at q1;have qt:=nc N hx hy c1 (by omega) (bm L st) n;rw[show (ax st).names=st.names from rfl,ar,bQ] at qt;have hlv:st.names≠[]→(b9 (ae T) T (lx (bm L st)) n (ax st)).2.names≠[]:=fun h=>lM (bK T) (st:=ax st) h
 have ur:=aN (b9 (ae T) T (lx (bm L st)) n (ax st)).1.1;have uc:=dq (b9 (ae T) T (lx (bm L st)) n (ax st)).1.1;rw[k44] at q1;rw[kn] at qn;rw[ko] at q0 qn qt;rw[k1] at q0 qn qt;rw[kt] at q0 qn qt;generalize (b9 (ae T) T (lx (bm L st)) n (ax st))=r at *;obtain⟨⟨u,lv,ok⟩,s1⟩:=r;dsimp only at *;by_cases h0:st.names=[]
 ·by_cases h1:s1.names=[]
  ·rw[bh h0] at q0;rw[dO h0,h0,cH h1] at qt;rw[dO h0] at q1;refine c7 (n:=8) hE hlx hly h0 h1 ?_ (bn _ _ _) rfl;show (au (bj ch (cg N)) 8 120 [.ptr 0 0,.int .i64 n] ⟨1,[.row [x,y,.int .i64 st.at_,.int .i64 st.next,.aw]],1,1⟩).map _=_;rw[ar];simp[aV,ca,ff,an,ch,cg,cO,bw,a6,aX,cL,ak,ba,bA,aY,bB,w1,q0,qt,qn,q1,ur,uc,k3,k4,k5,k1,kt,kd,w4,x1,y1,g1,g2,g3,g4,g5,g6,kx,ky,rx,ry,-af,-aq,-ag,-keeps,-cN,aL,aJ,aQ,aK,ay,aB,aP,aO,aM,aA,az,aI]
  ·rw[bh h0] at q0;rw[dO h0,h0,cq h1] at qt;rw[dO h0] at q1;refine dv (n:=8) hE hlx hly 4 (by decide) h0 h1 ?_ (bn _ _ _) rfl;show (au (bj ch (cg N)) 8 120 [.ptr 0 0,.int .i64 n] ⟨1,[.row [x,y,.int .i64 st.at_,.int .i64 st.next,.aw]],1,1⟩).map _=_;rw[ar];have e1:=aG s1.names;have e2:=aF s1.names;have e3:=ah s1.names;generalize aj s1.names=Fs1 at *;generalize s1.names.length=ns1 at *;simp[aV,ca,ff,an,ch,cg,cO,bw,a6,aX,cL,ak,ba,bA,aY,bB,w1,q0,qt,qn,q1,ur,uc,k3,k4,k5,k1,kt,kd,w4,e1,e2,e3,x1,y1,g1,g2,g3,g4,g5,g6,kx,ky,rx,ry,-af,-aq,-ag,-keeps,-cN,aL,aJ,aQ,aK,ay,aB,aP,aO,aM,aA,az,aI]
 ·have h1:=hlv h0;rw[bb h0] at q0;rw[fM h0,dn h0 h1] at qt;rw[fM h0] at q1;refine cJ (n:=8) hE hlx hly 5 (by decide) h0 h1 ?_ (bn _ _ _) rfl;show (au (bj ch (cg N)) 8 120 [.ptr 0 0,.int .i64 n] ⟨2,[.row (aj st.names),.row [x,y,.int .i64 st.at_,.int .i64 st.next,.vec 1 0 st.names.length 2 st.names.length]],2,2⟩).map _=_;rw[ar];have e1:=aG s1.names;have e2:=aF s1.names;have e3:=ah s1.names;generalize aj s1.names=Fs1 at *;generalize s1.names.length=ns1 at *;have f1:=aG st.names;have f2:=aF st.names;have f3:=ah st.names;generalize aj st.names=Fst at *;generalize st.names.length=nst at *;simp[aV,ca,ff,an,ch,cg,cO,bw,a6,aX,cL,ak,ba,bA,aY,bB,w1,q0,qt,qn,q1,ur,uc,k3,k4,k5,k1,kt,kd,w4,e1,e2,e3,f1,f2,f3,x1,y1,g1,g2,g3,g4,g5,g6,kx,ky,rx,ry,-af,-aq,-ag,-keeps,-cN,aL,aJ,aQ,aK,ay,aB,aP,aO,aM,aA,az,aI]
end Go.Proofs.YtjmeonoabiliiaaGreatDoor
