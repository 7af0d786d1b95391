import Derived.Test.YtjmeonoabiliiaaGreatDoorAt
import Derived.Test.YtjmeonoabiliiaaGreatDoorBd2
set_option linter.all false
set_option maxHeartbeats 16000000
set_option maxRecDepth 100000
namespace Go.Proofs.YtjmeonoabiliiaaGreatDoor
open Go Sz
section
theorem Hf{y:AV}{L:List Tok}(hy:bA y=some L):∀(fr:List AV) (h:af) (o:cX),o.ev fr=y->bC fr h (.xn o)=some (.int .i64 L.length,h):=λfr h o ho=>by
 rw[lW,ho];rcases uq hy with⟨rfl,rfl⟩|rfl
 .rfl
 .simp
def bb(L:List Tok)(st:St):Tok:=L.getD st.bM Aa
theorem br{T:List aY}{L:List Tok}{st:St}(h:RC T L st):aB st=⟨(bb L st).ah,(bb L st).ay,(bb L st).bx,(bb L st).iT,Zq (bb L st) (L.drop (st.bM+1))⟩:=by
 unfold aB bb;rw[h.ak,GN];by_cases hl:st.bM<L.length
 .rw[List.drop_eq_getElem_cons hl];simp[kB,List.getD,hl]
 .rw[List.drop_of_length_le (by omega),List.drop_of_length_le (by omega)];simp[kB,List.getD,show L.length<=st.bM by omega,WJ,Aa,Zq]
theorem V5{T:List aY}{L:List Tok}{st:St}(h:RC T L st):(st.bM<L.length/\L[st.bM]? =some (bb L st))\/(L.length<=st.bM/\bb L st=Aa):=by
 unfold bb;by_cases hl:st.bM<L.length
 .exact .inl ⟨hl,by simp[List.getD,hl]⟩
 .exact .inr ⟨by omega,by simp[List.getD,show L.length<=st.bM by omega]⟩
theorem fQ{T:List aY}{L:List Tok}{st:St}(h:RC T L st)(hk:(aB st).ah≠0):st.bM<L.length:=by
 rw[br h] at hk;rcases V5 h with⟨h1,_⟩|⟨_,h2⟩
 .exact h1
 .rw[h2] at hk;exact absurd rfl hk
theorem adG{T:List aY}{L:List Tok}{st:St}(h:RC T L st)(hl:st.bM<=L.length):st.bM+st.ak.length=L.length:=by rw[h.ak,List.length_drop,gG];omega
theorem RC.FG{T:List aY}{L:List Tok}{st:St}(h:RC T L st)(hl:st.bM<=L.length):RC T L (aq st):=by
 refine⟨?_,?_,?_,h.nm,h.lb,h.tb,h.tk,h.rg,h.Q9,h.Jt⟩
 .show st.ak.tail=(kB L).drop (st.bM+1);rw[h.ak,List.tail_drop]
 .show st.bM+1<=_;omega
 .show st.next<=st.bM+1
  have:=h.nx;omega
theorem RC.ok{T:List aY}{L:List Tok}{st dv:St}(h:RC T L st)(g:Ok st dv):RC T L dv/\dv.bM<=L.length:=by
 have hl:st.bM<=L.length:=by have hp:=g.pos;rw[h.ak,List.length_drop,gG] at hp;omega
 have t1:=adG h hl;have t2:=g.tot;obtain⟨k,hk⟩:=g.lv.suf;have cT:dv.ak.length=st.ak.length-k:=by rw[hk,List.length_drop]
 have lO:=g.pos;have:=g.nxr;have:=g.lv.nm;have:=g.lv.nx;have h1:=h.nx;have h2:=h.nm;have CY:k<=st.ak.length\/st.ak.length<k:=by omega
 refine⟨⟨?_,by omega,by omega,by omega,h.lb,h.tb,h.tk,g.lv.rg h.rg,g.lv.Q9 h.Q9,h.Jt⟩,by omega⟩;rw[hk,h.ak,List.drop_drop];rcases CY with CY|CY
 .congr 1;omega
 .have e1:(kB L).length=L.length:=gG L;rw[List.drop_of_length_le (by rw[e1];omega),List.drop_of_length_le (by rw[e1];omega)]
section
variable {X:World->Prop}{P:Program}{E:Env}(hE:bY P X E){n f:Nat}{ak:List AV}{x y v:AV}{st dv:St}(hx:Laid x)(hy:Laid y)
include hE hx hy
theorem As(h1:st.ae=[]->(aH E n f (.ptr 0 0::ak) ⟨1,[.row [x,y,.int .i64 st.bM,.int .i64 st.next,.aD]],1,1⟩).map (λp=>(p.1,p.2.get 0))=some (v,some (.row [x,y,.int .i64 st.bM,.int .i64 st.next,.aD])))
 (h2:st.ae≠[]->(aH E n f (.ptr 0 0::ak) ⟨2,[.row (bm st.ae),.row [x,y,.int .i64 st.bM,.int .i64 st.next,.vec 1 0 st.ae.length 2 st.ae.length]],2,2⟩).map (λp=>(p.1,p.2.get 0,p.2.get 1))=
  some (v,some (.row [x,y,.int .i64 st.bM,.int .i64 st.next,.vec 1 0 st.ae.length 2 st.ae.length]),some (.row (bm st.ae))))
 (hv:v.aK=0) (hr:AV.aj ak=0):ck P X f (.ptr 0 0::ak) (dz x y st) v none:=by
 by_cases h0:st.ae=[]
 .have e1:dz x y st=[.row [x,y,.int .i64 st.bM,.int .i64 st.next,.aD]]:=by unfold dz;rw[h0];rfl
  rw[e1];obtain⟨⟨v1,h⟩,g1,g2⟩:=Option.map_eq_some_iff.1 (h1 h0);simp only[Prod.mk.injEq] at g2;obtain⟨rfl,g3⟩:=g2;exact G8 hE g1 g3 hv hr (by simp[AV.aj,hx.aK,hy.aK,AV.aK])
 .have e1:dz x y st=[.row [x,y,.int .i64 st.bM,.int .i64 st.next,.vec 1 0 st.ae.length 2 st.ae.length],.row (bm st.ae)]:=by
   unfold dz nY yH
   cases hn:st.ae with
   |nil=>exact absurd hn h0
   |cons p r=>rfl
  rw[e1];obtain⟨⟨v1,h⟩,g1,g2⟩:=Option.map_eq_some_iff.1 (h2 h0);simp only[Prod.mk.injEq] at g2;obtain⟨rfl,g3,g4⟩:=g2;refine Er hE g1 (λi hi=>?_) hv hr (by simp) (λo ho=>?_)
  .match i,hi with
   |0,_=>exact g3
   |1,_=>exact g4
   |i+2,hi=>simp only[List.length_cons,List.length_nil] at hi;omega
  .simp only[List.mem_cons,List.not_mem_nil,or_false] at ho;rcases ho with rfl|rfl
   .exact zk hx hy _ _ (by rfl)
   .exact oV _ (bO _)
theorem RG(qq:dv.ae=st.ae)(h1:st.ae=[]->(aH E n f (.ptr 0 0::ak) ⟨1,[.row [x,y,.int .i64 st.bM,.int .i64 st.next,.aD]],1,1⟩).map (λp=>(p.1,p.2.get 0))=some (v,some (.row [x,y,.int .i64 dv.bM,.int .i64 dv.next,.aD])))
 (h2:st.ae≠[]->(aH E n f (.ptr 0 0::ak) ⟨2,[.row (bm st.ae),.row [x,y,.int .i64 st.bM,.int .i64 st.next,.vec 1 0 st.ae.length 2 st.ae.length]],2,2⟩).map (λp=>(p.1,p.2.get 0,p.2.get 1))=
  some (v,some (.row [x,y,.int .i64 dv.bM,.int .i64 dv.next,.vec 1 0 st.ae.length 2 st.ae.length]),some (.row (bm st.ae))))
 (hv:v.aK=0) (hr:AV.aj ak=0):ck P X f (.ptr 0 0::ak) (dz x y st) v (some (dz x y dv)):=by
 by_cases h0:st.ae=[]
 .have e1:dz x y st=[.row [x,y,.int .i64 st.bM,.int .i64 st.next,.aD]]:=by unfold dz;rw[h0];rfl
  have e2:dz x y dv=[.row [x,y,.int .i64 dv.bM,.int .i64 dv.next,.aD]]:=by unfold dz;rw[qq,h0];rfl
  rw[e1,e2];exact vY hE (h1 h0) hv hr (by simp[AV.aj,hx.aK,hy.aK,AV.aK])
 .have e1:∀s:St,s.ae=st.ae->dz x y s=[.row [x,y,.int .i64 s.bM,.int .i64 s.next,.vec 1 0 st.ae.length 2 st.ae.length],.row (bm st.ae)]:=λs hs=>by
   unfold dz nY yH;rw[hs]
   cases hn:st.ae with
   |nil=>exact absurd hn h0
   |cons p r=>rfl
  rw[e1 st rfl,e1 dv qq];obtain⟨⟨v1,h⟩,g1,g2⟩:=Option.map_eq_some_iff.1 (h2 h0);simp only[Prod.mk.injEq] at g2;obtain⟨rfl,g3,g4⟩:=g2;refine CC (qs:=[]) hE g1 hv hr (by simp) (by simp) (CX (by simp) (by simp) (by simp) λi o ho _=>?_)
  match i,ho with
  |0,ho=>simp only[List.getElem?_cons_zero,Option.some.injEq] at ho;subst ho;rw[vI hx hy];exact⟨g3,zk hx hy _ _ (by rfl)⟩
  |1,ho=>simp only[List.getElem?_cons_succ,List.getElem?_cons_zero,Option.some.injEq] at ho;subst ho;rw[qT _ (bO _)];exact⟨g4,oV _ (bO _)⟩
  |i+2,ho=>simp at ho
end
noncomputable def wE:cq:=⟨72,λ
 |[.ptr 0 0],os=>(match xz os with|some R=>some ((bb R.L R.st).aR,none)|none=>none)
 |_,_=>none⟩
theorem fK:wE.f=72:=(rfl)
theorem dH{x y:AV}{T:List aY}{L:List Tok}{st:St}(hx:a8 x=some T)(hy:bA y=some L)(h:RC T L st):wE.S [.ptr 0 0] (dz x y st)=some ((bb L st).aR,none):=by simp only[wE,lz hx hy h]
theorem PQ(v:AV)(hv:v=.aD\/∃k l,v=.vec k 0 l 2 l)(x y:AV)(T:List aY)(L:List Tok)(st:St)(hx:a8 x=some T)(hy:bA y=some L)(h:RC T L st):
 (aH (cg [] []) 4 72 [.ptr 0 0] ⟨1,[.row [x,y,.int .i64 st.bM,.int .i64 st.next,v]],1,1⟩=some ((bb L st).aR,⟨1,[.row [x,y,.int .i64 st.bM,.int .i64 st.next,v]],1,1⟩))/\
 ∀F,(aH (cg [] []) 4 72 [.ptr 0 0] ⟨2,[.row F,.row [x,y,.int .i64 st.bM,.int .i64 st.next,v]],2,2⟩=some ((bb L st).aR,⟨2,[.row F,.row [x,y,.int .i64 st.bM,.int .i64 st.next,v]],2,2⟩)):=by
 have bX:=Hf hy;have oI:=h.lb;have MF:(bb L st).aR=.agg [.int .i64 (bb L st).ah,.str (bb L st).ay,.int .i64 (bb L st).bx,.bool (bb L st).iT,.int .i64 (bb L st).bM]:=rfl;rcases V5 h with⟨h1,h2⟩|⟨h1,h2⟩
 .have h3:((L.length:Int)<=(st.bM:Int))=False:=eq_false (by omega)
  have hyl:y=.sl (L.map Tok.aR):=by
   rcases uq hy with⟨rfl,rfl⟩|rfl
   .simp at h1
   .rfl
  subst hyl;have hc:(L.map Tok.aR)[st.bM]? =some (.agg [.int .i64 (bb L st).ah,.str (bb L st).ay,.int .i64 (bb L st).bx,.bool (bb L st).iT,.int .i64 (bb L st).bM]):=by rw[List.getElem?_map,h2];rfl
  have hUl:(L.map Tok.aR).length=L.length:=List.length_map _;have b0:(0:Int)<=(st.bM:Int):=by omega
  rw[MF];generalize bb L st=t at *;have Mw:(L.length<=st.bM)=False:=eq_false (by omega);generalize L.map Tok.aR=U at *;refine⟨?_,λF=>?_⟩
  .simp[HZ,c72,hUl,h3,Mw,hc,b0]
  .simp[HZ,c72,hUl,h3,Mw,hc,b0]
 .have h3:((L.length:Int)<=(st.bM:Int))=True:=eq_true (by omega);rw[MF,h2];refine⟨?_,λF=>?_⟩
  .simp[HZ,c72,bX,h3,Aa,h1]
  .simp[HZ,c72,bX,h3,Aa,h1]
theorem Ad:cr Tryz.prog bV wE:=λaa os v r hv=>by
 unfold wE at hv;dsimp only at hv;split at hv
 .rename_i os;split at hv
  .rename_i R hR;cases hv;obtain⟨hx,hy,rfl,hc⟩:=ke hR;rw[fK];have hE:bY Tryz.prog bV (cg [] []):=dW (by simp) (by simp);refine As (n:=4) hE (bK hx) (bu hy) (λ_=>?_) (λ_=>?_) (by simp[Tok.aR,Tok.cells,AV.aK,AV.aj]) rfl
   .rw[(PQ .aD (.inl rfl) _ _ _ _ _ hx hy hc).1];rfl
   .rw[(PQ (.vec 1 0 _ 2 _) (.inr ⟨1,_,rfl⟩) _ _ _ _ _ hx hy hc).2];rfl
  .cases hv
 .cases hv
def qY:aZ:=⟨162,λ|[v]=>(ym v).map λt=>.bool (decide (t.ah=1)||decide (t.ah=2))|_=>none⟩
theorem fm:qY.f=162:=(rfl)
theorem fN(t:Tok):qY.S [.agg [.int .i64 t.ah,.str t.ay,.int .i64 t.bx,.bool t.iT,.int .i64 t.bM]]=some (.bool (decide (t.ah=1)||decide (t.ah=2))):=(rfl)
theorem Ef:bB Tryz.prog qY:=λaa v hv=>by
 unfold qY at hv|-;dsimp only at hv|-;split at hv
 .obtain⟨t,ht,rfl⟩:=Option.map_eq_some_iff.1 hv;rw[yX ht];refine cf (n:=4) (h':=h0) (ch (ss:=[]) (by simp)) ?_ rfl (by simp[Tok.aR,Tok.cells,AV.aK,AV.aj]);have MF:t.aR=.agg [.int .i64 t.ah,.str t.ay,.int .i64 t.bx,.bool t.iT,.int .i64 t.bM]:=rfl;rw[MF];by_cases h1:t.ah=1
  .simp[N8,c162,h1]
  .by_cases h2:t.ah=2
   .simp[N8,c162,h2]
   .simp[N8,c162,h1,h2]
 .cases hv
def eI(T:List aY)(t:Tok):aY×Bool:=cC T ⟨t.ah,t.ay,t.bx,t.iT,false⟩
theorem qV{T:List aY}{L:List Tok}{st:St}(h:RC T L st):cC T (aB st)=eI T (bb L st):=by rw[br h];rfl
noncomputable def Gy:cq:=⟨121,λ
 |[.ptr 0 0,w],os=>(match xz os,ym w with|some R,some t=>some (.tuple [(eI R.T t).1.aR,.bool (eI R.T t).2],none)|_,_=>none)
 |_,_=>none⟩
theorem Ie:Gy.f=121:=(rfl)
theorem rK{x y:AV}{T:List aY}{L:List Tok}{st:St}(hx:a8 x=some T)(hy:bA y=some L)(h:RC T L st)(t:Tok):
 Gy.S [.ptr 0 0,.agg [.int .i64 t.ah,.str t.ay,.int .i64 t.bx,.bool t.iT,.int .i64 t.bM]] (dz x y st)=some (.tuple [(eI T t).1.aR,.bool (eI T t).2],none):=by
 have e:ym (.agg [.int .i64 t.ah,.str t.ay,.int .i64 t.bx,.bool t.iT,.int .i64 t.bM])=some t:=rfl;simp only[Gy,lz hx hy h,e]
theorem Lw(x:AV)(T:List aY)(hx:a8 x=some T)(hT:T.length<1000000)(t:Tok)(y a b v:AV):
 (aH (cg [qY,FB] []) 6 121 [.ptr 0 0,t.aR] ⟨1,[.row [x,y,a,b,v]],1,1⟩=some (.tuple [(eI T t).1.aR,.bool (eI T t).2],⟨1,[.row [x,y,a,b,v]],1,1⟩))/\
 ∀F,(aH (cg [qY,FB] []) 6 121 [.ptr 0 0,t.aR] ⟨2,[.row F,.row [x,y,a,b,v]],2,2⟩=some (.tuple [(eI T t).1.aR,.bool (eI T t).2],⟨2,[.row F,.row [x,y,a,b,v]],2,2⟩)):=by
 have hl:=bK hx;have MF:t.aR=.agg [.int .i64 t.ah,.str t.ay,.int .i64 t.bx,.bool t.iT,.int .i64 t.bM]:=rfl;have q1:=fN t;have q2:=u4 hx t.ay (by omega);have Ap:=λh=>hl.fr h 0 6
 have di:=hl.aK;rw[MF];unfold eI cC dQ;simp only[aY.aR,aY.cells] at q2|-
 have fin:∀s:List UInt8,t.ay=s->∀e:Bool,(s==[44])=e->∀F:List AV,
  (aH (cg [qY,FB] []) 6 121 [.ptr 0 0,.agg [.int .i64 t.ah,.str s,.int .i64 t.bx,.bool t.iT,.int .i64 t.bM]] ⟨1,[.row [x,y,a,b,v]],1,1⟩=some (.tuple [.agg [.str (if !(decide (t.ah=1)||decide (t.ah=2))&&(!decide (t.ah=5)||!decide (s=[44])) then (fF,false) else aM T s false).1.n,.str (if !(decide (t.ah=1)||decide (t.ah=2))&&(!decide (t.ah=5)||!decide (s=[44])) then (fF,false) else aM T s false).1.k,.int .i64 (if !(decide (t.ah=1)||decide (t.ah=2))&&(!decide (t.ah=5)||!decide (s=[44])) then (fF,false) else aM T s false).1.l],.bool (if !(decide (t.ah=1)||decide (t.ah=2))&&(!decide (t.ah=5)||!decide (s=[44])) then (fF,false) else aM T s false).2],⟨1,[.row [x,y,a,b,v]],1,1⟩))/\
  (aH (cg [qY,FB] []) 6 121 [.ptr 0 0,.agg [.int .i64 t.ah,.str s,.int .i64 t.bx,.bool t.iT,.int .i64 t.bM]] ⟨2,[.row F,.row [x,y,a,b,v]],2,2⟩=some (.tuple [.agg [.str (if !(decide (t.ah=1)||decide (t.ah=2))&&(!decide (t.ah=5)||!decide (s=[44])) then (fF,false) else aM T s false).1.n,.str (if !(decide (t.ah=1)||decide (t.ah=2))&&(!decide (t.ah=5)||!decide (s=[44])) then (fF,false) else aM T s false).1.k,.int .i64 (if !(decide (t.ah=1)||decide (t.ah=2))&&(!decide (t.ah=5)||!decide (s=[44])) then (fF,false) else aM T s false).1.l],.bool (if !(decide (t.ah=1)||decide (t.ah=2))&&(!decide (t.ah=5)||!decide (s=[44])) then (fF,false) else aM T s false).2],⟨2,[.row F,.row [x,y,a,b,v]],2,2⟩)):=λs hs e he F=>by
  rw[hs] at q1 q2;by_cases k1:t.ah=1
  .simp[wx,Ix,fm,eJ,Ap,di,k1] at q1|-;simp[wx,Ix,fm,eJ,Ap,di,k1,q1,q2]
  by_cases k2:t.ah=2
  .simp[k1,k2] at q1|-;simp[wx,Ix,fm,eJ,Ap,di,k1,k2,q1,q2]
  by_cases k5:t.ah=5
  .rw[k5] at q1|-
   cases e with
   |true=>
     have MN:s=[44]:=by simpa using he
     subst MN;simp at q1|-;simp[wx,Ix,fm,eJ,Ap,di,q1,q2]
   |false=>
     have MN:¬s=[44]:=by simpa using he
     simp[MN] at q1|-;simp[wx,Ix,fm,eJ,Ap,di,q1,q2,he,MN,fF]
  .simp[k1,k2,k5] at q1|-;simp[wx,Ix,fm,eJ,Ap,di,k1,k2,k5,q1,q2,fF]
 exact⟨(fin t.ay rfl _ rfl []).1,λF=>(fin t.ay rfl _ rfl F).2⟩
theorem VX:cr Tryz.prog bV Gy:=λaa os v r hv=>by
 unfold Gy at hv;dsimp only at hv;split at hv
 .rename_i w os;split at hv
  .rename_i R t hR ht;cases hv;obtain⟨hx,hy,rfl,hc⟩:=ke hR;rw[Ie,yX ht];have hE:bY Tryz.prog bV (cg [qY,FB] []):=dW (by simp[Ef.lift,Bp.lift]) (by simp);refine As (n:=6) hE (bK hx) (bu hy) (λ_=>?_) (λ_=>?_) (by simp[aY.aR,aY.cells,AV.aK,AV.aj]) (by simp[Tok.aR,Tok.cells,AV.aK,AV.aj])
   .rw[(Lw _ _ hx hc.tb t _ _ _ _).1];rfl
   .rw[(Lw _ _ hx hc.tb t _ _ _ _).2];rfl
  .cases hv
 .cases hv
theorem a7{x y:AV}{st:St}(h:st.ae=[]):dz x y st=[.row [x,y,.int .i64 st.bM,.int .i64 st.next,.aD]]:=by unfold dz;rw[h];rfl
theorem a6{x y:AV}{st:St}(h:st.ae≠[]):dz x y st=[.row [x,y,.int .i64 st.bM,.int .i64 st.next,.vec 1 0 st.ae.length 2 st.ae.length],.row (bm st.ae)]:=by
 unfold dz nY yH
 cases hn:st.ae with
 |nil=>exact absurd hn h
 |cons p r=>rfl
theorem c8{x y:AV}{dv:St}(h:dv.ae=[]):dE x y [] dv=[.row [x,y,.int .i64 dv.bM,.int .i64 dv.next,.aD]]:=a7 h
theorem cH{x y:AV}{dv:St}(h:dv.ae≠[]):dE x y [] dv=[.row [x,y,.int .i64 dv.bM,.int .i64 dv.next,.vec 1 0 dv.ae.length 2 dv.ae.length],.row (bm dv.ae)]:=a6 h
theorem dS{x y:AV}{l:List (List UInt8×Int)}{dv:St}(h0:l≠[])(h:dv.ae≠[]):dE x y l dv=[.row [x,y,.int .i64 dv.bM,.int .i64 dv.next,.vec 2 0 dv.ae.length 2 dv.ae.length],.dead,.row (bm dv.ae)]:=by
 unfold dE
 cases l with
 |nil=>exact absurd rfl h0
 |cons p r=>
   dsimp only;unfold nY
   cases hm:dv.ae with
   |nil=>exact absurd hm h
   |cons q s=>rfl
theorem Lv.ae{st dv:St}(h:Lv st dv)(h0:st.ae≠[]):dv.ae≠[]:=by obtain⟨q,hq⟩:=h.pre;rw[hq];intro e;exact h0 (List.append_eq_nil_iff.1 e).1
theorem cG(t:Tok):t.aR=.agg [.int .i64 t.ah,.str t.ay,.int .i64 t.bx,.bool t.iT,.int .i64 t.bM]:=rfl
noncomputable def BY:cq:=⟨160,λ
 |[.ptr 0 0,.str s],os=>(match xz os with|some R=>some (.bool (ba s R.st).1,some (dz R.x R.y (ba s R.st).2))|none=>none)
 |_,_=>none⟩
theorem gP:BY.f=160:=(rfl)
theorem iK{x y:AV}{T:List aY}{L:List Tok}{st:St}(hx:a8 x=some T)(hy:bA y=some L)(h:RC T L st)(s:List UInt8):BY.S [.ptr 0 0,.str s] (dz x y st)=some (.bool (ba s st).1,some (dz x y (ba s st).2)):=by simp only[BY,lz hx hy h]
theorem fO(s:List UInt8)(st:St):(ba s st).2.ae=st.ae/\(ba s st).2.next=st.next:=by unfold ba;split<;>exact⟨rfl,rfl⟩
theorem EK:cr Tryz.prog bV BY:=λaa os v r hv=>by
 unfold BY at hv;dsimp only at hv;split at hv
 .rename_i os s;split at hv
  .rename_i R hR;cases hv;obtain⟨hx,hy,rfl,hc⟩:=ke hR;obtain⟨x,y,T,L,st⟩:=R;dsimp only at hx hy hc|-;rw[gP];have hE:bY Tryz.prog bV (cg [] [wE]):=dW (by simp) (by simp[Ad]);have bW:=bK hx;have bX:=bu hy;have q:=dH hx hy hc;rw[cG] at q;have rW:=br hc;have de:=hc.le;have oI:=hc.lb;have w:=wrap_i64 (n:=(st.bM:Int)+1) (by omega) (by omega);have x1:=bW.aK;have y1:=bX.aK;have g1:=kR bW bX;have g2:=kN bW bX;have g3:=kT bW bX;have g4:=kO bW bX;have g5:=kL bW bX;have g6:=kK bW bX
   have key:∀c d:Bool,(bb L st).ah=5/\c=true\/¬(bb L st).ah=5/\c=false->((bb L st).ay==s)=d->
    (st.ae=[]->(aH (cg [] [wE]) 6 160 [.ptr 0 0,.str s] ⟨1,[.row [x,y,.int .i64 st.bM,.int .i64 st.next,.aD]],1,1⟩).map (λp=>(p.1,p.2.get 0))=some (.bool (c&&d),some (.row [x,y,.int .i64 (if c&&d then (st.bM:Int)+1 else st.bM),.int .i64 st.next,.aD])))/\
    (st.ae≠[]->(aH (cg [] [wE]) 6 160 [.ptr 0 0,.str s] ⟨2,[.row (bm st.ae),.row [x,y,.int .i64 st.bM,.int .i64 st.next,.vec 1 0 st.ae.length 2 st.ae.length]],2,2⟩).map (λp=>(p.1,p.2.get 0,p.2.get 1))=
     some (.bool (c&&d),some (.row [x,y,.int .i64 (if c&&d then (st.bM:Int)+1 else st.bM),.int .i64 st.next,.vec 1 0 st.ae.length 2 st.ae.length]),some (.row (bm st.ae)))):=λc d hcd hd=>by
    have f1:=fa st.ae;have f2:=fc st.ae;have f3:=bO st.ae;refine⟨λh0=>?_,λh0=>?_⟩
    .rw[a7 h0] at q;generalize bb L st=t at *;rcases hcd with⟨k5,rfl⟩|⟨k5,rfl⟩
     .rw[k5] at q
      cases d with
      |true=>
        have:t.ay=s:=by simpa using hd
        subst this;simp[vH,c160,fK,q,x1,y1,g1,g2,g3,g4,g5,g6,-an,-aL,-az,w]
      |false=>
        have hn:¬t.ay=s:=by simpa using hd
        simp[vH,c160,fK,q,x1,y1,g1,g2,g3,g4,g5,g6,-an,-aL,-az,w,hd,hn]
     .simp[vH,c160,fK,q,x1,y1,g1,g2,g3,g4,g5,g6,-an,-aL,-az,w,k5]
    .rw[a6 h0] at q;generalize bm st.ae=F at *;generalize bb L st=t at *;generalize st.ae.length=n at *;rcases hcd with⟨k5,rfl⟩|⟨k5,rfl⟩
     .rw[k5] at q
      cases d with
      |true=>
        have:t.ay=s:=by simpa using hd
        subst this;simp[vH,c160,fK,q,x1,y1,g1,g2,g3,g4,g5,g6,-an,-aL,-az,f1,f2,f3,w]
      |false=>
        have hn:¬t.ay=s:=by simpa using hd
        simp[vH,c160,fK,q,x1,y1,g1,g2,g3,g4,g5,g6,-an,-aL,-az,f1,f2,f3,w,hd,hn]
     .simp[vH,c160,fK,q,x1,y1,g1,g2,g3,g4,g5,g6,-an,-aL,-az,f1,f2,f3,w,k5]
   obtain⟨hn1,gn⟩:=fO s st
   have Jl:∀c d:Bool,(bb L st).ah=5/\c=true\/¬(bb L st).ah=5/\c=false->((bb L st).ay==s)=d->(ba s st).1=(c&&d)/\((ba s st).2.bM:Int)=(if c&&d then (st.bM:Int)+1 else st.bM):=λc d hcd hd=>by
    have k1:(aB st).ah=(bb L st).ah:=by rw[rW]
    have k2:(aB st).ay=(bb L st).ay:=by rw[rW]
    unfold ba;rw[k1,k2];rcases hcd with⟨k5,rfl⟩|⟨k5,rfl⟩
    .cases d with
     |true=>rw[if_pos ⟨k5,by simpa using hd⟩];exact⟨rfl,by simp[aq]⟩
     |false=>rw[if_neg (λe=>by rw[e.2] at hd;simp at hd)];exact⟨rfl,by simp⟩
    .rw[if_neg (λe=>k5 e.1)];exact⟨rfl,by simp⟩
   obtain⟨c,Mr⟩:∃c:Bool,(bb L st).ah=5/\c=true\/¬(bb L st).ah=5/\c=false:=by
    by_cases h:(bb L st).ah=5
    .exact⟨true,.inl ⟨h,rfl⟩⟩
    .exact⟨false,.inr ⟨h,rfl⟩⟩
   obtain⟨k1,k2⟩:=key c _ Mr rfl;obtain⟨v1,v2⟩:=Jl c _ Mr rfl;refine RG (n:=6) hE bW bX hn1 (λh0=>?_) (λh0=>?_) rfl rfl
   .rw[v1,v2,gn];exact k1 h0
   .rw[v1,v2,gn];exact k2 h0
  .cases hv
 .cases hv
theorem Gt(n:Nat)(s:List UInt8)(l:List (List UInt8×Int))(hl:l.length<1000000)(R:List AV):∀(post pre:List (List UInt8×Int)) (m md:Nat),l=pre++post->post.length<m->
 ∃cS,iV 3 2 (cb (aF (aH (cg [uO] []) (n+1)) (n+1) tu) mm 3 m (Qf (.ptr 0 0) (.str s) (.ptr 2 0) (.vec 1 0 l.length 2 l.length) (.int .i64 l.length) (.int .i64 pre.length)) ⟨3,[.row [.int .i64 0,.int .i64 0,.str [],.aD],.row (bm l),.row R],3,md⟩)=
   (match l6 s post with
    |some k=>some (.ret,FM 52 [(4,.ptr 2 0)],⟨3,[.row [.int .i64 0,.int .i64 k,.str [],.aD],.row (bm l),.row R],2,cS⟩)
    |none=>some (.exit 0,FM 52 [(0,.ptr 0 0),(1,.str s),(4,.ptr 2 0)],⟨3,[.row [.int .i64 0,.int .i64 0,.str [],.aD],.row (bm l),.row R],2,cS⟩))
 |_,_,0,_,_,h=>by omega
 |[],pre,m+1,md,hs,_=>by rw[ai];rw[List.append_nil] at hs;subst hs;have f3:=bO l;generalize bm l=F at *;exact⟨md,by simp[tu,mm,l6,f3]⟩
 |p::r,pre,m+1,md,hs,hm=>by
   rw[ai];have BZ:pre.length+r.length+1=l.length:=by rw[hs];simp;omega
   have h6:((pre.length:Int)<(l.length:Int))=True:=eq_true (by omega);have h6':(pre.length<l.length)=True:=eq_true (by omega);have h3:IntKind.i64.wrap ((pre.length:Int)+1)=(pre.length:Int)+1:=wrap_i64 (by omega) (by omega)
   have hd:(bm l).drop (pre.length*2)=.str p.1::.int .i64 p.2::bm r:=by
    have e:bm l=bm pre++bm (p::r):=by rw[hs];unfold bm;rw[List.flatMap_append]
    rw[e,<-ri pre,List.drop_left];rfl
   have C2:(pre.length*2+2<=(bm l).length)=True:=eq_true (by rw[ri];omega);have q:=Iw p.2;have f3:=bO l;obtain⟨cS,ih⟩:=Gt n s l hl R r (pre++[p]) m (min md 3) (by rw[hs];simp) (by simp at hm;omega);simp only[List.length_append,List.length_cons,List.length_nil,Nat.zero_add,Int.natCast_add,Int.natCast_one] at ih;have aas:(l=[])=False:=eq_false (λe=>by rw[e] at BZ;simp at BZ);unfold l6;generalize bm l=F at *;by_cases hv:p.1=s
   .rw[if_pos hv];subst hv;refine⟨min md 2,?_⟩;simp[tu,mm,h3,h6,h6',hd,C2,q,fX,f3]
   .rw[if_neg hv];have hvb:(p.1==s)=false:=by simpa using hv
    refine⟨cS,?_⟩;simp[tu,mm,h3,h6,h6',hd,C2,q,fX,f3,hv,hvb];exact ih
theorem Rw{s:List UInt8}{st:St}{k:Int}(h:l6 s st.ae=some k):k9 s st=(.nl 0 k [],st):=by unfold k9;rw[h]
theorem QG{s:List UInt8}{st:St}(h:l6 s st.ae=none):k9 s st=(.nl 0 st.next [],⟨st.bM,st.ak,st.next+1,if s=[95] then st.ae else st.ae++[(s,(st.next:Int))]⟩):=by unfold k9;rw[h]
theorem nlv(k:Int):(Tm.nl 0 k []).aR=.agg [.int .i64 0,.int .i64 k,.str [],.aD]:=rfl
noncomputable def Rq:cq:=⟨159,λ
 |[.ptr 0 0,.str s],os=>(match xz os with|some R=>some ((k9 s R.st).1.aR,some (dE R.x R.y R.st.ae (k9 s R.st).2))|none=>none)
 |_,_=>none⟩
theorem Nl:Rq.f=159:=(rfl)
theorem YR{x y:AV}{T:List aY}{L:List Tok}{st:St}(hx:a8 x=some T)(hy:bA y=some L)(h:RC T L st)(s:List UInt8):Rq.S [.ptr 0 0,.str s] (dz x y st)=some ((k9 s st).1.aR,some (dE x y st.ae (k9 s st).2)):=by simp only[Rq,lz hx hy h]
theorem YO:cr Tryz.prog bV Rq:=λaa os v r hv=>by
 unfold Rq at hv;dsimp only at hv;split at hv
 .rename_i os s;split at hv
  .rename_i R hR;cases hv;obtain⟨hx,hy,rfl,hc⟩:=ke hR;obtain⟨x,y,T,L,st⟩:=R;dsimp only at hx hy hc|-;rw[Nl];have hE:bY Tryz.prog bV (cg [uO] []):=dW (by simp[HP.lift]) (by simp);have bW:=bK hx;have bX:=bu hy;have de:=hc.le;have oI:=hc.lb;have CZ:=hc.nx;have qq:=hc.nm;have w:=wrap_i64 (n:=(st.next:Int)+1) (by omega) (by omega);have x1:=bW.aK;have y1:=bX.aK;have q:=λk=>Iw k
   by_cases h0:st.ae=[]
   .have hf:l6 s st.ae=none:=by rw[h0];rfl
    rw[QG hf];by_cases hs:s=[95]
    .subst hs;refine dw (n:=6) hE bW bX h0 ?_ ?_ (Tm.cm _) rfl
     .show (if ([95]:List UInt8)=[95] then st.ae else st.ae++[([95],(st.next:Int))])=[];rw[if_pos rfl,h0]
     .rw[nlv];show (aH (cg [uO] []) 6 159 [.ptr 0 0,.str [95]] ⟨1,[.row [x,y,.int .i64 st.bM,.int .i64 st.next,.aD]],1,1⟩).map _=_;simp[zX,c159,mm,tu,ai,fX,q,x1,y1,w]
    .have hsb:(s==[95])=false:=by simpa using hs
     refine dZ (n:=6) hE bW bX 3 (by decide) h0 ?_ ?_ (Tm.cm _) rfl
     .show (if s=[95] then st.ae else st.ae++[(s,(st.next:Int))])≠[];rw[if_neg hs,h0];simp
     .rw[nlv];show (aH (cg [uO] []) 6 159 [.ptr 0 0,.str s] ⟨1,[.row [x,y,.int .i64 st.bM,.int .i64 st.next,.aD]],1,1⟩).map _=_;simp only[if_neg hs,h0,List.nil_append];simp[zX,c159,mm,tu,ai,fX,q,x1,y1,w,hs,hsb,bm,aI]
   .have cT:0<st.ae.length:=List.length_pos_iff.2 h0;have f3:=bO st.ae;have fl:=ri st.ae;obtain⟨cS,lp⟩:=Gt 199998 s st.ae (by omega) [x,y,.int .i64 st.bM,.int .i64 st.next,.vec 1 0 st.ae.length 2 st.ae.length] st.ae [] 199999 2 rfl (by omega);simp only[mm,Qf,List.length_nil,Int.natCast_zero] at lp;have hb1:(st.ae.length+1)*24<=140737488355328:=by omega
    have Yj:st.ae.length+1<9223372036854775808:=by omega
    cases hf:l6 s st.ae with
    |some k=>rw[hf] at lp;rw[Rw hf];refine da (n:=200000) hE bW bX 1 (by decide) h0 h0 ?_ (Tm.cm _) rfl;rw[nlv];show (aH (cg [uO] []) 200000 159 [.ptr 0 0,.str s] ⟨2,[.row (bm st.ae),.row [x,y,.int .i64 st.bM,.int .i64 st.next,.vec 1 0 st.ae.length 2 st.ae.length]],2,2⟩).map _=_;generalize bm st.ae=F at *;generalize st.ae.length=n at *;simp[zX,c159,mm,fX,q,x1,y1,w,lp,f3]
    |none=>
      rw[hf] at lp;rw[QG hf];by_cases hs:s=[95]
      .subst hs;have hn:(if ([95]:List UInt8)=[95] then st.ae else st.ae++[([95],(st.next:Int))])=st.ae:=if_pos rfl;rw[hn];refine da (n:=200000) hE bW bX 1 (by decide) h0 h0 ?_ (Tm.cm _) rfl;rw[nlv];show (aH (cg [uO] []) 200000 159 [.ptr 0 0,.str [95]] ⟨2,[.row (bm st.ae),.row [x,y,.int .i64 st.bM,.int .i64 st.next,.vec 1 0 st.ae.length 2 st.ae.length]],2,2⟩).map _=some (_,some (aS.row [x,y,.int .i64 st.bM,.int .i64 ((st.next+1:Nat):Int),.vec 1 0 st.ae.length 2 st.ae.length]),some (aS.row (bm st.ae)));generalize bm st.ae=F at *;generalize st.ae.length=n at *;simp[zX,c159,mm,fX,q,x1,y1,w,lp,f3]
      .have hsb:(s==[95])=false:=by simpa using hs
       have hn:(if s=[95] then st.ae else st.ae++[(s,(st.next:Int))])=st.ae++[(s,(st.next:Int))]:=if_neg hs;rw[hn];refine da (n:=200000) hE bW bX 4 (by decide) h0 (by simp) ?_ (Tm.cm _) rfl;rw[nlv]
       show (aH (cg [uO] []) 200000 159 [.ptr 0 0,.str s] ⟨2,[.row (bm st.ae),.row [x,y,.int .i64 st.bM,.int .i64 st.next,.vec 1 0 st.ae.length 2 st.ae.length]],2,2⟩).map _=
        some (_,some (aS.row [x,y,.int .i64 st.bM,.int .i64 ((st.next+1:Nat):Int),.vec 4 0 (st.ae++[(s,(st.next:Int))]).length 2 (st.ae++[(s,(st.next:Int))]).length]),some (aS.row (bm (st.ae++[(s,(st.next:Int))]))))
       rw[Ov,List.length_append,List.length_cons,List.length_nil];have ht:(bm st.ae).take (st.ae.length*2)=bm st.ae:=List.take_of_length_le (by omega);generalize bm st.ae=F at *;generalize st.ae.length=n at *;have hb3:(n*2<=F.length)=True:=eq_true (by omega);have hb4:((n+1)*2<=F.length)=False:=eq_false (by omega);have hb5:(n+1<=n)=False:=eq_false (by omega);simp[zX,c159,mm,fX,q,x1,y1,w,lp,f3,hs,hsb,aI,hb1,Yj,hb3,hb4,hb5,ht]
  .cases hv
 .cases hv
def CB(T:List aY)(t:Tok):Bool:=
 if t.ah=0\/t.ah=6 then false
 else if t.ah=5 then decide (t.ay=[40])||decide (t.ay=[91])||decide (t.ay=[123])
 else if !(decide (t.ah=1)||decide (t.ah=2))||t.iT then true
 else !(aM T t.ay false).2||(aM T t.ay true).2
theorem Oe{T:List aY}{L:List Tok}{st:St}(h:RC T L st):hO T st=CB T (bb L st):=by unfold hO;rw[br h];rfl
noncomputable def vR:cq:=⟨181,λ
 |[.ptr 0 0],os=>(match xz os with|some R=>some (.bool (hO R.T R.st),none)|none=>none)
 |_,_=>none⟩
theorem G3:vR.f=181:=(rfl)
theorem Eh{x y:AV}{T:List aY}{L:List Tok}{st:St}(hx:a8 x=some T)(hy:bA y=some L)(h:RC T L st):vR.S [.ptr 0 0] (dz x y st)=some (.bool (hO T st),none):=by simp only[vR,lz hx hy h]
noncomputable def ssB:List aZ:=[qY,FB,j7]
theorem acD:∀s∈ssB,dX Tryz.prog bV s:=by simp[ssB,Ef.lift,Bp.lift,ze.lift]
theorem OB{x y:AV}{T:List aY}{L:List Tok}{st:St}(hx:a8 x=some T)(hy:bA y=some L)(hc:RC T L st):
 (st.ae=[]->(aH (cg ssB [wE]) 6 181 [.ptr 0 0] ⟨1,[.row [x,y,.int .i64 st.bM,.int .i64 st.next,.aD]],1,1⟩).map (λp=>(p.1,p.2.get 0))=some (.bool (CB T (bb L st)),some (.row [x,y,.int .i64 st.bM,.int .i64 st.next,.aD])))/\
 (st.ae≠[]->(aH (cg ssB [wE]) 6 181 [.ptr 0 0] ⟨2,[.row (bm st.ae),.row [x,y,.int .i64 st.bM,.int .i64 st.next,.vec 1 0 st.ae.length 2 st.ae.length]],2,2⟩).map (λp=>(p.1,p.2.get 0,p.2.get 1))=
  some (.bool (CB T (bb L st)),some (.row [x,y,.int .i64 st.bM,.int .i64 st.next,.vec 1 0 st.ae.length 2 st.ae.length]),some (.row (bm st.ae)))):=by
 have bW:=bK hx;have bX:=bu hy;have q:=dH hx hy hc;rw[cG] at q;have x1:=bW.aK;have y1:=bX.aK;have g1:=kR bW bX;have g2:=kN bW bX;have g3:=kT bW bX;have g4:=kO bW bX;have g5:=kL bW bX;have g6:=kK bW bX;have Ap:=λh=>bW.fr h 0 6
 have f1:=fa st.ae;have f2:=fc st.ae;have f3:=bO st.ae;have q1:=fN (bb L st);have q2:=u4 hx (bb L st).ay (by have:=hc.tb;omega);have q3:=tC hx (bb L st).ay (by have:=hc.tb;omega);simp only[aY.aR,aY.cells] at q2 q3;unfold CB;simp only[ssB];have main:∀(h0:List aS) (nx:Nat),True:=λ_ _=>trivial
 by_cases k0:(bb L st).ah=0
 .rw[if_pos (.inl k0)];rw[k0] at q;refine⟨λh0=>?_,λh0=>?_⟩
  .rw[a7 h0] at q;simp[ir,sw,fm,eJ,dc,fK,q,x1,y1,g1,g2,g3,g4,g5,g6,-an,-aL,-az]
  .rw[a6 h0] at q;generalize bm st.ae=F at *;generalize st.ae.length=n at *;simp[ir,sw,fm,eJ,dc,fK,q,x1,y1,g1,g2,g3,g4,g5,g6,-an,-aL,-az,f1,f2,f3]
 by_cases k6:(bb L st).ah=6
 .rw[if_pos (.inr k6)];rw[k6] at q;refine⟨λh0=>?_,λh0=>?_⟩
  .rw[a7 h0] at q;simp[ir,sw,fm,eJ,dc,fK,q,x1,y1,g1,g2,g3,g4,g5,g6,-an,-aL,-az]
  .rw[a6 h0] at q;generalize bm st.ae=F at *;generalize st.ae.length=n at *;simp[ir,sw,fm,eJ,dc,fK,q,x1,y1,g1,g2,g3,g4,g5,g6,-an,-aL,-az,f1,f2,f3]
 rw[if_neg (by rintro (h|h);exact k0 h;exact k6 h)];by_cases k5:(bb L st).ah=5
 .rw[if_pos k5];rw[k5] at q
  have fin:∀s,(bb L st).ay=s->∀e1 e2 e3:Bool,(s==[40])=e1->(s==[91])=e2->(s==[123])=e3->
   (st.ae=[]->(aH (cg [qY,FB,j7] [wE]) 6 181 [.ptr 0 0] ⟨1,[.row [x,y,.int .i64 st.bM,.int .i64 st.next,.aD]],1,1⟩).map (λp=>(p.1,p.2.get 0))=some (.bool (decide (s=[40])||decide (s=[91])||decide (s=[123])),some (.row [x,y,.int .i64 st.bM,.int .i64 st.next,.aD])))/\
   (st.ae≠[]->(aH (cg [qY,FB,j7] [wE]) 6 181 [.ptr 0 0] ⟨2,[.row (bm st.ae),.row [x,y,.int .i64 st.bM,.int .i64 st.next,.vec 1 0 st.ae.length 2 st.ae.length]],2,2⟩).map (λp=>(p.1,p.2.get 0,p.2.get 1))=
    some (.bool (decide (s=[40])||decide (s=[91])||decide (s=[123])),some (.row [x,y,.int .i64 st.bM,.int .i64 st.next,.vec 1 0 st.ae.length 2 st.ae.length]),some (.row (bm st.ae)))):=λs hs e1 e2 e3 h1 h2 h3=>by
   rw[hs] at q;clear q1 q2 q3
   cases e1 with
   |true=>
     have:s=[40]:=by simpa using h1
     subst this;refine⟨λh0=>?_,λh0=>?_⟩
     .rw[a7 h0] at q;simp[ir,sw,fm,eJ,dc,fK,q,x1,y1,g1,g2,g3,g4,g5,g6,-an,-aL,-az]
     .rw[a6 h0] at q;generalize bm st.ae=F at *;generalize st.ae.length=n at *;simp[ir,sw,fm,eJ,dc,fK,q,x1,y1,g1,g2,g3,g4,g5,g6,-an,-aL,-az,f1,f2,f3]
   |false=>
     have n1:¬s=[40]:=by simpa using h1
     cases e2 with
     |true=>
       have:s=[91]:=by simpa using h2
       subst this;refine⟨λh0=>?_,λh0=>?_⟩
       .rw[a7 h0] at q;simp[ir,sw,fm,eJ,dc,fK,q,x1,y1,g1,g2,g3,g4,g5,g6,-an,-aL,-az]
       .rw[a6 h0] at q;generalize bm st.ae=F at *;generalize st.ae.length=n at *;simp[ir,sw,fm,eJ,dc,fK,q,x1,y1,g1,g2,g3,g4,g5,g6,-an,-aL,-az,f1,f2,f3]
     |false=>
       have n2:¬s=[91]:=by simpa using h2
       have n3:(s==[123])=decide (s=[123]):=nA _ _;refine⟨λh0=>?_,λh0=>?_⟩
       .rw[a7 h0] at q;simp[ir,sw,fm,eJ,dc,fK,q,x1,y1,g1,g2,g3,g4,g5,g6,-an,-aL,-az,h1,h2,n1,n2,n3]
       .rw[a6 h0] at q;generalize bm st.ae=F at *;generalize st.ae.length=n at *;simp[ir,sw,fm,eJ,dc,fK,q,x1,y1,g1,g2,g3,g4,g5,g6,-an,-aL,-az,f1,f2,f3,h1,h2,n1,n2,n3]
  exact fin _ rfl _ _ _ rfl rfl rfl
 rw[if_neg k5];generalize bb L st=t at *;by_cases kn:(decide (t.ah=1)||decide (t.ah=2))=true
 .rw[kn] at q1|-
  cases ho:t.iT with
  |true=>
    rw[ho] at q q1;refine⟨λh0=>?_,λh0=>?_⟩
    .rw[a7 h0] at q;simp[ir,sw,fm,eJ,dc,fK,q,q1,x1,y1,g1,g2,g3,g4,g5,g6,-an,-aL,-az,k0,k5,k6]
    .rw[a6 h0] at q;generalize bm st.ae=F at *;generalize st.ae.length=n at *;simp[ir,sw,fm,eJ,dc,fK,q,q1,x1,y1,g1,g2,g3,g4,g5,g6,-an,-aL,-az,f1,f2,f3,k0,k5,k6]
  |false=>
    rw[ho] at q q1;generalize aM T t.ay false=I at *;obtain⟨⟨i1,i2,i3⟩,i4⟩:=I;generalize aM T t.ay true=J at *;obtain⟨⟨j1,j2,j3⟩,j4⟩:=J;dsimp only at q2 q3|-;refine⟨λh0=>?_,λh0=>?_⟩
    .rw[a7 h0] at q;cases i4<;>simp[ir,sw,fm,eJ,dc,fK,Ap,q,q1,q2,q3,x1,y1,g1,g2,g3,g4,g5,g6,-an,-aL,-az,k0,k5,k6]
    .rw[a6 h0] at q;generalize bm st.ae=F at *;generalize st.ae.length=n at *;cases i4<;>simp[ir,sw,fm,eJ,dc,fK,Ap,q,q1,q2,q3,x1,y1,g1,g2,g3,g4,g5,g6,-an,-aL,-az,f1,f2,f3,k0,k5,k6]
 .rw[Bool.not_eq_true] at kn;rw[kn] at q1|-;refine⟨λh0=>?_,λh0=>?_⟩
  .rw[a7 h0] at q;simp[ir,sw,fm,eJ,dc,fK,q,q1,x1,y1,g1,g2,g3,g4,g5,g6,-an,-aL,-az,k0,k5,k6]
  .rw[a6 h0] at q;generalize bm st.ae=F at *;generalize st.ae.length=n at *;simp[ir,sw,fm,eJ,dc,fK,q,q1,x1,y1,g1,g2,g3,g4,g5,g6,-an,-aL,-az,f1,f2,f3,k0,k5,k6]
theorem NO:cr Tryz.prog bV vR:=λaa os v r hv=>by
 unfold vR at hv;dsimp only at hv;split at hv
 .rename_i os;split at hv
  .rename_i R hR;cases hv;obtain⟨hx,hy,rfl,hc⟩:=ke hR;rw[G3,Oe hc];have hE:bY Tryz.prog bV (cg ssB [wE]):=dW acD (by simp[Ad]);obtain⟨r1,r2⟩:=OB hx hy hc;exact As (n:=6) hE (bK hx) (bu hy) r1 r2 rfl rfl
  .cases hv
 .cases hv
section
variable (n0:Nat)(ks aJ:List Nat)(r:List AV)
theorem jz:aQ n0 [] aJ=aJ:=by simp[aQ]
theorem jx(id o l s b:Nat):aQ n0 (.vec id o l s b::r) aJ=if n0<=id/\aJ.contains id=false then aQ n0 r (aJ++[id]) else aQ n0 r aJ:=by simp[aQ,AV.top]
theorem jA(id o:Nat):aQ n0 (.ptr id o::r) aJ=if n0<=id/\aJ.contains id=false then aQ n0 r (aJ++[id]) else aQ n0 r aJ:=by simp[aQ,AV.top]
theorem jt(k:IntKind)(n:Int):aQ n0 (.int k n::r) aJ=aQ n0 r aJ:=by simp[aQ,AV.top]
theorem gJ(b:Bool):aQ n0 (.bool b::r) aJ=aQ n0 r aJ:=by simp[aQ,AV.top]
theorem gI:aQ n0 (.aD::r) aJ=aQ n0 r aJ:=by simp[aQ,AV.top]
theorem iq{x:AV}(h:Laid x):aQ n0 (x::r) aJ=aQ n0 r aJ:=by
 conv=>lhs;unfold aQ
 rw[h.top]
theorem jr(id o l s b:Nat):fA n0 ks (.vec id o l s b)=.vec (p9 n0 ks id) o l s b:=rfl
theorem ju(id o:Nat):fA n0 ks (.ptr id o)=.ptr (p9 n0 ks id) o:=rfl
theorem jw(k:IntKind)(n:Int):fA n0 ks (.int k n)=.int k n:=rfl
theorem gK(b:Bool):fA n0 ks (.bool b)=.bool b:=rfl
theorem gL:fA n0 ks .aD=.aD:=rfl
theorem iw{x:AV}(h:Laid x):fA n0 ks x=x:=by have:=h.sg (p9 n0 ks);cases x<;>exact this
end
theorem js(n:Nat)(cs:List AV):dB n (.row cs)=decide (AV.aj cs<=n):=yZ n cs
noncomputable def iF(N:Nat):cq:=⟨71,λ
 |[.ptr 0 0,.int .i64 n],os=>(match xz os with
   |some R=>if R.st.ak.length<N then some (.tuple [(ag R.T n R.st).1.1.aR,.int .i64 (ag R.T n R.st).1.2.1,.bool (ag R.T n R.st).1.2.2],some (dE R.x R.y R.st.ae (ag R.T n R.st).2)) else none
   |none=>none)
 |_,_=>none⟩
theorem eQ(N:Nat):(iF N).f=71:=(rfl)
theorem dF(N:Nat){x y:AV}{T:List aY}{L:List Tok}{st:St}(hx:a8 x=some T)(hy:bA y=some L)(h:RC T L st)(n:Int)(hn:st.ak.length<N):
 (iF N).S [.ptr 0 0,.int .i64 n] (dz x y st)=some (.tuple [(ag T n st).1.1.aR,.int .i64 (ag T n st).1.2.1,.bool (ag T n st).1.2.2],some (dE x y st.ae (ag T n st).2)):=by
 simp only[iF,lz hx hy h];rw[if_pos hn]
theorem R5(N:Nat){x y:AV}{T:List aY}{L:List Tok}{st:St}(hx:a8 x=some T)(hy:bA y=some L)(h:RC T L st)(n:Int)(hn:N<=st.ak.length):
 (iF N).S [.ptr 0 0,.int .i64 n] (dz x y st)=none:=by
 simp only[iF,lz hx hy h];rw[if_neg (by omega)]
theorem bQ(T:List aY):Af (ag T):=⟨λn st=>(pI T _).lv n st,λn st h=>(pI T _).ok n st h⟩
theorem au(t:Tm):t.aR=.agg [.int .i64 t.ah,.int .i64 t.bx,.str t.aC,t.bH]:=by rw[Tm.bJ];rfl
theorem dV(aJ:List Tm)(t:Tm):aw aJ++[.int .i64 t.ah,.int .i64 t.bx,.str t.aC,t.bH]=aw (aJ++[t]):=by rw[py];rfl
noncomputable def yC(N:Nat):List cq:=[iF N,BY]
theorem rG{rec:Int->St->PR×St}{M:Nat}{aJ:List Tm}{st:St}(h:(rec 999 st).1.2.2=false):bp rec (M+1) aJ st=((aJ,false),(rec 999 st).2):=by unfold bp;rw[h,if_neg (by simp)]
theorem j9{rec:Int->St->PR×St}{M:Nat}{aJ:List Tm}{st:St}(h:(rec 999 st).1.2.2=true)(h2:(ba [44] (rec 999 st).2).1=false):bp rec (M+1) aJ st=((aJ++[(rec 999 st).1.1],true),(rec 999 st).2):=by unfold bp;rw[h,if_pos rfl,h2,if_neg (by simp)]
theorem lU{rec:Int->St->PR×St}{M:Nat}{aJ:List Tm}{st:St}(h:(rec 999 st).1.2.2=true)(h2:(ba [44] (rec 999 st).2).1=true):bp rec (M+1) aJ st=bp rec M (aJ++[(rec 999 st).1.1]) (ba [44] (rec 999 st).2).2:=by
 conv=>lhs;unfold bp
 rw[h,if_pos rfl,h2,if_pos rfl]
theorem BB{rec:Int->St->PR×St}(H:Af rec){M:Nat}{aJ:List Tm}{st:St}(h:st.ae≠[]):(bp rec M aJ st).2.ae≠[]:=(kW H M aJ st).1.ae h
theorem PH(n N w:Nat){x y:AV}{T:List aY}{L:List Tok}(hx:a8 x=some T)(hy:bA y=some L):∀(M:Nat) (aJ:List Tm) (st:St) (m md:Nat),RC T L st->st.ae≠[]->aJ≠[]->aJ.length+st.ak.length<=200000->st.ak.length<N->st.ak.length<M->M<=m->
 ∃cS,iV 1 w (cb (aF (aH (cg [] (yC N)) (n+1)) (n+1) gN) eA 1 m (kD (.ptr 0 0) (.vec 1 0 aJ.length 4 aJ.length)) ⟨3,[.row (bm st.ae),.row (aw aJ),.row [x,y,.int .i64 st.bM,.int .i64 st.next,.vec 2 0 st.ae.length 2 st.ae.length]],0,md⟩)=
   (match bp (ag T) M aJ st with
    |((l,true),dv)=>some (.ret,FM 24 [(2,.vec 1 0 l.length 4 l.length),(3,.bool true)],⟨3,[.row (bm dv.ae),.row (aw l),.row [x,y,.int .i64 dv.bM,.int .i64 dv.next,.vec 2 0 dv.ae.length 2 dv.ae.length]],0,cS⟩)
    |((_,false),dv)=>some (.ret,FM 24 [(2,.aD),(3,.bool false)],⟨2,[.row (bm dv.ae),.row [x,y,.int .i64 dv.bM,.int .i64 dv.next,.vec 1 0 dv.ae.length 2 dv.ae.length]],0,cS⟩))
 |0,_,_,_,_,_,_,_,_,_,h,_=>by omega
 |M+1,aJ,st,0,_,_,_,_,_,_,_,h=>by omega
 |M+1,aJ,st,m+1,md,hc,h0,fB,hal,hN,hM,hm=>by
   have bW:=bK hx;have bX:=bu hy;have x1:=bW.aK;have y1:=bX.aK;have g1:=kR bW bX;have g2:=kN bW bX;have g3:=kT bW bX;have g4:=kO bW bX;have g5:=kL bW bX;have g6:=kK bW bX;have kx:=λn0 aJ r=>iq n0 aJ r bW;have ky:=λn0 aJ r=>iq n0 aJ r bX;have rx:=λn0 ks=>iw n0 ks bW;have ry:=λn0 ks=>iw n0 ks bX
   rw[ai];have H:=bQ T;have q:=dF N hx hy hc 999 hN;have eU:=H.lv 999 st;have h1:=eU.ae h0;rw[a6 h0,dS h0 h1,au] at q;have f1:=fa st.ae;have f2:=fc st.ae;have f3:=bO st.ae;have e1:=fa (ag T 999 st).2.ae;have e2:=fc (ag T 999 st).2.ae;have e3:=bO (ag T 999 st).2.ae;have hf:=aT aJ
   cases cK:(ag T 999 st).1.2.2 with
   |false=>rw[rG cK];rw[cK] at q;dsimp only;have tr:=ar (ag T 999 st).1.1;generalize (ag T 999 st).1.1=t at *;generalize (ag T 999 st).2=s1 at *;generalize bm st.ae=F at *;generalize bm s1.ae=G at *;generalize st.ae.length=fl at *;generalize s1.ae.length=gl at *;generalize aw aJ=A at *;refine⟨min md 0,?_⟩;simp[gN,eA,yC,eQ,gP,q,x1,y1,g1,g2,g3,g4,g5,g6,kx,ky,rx,ry,-an,-aL,-az,-aQ,-fA,jz,jx,jA,jt,gJ,gI,jr,ju,jw,gK,gL,js,f1,f2,f3,e1,e2,e3,hf,tr]
   |true=>
     have ho:=H.ok 999 st cK;obtain⟨c1,l1⟩:=hc.ok ho;have lO:=ho.pos;have qt:=iK hx hy c1 [44];have gn:=fO [44] (ag T 999 st).2;rw[a6 h1,a6 (by rw[gn.1];exact h1),gn.1,gn.2] at qt;rw[cK] at q;have jc:=aT (aJ++[(ag T 999 st).1.1]);have h8:(aJ.length+1)*56<=140737488355328:=by omega
     have h9:aJ.length+1<9223372036854775808:=by omega
     have kj:(aw aJ).take (aJ.length*4)=aw aJ:=by rw[List.take_of_length_le];rw[cL];exact Nat.le_refl _
     have pE:=cL aJ;have tr:=ar (ag T 999 st).1.1
     cases hb:(ba [44] (ag T 999 st).2).1 with
     |false=>have hs:=pO hb;rw[j9 cK hb];rw[hb,hs] at qt;dsimp only;rw[<-dV] at jc|-;rw[List.length_append,List.length_cons,List.length_nil];generalize (ag T 999 st).1.1=t at *;generalize (ag T 999 st).2=s1 at *;generalize bm st.ae=F at *;generalize bm s1.ae=G at *;generalize st.ae.length=fl at *;generalize s1.ae.length=gl at *;generalize aw aJ=A at *;refine⟨min md 0,?_⟩;simp[gN,eA,yC,eQ,gP,q,qt,x1,y1,g1,g2,g3,g4,g5,g6,kx,ky,rx,ry,-an,-aL,-az,-aQ,-fA,jz,jx,jA,jt,gJ,gI,jr,ju,jw,gK,gL,js,f1,f2,f3,e1,e2,e3,hf,jc,h8,h9,kj,pE,tr,aI]
     |true=>have wA:=fo hb;obtain⟨c2,l2⟩:=c1.ok wA;have HM:=wA.pos;rw[lU cK hb];obtain⟨cS,ih⟩:=PH n N w hx hy M (aJ++[(ag T 999 st).1.1]) (ba [44] (ag T 999 st).2).2 m 0 c2 (by rw[gn.1];exact h1) (by simp) (by simp;omega) (by omega) (by omega) (by omega);rw[hb] at qt;rw[gn.1,gn.2,<-dV,List.length_append,List.length_cons,List.length_nil] at ih;rw[<-dV] at jc;refine⟨cS,?_⟩;refine Eq.trans ?_ ih;generalize (ba [44] (ag T 999 st).2).2=s2 at *;generalize (ag T 999 st).1.1=t at *;generalize (ag T 999 st).2=s1 at *;generalize bm st.ae=F at *;generalize bm s1.ae=G at *;generalize st.ae.length=fl at *;generalize s1.ae.length=gl at *;generalize aw aJ=A at *;simp[gN,eA,yC,eQ,gP,q,qt,x1,y1,g1,g2,g3,g4,g5,g6,kx,ky,rx,ry,-an,-aL,-az,-aQ,-fA,jz,jx,jA,jt,gJ,gI,jr,ju,jw,gK,gL,js,f1,f2,f3,e1,e2,e3,hf,jc,h8,h9,kj,pE,tr,aI]
theorem Pa(n N w:Nat){x y:AV}{T:List aY}{L:List Tok}(hx:a8 x=some T)(hy:bA y=some L):∀(M:Nat) (aJ:List Tm) (st:St) (m md:Nat),RC T L st->st.ae≠[]->aJ≠[]->aJ.length+st.ak.length<=200000->st.ak.length<N->st.ak.length<M->M<=m->
 ∃cS,iV 2 w (cb (aF (aH (cg [] (yC N)) (n+1)) (n+1) gN) eA 2 m (kD (.ptr 0 0) (.vec 2 0 aJ.length 4 aJ.length)) ⟨4,[.row (bm st.ae),.row (aw aJ),.dead,.row [x,y,.int .i64 st.bM,.int .i64 st.next,.vec 3 0 st.ae.length 2 st.ae.length]],0,md⟩)=
   (match bp (ag T) M aJ st with
    |((l,true),dv)=>some (.ret,FM 24 [(2,.vec 2 0 l.length 4 l.length),(3,.bool true)],⟨4,[.row (bm dv.ae),.row (aw l),.dead,.row [x,y,.int .i64 dv.bM,.int .i64 dv.next,.vec 3 0 dv.ae.length 2 dv.ae.length]],0,cS⟩)
    |((_,false),dv)=>some (.ret,FM 24 [(2,.aD),(3,.bool false)],⟨3,[.row (bm dv.ae),.dead,.row [x,y,.int .i64 dv.bM,.int .i64 dv.next,.vec 2 0 dv.ae.length 2 dv.ae.length]],0,cS⟩))
 |0,_,_,_,_,_,_,_,_,_,h,_=>by omega
 |M+1,aJ,st,0,_,_,_,_,_,_,_,h=>by omega
 |M+1,aJ,st,m+1,md,hc,h0,fB,hal,hN,hM,hm=>by
   have bW:=bK hx;have bX:=bu hy;have x1:=bW.aK;have y1:=bX.aK;have g1:=kR bW bX;have g2:=kN bW bX;have g3:=kT bW bX;have g4:=kO bW bX;have g5:=kL bW bX;have g6:=kK bW bX;have kx:=λn0 aJ r=>iq n0 aJ r bW;have ky:=λn0 aJ r=>iq n0 aJ r bX;have rx:=λn0 ks=>iw n0 ks bW;have ry:=λn0 ks=>iw n0 ks bX
   rw[ai];have H:=bQ T;have q:=dF N hx hy hc 999 hN;have eU:=H.lv 999 st;have h1:=eU.ae h0;rw[a6 h0,dS h0 h1,au] at q;have f1:=fa st.ae;have f2:=fc st.ae;have f3:=bO st.ae;have e1:=fa (ag T 999 st).2.ae;have e2:=fc (ag T 999 st).2.ae;have e3:=bO (ag T 999 st).2.ae;have hf:=aT aJ
   cases cK:(ag T 999 st).1.2.2 with
   |false=>rw[rG cK];rw[cK] at q;dsimp only;have tr:=ar (ag T 999 st).1.1;generalize (ag T 999 st).1.1=t at *;generalize (ag T 999 st).2=s1 at *;generalize bm st.ae=F at *;generalize bm s1.ae=G at *;generalize st.ae.length=fl at *;generalize s1.ae.length=gl at *;generalize aw aJ=A at *;refine⟨min md 0,?_⟩;simp[gN,eA,yC,eQ,gP,q,x1,y1,g1,g2,g3,g4,g5,g6,kx,ky,rx,ry,-an,-aL,-az,-aQ,-fA,jz,jx,jA,jt,gJ,gI,jr,ju,jw,gK,gL,js,f1,f2,f3,e1,e2,e3,hf,tr]
   |true=>
     have ho:=H.ok 999 st cK;obtain⟨c1,l1⟩:=hc.ok ho;have lO:=ho.pos;have qt:=iK hx hy c1 [44];have gn:=fO [44] (ag T 999 st).2;rw[a6 h1,a6 (by rw[gn.1];exact h1),gn.1,gn.2] at qt;rw[cK] at q;have jc:=aT (aJ++[(ag T 999 st).1.1]);have h8:(aJ.length+1)*56<=140737488355328:=by omega
     have h9:aJ.length+1<9223372036854775808:=by omega
     have kj:(aw aJ).take (aJ.length*4)=aw aJ:=by rw[List.take_of_length_le];rw[cL];exact Nat.le_refl _
     have pE:=cL aJ;have tr:=ar (ag T 999 st).1.1
     cases hb:(ba [44] (ag T 999 st).2).1 with
     |false=>have hs:=pO hb;rw[j9 cK hb];rw[hb,hs] at qt;dsimp only;rw[<-dV] at jc|-;rw[List.length_append,List.length_cons,List.length_nil];generalize (ag T 999 st).1.1=t at *;generalize (ag T 999 st).2=s1 at *;generalize bm st.ae=F at *;generalize bm s1.ae=G at *;generalize st.ae.length=fl at *;generalize s1.ae.length=gl at *;generalize aw aJ=A at *;refine⟨min md 0,?_⟩;simp[gN,eA,yC,eQ,gP,q,qt,x1,y1,g1,g2,g3,g4,g5,g6,kx,ky,rx,ry,-an,-aL,-az,-aQ,-fA,jz,jx,jA,jt,gJ,gI,jr,ju,jw,gK,gL,js,f1,f2,f3,e1,e2,e3,hf,jc,h8,h9,kj,pE,tr,aI]
     |true=>have wA:=fo hb;obtain⟨c2,l2⟩:=c1.ok wA;have HM:=wA.pos;rw[lU cK hb];obtain⟨cS,ih⟩:=Pa n N w hx hy M (aJ++[(ag T 999 st).1.1]) (ba [44] (ag T 999 st).2).2 m 0 c2 (by rw[gn.1];exact h1) (by simp) (by simp;omega) (by omega) (by omega) (by omega);rw[hb] at qt;rw[gn.1,gn.2,<-dV,List.length_append,List.length_cons,List.length_nil] at ih;rw[<-dV] at jc;refine⟨cS,?_⟩;refine Eq.trans ?_ ih;generalize (ba [44] (ag T 999 st).2).2=s2 at *;generalize (ag T 999 st).1.1=t at *;generalize (ag T 999 st).2=s1 at *;generalize bm st.ae=F at *;generalize bm s1.ae=G at *;generalize st.ae.length=fl at *;generalize s1.ae.length=gl at *;generalize aw aJ=A at *;simp[gN,eA,yC,eQ,gP,q,qt,x1,y1,g1,g2,g3,g4,g5,g6,kx,ky,rx,ry,-an,-aL,-az,-aQ,-fA,jz,jx,jA,jt,gJ,gI,jr,ju,jw,gK,gL,js,f1,f2,f3,e1,e2,e3,hf,jc,h8,h9,kj,pE,tr,aI]
end
section
def Ch(x y:AV)(l:List Tm)(ok:Bool)(st:St)(md:Nat):Option (Ex×List AV×af):=
 match st.ae,ok with
 |[],true=>some (.ret,FM 24 [(2,.vec 1 0 l.length 4 l.length),(3,.bool true)],⟨2,[.row (aw l),.row [x,y,.int .i64 st.bM,.int .i64 st.next,.aD]],1,md⟩)
 |[],false=>some (.ret,FM 24 [(2,.aD),(3,.bool false)],⟨1,[.row [x,y,.int .i64 st.bM,.int .i64 st.next,.aD]],1,md⟩)
 |q::r,true=>some (.ret,FM 24 [(2,.vec 1 0 l.length 4 l.length),(3,.bool true)],⟨3,[.row (bm (q::r)),.row (aw l),.row [x,y,.int .i64 st.bM,.int .i64 st.next,.vec 2 0 (q::r).length 2 (q::r).length]],0,md⟩)
 |q::r,false=>some (.ret,FM 24 [(2,.aD),(3,.bool false)],⟨2,[.row (bm (q::r)),.row [x,y,.int .i64 st.bM,.int .i64 st.next,.vec 1 0 (q::r).length 2 (q::r).length]],0,md⟩)
theorem Iq{x y:AV}{l:List Tm}{st:St}{md:Nat}(h:st.ae=[]):Ch x y l true st md=some (.ret,FM 24 [(2,.vec 1 0 l.length 4 l.length),(3,.bool true)],⟨2,[.row (aw l),.row [x,y,.int .i64 st.bM,.int .i64 st.next,.aD]],1,md⟩):=by unfold Ch;rw[h]
theorem I6{x y:AV}{l:List Tm}{st:St}{md:Nat}(h:st.ae=[]):Ch x y l false st md=some (.ret,FM 24 [(2,.aD),(3,.bool false)],⟨1,[.row [x,y,.int .i64 st.bM,.int .i64 st.next,.aD]],1,md⟩):=by unfold Ch;rw[h]
theorem Cx{x y:AV}{l:List Tm}{st:St}{md:Nat}(h:st.ae≠[]):Ch x y l true st md=some (.ret,FM 24 [(2,.vec 1 0 l.length 4 l.length),(3,.bool true)],⟨3,[.row (bm st.ae),.row (aw l),.row [x,y,.int .i64 st.bM,.int .i64 st.next,.vec 2 0 st.ae.length 2 st.ae.length]],0,md⟩):=by
 unfold Ch
 cases hn:st.ae with
 |nil=>exact absurd hn h
 |cons q r=>rfl
theorem Cs{x y:AV}{l:List Tm}{st:St}{md:Nat}(h:st.ae≠[]):Ch x y l false st md=some (.ret,FM 24 [(2,.aD),(3,.bool false)],⟨2,[.row (bm st.ae),.row [x,y,.int .i64 st.bM,.int .i64 st.next,.vec 1 0 st.ae.length 2 st.ae.length]],0,md⟩):=by
 unfold Ch
 cases hn:st.ae with
 |nil=>exact absurd hn h
 |cons q r=>rfl
theorem Ll(n N w:Nat){x y:AV}{T:List aY}{L:List Tok}(hx:a8 x=some T)(hy:bA y=some L)(M:Nat)(aJ:List Tm)(st:St)(m md:Nat)(hc:RC T L st)(h0:st.ae≠[])(fB:aJ≠[])(h1:aJ.length+st.ak.length<=200000)(h2:st.ak.length<N)(h3:st.ak.length<M)(h4:M<=m):
 ∃cS,iV 1 w (cb (aF (aH (cg [] (yC N)) (n+1)) (n+1) gN) eA 1 m (kD (.ptr 0 0) (.vec 1 0 aJ.length 4 aJ.length)) ⟨3,[.row (bm st.ae),.row (aw aJ),.row [x,y,.int .i64 st.bM,.int .i64 st.next,.vec 2 0 st.ae.length 2 st.ae.length]],0,md⟩)=
   Ch x y (bp (ag T) M aJ st).1.1 (bp (ag T) M aJ st).1.2 (bp (ag T) M aJ st).2 cS:=by
 obtain⟨cS,e⟩:=PH n N w hx hy M aJ st m md hc h0 fB h1 h2 h3 h4;have hn:=BB (bQ T) (M:=M) (aJ:=aJ) h0;refine⟨cS,e.trans ?_⟩;generalize bp (ag T) M aJ st=I at *;obtain⟨⟨l,ok⟩,s⟩:=I
 cases ok with
 |true=>exact (Cx hn).symm
 |false=>exact (Cs hn).symm
attribute [local simp] jz jx jA jt gJ gI jr ju jw gK gL js kR kN kT kO kL kK iq iw Laid.aK fa fc bO gN eA yC eQ gP
theorem V1(n N:Nat){x y:AV}{T:List aY}{L:List Tok}(hx:a8 x=some T)(hy:bA y=some L):∀(M:Nat) (aJ:List Tm) (st:St) (m md:Nat),RC T L st->st.ae=[]->aJ≠[]->aJ.length+st.ak.length<=200000->st.ak.length<N->st.ak.length<M->M<=m->
 ∃cS,iV 1 1 (cb (aF (aH (cg [] (yC N)) (n+1)) (n+1) gN) eA 1 m (kD (.ptr 0 0) (.vec 1 0 aJ.length 4 aJ.length)) ⟨2,[.row (aw aJ),.row [x,y,.int .i64 st.bM,.int .i64 st.next,.aD]],1,md⟩)=
   Ch x y (bp (ag T) M aJ st).1.1 (bp (ag T) M aJ st).1.2 (bp (ag T) M aJ st).2 cS
 |0,_,_,_,_,_,_,_,_,_,h,_=>by omega
 |M+1,aJ,st,0,_,_,_,_,_,_,_,h=>by omega
 |M+1,aJ,st,m+1,md,hc,h0,fB,hal,hN,hM,hm=>by
   have bW:=bK hx;have bX:=bu hy;rw[ai];have H:=bQ T;have q:=dF N hx hy hc 999 hN;have eU:=H.lv 999 st;rw[a7 h0,h0,au] at q;have e1:=fa (ag T 999 st).2.ae;have e2:=fc (ag T 999 st).2.ae;have e3:=bO (ag T 999 st).2.ae;have hf:=aT aJ
   cases cK:(ag T 999 st).1.2.2 with
   |false=>
     rw[rG cK];rw[cK] at q;dsimp only;have tr:=ar (ag T 999 st).1.1;by_cases h1:(ag T 999 st).2.ae=[]
     .rw[c8 h1] at q;simp only[I6 h1];generalize (ag T 999 st).1.1=t at *;generalize (ag T 999 st).2=s1 at *;generalize aw aJ=A at *;exact⟨min md 0,by simp[q,-an,-aL,-az,-aQ,-fA,tr,hf,bW,bX]⟩
     .rw[cH h1] at q;simp only[Cs h1];generalize (ag T 999 st).1.1=t at *;generalize (ag T 999 st).2=s1 at *;generalize aw aJ=A at *;exact⟨min md 0,by simp[q,-an,-aL,-az,-aQ,-fA,e1,e2,e3,tr,hf,bW,bX]⟩
   |true=>
     have ho:=H.ok 999 st cK;obtain⟨c1,l1⟩:=hc.ok ho;have lO:=ho.pos;have qt:=iK hx hy c1 [44];have gn:=fO [44] (ag T 999 st).2;rw[cK] at q;have jc:=aT (aJ++[(ag T 999 st).1.1]);have h8:(aJ.length+1)*56<=140737488355328:=by omega
     have h9:aJ.length+1<9223372036854775808:=by omega
     have kj:(aw aJ).take (aJ.length*4)=aw aJ:=by rw[List.take_of_length_le];rw[cL];exact Nat.le_refl _
     have pE:=cL aJ;have tr:=ar (ag T 999 st).1.1;by_cases h1:(ag T 999 st).2.ae=[]
     .rw[c8 h1] at q;rw[a7 h1,a7 (by rw[gn.1];exact h1),gn.2] at qt
      cases hb:(ba [44] (ag T 999 st).2).1 with
      |false=>have hs:=pO hb;rw[j9 cK hb];rw[hb,hs] at qt;dsimp only;simp only[Iq h1];rw[<-dV] at jc|-;rw[List.length_append,List.length_cons,List.length_nil];generalize (ag T 999 st).1.1=t at *;generalize (ag T 999 st).2=s1 at *;generalize aw aJ=A at *;exact⟨min md 0,by simp[q,qt,-an,-aL,-az,-aQ,-fA,jc,tr,aI,hf,h8,h9,kj,pE,bW,bX]⟩
      |true=>have wA:=fo hb;obtain⟨c2,l2⟩:=c1.ok wA;have HM:=wA.pos;rw[lU cK hb];obtain⟨cS,ih⟩:=V1 n N hx hy M (aJ++[(ag T 999 st).1.1]) (ba [44] (ag T 999 st).2).2 m 0 c2 (by rw[gn.1];exact h1) (by simp) (by simp;omega) (by omega) (by omega) (by omega);rw[hb] at qt;rw[gn.2,<-dV,List.length_append,List.length_cons,List.length_nil] at ih;rw[<-dV] at jc;refine⟨cS,?_⟩;refine Eq.trans ?_ ih;generalize (ba [44] (ag T 999 st).2).2=s2 at *;generalize (ag T 999 st).1.1=t at *;generalize (ag T 999 st).2=s1 at *;generalize aw aJ=A at *;simp[q,qt,-an,-aL,-az,-aQ,-fA,jc,tr,aI,hf,h8,h9,kj,pE,bW,bX]
     .rw[cH h1] at q;rw[a6 h1,a6 (by rw[gn.1];exact h1),gn.1,gn.2] at qt
      cases hb:(ba [44] (ag T 999 st).2).1 with
      |false=>have hs:=pO hb;rw[j9 cK hb];rw[hb,hs] at qt;dsimp only;simp only[Cx h1];rw[<-dV] at jc|-;rw[List.length_append,List.length_cons,List.length_nil];generalize (ag T 999 st).1.1=t at *;generalize (ag T 999 st).2=s1 at *;generalize aw aJ=A at *;exact⟨min md 0,by simp[q,qt,-an,-aL,-az,-aQ,-fA,e1,e2,e3,jc,tr,aI,hf,h8,h9,kj,pE,bW,bX]⟩
      |true=>have wA:=fo hb;obtain⟨c2,l2⟩:=c1.ok wA;have HM:=wA.pos;rw[lU cK hb];obtain⟨cS,ih⟩:=Ll n N 1 hx hy M (aJ++[(ag T 999 st).1.1]) (ba [44] (ag T 999 st).2).2 m 0 c2 (by rw[gn.1];exact h1) (by simp) (by simp;omega) (by omega) (by omega) (by omega);rw[hb] at qt;rw[gn.1,gn.2,<-dV,List.length_append,List.length_cons,List.length_nil] at ih;rw[<-dV] at jc;refine⟨cS,?_⟩;refine Eq.trans ?_ ih;generalize (ba [44] (ag T 999 st).2).2=s2 at *;generalize (ag T 999 st).1.1=t at *;generalize (ag T 999 st).2=s1 at *;generalize aw aJ=A at *;simp[q,qt,-an,-aL,-az,-aQ,-fA,e1,e2,e3,jc,tr,aI,hf,h8,h9,kj,pE,bW,bX]
theorem adK(n N:Nat){x y:AV}{T:List aY}{L:List Tok}(hx:a8 x=some T)(hy:bA y=some L):∀(M:Nat) (st:St) (m md:Nat),RC T L st->st.ae=[]->0+st.ak.length<=200000->st.ak.length<N->st.ak.length<M->M<=m->
 ∃cS,iV 1 1 (cb (aF (aH (cg [] (yC N)) (n+1)) (n+1) gN) eA 1 m (kD (.ptr 0 0) .aD) ⟨1,[.row [x,y,.int .i64 st.bM,.int .i64 st.next,.aD]],1,md⟩)=
   Ch x y (bp (ag T) M [] st).1.1 (bp (ag T) M [] st).1.2 (bp (ag T) M [] st).2 cS
 |0,_,_,_,_,_,_,_,h,_=>by omega
 |M+1,st,0,_,_,_,_,_,_,h=>by omega
 |M+1,st,m+1,md,hc,h0,hal,hN,hM,hm=>by
   have bW:=bK hx;have bX:=bu hy;rw[ai];have H:=bQ T;have q:=dF N hx hy hc 999 hN;have eU:=H.lv 999 st;rw[a7 h0,h0,au] at q;have e1:=fa (ag T 999 st).2.ae;have e2:=fc (ag T 999 st).2.ae;have e3:=bO (ag T 999 st).2.ae
   cases cK:(ag T 999 st).1.2.2 with
   |false=>
     rw[rG cK];rw[cK] at q;dsimp only;have tr:=ar (ag T 999 st).1.1;by_cases h1:(ag T 999 st).2.ae=[]
     .rw[c8 h1] at q;simp only[I6 h1];generalize (ag T 999 st).1.1=t at *;generalize (ag T 999 st).2=s1 at *;exact⟨min md 0,by simp[q,-an,-aL,-az,-aQ,-fA,tr,bW,bX]⟩
     .rw[cH h1] at q;simp only[Cs h1];generalize (ag T 999 st).1.1=t at *;generalize (ag T 999 st).2=s1 at *;exact⟨min md 0,by simp[q,-an,-aL,-az,-aQ,-fA,e1,e2,e3,tr,bW,bX]⟩
   |true=>
     have ho:=H.ok 999 st cK;obtain⟨c1,l1⟩:=hc.ok ho;have lO:=ho.pos;have qt:=iK hx hy c1 [44];have gn:=fO [44] (ag T 999 st).2;rw[cK] at q;have jc:=aT ([]++[(ag T 999 st).1.1]);have tr:=ar (ag T 999 st).1.1;by_cases h1:(ag T 999 st).2.ae=[]
     .rw[c8 h1] at q;rw[a7 h1,a7 (by rw[gn.1];exact h1),gn.2] at qt
      cases hb:(ba [44] (ag T 999 st).2).1 with
      |false=>have hs:=pO hb;rw[j9 cK hb];rw[hb,hs] at qt;dsimp only;simp only[Iq h1];rw[<-dV] at jc|-;rw[List.length_append,List.length_cons,List.length_nil];generalize (ag T 999 st).1.1=t at *;generalize (ag T 999 st).2=s1 at *;exact⟨min md 0,by simp[q,qt,-an,-aL,-az,-aQ,-fA,jc,tr,aI,aw,bW,bX]⟩
      |true=>have wA:=fo hb;obtain⟨c2,l2⟩:=c1.ok wA;have HM:=wA.pos;rw[lU cK hb];obtain⟨cS,ih⟩:=V1 n N hx hy M ([]++[(ag T 999 st).1.1]) (ba [44] (ag T 999 st).2).2 m 0 c2 (by rw[gn.1];exact h1) (by simp) (by simp;omega) (by omega) (by omega) (by omega);rw[hb] at qt;rw[gn.2,<-dV,List.length_append,List.length_cons,List.length_nil] at ih;rw[<-dV] at jc;refine⟨cS,?_⟩;refine Eq.trans ?_ ih;generalize (ba [44] (ag T 999 st).2).2=s2 at *;generalize (ag T 999 st).1.1=t at *;generalize (ag T 999 st).2=s1 at *;simp[q,qt,-an,-aL,-az,-aQ,-fA,jc,tr,aI,aw,bW,bX]
     .rw[cH h1] at q;rw[a6 h1,a6 (by rw[gn.1];exact h1),gn.1,gn.2] at qt
      cases hb:(ba [44] (ag T 999 st).2).1 with
      |false=>have hs:=pO hb;rw[j9 cK hb];rw[hb,hs] at qt;dsimp only;simp only[Cx h1];rw[<-dV] at jc|-;rw[List.length_append,List.length_cons,List.length_nil];generalize (ag T 999 st).1.1=t at *;generalize (ag T 999 st).2=s1 at *;exact⟨min md 0,by simp[q,qt,-an,-aL,-az,-aQ,-fA,e1,e2,e3,jc,tr,aI,aw,bW,bX]⟩
      |true=>have wA:=fo hb;obtain⟨c2,l2⟩:=c1.ok wA;have HM:=wA.pos;rw[lU cK hb];obtain⟨cS,ih⟩:=Ll n N 1 hx hy M ([]++[(ag T 999 st).1.1]) (ba [44] (ag T 999 st).2).2 m 0 c2 (by rw[gn.1];exact h1) (by simp) (by simp;omega) (by omega) (by omega) (by omega);rw[hb] at qt;rw[gn.1,gn.2,<-dV,List.length_append,List.length_cons,List.length_nil] at ih;rw[<-dV] at jc;refine⟨cS,?_⟩;refine Eq.trans ?_ ih;generalize (ba [44] (ag T 999 st).2).2=s2 at *;generalize (ag T 999 st).1.1=t at *;generalize (ag T 999 st).2=s1 at *;simp[q,qt,-an,-aL,-az,-aQ,-fA,e1,e2,e3,jc,tr,aI,aw,bW,bX]
end
section
theorem uT{rec:Int->St->PR×St}:∀(M:Nat) (aJ:List Tm) (st:St),(bp rec M aJ st).1.2=true->(bp rec M aJ st).1.1≠[]/\(bp rec M aJ st).1.1.length<=aJ.length+M
 |0,aJ,st,h=>by cases h
 |M+1,aJ,st,h=>by
   unfold bp at h|-;by_cases d1:(rec 999 st).1.2.2=true
   .rw[if_pos d1] at h|-;by_cases d2:(ba [44] (rec 999 st).2).1=true
    .rw[if_pos d2] at h|-;have:=uT M _ _ h;simp only[List.length_append,List.length_cons,List.length_nil] at this;exact⟨this.1,by omega⟩
    .rw[if_neg d2];exact⟨by simp,by simp⟩
   .rw[if_neg d1] at h;cases h
def M8(x y:AV)(l:List Tm)(ok:Bool)(st:St)(md:Nat):Option (Ex×List AV×af):=
 if ok then some (.ret,FM 24 [(2,.vec 2 0 l.length 4 l.length),(3,.bool true)],⟨4,[.row (bm st.ae),.row (aw l),.dead,.row [x,y,.int .i64 st.bM,.int .i64 st.next,.vec 3 0 st.ae.length 2 st.ae.length]],0,md⟩)
 else some (.ret,FM 24 [(2,.aD),(3,.bool false)],⟨3,[.row (bm st.ae),.dead,.row [x,y,.int .i64 st.bM,.int .i64 st.next,.vec 2 0 st.ae.length 2 st.ae.length]],0,md⟩)
theorem T5(n N w:Nat){x y:AV}{T:List aY}{L:List Tok}(hx:a8 x=some T)(hy:bA y=some L)(M:Nat)(aJ:List Tm)(st:St)(m md:Nat)(hc:RC T L st)(h0:st.ae≠[])(fB:aJ≠[])(h1:aJ.length+st.ak.length<=200000)(h2:st.ak.length<N)(h3:st.ak.length<M)(h4:M<=m):
 ∃cS,iV 2 w (cb (aF (aH (cg [] (yC N)) (n+1)) (n+1) gN) eA 2 m (kD (.ptr 0 0) (.vec 2 0 aJ.length 4 aJ.length)) ⟨4,[.row (bm st.ae),.row (aw aJ),.dead,.row [x,y,.int .i64 st.bM,.int .i64 st.next,.vec 3 0 st.ae.length 2 st.ae.length]],0,md⟩)=
   M8 x y (bp (ag T) M aJ st).1.1 (bp (ag T) M aJ st).1.2 (bp (ag T) M aJ st).2 cS:=by
 obtain⟨cS,e⟩:=Pa n N w hx hy M aJ st m md hc h0 fB h1 h2 h3 h4;refine⟨cS,e.trans ?_⟩;generalize bp (ag T) M aJ st=I at *;obtain⟨⟨l,ok⟩,s⟩:=I;cases ok<;>rfl
attribute [local simp] jz jx jA jt gJ gI jr ju jw gK gL js kR kN kT kO kL kK iq iw Laid.aK fa fc bO eA yC eQ gP
theorem adh(n N:Nat){x y:AV}{T:List aY}{L:List Tok}(hx:a8 x=some T)(hy:bA y=some L)(M:Nat)(st:St)(m md:Nat)(hc:RC T L st)(h0:st.ae≠[])(hal:st.ak.length<=190000)(hN:st.ak.length<N)(hM:st.ak.length<M+1)(hm:M<=m):
 ∃cS,iV 2 2 (cb (aF (aH (cg [] (yC N)) (n+1)) (n+1) gN) eA 2 (m+1) (kD (.ptr 0 0) .aD) ⟨2,[.row (bm st.ae),.row [x,y,.int .i64 st.bM,.int .i64 st.next,.vec 1 0 st.ae.length 2 st.ae.length]],2,md⟩)=
   M8 x y (bp (ag T) (M+1) [] st).1.1 (bp (ag T) (M+1) [] st).1.2 (bp (ag T) (M+1) [] st).2 cS:=by
 have bW:=bK hx;have bX:=bu hy;rw[ai];have H:=bQ T;have q:=dF N hx hy hc 999 hN;have eU:=H.lv 999 st;have h1:=eU.ae h0;rw[a6 h0,dS h0 h1,au] at q;have e1:=fa (ag T 999 st).2.ae;have e2:=fc (ag T 999 st).2.ae;have e3:=bO (ag T 999 st).2.ae;have tr:=ar (ag T 999 st).1.1
 cases cK:(ag T 999 st).1.2.2 with
 |false=>rw[rG cK];rw[cK] at q;simp only[M8,if_false,Bool.false_eq_true];generalize (ag T 999 st).1.1=t at *;generalize (ag T 999 st).2=s1 at *;exact⟨min md 0,by simp[gN,q,-an,-aL,-az,-aQ,-fA,e1,e2,e3,tr,bW,bX]⟩
 |true=>
   have ho:=H.ok 999 st cK;obtain⟨c1,l1⟩:=hc.ok ho;have lO:=ho.pos;have qt:=iK hx hy c1 [44];have gn:=fO [44] (ag T 999 st).2;rw[a6 h1,a6 (by rw[gn.1];exact h1),gn.1,gn.2] at qt;rw[cK] at q;have jc:=aT ([]++[(ag T 999 st).1.1])
   cases hb:(ba [44] (ag T 999 st).2).1 with
   |false=>have hs:=pO hb;rw[j9 cK hb];rw[hb,hs] at qt;simp only[M8,if_true];rw[<-dV] at jc|-;rw[List.length_append,List.length_cons,List.length_nil];generalize (ag T 999 st).1.1=t at *;generalize (ag T 999 st).2=s1 at *;exact⟨min md 0,by simp[gN,q,qt,-an,-aL,-az,-aQ,-fA,e1,e2,e3,jc,tr,aI,aw,bW,bX]⟩
   |true=>have wA:=fo hb;obtain⟨c2,l2⟩:=c1.ok wA;have HM:=wA.pos;rw[lU cK hb];obtain⟨cS,ih⟩:=T5 n N 2 hx hy M ([]++[(ag T 999 st).1.1]) (ba [44] (ag T 999 st).2).2 m 0 c2 (by rw[gn.1];exact h1) (by simp) (by simp;omega) (by omega) (by omega) (by omega);rw[hb] at qt;rw[gn.1,gn.2,<-dV,List.length_append,List.length_cons,List.length_nil] at ih;rw[<-dV] at jc;refine⟨cS,?_⟩;refine Eq.trans ?_ ih;generalize (ba [44] (ag T 999 st).2).2=s2 at *;generalize (ag T 999 st).1.1=t at *;generalize (ag T 999 st).2=s1 at *;simp[gN,q,qt,-an,-aL,-az,-aQ,-fA,e1,e2,e3,jc,tr,aI,aw,bW,bX]
def aA(T:List aY)(st:St):(List Tm×Bool)×St:=bp (ag T) (st.ak.length+1) [] st
noncomputable def o8(N:Nat):cq:=⟨163,λ
 |[.ptr 0 0],os=>(match xz os with
   |some R=>if R.st.ak.length<N then some (.tuple [FI (if (aA R.T R.st).1.2 then (aA R.T R.st).1.1 else []),.bool (aA R.T R.st).1.2],some (dE R.x R.y R.st.ae (aA R.T R.st).2)) else none
   |none=>none)
 |_,_=>none⟩
theorem tj(N:Nat):(o8 N).f=163:=(rfl)
theorem l9(N:Nat){x y:AV}{T:List aY}{L:List Tok}{st:St}(hx:a8 x=some T)(hy:bA y=some L)(h:RC T L st)(hn:st.ak.length<N):
 (o8 N).S [.ptr 0 0] (dz x y st)=some (.tuple [FI (if (aA T st).1.2 then (aA T st).1.1 else []),.bool (aA T st).1.2],some (dE x y st.ae (aA T st).2)):=by
 simp only[o8,lz hx hy h];rw[if_pos hn]
theorem AS{l:List Tm}(h:l≠[]):FI l=.sl (l.map Tm.aR):=by
 cases l with
 |nil=>exact absurd rfl h
 |cons a r=>rfl
theorem Oi{h:af}{n0 d id:Nat}{l:List Tm}(hl:l≠[])(bZ:n0<=id)(hg:h.get id=some (.row (aw l))):jH h n0 (d+2) (.vec id 0 l.length 4 l.length)=some (.sl (l.map Tm.aR),[id]):=by
 cases l with
 |nil=>exact absurd rfl hl
 |cons a r=>exact Wu a r bZ hg
theorem ON(N:Nat){x y:AV}{T:List aY}{L:List Tok}{st:St}(hx:a8 x=some T)(hy:bA y=some L)(hc:RC T L st)(hN:st.ak.length<N)(hE:bY Tryz.prog bV (cg [] (yC N))):
 ck Tryz.prog bV 163 [.ptr 0 0] (dz x y st) (.tuple [FI (if (aA T st).1.2 then (aA T st).1.1 else []),.bool (aA T st).1.2]) (some (dE x y st.ae (aA T st).2)):=by
 have bW:=bK hx;have bX:=bu hy;have x1:=bW.aK;have y1:=bX.aK;have nV:st.ak.length<=100000:=by rw[hc.ak,List.length_drop,gG];have:=hc.lb;omega
 have hv:∀(l:List Tm) (b:Bool),(AV.tuple [FI l,.bool b]).aK=0:=λl b=>by simp[AV.aK,AV.aj,L4]
 have fB:=uT (rec:=ag T) (st.ak.length+1) [] st;by_cases h0:st.ae=[]
 .obtain⟨cS,lp⟩:=adK 199998 N hx hy (st.ak.length+1) st 199999 1 hc h0 (by omega) hN (by omega) (by omega);change _=Ch x y (aA T st).1.1 (aA T st).1.2 (aA T st).2 cS at lp;change (aA T st).1.2=true->(aA T st).1.1≠[]/\_ at fB;by_cases h1:(aA T st).2.ae=[]
  .cases cK:(aA T st).1.2 with
   |true=>
     have hl:=(fB cK).1;rw[cK,Iq h1] at lp;rw[if_pos rfl];refine dw (n:=200000) hE bW bX h0 h1 ?_ (hv _ _) rfl;rw[AS hl];have fk:∀(A:aS) (wl md d:Nat),jH ⟨2,[.row (aw (aA T st).1.1),A],wl,md⟩ 1 (d+2) (.vec 1 0 (aA T st).1.1.length 4 (aA T st).1.1.length)=some (.sl ((aA T st).1.1.map Tm.aR),[1]):=λA wl md d=>Oi hl (by omega) rfl
     have hr:=cE (aA T st).1.1;simp only[eA,kD,yC] at lp;generalize (aA T st).1.1.map Tm.aR=U at *;generalize aw (aA T st).1.1=A at *;generalize (aA T st).1.1.length=k at *;generalize (aA T st).2=s1 at *;simp[vx,Ic,eA,yC,eQ,gP,lp,fk,x1,y1,hr,-mj]
   |false=>rw[cK,I6 h1] at lp;rw[if_neg (by simp)];refine dw (n:=200000) hE bW bX h0 h1 ?_ (hv _ _) rfl;simp only[eA,kD,yC] at lp;generalize (aA T st).2=s1 at *;simp[vx,Ic,eA,yC,eQ,gP,lp,x1,y1,FI]
  .have e3:=bO (aA T st).2.ae
   cases cK:(aA T st).1.2 with
   |true=>
     have hl:=(fB cK).1;rw[cK,Cx h1] at lp;rw[if_pos rfl];refine dZ (n:=200000) hE bW bX 2 (by decide) h0 h1 ?_ (hv _ _) rfl;rw[AS hl];have fk:∀(A B:aS) (wl md d:Nat),jH ⟨3,[B,.row (aw (aA T st).1.1),A],wl,md⟩ 1 (d+2) (.vec 1 0 (aA T st).1.1.length 4 (aA T st).1.1.length)=some (.sl ((aA T st).1.1.map Tm.aR),[1]):=λA B wl md d=>Oi hl (by omega) rfl
     have hr:=cE (aA T st).1.1;simp only[eA,kD,yC] at lp;generalize (aA T st).1.1.map Tm.aR=U at *;generalize aw (aA T st).1.1=A at *;generalize (aA T st).1.1.length=k at *;generalize (aA T st).2=s1 at *;simp[vx,Ic,eA,yC,eQ,gP,lp,fk,x1,y1,hr,e3,-mj]
   |false=>rw[cK,Cs h1] at lp;rw[if_neg (by simp)];refine dZ (n:=200000) hE bW bX 1 (by decide) h0 h1 ?_ (hv _ _) rfl;simp only[eA,kD,yC] at lp;generalize (aA T st).2=s1 at *;simp[vx,Ic,eA,yC,eQ,gP,lp,x1,y1,e3,FI]
 .obtain⟨cS,lp⟩:=adh 199998 N hx hy st.ak.length st 199998 2 hc h0 (by omega) hN (by omega) (by omega);change _=M8 x y (aA T st).1.1 (aA T st).1.2 (aA T st).2 cS at lp;change (aA T st).1.2=true->(aA T st).1.1≠[]/\_ at fB;have h1:(aA T st).2.ae≠[]:=BB (bQ T) h0;have e3:=bO (aA T st).2.ae;have f3:=bO st.ae
  cases cK:(aA T st).1.2 with
  |true=>
    have hl:=(fB cK).1;rw[cK] at lp;simp only[M8,if_true] at lp;rw[if_pos rfl];refine da (n:=200000) hE bW bX 3 (by decide) h0 h1 ?_ (hv _ _) rfl;rw[AS hl];have fk:∀(A B C:aS) (wl md d:Nat),jH ⟨4,[B,.row (aw (aA T st).1.1),C,A],wl,md⟩ 2 (d+2) (.vec 2 0 (aA T st).1.1.length 4 (aA T st).1.1.length)=some (.sl ((aA T st).1.1.map Tm.aR),[2]):=λA B C wl md d=>Oi hl (by omega) rfl
    have hr:=cE (aA T st).1.1;simp only[eA,kD,yC] at lp;generalize (aA T st).1.1.map Tm.aR=U at *;generalize aw (aA T st).1.1=A at *;generalize (aA T st).1.1.length=k at *;generalize (aA T st).2=s1 at *;simp[vx,Ic,eA,yC,eQ,gP,lp,fk,x1,y1,hr,e3,f3,-mj]
  |false=>rw[cK] at lp;simp only[M8,if_false,Bool.false_eq_true] at lp;rw[if_neg (by simp)];refine da (n:=200000) hE bW bX 2 (by decide) h0 h1 ?_ (hv _ _) rfl;simp only[eA,kD,yC] at lp;generalize (aA T st).2=s1 at *;simp[vx,Ic,eA,yC,eQ,gP,lp,x1,y1,e3,f3,FI]
theorem BP(N:Nat)(hN:cr Tryz.prog bV (iF N)):cr Tryz.prog bV (o8 N):=λaa os v r hv=>by
 unfold o8 at hv;dsimp only at hv;split at hv
 .rename_i os;split at hv
  .rename_i R hR;split at hv
   .rename_i hc;cases hv;obtain⟨hx,hy,rfl,h⟩:=ke hR;rw[tj];exact ON N hx hy h hc (dW (by simp) (by simp[yC,hN,EK]))
   .cases hv
  .cases hv
 .cases hv
end
section
def gH(T:List aY)(st:St):(Tm×Bool)×St:=iL (ag T) (st.ak.length+1) st
theorem Re{T:List aY}{st:St}(h:(aA T st).1.2=false):gH T st=((aW [91,93],false),(aA T st).2):=by unfold gH iL;change (if (aA T st).1.2=true then _ else ((aW [91,93],false),(aA T st).2))=_;rw[h,if_neg (by simp)]
theorem IZ{T:List aY}{st:St}(h:(aA T st).1.2=true):gH T st=lY (ag T) (aA T st).1.1 (aA T st).2:=by unfold gH iL;change (if (aA T st).1.2=true then lY (ag T) (aA T st).1.1 (aA T st).2 else _)=_;rw[h,if_pos rfl]
theorem YZ{rec:Int->St->PR×St}{l:List Tm}{st:St}(h:(ba [124] st).1=false):lY rec l st=((bL l (aW [91,93]),(ba [93] st).1),(ba [93] st).2):=by unfold lY;rw[h,if_neg (by simp)]
theorem UM{rec:Int->St->PR×St}{l:List Tm}{st:St}(h:(ba [124] st).1=true)(h2:(rec 999 (ba [124] st).2).1.2.2=false):lY rec l st=((bL l (rec 999 (ba [124] st).2).1.1,false),(rec 999 (ba [124] st).2).2):=by unfold lY;rw[h,if_pos rfl,h2,if_neg (by simp)]
theorem Tw{rec:Int->St->PR×St}{l:List Tm}{st:St}(h:(ba [124] st).1=true)(h2:(rec 999 (ba [124] st).2).1.2.2=true):lY rec l st=((bL l (rec 999 (ba [124] st).2).1.1,(ba [93] (rec 999 (ba [124] st).2).2).1),(ba [93] (rec 999 (ba [124] st).2).2).2):=by unfold lY;rw[h,if_pos rfl,h2,if_pos rfl]
theorem ik(T:List aY)(st:St):Lv st (aA T st).2/\((aA T st).1.2=true->Ok st (aA T st).2):=kW (bQ T) _ [] st
noncomputable def NG:List aZ:=[tT,u5]
noncomputable def ND(N:Nat):List cq:=[o8 N,BY,iF N]
theorem jD(t:Tm)(b:Bool):(AV.tuple [t.aR,.bool b]).aK=0:=by simp[AV.aK,AV.aj,Tm.cm]
attribute [local simp] jz jx jA jt gJ gI jr ju jw gK gL js kR kN kT kO kL kK iq iw Laid.aK fa fc bO YN Ys aE NG ND fV gM tj gP eQ
theorem ab4(N:Nat){x y:AV}{T:List aY}{L:List Tok}{st:St}(hx:a8 x=some T)(hy:bA y=some L)(hc:RC T L st)(hN:st.ak.length<N)(hE:bY Tryz.prog bV (cg NG (ND N)))(cK:(aA T st).1.2=false):
 ck Tryz.prog bV 161 [.ptr 0 0] (dz x y st) (.tuple [(gH T st).1.1.aR,.bool (gH T st).1.2]) (some (dE x y st.ae (gH T st).2)):=by
 rw[Re cK];have bW:=bK hx;have bX:=bu hy;have q1:=l9 N hx hy hc hN;rw[cK,if_neg (by simp)] at q1;simp only[FI] at q1;have qa:=lx [91,93];have ql:u5.S [.aD,.agg [.int .i64 2,.int .i64 0,.str [91,93],.aD]]=some (.agg [.int .i64 2,.int .i64 0,.str [91,93],.aD]):=rfl;have eU:=(ik T st).1;dsimp only;generalize (aA T st).2=s1 at *;by_cases h0:st.ae=[];by_cases h1:s1.ae=[];rw[a7 h0,h0,c8 h1] at q1;refine dw (n:=8) hE bW bX h0 h1 ?_ (jD _ _) rfl
 rotate_left
 rw[a7 h0,h0,cH h1] at q1;refine dZ (n:=8) hE bW bX 2 (by decide) h0 h1 ?_ (jD _ _) rfl
 rotate_left
 have h1:s1.ae≠[]:=eU.ae h0;rw[a6 h0,dS h0 h1] at q1;refine da (n:=8) hE bW bX 3 (by decide) h0 h1 ?_ (jD _ _) rfl
 rotate_left
 all_goals
  rw[show (aW [91,93]).aR=.agg [.int .i64 2,.int .i64 0,.str [91,93],.aD] from rfl];simp[q1,qa,ql,-an,-aL,-az,-aQ,-fA,bW,bX]
theorem ad1(N:Nat){x y:AV}{T:List aY}{L:List Tok}{st:St}(hx:a8 x=some T)(hy:bA y=some L)(hc:RC T L st)(hN:st.ak.length<N)(hE:bY Tryz.prog bV (cg NG (ND N)))(cK:(aA T st).1.2=true)(hb:(ba [124] (aA T st).2).1=false):
 ck Tryz.prog bV 161 [.ptr 0 0] (dz x y st) (.tuple [(gH T st).1.1.aR,.bool (gH T st).1.2]) (some (dE x y st.ae (gH T st).2)):=by
 rw[IZ cK,YZ hb];have bW:=bK hx;have bX:=bu hy;have eU:=(ik T st).1;have ho:=(ik T st).2 cK;obtain⟨c1,l1⟩:=hc.ok ho;have hl:=uT (rec:=ag T) (st.ak.length+1) [] st cK;change (aA T st).1.1≠[]/\(aA T st).1.1.length<=_ at hl;have nV:st.ak.length<=100000:=by rw[hc.ak,List.length_drop,gG];have:=hc.lb;omega
 have q1:=l9 N hx hy hc hN;rw[cK,if_pos rfl,AS hl.1] at q1;have qa:=lx [91,93];have q2:=iK hx hy c1 [124];have ahY:=ho.pos;have q4:=iK hx hy c1 [93];have gX:=fO [93] (aA T st).2;rw[hb,pO hb] at q2;have ql:=y8 (aA T st).1.1 (aW [91,93]) (by simp at hl;omega);rw[show (aW [91,93]).aR=.agg [.int .i64 2,.int .i64 0,.str [91,93],.aD] from rfl,au] at ql;have ur:=cE (aA T st).1.1;dsimp only;generalize (aA T st).2=s1 at *;generalize (aA T st).1.1=l at *;have rr:=ar (bL l (aW [91,93]));clear hl;generalize l.map Tm.aR=U at *;by_cases h0:st.ae=[];by_cases h1:s1.ae=[];rw[a7 h0,h0,c8 h1] at q1;rw[a7 h1] at q2;rw[a7 h1,a7 (by rw[gX.1];exact h1),gX.2] at q4;refine dw (n:=8) hE bW bX h0 (by rw[gX.1];exact h1) ?_ (jD _ _) rfl;rw[au,gX.2]
 rotate_left
 rw[a7 h0,h0,cH h1] at q1;rw[a6 h1] at q2;rw[a6 h1,a6 (by rw[gX.1];exact h1),gX.1,gX.2] at q4;refine dZ (n:=8) hE bW bX 2 (by decide) h0 (by rw[gX.1];exact h1) ?_ (jD _ _) rfl;rw[au,gX.1,gX.2]
 rotate_left
 have h1:s1.ae≠[]:=eU.ae h0;rw[a6 h0,dS h0 h1] at q1;rw[a6 h1] at q2;rw[a6 h1,a6 (by rw[gX.1];exact h1),gX.1,gX.2] at q4;refine da (n:=8) hE bW bX 3 (by decide) h0 (by rw[gX.1];exact h1) ?_ (jD _ _) rfl;rw[au,gX.1,gX.2]
 rotate_left
 all_goals
  generalize bL l (aW [91,93])=r at *;generalize ba [93] s1=b4 at *;obtain⟨b4,s4⟩:=b4;simp[q1,q2,q4,qa,ql,rr,ur,-an,-aL,-az,-aQ,-fA,bW,bX]
theorem ack(N:Nat){x y:AV}{T:List aY}{L:List Tok}{st:St}(hx:a8 x=some T)(hy:bA y=some L)(hc:RC T L st)(hN:st.ak.length<N)(hE:bY Tryz.prog bV (cg NG (ND N)))(cK:(aA T st).1.2=true)(hb:(ba [124] (aA T st).2).1=true)(hr:(ag T 999 (ba [124] (aA T st).2).2).1.2.2=false):
 ck Tryz.prog bV 161 [.ptr 0 0] (dz x y st) (.tuple [(gH T st).1.1.aR,.bool (gH T st).1.2]) (some (dE x y st.ae (gH T st).2)):=by
 rw[IZ cK,UM hb hr];have bW:=bK hx;have bX:=bu hy;have eU:=(ik T st).1;have ho:=(ik T st).2 cK;obtain⟨c1,l1⟩:=hc.ok ho;have hl:=uT (rec:=ag T) (st.ak.length+1) [] st cK;change (aA T st).1.1≠[]/\(aA T st).1.1.length<=_ at hl;have nV:st.ak.length<=100000:=by rw[hc.ak,List.length_drop,gG];have:=hc.lb;omega
 have q1:=l9 N hx hy hc hN;rw[cK,if_pos rfl,AS hl.1] at q1;have qa:=lx [91,93];have q2:=iK hx hy c1 [124];have ahY:=ho.pos;have wA:=fo hb;obtain⟨c2,l2⟩:=c1.ok wA;have alG:=wA.pos;have gn:=fO [124] (aA T st).2;rw[hb] at q2;have q3:=dF N hx hy c2 999 (by omega);rw[hr,au] at q3;have X1:=(bQ T).lv 999 (ba [124] (aA T st).2).2;have hl3:(aA T st).2.ae≠[]->(ag T 999 (ba [124] (aA T st).2).2).2.ae≠[]:=λh=>X1.ae (by rw[gn.1];exact h)
 have ql:=y8 (aA T st).1.1 (ag T 999 (ba [124] (aA T st).2).2).1.1 (by simp at hl;omega);rw[au,au (bL _ _)] at ql;have ur:=cE (aA T st).1.1;dsimp only;clear X1;generalize (ag T 999 (ba [124] (aA T st).2).2).2=s3 at *;generalize (ag T 999 (ba [124] (aA T st).2).2).1.1=t2 at *;generalize (ba [124] (aA T st).2).2=s2 at *;generalize (aA T st).2=s1 at *;generalize (aA T st).1.1=l at *;have tr:=ar t2;have rr:=ar (bL l t2);clear hl;generalize l.map Tm.aR=U at *;by_cases h0:st.ae=[];by_cases h1:s1.ae=[];by_cases h2:s3.ae=[];rw[a7 h0,h0,c8 h1] at q1;rw[a7 h1,a7 (by rw[gn.1];exact h1),gn.2] at q2;rw[a7 (by rw[gn.1];exact h1),gn.1,h1,c8 h2,gn.2] at q3;refine dw (n:=8) hE bW bX h0 h2 ?_ (jD _ _) rfl
 rotate_left
 rw[a7 h0,h0,c8 h1] at q1;rw[a7 h1,a7 (by rw[gn.1];exact h1),gn.2] at q2;rw[a7 (by rw[gn.1];exact h1),gn.1,h1,cH h2,gn.2] at q3;refine dZ (n:=8) hE bW bX 3 (by decide) h0 h2 ?_ (jD _ _) rfl
 rotate_left
 have h2:s3.ae≠[]:=hl3 h1;rw[a7 h0,h0,cH h1] at q1;rw[a6 h1,a6 (by rw[gn.1];exact h1),gn.1,gn.2] at q2;rw[a6 (by rw[gn.1];exact h1),gn.1,dS h1 h2,gn.2] at q3;refine dZ (n:=8) hE bW bX 4 (by decide) h0 h2 ?_ (jD _ _) rfl
 rotate_left
 have h1:s1.ae≠[]:=eU.ae h0;have h2:s3.ae≠[]:=hl3 h1;rw[a6 h0,dS h0 h1] at q1;rw[a6 h1,a6 (by rw[gn.1];exact h1),gn.1,gn.2] at q2;rw[a6 (by rw[gn.1];exact h1),gn.1,dS h1 h2,gn.2] at q3;refine da (n:=8) hE bW bX 5 (by decide) h0 h2 ?_ (jD _ _) rfl
 rotate_left
 all_goals
  rw[au];generalize bL l t2=r at *;simp[q1,q2,q3,qa,ql,rr,tr,ur,-an,-aL,-az,-aQ,-fA,bW,bX]
theorem acS(N:Nat){x y:AV}{T:List aY}{L:List Tok}{st:St}(hx:a8 x=some T)(hy:bA y=some L)(hc:RC T L st)(hN:st.ak.length<N)(hE:bY Tryz.prog bV (cg NG (ND N)))(cK:(aA T st).1.2=true)(hb:(ba [124] (aA T st).2).1=true)(hr:(ag T 999 (ba [124] (aA T st).2).2).1.2.2=true):
 ck Tryz.prog bV 161 [.ptr 0 0] (dz x y st) (.tuple [(gH T st).1.1.aR,.bool (gH T st).1.2]) (some (dE x y st.ae (gH T st).2)):=by
 rw[IZ cK,Tw hb hr];have bW:=bK hx;have bX:=bu hy;have eU:=(ik T st).1;have ho:=(ik T st).2 cK;obtain⟨c1,l1⟩:=hc.ok ho;have hl:=uT (rec:=ag T) (st.ak.length+1) [] st cK;change (aA T st).1.1≠[]/\(aA T st).1.1.length<=_ at hl;have nV:st.ak.length<=100000:=by rw[hc.ak,List.length_drop,gG];have:=hc.lb;omega
 have q1:=l9 N hx hy hc hN;rw[cK,if_pos rfl,AS hl.1] at q1;have qa:=lx [91,93];have q2:=iK hx hy c1 [124];have ahY:=ho.pos;have wA:=fo hb;obtain⟨c2,l2⟩:=c1.ok wA;have alG:=wA.pos;have gn:=fO [124] (aA T st).2;rw[hb] at q2;have q3:=dF N hx hy c2 999 (by omega);rw[hr,au] at q3;have X1:=(bQ T).lv 999 (ba [124] (aA T st).2).2;have hl3:(aA T st).2.ae≠[]->(ag T 999 (ba [124] (aA T st).2).2).2.ae≠[]:=λh=>X1.ae (by rw[gn.1];exact h)
 have ql:=y8 (aA T st).1.1 (ag T 999 (ba [124] (aA T st).2).2).1.1 (by simp at hl;omega);rw[au,au (bL _ _)] at ql;obtain⟨c3,l3⟩:=c2.ok ((bQ T).ok 999 _ hr);have q4:=iK hx hy c3 [93];have gX:=fO [93] (ag T 999 (ba [124] (aA T st).2).2).2;have ur:=cE (aA T st).1.1;dsimp only;clear X1;generalize (ag T 999 (ba [124] (aA T st).2).2).2=s3 at *;generalize (ag T 999 (ba [124] (aA T st).2).2).1.1=t2 at *;generalize (ba [124] (aA T st).2).2=s2 at *;generalize (aA T st).2=s1 at *;generalize (aA T st).1.1=l at *;have tr:=ar t2;have rr:=ar (bL l t2);clear hl;generalize l.map Tm.aR=U at *;by_cases h0:st.ae=[];by_cases h1:s1.ae=[];by_cases h2:s3.ae=[];rw[a7 h0,h0,c8 h1] at q1;rw[a7 h1,a7 (by rw[gn.1];exact h1),gn.2] at q2;rw[a7 (by rw[gn.1];exact h1),gn.1,h1,c8 h2,gn.2] at q3;rw[a7 h2,a7 (by rw[gX.1];exact h2),gX.2] at q4;refine dw (n:=8) hE bW bX h0 (by rw[gX.1];exact h2) ?_ (jD _ _) rfl;rw[au,gX.2]
 rotate_left
 rw[a7 h0,h0,c8 h1] at q1;rw[a7 h1,a7 (by rw[gn.1];exact h1),gn.2] at q2;rw[a7 (by rw[gn.1];exact h1),gn.1,h1,cH h2,gn.2] at q3;rw[a6 h2,a6 (by rw[gX.1];exact h2),gX.1,gX.2] at q4;refine dZ (n:=8) hE bW bX 3 (by decide) h0 (by rw[gX.1];exact h2) ?_ (jD _ _) rfl;rw[au,gX.1,gX.2]
 rotate_left
 have h2:s3.ae≠[]:=hl3 h1;rw[a7 h0,h0,cH h1] at q1;rw[a6 h1,a6 (by rw[gn.1];exact h1),gn.1,gn.2] at q2;rw[a6 (by rw[gn.1];exact h1),gn.1,dS h1 h2,gn.2] at q3;rw[a6 h2,a6 (by rw[gX.1];exact h2),gX.1,gX.2] at q4;refine dZ (n:=8) hE bW bX 4 (by decide) h0 (by rw[gX.1];exact h2) ?_ (jD _ _) rfl;rw[au,gX.1,gX.2]
 rotate_left
 have h1:s1.ae≠[]:=eU.ae h0;have h2:s3.ae≠[]:=hl3 h1;rw[a6 h0,dS h0 h1] at q1;rw[a6 h1,a6 (by rw[gn.1];exact h1),gn.1,gn.2] at q2;rw[a6 (by rw[gn.1];exact h1),gn.1,dS h1 h2,gn.2] at q3;rw[a6 h2,a6 (by rw[gX.1];exact h2),gX.1,gX.2] at q4;refine da (n:=8) hE bW bX 5 (by decide) h0 (by rw[gX.1];exact h2) ?_ (jD _ _) rfl;rw[au,gX.1,gX.2]
 rotate_left
 all_goals
  generalize bL l t2=r at *;generalize ba [93] s3=b4 at *;obtain⟨b4,s4⟩:=b4;simp[q1,q2,q3,qa,ql,rr,tr,ur,q4,-an,-aL,-az,-aQ,-fA,bW,bX]
noncomputable def wg(N:Nat):cq:=⟨161,λ
 |[.ptr 0 0],os=>(match xz os with
   |some R=>if R.st.ak.length<N then some (.tuple [(gH R.T R.st).1.1.aR,.bool (gH R.T R.st).1.2],some (dE R.x R.y R.st.ae (gH R.T R.st).2)) else none
   |none=>none)
 |_,_=>none⟩
theorem AE(N:Nat):(wg N).f=161:=(rfl)
theorem Ou(N:Nat){x y:AV}{T:List aY}{L:List Tok}{st:St}(hx:a8 x=some T)(hy:bA y=some L)(h:RC T L st)(hn:st.ak.length<N):
 (wg N).S [.ptr 0 0] (dz x y st)=some (.tuple [(gH T st).1.1.aR,.bool (gH T st).1.2],some (dE x y st.ae (gH T st).2)):=by
 simp only[wg,lz hx hy h];rw[if_pos hn]
theorem Om(N:Nat)(hN:cr Tryz.prog bV (iF N)):cr Tryz.prog bV (wg N):=λaa os v r hv=>by
 unfold wg at hv;dsimp only at hv;split at hv
 .rename_i os;split at hv
  .rename_i R hR;split at hv
   .rename_i hn;cases hv;obtain⟨hx,hy,rfl,h⟩:=ke hR;rw[AE];have hE:bY Tryz.prog bV (cg NG (ND N)):=dW (by simp[NG,yY.lift,Mn.lift]) (by simp[ND,hN,EK,BP N hN])
    cases cK:(aA R.T R.st).1.2 with
    |false=>exact ab4 N hx hy h hn hE cK
    |true=>
      cases hb:(ba [124] (aA R.T R.st).2).1 with
      |false=>exact ad1 N hx hy h hn hE cK hb
      |true=>
        cases hr:(ag R.T 999 (ba [124] (aA R.T R.st).2).2).1.2.2 with
        |false=>exact ack N hx hy h hn hE cK hb hr
        |true=>exact acS N hx hy h hn hE cK hb hr
   .cases hv
  .cases hv
 .cases hv
end
section
def qj(t:Tok):cB:=⟨t.ah,t.ay,t.bx,t.iT,false⟩
noncomputable def Tg:List aZ:=[tT,FB,j7,oc,rh]
noncomputable def SU(N:Nat):List cq:=[vR,iF N]
theorem bn(t:Tm)(n:Int)(b:Bool):(AV.tuple [t.aR,.int .i64 n,.bool b]).aK=0:=by simp[AV.aK,AV.aj,Tm.cm]
theorem jK(t:Tok)(n:Int):AV.aj [t.aR,.int .i64 n]=0:=rfl
theorem dy(t:Tm):t.bH.cells? =some [t.bH]:=by cases t<;>rfl
theorem BE(s:List UInt8)(u:Tm):(ct s [u]).aR=.agg [.int .i64 2,.int .i64 0,.str s,.sl [.agg [.int .i64 u.ah,.int .i64 u.bx,.str u.aC,u.bH]]]:=by rw[<-au];rfl
theorem GG(s:List UInt8)(u v:Tm):(ct s [u,v]).aR=.agg [.int .i64 2,.int .i64 0,.str s,.sl [.agg [.int .i64 u.ah,.int .i64 u.bx,.str u.aC,u.bH],.agg [.int .i64 v.ah,.int .i64 v.bx,.str v.aC,v.bH]]]:=by rw[<-au,<-au];rfl
theorem sA(s:List UInt8):(aW s).aR=.agg [.int .i64 2,.int .i64 0,.str s,.aD]:=rfl
attribute [local simp] jz jx jA jt gJ gI jr ju jw gK gL js kR kN kT kO kL kK iq iw Laid.aK fa fc bO YA c164 aE Tg SU fV eJ dc dL pR G3 eQ
theorem ZC(N:Nat){x y:AV}{T:List aY}{L:List Tok}{st:St}(hx:a8 x=some T)(hy:bA y=some L)(hc:RC T L st)(hN:st.ak.length<N)(hE:bY Tryz.prog bV (cg Tg (SU N)))(t:Tok)(n:Int)(hk:t.ah=2):
 ck Tryz.prog bV 164 [.ptr 0 0,t.aR,.int .i64 n] (dz x y st) (.tuple [(cn (ag T) T (qj t) n st).1.1.aR,.int .i64 (cn (ag T) T (qj t) n st).1.2.1,.bool (cn (ag T) T (qj t) n st).1.2.2]) (some (dE x y st.ae (cn (ag T) T (qj t) n st).2)):=by
 have e:cn (ag T) T (qj t) n st=((aW t.ay,0,true),st):=by unfold cn;exact if_pos hk
 rw[e];have bW:=bK hx;have bX:=bu hy;have Ap:=λh=>bW.fr h 0 6
 have qa:=lx t.ay;dsimp only;by_cases h0:st.ae=[];refine dw (n:=8) hE bW bX h0 h0 ?_ (bn _ _ _) (jK _ _)
 rotate_left
 refine da (n:=8) hE bW bX 1 (by decide) h0 h0 ?_ (bn _ _ _) (jK _ _)
 rotate_left
 all_goals
  rw[cG];rw[sA];simp[Ap,qa,hk,-an,-aL,-az,-aQ,-fA,bW,bX]
theorem Y4(N:Nat){x y:AV}{T:List aY}{L:List Tok}{st:St}(hx:a8 x=some T)(hy:bA y=some L)(hc:RC T L st)(hN:st.ak.length<N)(hE:bY Tryz.prog bV (cg Tg (SU N)))(t:Tok)(n:Int)(hk:¬t.ah=2)(hp:((aM T t.ay true).2&&decide ((aM T t.ay true).1.l<=n)&&hO T st)=false):
 ck Tryz.prog bV 164 [.ptr 0 0,t.aR,.int .i64 n] (dz x y st) (.tuple [(cn (ag T) T (qj t) n st).1.1.aR,.int .i64 (cn (ag T) T (qj t) n st).1.2.1,.bool (cn (ag T) T (qj t) n st).1.2.2]) (some (dE x y st.ae (cn (ag T) T (qj t) n st).2)):=by
 have e:cn (ag T) T (qj t) n st=((aW t.ay,u7 T t.ay,decide (u7 T t.ay<=n)),st):=by unfold cn;refine (if_neg hk).trans (if_neg ?_);rw[show (qj t).ay=t.ay from rfl,hp];simp
 rw[e];have bW:=bK hx;have bX:=bu hy;have Ap:=λh=>bW.fr h 0 6
 have qa:=lx t.ay;have q1:=u4 hx t.ay (by have:=hc.tb;omega);have q2:=tC hx t.ay (by have:=hc.tb;omega);have qb:=Eh hx hy hc;simp only[aY.aR,aY.cells] at q1 q2;unfold u7;dsimp only;generalize aM T t.ay false=I at *;obtain⟨⟨i1,i2,i3⟩,i4⟩:=I;generalize aM T t.ay true=P at *;obtain⟨⟨p1,p2,p3⟩,p4⟩:=P;dsimp only at q1 q2 hp|-
 have Jh:(if i3<p3 then p3 else i3)=max i3 p3:=by
  by_cases h:i3<p3
  .rw[if_pos h];omega
  .rw[if_neg h];omega
 generalize hO T st=bg at *
 cases p4 with
 |false=>
   by_cases h0:st.ae=[];refine dw (n:=8) hE bW bX h0 h0 ?_ (bn _ _ _) (jK _ _)
   rotate_left
   refine da (n:=8) hE bW bX 1 (by decide) h0 h0 ?_ (bn _ _ _) (jK _ _)
   rotate_left
   all_goals
    rw[cG];rw[sA];simp[Ap,qa,q1,q2,hk,vC,Jh,-an,-aL,-az,-aQ,-fA,bW,bX]
 |true=>
   by_cases hpn:p3<=n
   .have hbg:bg=false:=by simpa[hpn] using hp
    rw[hbg] at qb;by_cases h0:st.ae=[];rw[a7 h0] at qb;refine dw (n:=8) hE bW bX h0 h0 ?_ (bn _ _ _) (jK _ _)
    rotate_left
    rw[a6 h0] at qb;refine da (n:=8) hE bW bX 1 (by decide) h0 h0 ?_ (bn _ _ _) (jK _ _)
    rotate_left
    all_goals
     rw[cG];rw[sA];simp[Ap,qa,q1,q2,qb,hk,hpn,vC,Jh,-an,-aL,-az,-aQ,-fA,bW,bX]
   .skip;by_cases h0:st.ae=[];refine dw (n:=8) hE bW bX h0 h0 ?_ (bn _ _ _) (jK _ _)
    rotate_left
    refine da (n:=8) hE bW bX 1 (by decide) h0 h0 ?_ (bn _ _ _) (jK _ _)
    rotate_left
    all_goals
     rw[cG];rw[sA];simp[Ap,qa,q1,q2,hk,hpn,vC,Jh,-an,-aL,-az,-aQ,-fA,bW,bX]
theorem Y0(N:Nat){x y:AV}{T:List aY}{L:List Tok}{st:St}(hx:a8 x=some T)(hy:bA y=some L)(hc:RC T L st)(hN:st.ak.length<N)(hE:bY Tryz.prog bV (cg Tg (SU N)))(t:Tok)(n:Int)(hk:¬t.ah=2)(hp:((aM T t.ay true).2&&decide ((aM T t.ay true).1.l<=n)&&hO T st)=true):
 ck Tryz.prog bV 164 [.ptr 0 0,t.aR,.int .i64 n] (dz x y st) (.tuple [(cn (ag T) T (qj t) n st).1.1.aR,.int .i64 (cn (ag T) T (qj t) n st).1.2.1,.bool (cn (ag T) T (qj t) n st).1.2.2]) (some (dE x y st.ae (cn (ag T) T (qj t) n st).2)):=by
 have e:cn (ag T) T (qj t) n st=((ct t.ay [(ag T (ax (aM T t.ay true).1).2 st).1.1],(aM T t.ay true).1.l,(ag T (ax (aM T t.ay true).1).2 st).1.2.2),(ag T (ax (aM T t.ay true).1).2 st).2):=by unfold cn;exact (if_neg hk).trans (if_pos hp)
 rw[e];have bW:=bK hx;have bX:=bu hy;have Ap:=λh=>bW.fr h 0 6
 have qa:=lx t.ay;have q1:=u4 hx t.ay (by have:=hc.tb;omega);have q2:=tC hx t.ay (by have:=hc.tb;omega);have qb:=Eh hx hy hc;simp only[aY.aR,aY.cells] at q1 q2;have eU:=(bQ T).lv (ax (aM T t.ay true).1).2 st;have q3:=kl (aM T t.ay true).1 ⟨(kq T t.ay true).1,(kq T t.ay true).2⟩;have q4:=dF N hx hy hc (ax (aM T t.ay true).1).2 hN;simp only[Bool.and_eq_true,decide_eq_true_eq] at hp;obtain⟨⟨hp1,OZ⟩,hp3⟩:=hp;rw[hp3] at qb;have oJ:st.ae≠[]->(ag T (ax (aM T t.ay true).1).2 st).2.ae≠[]:=eU.ae;have qc:=kZ t.ay [(ag T (ax (aM T t.ay true).1).2 st).1.1] (by simp);rw[BE,List.map_cons,List.map_nil,au] at qc;rw[au] at q4;dsimp only;clear eU;generalize (ag T (ax (aM T t.ay true).1).2 st).1.2.1=lv at *;generalize (ag T (ax (aM T t.ay true).1).2 st).1.2.2=ok at *;generalize (ag T (ax (aM T t.ay true).1).2 st).1.1=u at *;generalize (ag T (ax (aM T t.ay true).1).2 st).2=s1 at *;generalize aM T t.ay true=P at *;obtain⟨⟨p1,p2,p3⟩,p4⟩:=P;dsimp only at q2 q3 q4 hp1 OZ|-;subst hp1;generalize ax ⟨p1,p2,p3⟩=sd at *;obtain⟨sd1,sd2⟩:=sd;dsimp only at q3 q4;have ur:=ar u;have uc:=dy u;by_cases h0:st.ae=[];by_cases h1:s1.ae=[];rw[a7 h0,h0,c8 h1] at q4;rw[a7 h0] at qb;refine dw (n:=8) hE bW bX h0 h1 ?_ (bn _ _ _) (jK _ _)
 rotate_left
 rw[a7 h0,h0,cH h1] at q4;rw[a7 h0] at qb;refine dZ (n:=8) hE bW bX 4 (by decide) h0 h1 ?_ (bn _ _ _) (jK _ _)
 rotate_left
 have h1:=oJ h0;rw[a6 h0,dS h0 h1] at q4;rw[a6 h0] at qb;refine da (n:=8) hE bW bX 5 (by decide) h0 h1 ?_ (bn _ _ _) (jK _ _)
 rotate_left
 all_goals
  rw[BE,cG];simp[Ap,qa,q2,qb,q3,q4,qc,hk,OZ,ur,uc,aI,-an,-aL,-az,-aQ,-fA,bW,bX]
noncomputable def vO(N:Nat):cq:=⟨164,λ
 |[.ptr 0 0,w,.int .i64 n],os=>(match xz os,ym w with
   |some R,some t=>if R.st.ak.length<N then some (.tuple [(cn (ag R.T) R.T (qj t) n R.st).1.1.aR,.int .i64 (cn (ag R.T) R.T (qj t) n R.st).1.2.1,.bool (cn (ag R.T) R.T (qj t) n R.st).1.2.2],some (dE R.x R.y R.st.ae (cn (ag R.T) R.T (qj t) n R.st).2)) else none
   |_,_=>none)
 |_,_=>none⟩
theorem AQ(N:Nat):(vO N).f=164:=(rfl)
theorem tG(N:Nat){x y:AV}{T:List aY}{L:List Tok}{st:St}(hx:a8 x=some T)(hy:bA y=some L)(h:RC T L st)(hn:st.ak.length<N)(t:Tok)(n:Int):
 (vO N).S [.ptr 0 0,t.aR,.int .i64 n] (dz x y st)=some (.tuple [(cn (ag T) T (qj t) n st).1.1.aR,.int .i64 (cn (ag T) T (qj t) n st).1.2.1,.bool (cn (ag T) T (qj t) n st).1.2.2],some (dE x y st.ae (cn (ag T) T (qj t) n st).2)):=by
 simp only[vO,lz hx hy h,Hq];rw[if_pos hn]
theorem M5(N:Nat)(hN:cr Tryz.prog bV (iF N)):cr Tryz.prog bV (vO N):=λaa os v r hv=>by
 unfold vO at hv;dsimp only at hv;split at hv
 .rename_i os w n;split at hv
  .rename_i R t hR ht;split at hv
   .rename_i hn;cases hv;obtain⟨hx,hy,rfl,h⟩:=ke hR;rw[AQ,yX ht];have hE:bY Tryz.prog bV (cg Tg (SU N)):=dW (by simp[Tg,yY.lift,Bp.lift,ze.lift,wo.lift,uU.lift]) (by simp[SU,hN,NO]);by_cases hk:t.ah=2
    .exact ZC N hx hy h hn hE t _ hk
    .cases hp:((aM R.T t.ay true).2&&decide ((aM R.T t.ay true).1.l<=_)&&hO R.T R.st) with
     |false=>exact Y4 N hx hy h hn hE t _ hk hp
     |true=>exact Y0 N hx hy h hn hE t _ hk hp
   .cases hv
  .cases hv
 .cases hv
end
section
theorem zr(k:Nat)(rec:Int->St->PR×St):EqR k rec rec:=λ_ _ _=>rfl
theorem J8{T:List aY}{M:Nat}{st:St}(h:st.ak.length<M):bp (ag T) M [] st=aA T st:=zp (bQ T) (zr (st.ak.length+1) _) M _ [] st (by omega) h (by omega)
theorem YL{T:List aY}{M:Nat}{st:St}(h:st.ak.length<M):iL (ag T) M st=gH T st:=PF (bQ T) (zr (st.ak.length+1) _) M _ st (by omega) h (by omega)
def bo(T:List aY)(n:Int)(st:St):PR×St:=eH (ag T) T (st.ak.length+1) n st
theorem abO{st:St}:(aq st).ak.length<st.ak.length+1:=by rw[dj];omega
theorem fh{x y:AV}{st:St}(h:st.ae=[]):dz x y (aq st)=[.row [x,y,.int .i64 ((st.bM:Int)+1),.int .i64 st.next,.aD]]:=a7 (st:=aq st) h
theorem iE{x y:AV}{st:St}(h:st.ae≠[]):dz x y (aq st)=[.row [x,y,.int .i64 ((st.bM:Int)+1),.int .i64 st.next,.vec 1 0 st.ae.length 2 st.ae.length],.row (bm st.ae)]:=a6 (st:=aq st) h
theorem AI(st:St):((aq st).bM:Int)=(st.bM:Int)+1:=rfl
theorem Ax(st:St):(aq st).next=st.next:=rfl
theorem A8(st:St):(aq st).ae=st.ae:=rfl
mutual
theorem U9:∀a:AV,a.Md a=true
 |.undef=>rfl
 |.bool a=>by simp[AV.Md]
 |.int k n=>by simp[AV.Md]
 |.str a=>by simp[AV.Md]
 |.mO=>rfl
 |.ptr i o=>by simp[AV.Md]
 |.ip a=>by rw[AV.Md];exact sG a
 |.aD=>rfl
 |.sl a=>by rw[AV.Md];exact sG a
 |.vec i o l s b=>by simp[AV.Md]
 |.jV=>rfl
 |.map i=>by simp[AV.Md]
 |.iU=>rfl
 |.fn f a=>by simp[AV.Md,sG a]
 |.mM=>rfl
 |.iface t a=>by simp[AV.Md,U9 a]
 |.agg a=>by rw[AV.Md];exact sG a
 |.tuple a=>by rw[AV.Md];exact sG a
theorem sG:∀l:List AV,AV.A7 l l=true
 |[]=>rfl
 |a::r=>by simp[AV.A7,U9 a,sG r]
end
theorem jM(l:List AV):P0 (some (.row l)) (some (.row l))=true:=sG l
noncomputable def qJ:List aZ:=[OP,qY,rh]
noncomputable def qx(N:Nat):List cq:=[wE,Rq,iF N,BY,wg N,o8 N,vO N]
theorem Gw(n:Int):(Tm.nl 1 n []).aR=.agg [.int .i64 1,.int .i64 n,.str [],.aD]:=rfl
theorem z7:CR.aR=.agg [.int .i64 0,.int .i64 0,.str [],.aD]:=rfl
attribute [local simp] jz jx jA jt gJ gI jr ju jw gK gL js kR kN kT kO kL kK iq iw Laid.aK fa fc bO jM Qx UI aE qJ qx Oy fm pR fK Nl eQ gP AE tj AQ
theorem Vk(N:Nat){x y:AV}{T:List aY}{L:List Tok}{st:St}(hx:a8 x=some T)(hy:bA y=some L)(hc:RC T L st)(hN:st.ak.length<=N)(hE:bY Tryz.prog bV (cg qJ (qx N)))(n:Int)(k4:(bb L st).ah=4):
 ck Tryz.prog bV 120 [.ptr 0 0,.int .i64 n] (dz x y st) (.tuple [(bo T n st).1.1.aR,.int .i64 (bo T n st).1.2.1,.bool (bo T n st).1.2.2]) (some (dE x y st.ae (bo T n st).2)):=by
 have ks:(aB st).ah=(bb L st).ah:=by rw[br hc]
 have ts:(aB st).ay=(bb L st).ay:=by rw[br hc]
 have us:(aB st).bx=(bb L st).bx:=by rw[br hc]
 have os:(aB st).iT=(bb L st).iT:=by rw[br hc]
 have e:bo T n st=((.nl 1 (bb L st).bx [],0,true),aq st):=by unfold bo eH;rw[if_pos (ks.trans k4),us]
 rw[e];have bW:=bK hx;have bX:=bu hy;have q0:=dH hx hy hc;rw[cG] at q0;have qn:=fN (bb L st);have w1:=wrap_i64 (n:=(st.bM:Int)+1) (by omega) (by have:=hc.le;have:=hc.lb;omega);have qi:=Qw (bb L st).bx;rw[k4] at q0;dsimp only;by_cases h0:st.ae=[];rw[a7 h0] at q0;refine dw (n:=8) hE bW bX h0 h0 ?_ (bn _ _ _) rfl
 rotate_left
 rw[a6 h0] at q0;refine da (n:=8) hE bW bX 1 (by decide) h0 h0 ?_ (bn _ _ _) rfl
 rotate_left
 all_goals
  rw[Gw];simp only[AI,Ax,A8];simp[w1,q0,qi,-an,-aL,-az,-aQ,-fA,bW,bX]
theorem US(N:Nat){x y:AV}{T:List aY}{L:List Tok}{st:St}(hx:a8 x=some T)(hy:bA y=some L)(hc:RC T L st)(hN:st.ak.length<=N)(hE:bY Tryz.prog bV (cg qJ (qx N)))(n:Int)(k3:(bb L st).ah=3):
 ck Tryz.prog bV 120 [.ptr 0 0,.int .i64 n] (dz x y st) (.tuple [(bo T n st).1.1.aR,.int .i64 (bo T n st).1.2.1,.bool (bo T n st).1.2.2]) (some (dE x y st.ae (bo T n st).2)):=by
 have ks:(aB st).ah=(bb L st).ah:=by rw[br hc]
 have ts:(aB st).ay=(bb L st).ay:=by rw[br hc]
 have us:(aB st).bx=(bb L st).bx:=by rw[br hc]
 have os:(aB st).iT=(bb L st).iT:=by rw[br hc]
 have e:bo T n st=(((k9 (bb L st).ay (aq st)).1,0,true),(k9 (bb L st).ay (aq st)).2):=by unfold bo eH;rw[if_neg (by rw[ks,k3];decide),if_pos (ks.trans k3),ts]
 rw[e];have bW:=bK hx;have bX:=bu hy;have q0:=dH hx hy hc;rw[cG] at q0;have qn:=fN (bb L st);have w1:=wrap_i64 (n:=(st.bM:Int)+1) (by omega) (by have:=hc.le;have:=hc.lb;omega);have c1:=hc.FG (by have:=fQ hc (by rw[ks,k3];decide);omega);have qv:=YR hx hy c1 (bb L st).ay;have eU:st.ae≠[]->(k9 (bb L st).ay (aq st)).2.ae≠[]:=(N9 (bb L st).ay (aq st)).ae;rw[show (aq st).ae=st.ae from rfl,au] at qv;rw[k3] at q0;dsimp only;have ur:=ar (k9 (bb L st).ay (aq st)).1;generalize (k9 (bb L st).ay (aq st)).2=s1 at *;generalize (k9 (bb L st).ay (aq st)).1=u at *;by_cases h0:st.ae=[];by_cases h1:s1.ae=[];rw[a7 h0] at q0;rw[fh h0,h0,c8 h1] at qv;refine dw (n:=8) hE bW bX h0 h1 ?_ (bn _ _ _) rfl
 rotate_left
 rw[a7 h0] at q0;rw[fh h0,h0,cH h1] at qv;refine dZ (n:=8) hE bW bX 3 (by decide) h0 h1 ?_ (bn _ _ _) rfl
 rotate_left
 have h1:=eU h0;rw[a6 h0] at q0;rw[iE h0,dS h0 h1] at qv;refine da (n:=8) hE bW bX 4 (by decide) h0 h1 ?_ (bn _ _ _) rfl
 rotate_left
 all_goals
  rw[au];simp[w1,q0,qv,ur,-an,-aL,-az,-aQ,-fA,bW,bX]
theorem OU(N:Nat){x y:AV}{T:List aY}{L:List Tok}{st:St}(hx:a8 x=some T)(hy:bA y=some L)(hc:RC T L st)(hN:st.ak.length<=N)(hE:bY Tryz.prog bV (cg qJ (qx N)))(n:Int)(k5:(bb L st).ah=5)(Jr:(bb L st).ay=[40])(cK:(ag T 1200 (aq st)).1.2.2=false):
 ck Tryz.prog bV 120 [.ptr 0 0,.int .i64 n] (dz x y st) (.tuple [(bo T n st).1.1.aR,.int .i64 (bo T n st).1.2.1,.bool (bo T n st).1.2.2]) (some (dE x y st.ae (bo T n st).2)):=by
 have ks:(aB st).ah=(bb L st).ah:=by rw[br hc]
 have ts:(aB st).ay=(bb L st).ay:=by rw[br hc]
 have us:(aB st).bx=(bb L st).bx:=by rw[br hc]
 have os:(aB st).iT=(bb L st).iT:=by rw[br hc]
 have e:bo T n st=(((ag T 1200 (aq st)).1.1,0,false),(ag T 1200 (aq st)).2):=by unfold bo eH;rw[if_neg (by rw[ks,k5];decide),if_neg (by rw[ks,k5];decide)];rw[if_pos ⟨ks.trans k5,ts.trans Jr⟩];unfold fT;rw[cK];exact if_neg (by simp)
 rw[e];have bW:=bK hx;have bX:=bu hy;have q0:=dH hx hy hc;rw[cG] at q0;have qn:=fN (bb L st);have w1:=wrap_i64 (n:=(st.bM:Int)+1) (by omega) (by have:=hc.le;have:=hc.lb;omega);have oX:=fQ hc (by rw[ks,k5];decide);have c1:=hc.FG (by omega);have hl:=dj st;have hp:=bF (st:=st) (by rw[ks,k5];decide);have qt:=dF N hx hy c1 1200 (by omega);rw[cK,show (aq st).ae=st.ae from rfl,au] at qt;have eU:st.ae≠[]->(ag T 1200 (aq st)).2.ae≠[]:=((bQ T).lv 1200 (aq st)).ae;have ur:=ar (ag T 1200 (aq st)).1.1;have uc:=dy (ag T 1200 (aq st)).1.1;rw[k5,Jr] at q0;dsimp only;generalize (ag T 1200 (aq st)).2=s1 at *;generalize (ag T 1200 (aq st)).1.1=u at *;generalize (ag T 1200 (aq st)).1.2.1=lv at *;by_cases h0:st.ae=[];by_cases h1:s1.ae=[];rw[a7 h0] at q0;rw[fh h0,h0,c8 h1] at qt;refine dw (n:=8) hE bW bX h0 h1 ?_ (bn _ _ _) rfl
 rotate_left
 rw[a7 h0] at q0;rw[fh h0,h0,cH h1] at qt;refine dZ (n:=8) hE bW bX 3 (by decide) h0 h1 ?_ (bn _ _ _) rfl
 rotate_left
 have h1:=eU h0;rw[a6 h0] at q0;rw[iE h0,dS h0 h1] at qt;refine da (n:=8) hE bW bX 4 (by decide) h0 h1 ?_ (bn _ _ _) rfl
 rotate_left
 all_goals
  rw[au];simp[w1,q0,qt,ur,uc,aI,-an,-aL,-az,-aQ,-fA,bW,bX]
theorem M4(N:Nat){x y:AV}{T:List aY}{L:List Tok}{st:St}(hx:a8 x=some T)(hy:bA y=some L)(hc:RC T L st)(hN:st.ak.length<=N)(hE:bY Tryz.prog bV (cg qJ (qx N)))(n:Int)(k5:(bb L st).ah=5)(Jr:(bb L st).ay=[40])(cK:(ag T 1200 (aq st)).1.2.2=true):
 ck Tryz.prog bV 120 [.ptr 0 0,.int .i64 n] (dz x y st) (.tuple [(bo T n st).1.1.aR,.int .i64 (bo T n st).1.2.1,.bool (bo T n st).1.2.2]) (some (dE x y st.ae (bo T n st).2)):=by
 have ks:(aB st).ah=(bb L st).ah:=by rw[br hc]
 have ts:(aB st).ay=(bb L st).ay:=by rw[br hc]
 have us:(aB st).bx=(bb L st).bx:=by rw[br hc]
 have os:(aB st).iT=(bb L st).iT:=by rw[br hc]
 have e:bo T n st=(((ag T 1200 (aq st)).1.1,0,(ba [41] (ag T 1200 (aq st)).2).1),(ba [41] (ag T 1200 (aq st)).2).2):=by unfold bo eH;rw[if_neg (by rw[ks,k5];decide),if_neg (by rw[ks,k5];decide)];rw[if_pos ⟨ks.trans k5,ts.trans Jr⟩];unfold fT;rw[cK];exact if_pos rfl
 rw[e];have bW:=bK hx;have bX:=bu hy;have q0:=dH hx hy hc;rw[cG] at q0;have qn:=fN (bb L st);have w1:=wrap_i64 (n:=(st.bM:Int)+1) (by omega) (by have:=hc.le;have:=hc.lb;omega);have oX:=fQ hc (by rw[ks,k5];decide);have c1:=hc.FG (by omega);have hl:=dj st;have hp:=bF (st:=st) (by rw[ks,k5];decide);have qt:=dF N hx hy c1 1200 (by omega);rw[cK,show (aq st).ae=st.ae from rfl,au] at qt;have eU:st.ae≠[]->(ag T 1200 (aq st)).2.ae≠[]:=((bQ T).lv 1200 (aq st)).ae;have ur:=ar (ag T 1200 (aq st)).1.1;have uc:=dy (ag T 1200 (aq st)).1.1;rw[k5,Jr] at q0;obtain⟨c2,_⟩:=c1.ok ((bQ T).ok 1200 (aq st) cK);have qk:=iK hx hy c2 [41];have gX:=fO [41] (ag T 1200 (aq st)).2;dsimp only;generalize (ag T 1200 (aq st)).2=s1 at *;generalize (ag T 1200 (aq st)).1.1=u at *;generalize (ag T 1200 (aq st)).1.2.1=lv at *;by_cases h0:st.ae=[];by_cases h1:s1.ae=[];rw[a7 h0] at q0;rw[fh h0,h0,c8 h1] at qt;rw[a7 h1,a7 (by rw[gX.1];exact h1),gX.2] at qk;refine dw (n:=8) hE bW bX h0 (by rw[gX.1];exact h1) ?_ (bn _ _ _) rfl;rw[au,gX.2]
 rotate_left
 rw[a7 h0] at q0;rw[fh h0,h0,cH h1] at qt;rw[a6 h1,a6 (by rw[gX.1];exact h1),gX.1,gX.2] at qk;refine dZ (n:=8) hE bW bX 3 (by decide) h0 (by rw[gX.1];exact h1) ?_ (bn _ _ _) rfl;rw[au,gX.1,gX.2]
 rotate_left
 have h1:=eU h0;rw[a6 h0] at q0;rw[iE h0,dS h0 h1] at qt;rw[a6 h1,a6 (by rw[gX.1];exact h1),gX.1,gX.2] at qk;refine da (n:=8) hE bW bX 4 (by decide) h0 (by rw[gX.1];exact h1) ?_ (bn _ _ _) rfl;rw[au,gX.1,gX.2]
 rotate_left
 all_goals
  generalize ba [41] s1=b4 at *;obtain⟨b4,s4⟩:=b4;simp[w1,q0,qt,ur,uc,aI,qk,-an,-aL,-az,-aQ,-fA,bW,bX]
theorem Mc(N:Nat){x y:AV}{T:List aY}{L:List Tok}{st:St}(hx:a8 x=some T)(hy:bA y=some L)(hc:RC T L st)(hN:st.ak.length<=N)(hE:bY Tryz.prog bV (cg qJ (qx N)))(n:Int)(k5:(bb L st).ah=5)(Jr:(bb L st).ay=[123])(cK:(ag T 1200 (aq st)).1.2.2=false):
 ck Tryz.prog bV 120 [.ptr 0 0,.int .i64 n] (dz x y st) (.tuple [(bo T n st).1.1.aR,.int .i64 (bo T n st).1.2.1,.bool (bo T n st).1.2.2]) (some (dE x y st.ae (bo T n st).2)):=by
 have ks:(aB st).ah=(bb L st).ah:=by rw[br hc]
 have ts:(aB st).ay=(bb L st).ay:=by rw[br hc]
 have us:(aB st).bx=(bb L st).bx:=by rw[br hc]
 have os:(aB st).iT=(bb L st).iT:=by rw[br hc]
 have e:bo T n st=((ct [123,125] [(ag T 1200 (aq st)).1.1],0,false),(ag T 1200 (aq st)).2):=by unfold bo eH;rw[if_neg (by rw[ks,k5];decide),if_neg (by rw[ks,k5];decide)];rw[if_neg (λe=>by rw[ts,Jr] at e;exact absurd e.2 (by decide)),if_neg (λe=>by rw[ts,Jr] at e;exact absurd e.2 (by decide))];rw[if_pos ⟨ks.trans k5,ts.trans Jr⟩];unfold fT;rw[cK];exact if_neg (by simp)
 rw[e];have bW:=bK hx;have bX:=bu hy;have q0:=dH hx hy hc;rw[cG] at q0;have qn:=fN (bb L st);have w1:=wrap_i64 (n:=(st.bM:Int)+1) (by omega) (by have:=hc.le;have:=hc.lb;omega);have oX:=fQ hc (by rw[ks,k5];decide);have c1:=hc.FG (by omega);have hl:=dj st;have hp:=bF (st:=st) (by rw[ks,k5];decide);have qt:=dF N hx hy c1 1200 (by omega);rw[cK,show (aq st).ae=st.ae from rfl,au] at qt;have eU:st.ae≠[]->(ag T 1200 (aq st)).2.ae≠[]:=((bQ T).lv 1200 (aq st)).ae;have ur:=ar (ag T 1200 (aq st)).1.1;have uc:=dy (ag T 1200 (aq st)).1.1;rw[k5,Jr] at q0;have qc:=kZ [123,125] [(ag T 1200 (aq st)).1.1] (by simp);rw[BE,List.map_cons,List.map_nil,au] at qc;dsimp only;generalize (ag T 1200 (aq st)).2=s1 at *;generalize (ag T 1200 (aq st)).1.1=u at *;generalize (ag T 1200 (aq st)).1.2.1=lv at *;by_cases h0:st.ae=[];by_cases h1:s1.ae=[];rw[a7 h0] at q0;rw[fh h0,h0,c8 h1] at qt;refine dw (n:=8) hE bW bX h0 h1 ?_ (bn _ _ _) rfl
 rotate_left
 rw[a7 h0] at q0;rw[fh h0,h0,cH h1] at qt;refine dZ (n:=8) hE bW bX 3 (by decide) h0 h1 ?_ (bn _ _ _) rfl
 rotate_left
 have h1:=eU h0;rw[a6 h0] at q0;rw[iE h0,dS h0 h1] at qt;refine da (n:=8) hE bW bX 4 (by decide) h0 h1 ?_ (bn _ _ _) rfl
 rotate_left
 all_goals
  rw[BE];simp[w1,q0,qt,ur,uc,aI,qc,-an,-aL,-az,-aQ,-fA,bW,bX]
theorem LJ(N:Nat){x y:AV}{T:List aY}{L:List Tok}{st:St}(hx:a8 x=some T)(hy:bA y=some L)(hc:RC T L st)(hN:st.ak.length<=N)(hE:bY Tryz.prog bV (cg qJ (qx N)))(n:Int)(k5:(bb L st).ah=5)(Jr:(bb L st).ay=[123])(cK:(ag T 1200 (aq st)).1.2.2=true):
 ck Tryz.prog bV 120 [.ptr 0 0,.int .i64 n] (dz x y st) (.tuple [(bo T n st).1.1.aR,.int .i64 (bo T n st).1.2.1,.bool (bo T n st).1.2.2]) (some (dE x y st.ae (bo T n st).2)):=by
 have ks:(aB st).ah=(bb L st).ah:=by rw[br hc]
 have ts:(aB st).ay=(bb L st).ay:=by rw[br hc]
 have us:(aB st).bx=(bb L st).bx:=by rw[br hc]
 have os:(aB st).iT=(bb L st).iT:=by rw[br hc]
 have e:bo T n st=((ct [123,125] [(ag T 1200 (aq st)).1.1],0,(ba [125] (ag T 1200 (aq st)).2).1),(ba [125] (ag T 1200 (aq st)).2).2):=by unfold bo eH;rw[if_neg (by rw[ks,k5];decide),if_neg (by rw[ks,k5];decide)];rw[if_neg (λe=>by rw[ts,Jr] at e;exact absurd e.2 (by decide)),if_neg (λe=>by rw[ts,Jr] at e;exact absurd e.2 (by decide))];rw[if_pos ⟨ks.trans k5,ts.trans Jr⟩];unfold fT;rw[cK];exact if_pos rfl
 rw[e];have bW:=bK hx;have bX:=bu hy;have q0:=dH hx hy hc;rw[cG] at q0;have qn:=fN (bb L st);have w1:=wrap_i64 (n:=(st.bM:Int)+1) (by omega) (by have:=hc.le;have:=hc.lb;omega);have oX:=fQ hc (by rw[ks,k5];decide);have c1:=hc.FG (by omega);have hl:=dj st;have hp:=bF (st:=st) (by rw[ks,k5];decide);have qt:=dF N hx hy c1 1200 (by omega);rw[cK,show (aq st).ae=st.ae from rfl,au] at qt;have eU:st.ae≠[]->(ag T 1200 (aq st)).2.ae≠[]:=((bQ T).lv 1200 (aq st)).ae;have ur:=ar (ag T 1200 (aq st)).1.1;have uc:=dy (ag T 1200 (aq st)).1.1;rw[k5,Jr] at q0;have qc:=kZ [123,125] [(ag T 1200 (aq st)).1.1] (by simp);rw[BE,List.map_cons,List.map_nil,au] at qc;obtain⟨c2,_⟩:=c1.ok ((bQ T).ok 1200 (aq st) cK);have qk:=iK hx hy c2 [125];have gX:=fO [125] (ag T 1200 (aq st)).2;dsimp only;generalize (ag T 1200 (aq st)).2=s1 at *;generalize (ag T 1200 (aq st)).1.1=u at *;generalize (ag T 1200 (aq st)).1.2.1=lv at *;by_cases h0:st.ae=[];by_cases h1:s1.ae=[];rw[a7 h0] at q0;rw[fh h0,h0,c8 h1] at qt;rw[a7 h1,a7 (by rw[gX.1];exact h1),gX.2] at qk;refine dw (n:=8) hE bW bX h0 (by rw[gX.1];exact h1) ?_ (bn _ _ _) rfl;rw[BE,gX.2]
 rotate_left
 rw[a7 h0] at q0;rw[fh h0,h0,cH h1] at qt;rw[a6 h1,a6 (by rw[gX.1];exact h1),gX.1,gX.2] at qk;refine dZ (n:=8) hE bW bX 3 (by decide) h0 (by rw[gX.1];exact h1) ?_ (bn _ _ _) rfl;rw[BE,gX.1,gX.2]
 rotate_left
 have h1:=eU h0;rw[a6 h0] at q0;rw[iE h0,dS h0 h1] at qt;rw[a6 h1,a6 (by rw[gX.1];exact h1),gX.1,gX.2] at qk;refine da (n:=8) hE bW bX 4 (by decide) h0 (by rw[gX.1];exact h1) ?_ (bn _ _ _) rfl;rw[BE,gX.1,gX.2]
 rotate_left
 all_goals
  generalize ba [125] s1=b4 at *;obtain⟨b4,s4⟩:=b4;simp[w1,q0,qt,ur,uc,aI,qc,qk,-an,-aL,-az,-aQ,-fA,bW,bX]
theorem Tl(N:Nat){x y:AV}{T:List aY}{L:List Tok}{st:St}(hx:a8 x=some T)(hy:bA y=some L)(hc:RC T L st)(hN:st.ak.length<=N)(hE:bY Tryz.prog bV (cg qJ (qx N)))(n:Int)(k5:(bb L st).ah=5)(Jr:(bb L st).ay=[91]):
 ck Tryz.prog bV 120 [.ptr 0 0,.int .i64 n] (dz x y st) (.tuple [(bo T n st).1.1.aR,.int .i64 (bo T n st).1.2.1,.bool (bo T n st).1.2.2]) (some (dE x y st.ae (bo T n st).2)):=by
 have ks:(aB st).ah=(bb L st).ah:=by rw[br hc]
 have ts:(aB st).ay=(bb L st).ay:=by rw[br hc]
 have us:(aB st).bx=(bb L st).bx:=by rw[br hc]
 have os:(aB st).iT=(bb L st).iT:=by rw[br hc]
 have e:bo T n st=(((gH T (aq st)).1.1,0,(gH T (aq st)).1.2),(gH T (aq st)).2):=by unfold bo eH;rw[if_neg (by rw[ks,k5];decide),if_neg (by rw[ks,k5];decide),if_neg (λe=>by rw[ts,Jr] at e;exact absurd e.2 (by decide)),if_pos ⟨ks.trans k5,ts.trans Jr⟩,YL abO]
 rw[e];have bW:=bK hx;have bX:=bu hy;have q0:=dH hx hy hc;rw[cG] at q0;have qn:=fN (bb L st);have w1:=wrap_i64 (n:=(st.bM:Int)+1) (by omega) (by have:=hc.le;have:=hc.lb;omega);have oX:=fQ hc (by rw[ks,k5];decide);have c1:=hc.FG (by omega);have hl:=dj st;have hp:=bF (st:=st) (by rw[ks,k5];decide);have qt:=Ou N hx hy c1 (by omega);rw[show (aq st).ae=st.ae from rfl,au] at qt;have eU:st.ae≠[]->(gH T (aq st)).2.ae≠[]:=(H9 (bQ T) _ (aq st)).1.ae;have ur:=ar (gH T (aq st)).1.1;rw[k5,Jr] at q0;dsimp only;generalize (gH T (aq st)).2=s1 at *;generalize (gH T (aq st)).1.1=u at *;generalize (gH T (aq st)).1.2=ok at *;by_cases h0:st.ae=[];by_cases h1:s1.ae=[];rw[a7 h0] at q0;rw[fh h0,h0,c8 h1] at qt;refine dw (n:=8) hE bW bX h0 h1 ?_ (bn _ _ _) rfl
 rotate_left
 rw[a7 h0] at q0;rw[fh h0,h0,cH h1] at qt;refine dZ (n:=8) hE bW bX 3 (by decide) h0 h1 ?_ (bn _ _ _) rfl
 rotate_left
 have h1:=eU h0;rw[a6 h0] at q0;rw[iE h0,dS h0 h1] at qt;refine da (n:=8) hE bW bX 4 (by decide) h0 h1 ?_ (bn _ _ _) rfl
 rotate_left
 all_goals
  rw[au];simp[w1,q0,qt,ur,-an,-aL,-az,-aQ,-fA,bW,bX]
theorem Xa(N:Nat){x y:AV}{T:List aY}{L:List Tok}{st:St}(hx:a8 x=some T)(hy:bA y=some L)(hc:RC T L st)(hN:st.ak.length<=N)(hE:bY Tryz.prog bV (cg qJ (qx N)))(n:Int)(k5:(bb L st).ah=5)(t1:¬(bb L st).ay=[40])(t2:¬(bb L st).ay=[91])(t3:¬(bb L st).ay=[123]):
 ck Tryz.prog bV 120 [.ptr 0 0,.int .i64 n] (dz x y st) (.tuple [(bo T n st).1.1.aR,.int .i64 (bo T n st).1.2.1,.bool (bo T n st).1.2.2]) (some (dE x y st.ae (bo T n st).2)):=by
 have ks:(aB st).ah=(bb L st).ah:=by rw[br hc]
 have ts:(aB st).ay=(bb L st).ay:=by rw[br hc]
 have us:(aB st).bx=(bb L st).bx:=by rw[br hc]
 have os:(aB st).iT=(bb L st).iT:=by rw[br hc]
 have e:bo T n st=((CR,0,false),aq st):=by unfold bo eH;rw[if_neg (by rw[ks,k5];decide),if_neg (by rw[ks,k5];decide),if_neg (λe=>t1 (ts.symm.trans e.2)),if_neg (λe=>t2 (ts.symm.trans e.2)),if_neg (λe=>t3 (ts.symm.trans e.2)),if_pos (by unfold dQ;rw[ks,k5];rfl)]
 rw[e];have bW:=bK hx;have bX:=bu hy;have q0:=dH hx hy hc;rw[cG] at q0;have qn:=fN (bb L st);have w1:=wrap_i64 (n:=(st.bM:Int)+1) (by omega) (by have:=hc.le;have:=hc.lb;omega);have b1:((bb L st).ay==[40])=false:=by simpa using t1
 have b2:((bb L st).ay==[91])=false:=by simpa using t2
 have b3:((bb L st).ay==[123])=false:=by simpa using t3
 rw[k5] at q0 qn;dsimp only;by_cases h0:st.ae=[];rw[a7 h0] at q0;refine dw (n:=8) hE bW bX h0 h0 ?_ (bn _ _ _) rfl
 rotate_left
 rw[a6 h0] at q0;refine da (n:=8) hE bW bX 1 (by decide) h0 h0 ?_ (bn _ _ _) rfl
 rotate_left
 all_goals
  rw[z7];simp only[AI,Ax,A8];simp[w1,q0,qn,b1,b2,b3,t1,t2,t3,-an,-aL,-az,-aQ,-fA,bW,bX]
theorem Rj(N:Nat){x y:AV}{T:List aY}{L:List Tok}{st:St}(hx:a8 x=some T)(hy:bA y=some L)(hc:RC T L st)(hN:st.ak.length<=N)(hE:bY Tryz.prog bV (cg qJ (qx N)))(n:Int)(k1:¬(bb L st).ah=1)(k2:¬(bb L st).ah=2)(k3:¬(bb L st).ah=3)(k4:¬(bb L st).ah=4)(k5:¬(bb L st).ah=5):
 ck Tryz.prog bV 120 [.ptr 0 0,.int .i64 n] (dz x y st) (.tuple [(bo T n st).1.1.aR,.int .i64 (bo T n st).1.2.1,.bool (bo T n st).1.2.2]) (some (dE x y st.ae (bo T n st).2)):=by
 have ks:(aB st).ah=(bb L st).ah:=by rw[br hc]
 have ts:(aB st).ay=(bb L st).ay:=by rw[br hc]
 have us:(aB st).bx=(bb L st).bx:=by rw[br hc]
 have os:(aB st).iT=(bb L st).iT:=by rw[br hc]
 have e:bo T n st=((CR,0,false),aq st):=by unfold bo eH;rw[if_neg (λe=>k4 (ks.symm.trans e)),if_neg (λe=>k3 (ks.symm.trans e)),if_neg (λe=>k5 (ks.symm.trans e.1)),if_neg (λe=>k5 (ks.symm.trans e.1)),if_neg (λe=>k5 (ks.symm.trans e.1)),if_pos (by unfold dQ;rw[ks,decide_eq_false k1,decide_eq_false k2];rfl)]
 rw[e];have bW:=bK hx;have bX:=bu hy;have q0:=dH hx hy hc;rw[cG] at q0;have qn:=fN (bb L st);have w1:=wrap_i64 (n:=(st.bM:Int)+1) (by omega) (by have:=hc.le;have:=hc.lb;omega);rw[decide_eq_false k1,decide_eq_false k2] at qn;dsimp only;by_cases h0:st.ae=[];rw[a7 h0] at q0;refine dw (n:=8) hE bW bX h0 h0 ?_ (bn _ _ _) rfl
 rotate_left
 rw[a6 h0] at q0;refine da (n:=8) hE bW bX 1 (by decide) h0 h0 ?_ (bn _ _ _) rfl
 rotate_left
 all_goals
  rw[z7];simp only[AI,Ax,A8];simp[w1,q0,qn,k1,k2,k3,k4,k5,-an,-aL,-az,-aQ,-fA,bW,bX]
end
section
theorem Zb(l:List Tm):FI l=(ct [] l).bH:=by cases l<;>rfl
theorem QN(s:List UInt8)(l:List Tm):(ct s l).aR=.agg [.int .i64 2,.int .i64 0,.str s,(ct [] l).bH]:=by cases l<;>simp[ct,Tm.aR,Tm.bH,lq]
theorem acE{T:List aY}{L:List Tok}{st:St}(h:RC T L st)(hk:(aB st).ah≠0):0<=(bb L st).bx/\(bb L st).bx<9223372036854775808:=by
 have h1:st.ak.all xS=true:=by rw[h.ak];refine List.all_eq_true.mpr λx hx=>List.all_eq_true.mp h.tk x (List.mem_of_mem_drop hx)
 have:=zO h1 (bF hk);rw[br h] at this;exact this
theorem J6{T:List aY}{L:List Tok}{st:St}(h:RC T L st):0<=(bb L st).bM/\(bb L st).bM<1000000:=by
 rcases V5 h with⟨h1,h2⟩|⟨_,h2⟩
 .have:=List.all_eq_true.mp h.Jt _ (List.mem_of_getElem? h2);simpa using this
 .rw[h2];exact⟨by decide,by decide⟩
theorem Xq{T:List aY}{L:List Tok}{st:St}(h:RC T L st)(hl:st.bM+1<L.length):(aB st).TM=decide ((bb L (aq st)).bM=(bb L st).bM+1):=by rw[br h];show Zq (bb L st) (L.drop (st.bM+1))=_;rw[List.drop_eq_getElem_cons hl];show decide (_=_)=decide ((L.getD (st.bM+1) Aa).bM=_);simp[List.getD,hl]
theorem IL{x y:AV}{st:St}(h:st.ae=[]):dz x y (aq (aq st))=[.row [x,y,.int .i64 ((st.bM:Int)+1+1),.int .i64 st.next,.aD]]:=a7 (st:=aq (aq st)) h
theorem Xu{x y:AV}{st:St}(h:st.ae≠[]):dz x y (aq (aq st))=[.row [x,y,.int .i64 ((st.bM:Int)+1+1),.int .i64 st.next,.vec 1 0 st.ae.length 2 st.ae.length],.row (bm st.ae)]:=a6 (st:=aq (aq st)) h
theorem CV{rec:Int->St->PR×St}{T:List aY}{x x':cB}(n:Int)(st:St)(h1:x.ah=x'.ah)(h2:x.ay=x'.ay):cn rec T x n st=cn rec T x' n st:=by unfold cn;rw[h1,h2]
theorem pW{rec:Int->St->PR×St}(H:Af rec){T:List aY}{x:cB}{n:Int}{st:St}(h:st.ae≠[]):(cn rec T x n st).2.ae≠[]:=by
 unfold cn;split
 .exact h
 .split
  .exact (H.lv _ st).ae h
  .exact h
attribute [local simp] jz jx jA jt gJ gI jr ju jw gK gL js kR kN kT kO kL kK iq iw Laid.aK fa fc bO jM Qx UI aE qJ qx Oy fm pR fK Nl eQ gP AE tj AQ
theorem Mg(N:Nat){x y:AV}{T:List aY}{L:List Tok}{st:St}(hx:a8 x=some T)(hy:bA y=some L)(hc:RC T L st)(hN:st.ak.length<=N)(hE:bY Tryz.prog bV (cg qJ (qx N)))(n:Int)(kn:(decide ((bb L st).ah=1)||decide ((bb L st).ah=2))=true)(ko:(bb L st).iT=true)(cK:(aA T (aq (aq st))).1.2=false):
 ck Tryz.prog bV 120 [.ptr 0 0,.int .i64 n] (dz x y st) (.tuple [(bo T n st).1.1.aR,.int .i64 (bo T n st).1.2.1,.bool (bo T n st).1.2.2]) (some (dE x y st.ae (bo T n st).2)):=by
 have ks:(aB st).ah=(bb L st).ah:=by rw[br hc]
 have ts:(aB st).ay=(bb L st).ay:=by rw[br hc]
 have us:(aB st).bx=(bb L st).bx:=by rw[br hc]
 have os:(aB st).iT=(bb L st).iT:=by rw[br hc]
 have kc:(bb L st).ah=1\/(bb L st).ah=2:=by rw[Bool.or_eq_true,decide_eq_true_eq,decide_eq_true_eq] at kn;exact kn
 have k3:¬(bb L st).ah=3:=by omega
 have k4:¬(bb L st).ah=4:=by omega
 have k5:¬(bb L st).ah=5:=by omega
 have k0:(aB st).ah≠0:=by rw[ks];omega
 have nb:dQ (aB st)=true:=by unfold dQ;rw[ks];exact kn
 have e:bo T n st=((ct (bb L st).ay [],0,false),(aA T (aq (aq st))).2):=by unfold bo eH;rw[if_neg (λe=>k4 (ks.symm.trans e)),if_neg (λe=>k3 (ks.symm.trans e)),if_neg (λe=>k5 (ks.symm.trans e.1)),if_neg (λe=>k5 (ks.symm.trans e.1)),if_neg (λe=>k5 (ks.symm.trans e.1)),if_neg (by rw[nb];decide)];rw[if_pos (os.trans ko),ts];unfold kH;rw[J8 (by rw[dj,dj];omega),cK];exact if_neg (by simp)
 rw[e];have bW:=bK hx;have bX:=bu hy;have q0:=dH hx hy hc;rw[cG] at q0;have qn:=fN (bb L st);have w1:=wrap_i64 (n:=(st.bM:Int)+1) (by omega) (by have:=hc.le;have:=hc.lb;omega);have oX:=fQ hc k0;have c1:=hc.FG (by omega);have hl:=dj st;have hp:=bF (st:=st) k0;have X2:st.bM+1<=L.length:=oX;have c2:=c1.FG X2;have oK:=dj (aq st);have w2:=wrap_i64 (n:=(st.bM:Int)+1+1) (by omega) (by have:=hc.lb;omega);have qt:=l9 N hx hy c2 (by omega);rw[cK,if_neg (by simp),show (aq (aq st)).ae=st.ae from rfl] at qt;have eU:st.ae≠[]->(aA T (aq (aq st))).2.ae≠[]:=(ik T (aq (aq st))).1.ae;rw[ko] at q0 qn;dsimp only;rw[kn] at qn;generalize (aA T (aq (aq st))).2=s1 at *;by_cases h0:st.ae=[];by_cases h1:s1.ae=[];rw[a7 h0] at q0;rw[IL h0,h0,c8 h1] at qt;refine dw (n:=8) hE bW bX h0 h1 ?_ (bn _ _ _) rfl
 rotate_left
 rw[a7 h0] at q0;rw[IL h0,h0,cH h1] at qt;refine dZ (n:=8) hE bW bX 3 (by decide) h0 h1 ?_ (bn _ _ _) rfl
 rotate_left
 have h1:=eU h0;rw[a6 h0] at q0;rw[Xu h0,dS h0 h1] at qt;refine da (n:=8) hE bW bX 4 (by decide) h0 h1 ?_ (bn _ _ _) rfl
 rotate_left
 all_goals
  rw[QN];simp only[FI] at qt;rw[show (ct [] []).bH=.aD from rfl];simp[w1,q0,qt,qn,k3,k4,k5,w2,-an,-aL,-az,-aQ,-fA,bW,bX]
theorem Ln(N:Nat){x y:AV}{T:List aY}{L:List Tok}{st:St}(hx:a8 x=some T)(hy:bA y=some L)(hc:RC T L st)(hN:st.ak.length<=N)(hE:bY Tryz.prog bV (cg qJ (qx N)))(n:Int)(kn:(decide ((bb L st).ah=1)||decide ((bb L st).ah=2))=true)(ko:(bb L st).iT=true)(cK:(aA T (aq (aq st))).1.2=true):
 ck Tryz.prog bV 120 [.ptr 0 0,.int .i64 n] (dz x y st) (.tuple [(bo T n st).1.1.aR,.int .i64 (bo T n st).1.2.1,.bool (bo T n st).1.2.2]) (some (dE x y st.ae (bo T n st).2)):=by
 have ks:(aB st).ah=(bb L st).ah:=by rw[br hc]
 have ts:(aB st).ay=(bb L st).ay:=by rw[br hc]
 have us:(aB st).bx=(bb L st).bx:=by rw[br hc]
 have os:(aB st).iT=(bb L st).iT:=by rw[br hc]
 have kc:(bb L st).ah=1\/(bb L st).ah=2:=by rw[Bool.or_eq_true,decide_eq_true_eq,decide_eq_true_eq] at kn;exact kn
 have k3:¬(bb L st).ah=3:=by omega
 have k4:¬(bb L st).ah=4:=by omega
 have k5:¬(bb L st).ah=5:=by omega
 have k0:(aB st).ah≠0:=by rw[ks];omega
 have nb:dQ (aB st)=true:=by unfold dQ;rw[ks];exact kn
 have e:bo T n st=((ct (bb L st).ay (aA T (aq (aq st))).1.1,0,(ba [41] (aA T (aq (aq st))).2).1),(ba [41] (aA T (aq (aq st))).2).2):=by unfold bo eH;rw[if_neg (λe=>k4 (ks.symm.trans e)),if_neg (λe=>k3 (ks.symm.trans e)),if_neg (λe=>k5 (ks.symm.trans e.1)),if_neg (λe=>k5 (ks.symm.trans e.1)),if_neg (λe=>k5 (ks.symm.trans e.1)),if_neg (by rw[nb];decide)];rw[if_pos (os.trans ko),ts];unfold kH;rw[J8 (by rw[dj,dj];omega),cK];exact if_pos rfl
 rw[e];have bW:=bK hx;have bX:=bu hy;have q0:=dH hx hy hc;rw[cG] at q0;have qn:=fN (bb L st);have w1:=wrap_i64 (n:=(st.bM:Int)+1) (by omega) (by have:=hc.le;have:=hc.lb;omega);have oX:=fQ hc k0;have c1:=hc.FG (by omega);have hl:=dj st;have hp:=bF (st:=st) k0;have X2:st.bM+1<=L.length:=oX;have c2:=c1.FG X2;have oK:=dj (aq st);have w2:=wrap_i64 (n:=(st.bM:Int)+1+1) (by omega) (by have:=hc.lb;omega);have qt:=l9 N hx hy c2 (by omega);rw[cK,if_pos rfl,show (aq (aq st)).ae=st.ae from rfl] at qt;have eU:st.ae≠[]->(aA T (aq (aq st))).2.ae≠[]:=(ik T (aq (aq st))).1.ae;have ur:=ar (ct [] (aA T (aq (aq st))).1.1);have uc:=dy (ct [] (aA T (aq (aq st))).1.1);obtain⟨c3,_⟩:=c2.ok ((ik T (aq (aq st))).2 cK);have qk:=iK hx hy c3 [41];have gX:=fO [41] (aA T (aq (aq st))).2;rw[ko] at q0 qn;dsimp only;rw[kn] at qn;generalize (aA T (aq (aq st))).2=s1 at *;generalize (aA T (aq (aq st))).1.1=us at *;by_cases h0:st.ae=[];by_cases h1:s1.ae=[];rw[a7 h0] at q0;rw[IL h0,h0,c8 h1] at qt;rw[a7 h1,a7 (by rw[gX.1];exact h1),gX.2] at qk;refine dw (n:=8) hE bW bX h0 (by rw[gX.1];exact h1) ?_ (bn _ _ _) rfl;rw[QN,gX.2]
 rotate_left
 rw[a7 h0] at q0;rw[IL h0,h0,cH h1] at qt;rw[a6 h1,a6 (by rw[gX.1];exact h1),gX.1,gX.2] at qk;refine dZ (n:=8) hE bW bX 3 (by decide) h0 (by rw[gX.1];exact h1) ?_ (bn _ _ _) rfl;rw[QN,gX.1,gX.2]
 rotate_left
 have h1:=eU h0;rw[a6 h0] at q0;rw[Xu h0,dS h0 h1] at qt;rw[a6 h1,a6 (by rw[gX.1];exact h1),gX.1,gX.2] at qk;refine da (n:=8) hE bW bX 4 (by decide) h0 (by rw[gX.1];exact h1) ?_ (bn _ _ _) rfl;rw[QN,gX.1,gX.2]
 rotate_left
 all_goals
  rw[Zb] at qt;generalize ct [] us=cu at *;generalize ba [41] s1=b4 at *;obtain⟨b4,s4⟩:=b4;simp[w1,q0,qt,qn,k3,k4,k5,w2,ur,uc,qk,-an,-aL,-az,-aQ,-fA,bW,bX]
theorem T1(N:Nat){x y:AV}{T:List aY}{L:List Tok}{st:St}(hx:a8 x=some T)(hy:bA y=some L)(hc:RC T L st)(hN:st.ak.length<=N)(hE:bY Tryz.prog bV (cg qJ (qx N)))(n:Int)(k1:(bb L st).ah=1)(kt:(bb L st).ay=[45])(ko:(bb L st).iT=false)(k4:(bb L (aq st)).ah=4)(ka:(bb L (aq st)).bM=(bb L st).bM+1):
 ck Tryz.prog bV 120 [.ptr 0 0,.int .i64 n] (dz x y st) (.tuple [(bo T n st).1.1.aR,.int .i64 (bo T n st).1.2.1,.bool (bo T n st).1.2.2]) (some (dE x y st.ae (bo T n st).2)):=by
 have ks:(aB st).ah=(bb L st).ah:=by rw[br hc]
 have ts:(aB st).ay=(bb L st).ay:=by rw[br hc]
 have us:(aB st).bx=(bb L st).bx:=by rw[br hc]
 have os:(aB st).iT=(bb L st).iT:=by rw[br hc]
 have k0:(aB st).ah≠0:=by rw[ks,k1];decide
 have oX:=fQ hc k0;have c1:=hc.FG (by omega);have hl:=dj st;have hp:=bF (st:=st) k0;have ks1:(aB (aq st)).ah=(bb L (aq st)).ah:=by rw[br c1]
 have us1:(aB (aq st)).bx=(bb L (aq st)).bx:=by rw[br c1]
 have k01:(aB (aq st)).ah≠0:=by rw[ks1,k4];decide
 have aaS:=fQ c1 k01;have X2:st.bM+1<L.length:=aaS
 have e:bo T n st=((.nl 1 (-(bb L (aq st)).bx) [],0,true),aq (aq st)):=by unfold bo eH;rw[if_neg (by rw[ks,k1];decide),if_neg (by rw[ks,k1];decide),if_neg (λe=>absurd (k1.symm.trans (ks.symm.trans e.1)) (by decide)),if_neg (λe=>absurd (k1.symm.trans (ks.symm.trans e.1)) (by decide)),if_neg (λe=>absurd (k1.symm.trans (ks.symm.trans e.1)) (by decide)),if_neg (by unfold dQ;rw[ks,k1];decide),if_neg (by rw[os,ko];simp),if_pos ⟨ks.trans k1,ts.trans kt,ks1.trans k4,by rw[Xq hc X2,ka];simp⟩,us1]
 rw[e];have bW:=bK hx;have bX:=bu hy;have q0:=dH hx hy hc;rw[cG] at q0;have qn:=fN (bb L st);have w1:=wrap_i64 (n:=(st.bM:Int)+1) (by omega) (by have:=hc.le;have:=hc.lb;omega);have w2:=wrap_i64 (n:=(st.bM:Int)+1+1) (by omega) (by have:=hc.lb;omega);have tn:=acE c1 k01;have w3:=wrap_i64 (n:=-(bb L (aq st)).bx) (by omega) (by omega);have ta:=J6 hc;have w4:=wrap_i64 (n:=(bb L st).bM+1) (by omega) (by omega);have q1:=dH hx hy c1;rw[cG,k4,ka] at q1;have qi:=Qw (-(bb L (aq st)).bx);rw[k1,kt,ko] at q0 qn;dsimp only;by_cases h0:st.ae=[];rw[a7 h0] at q0;rw[fh h0] at q1;refine dw (n:=8) hE bW bX h0 h0 ?_ (bn _ _ _) rfl
 rotate_left
 rw[a6 h0] at q0;rw[iE h0] at q1;refine da (n:=8) hE bW bX 1 (by decide) h0 h0 ?_ (bn _ _ _) rfl
 rotate_left
 all_goals
  rw[Gw];simp only[AI,Ax,A8];simp[w1,q0,qi,qn,q1,w2,w3,w4,-an,-aL,-az,-aQ,-fA,bW,bX]
theorem Kx(N:Nat){x y:AV}{T:List aY}{L:List Tok}{st:St}(hx:a8 x=some T)(hy:bA y=some L)(hc:RC T L st)(hN:st.ak.length<=N)(hE:bY Tryz.prog bV (cg qJ (qx N)))(n:Int)(kn:(decide ((bb L st).ah=1)||decide ((bb L st).ah=2))=true)(ko:(bb L st).iT=false)(kd:¬(bb L st).ah=1):
 ck Tryz.prog bV 120 [.ptr 0 0,.int .i64 n] (dz x y st) (.tuple [(bo T n st).1.1.aR,.int .i64 (bo T n st).1.2.1,.bool (bo T n st).1.2.2]) (some (dE x y st.ae (bo T n st).2)):=by
 have ks:(aB st).ah=(bb L st).ah:=by rw[br hc]
 have ts:(aB st).ay=(bb L st).ay:=by rw[br hc]
 have us:(aB st).bx=(bb L st).bx:=by rw[br hc]
 have os:(aB st).iT=(bb L st).iT:=by rw[br hc]
 have kc:(bb L st).ah=1\/(bb L st).ah=2:=by rw[Bool.or_eq_true,decide_eq_true_eq,decide_eq_true_eq] at kn;exact kn
 have k3:¬(bb L st).ah=3:=by omega
 have k4:¬(bb L st).ah=4:=by omega
 have k5:¬(bb L st).ah=5:=by omega
 have k0:(aB st).ah≠0:=by rw[ks];omega
 have nb:dQ (aB st)=true:=by unfold dQ;rw[ks];exact kn
 have oX:=fQ hc k0;have c1:=hc.FG (by omega);have hl:=dj st;have hp:=bF (st:=st) k0;have ks1:(aB (aq st)).ah=(bb L (aq st)).ah:=by rw[br c1]
 have e:bo T n st=cn (ag T) T (qj (bb L st)) n (aq st):=by unfold bo eH;rw[if_neg (λe=>k4 (ks.symm.trans e)),if_neg (λe=>k3 (ks.symm.trans e)),if_neg (λe=>k5 (ks.symm.trans e.1)),if_neg (λe=>k5 (ks.symm.trans e.1)),if_neg (λe=>k5 (ks.symm.trans e.1)),if_neg (by rw[nb];decide)];rw[if_neg (by rw[os,ko];simp),if_neg (λe=>kd (ks.symm.trans e.1))];exact CV _ _ ks ts
 rw[e];have bW:=bK hx;have bX:=bu hy;have q0:=dH hx hy hc;rw[cG] at q0;have qn:=fN (bb L st);have w1:=wrap_i64 (n:=(st.bM:Int)+1) (by omega) (by have:=hc.le;have:=hc.lb;omega);have ta:=J6 hc;have w4:=wrap_i64 (n:=(bb L st).bM+1) (by omega) (by omega);have q1:=dH hx hy c1;rw[cG] at q1;have qt:=tG N hx hy c1 (by omega) (bb L st) n;rw[show (aq st).ae=st.ae from rfl,au,cG] at qt;have eU:st.ae≠[]->(cn (ag T) T (qj (bb L st)) n (aq st)).2.ae≠[]:=λh=>pW (bQ T) (st:=aq st) h
 have ur:=ar (cn (ag T) T (qj (bb L st)) n (aq st)).1.1;have uc:=dy (cn (ag T) T (qj (bb L st)) n (aq st)).1.1;rw[kn] at qn;rw[ko] at q0 qn qt;have k2:(bb L st).ah=2:=by omega
 rw[k2] at q0 qn qt;generalize (cn (ag T) T (qj (bb L st)) n (aq st))=r at *;obtain⟨⟨u,lv,ok⟩,s1⟩:=r;dsimp only at *;by_cases h0:st.ae=[];by_cases h1:s1.ae=[];rw[a7 h0] at q0;rw[fh h0,h0,c8 h1] at qt;rw[fh h0] at q1;refine dw (n:=8) hE bW bX h0 h1 ?_ (bn _ _ _) rfl
 rotate_left
 rw[a7 h0] at q0;rw[fh h0,h0,cH h1] at qt;rw[fh h0] at q1;refine dZ (n:=8) hE bW bX 4 (by decide) h0 h1 ?_ (bn _ _ _) rfl
 rotate_left
 have h1:=eU h0;rw[a6 h0] at q0;rw[iE h0,dS h0 h1] at qt;rw[iE h0] at q1;refine da (n:=8) hE bW bX 5 (by decide) h0 h1 ?_ (bn _ _ _) rfl
 rotate_left
 all_goals
  rw[au];simp[w1,q0,qt,qn,q1,ur,uc,k3,k4,k5,kd,-an,-aL,-az,-aQ,-fA,bW,bX]
theorem JI(N:Nat){x y:AV}{T:List aY}{L:List Tok}{st:St}(hx:a8 x=some T)(hy:bA y=some L)(hc:RC T L st)(hN:st.ak.length<=N)(hE:bY Tryz.prog bV (cg qJ (qx N)))(n:Int)(kn:(decide ((bb L st).ah=1)||decide ((bb L st).ah=2))=true)(ko:(bb L st).iT=false)(k1:(bb L st).ah=1)(kd:¬(bb L st).ay=[45]):
 ck Tryz.prog bV 120 [.ptr 0 0,.int .i64 n] (dz x y st) (.tuple [(bo T n st).1.1.aR,.int .i64 (bo T n st).1.2.1,.bool (bo T n st).1.2.2]) (some (dE x y st.ae (bo T n st).2)):=by
 have ks:(aB st).ah=(bb L st).ah:=by rw[br hc]
 have ts:(aB st).ay=(bb L st).ay:=by rw[br hc]
 have us:(aB st).bx=(bb L st).bx:=by rw[br hc]
 have os:(aB st).iT=(bb L st).iT:=by rw[br hc]
 have kc:(bb L st).ah=1\/(bb L st).ah=2:=by rw[Bool.or_eq_true,decide_eq_true_eq,decide_eq_true_eq] at kn;exact kn
 have k3:¬(bb L st).ah=3:=by omega
 have k4:¬(bb L st).ah=4:=by omega
 have k5:¬(bb L st).ah=5:=by omega
 have k0:(aB st).ah≠0:=by rw[ks];omega
 have nb:dQ (aB st)=true:=by unfold dQ;rw[ks];exact kn
 have oX:=fQ hc k0;have c1:=hc.FG (by omega);have hl:=dj st;have hp:=bF (st:=st) k0;have ks1:(aB (aq st)).ah=(bb L (aq st)).ah:=by rw[br c1]
 have e:bo T n st=cn (ag T) T (qj (bb L st)) n (aq st):=by unfold bo eH;rw[if_neg (λe=>k4 (ks.symm.trans e)),if_neg (λe=>k3 (ks.symm.trans e)),if_neg (λe=>k5 (ks.symm.trans e.1)),if_neg (λe=>k5 (ks.symm.trans e.1)),if_neg (λe=>k5 (ks.symm.trans e.1)),if_neg (by rw[nb];decide)];rw[if_neg (by rw[os,ko];simp),if_neg (λe=>kd (ts.symm.trans e.2.1))];exact CV _ _ ks ts
 rw[e];have bW:=bK hx;have bX:=bu hy;have q0:=dH hx hy hc;rw[cG] at q0;have qn:=fN (bb L st);have w1:=wrap_i64 (n:=(st.bM:Int)+1) (by omega) (by have:=hc.le;have:=hc.lb;omega);have ta:=J6 hc;have w4:=wrap_i64 (n:=(bb L st).bM+1) (by omega) (by omega);have q1:=dH hx hy c1;rw[cG] at q1;have qt:=tG N hx hy c1 (by omega) (bb L st) n;rw[show (aq st).ae=st.ae from rfl,au,cG] at qt;have eU:st.ae≠[]->(cn (ag T) T (qj (bb L st)) n (aq st)).2.ae≠[]:=λh=>pW (bQ T) (st:=aq st) h
 have ur:=ar (cn (ag T) T (qj (bb L st)) n (aq st)).1.1;have uc:=dy (cn (ag T) T (qj (bb L st)) n (aq st)).1.1;have kd2:((bb L st).ay==[45])=false:=by simpa using kd
 rw[kn] at qn;rw[ko] at q0 qn qt;rw[k1] at q0 qn qt;generalize (cn (ag T) T (qj (bb L st)) n (aq st))=r at *;obtain⟨⟨u,lv,ok⟩,s1⟩:=r;dsimp only at *;by_cases h0:st.ae=[];by_cases h1:s1.ae=[];rw[a7 h0] at q0;rw[fh h0,h0,c8 h1] at qt;rw[fh h0] at q1;refine dw (n:=8) hE bW bX h0 h1 ?_ (bn _ _ _) rfl
 rotate_left
 rw[a7 h0] at q0;rw[fh h0,h0,cH h1] at qt;rw[fh h0] at q1;refine dZ (n:=8) hE bW bX 4 (by decide) h0 h1 ?_ (bn _ _ _) rfl
 rotate_left
 have h1:=eU h0;rw[a6 h0] at q0;rw[iE h0,dS h0 h1] at qt;rw[iE h0] at q1;refine da (n:=8) hE bW bX 5 (by decide) h0 h1 ?_ (bn _ _ _) rfl
 rotate_left
 all_goals
  rw[au];simp[w1,q0,qt,qn,q1,ur,uc,k3,k4,k5,k1,kd,kd2,-an,-aL,-az,-aQ,-fA,bW,bX]
theorem LK(N:Nat){x y:AV}{T:List aY}{L:List Tok}{st:St}(hx:a8 x=some T)(hy:bA y=some L)(hc:RC T L st)(hN:st.ak.length<=N)(hE:bY Tryz.prog bV (cg qJ (qx N)))(n:Int)(kn:(decide ((bb L st).ah=1)||decide ((bb L st).ah=2))=true)(ko:(bb L st).iT=false)(k1:(bb L st).ah=1)(kt:(bb L st).ay=[45])(kd:¬(bb L (aq st)).ah=4):
 ck Tryz.prog bV 120 [.ptr 0 0,.int .i64 n] (dz x y st) (.tuple [(bo T n st).1.1.aR,.int .i64 (bo T n st).1.2.1,.bool (bo T n st).1.2.2]) (some (dE x y st.ae (bo T n st).2)):=by
 have ks:(aB st).ah=(bb L st).ah:=by rw[br hc]
 have ts:(aB st).ay=(bb L st).ay:=by rw[br hc]
 have us:(aB st).bx=(bb L st).bx:=by rw[br hc]
 have os:(aB st).iT=(bb L st).iT:=by rw[br hc]
 have kc:(bb L st).ah=1\/(bb L st).ah=2:=by rw[Bool.or_eq_true,decide_eq_true_eq,decide_eq_true_eq] at kn;exact kn
 have k3:¬(bb L st).ah=3:=by omega
 have k4:¬(bb L st).ah=4:=by omega
 have k5:¬(bb L st).ah=5:=by omega
 have k0:(aB st).ah≠0:=by rw[ks];omega
 have nb:dQ (aB st)=true:=by unfold dQ;rw[ks];exact kn
 have oX:=fQ hc k0;have c1:=hc.FG (by omega);have hl:=dj st;have hp:=bF (st:=st) k0;have ks1:(aB (aq st)).ah=(bb L (aq st)).ah:=by rw[br c1]
 have e:bo T n st=cn (ag T) T (qj (bb L st)) n (aq st):=by unfold bo eH;rw[if_neg (λe=>k4 (ks.symm.trans e)),if_neg (λe=>k3 (ks.symm.trans e)),if_neg (λe=>k5 (ks.symm.trans e.1)),if_neg (λe=>k5 (ks.symm.trans e.1)),if_neg (λe=>k5 (ks.symm.trans e.1)),if_neg (by rw[nb];decide)];rw[if_neg (by rw[os,ko];simp),if_neg (λe=>kd (ks1.symm.trans e.2.2.1))];exact CV _ _ ks ts
 rw[e];have bW:=bK hx;have bX:=bu hy;have q0:=dH hx hy hc;rw[cG] at q0;have qn:=fN (bb L st);have w1:=wrap_i64 (n:=(st.bM:Int)+1) (by omega) (by have:=hc.le;have:=hc.lb;omega);have ta:=J6 hc;have w4:=wrap_i64 (n:=(bb L st).bM+1) (by omega) (by omega);have q1:=dH hx hy c1;rw[cG] at q1;have qt:=tG N hx hy c1 (by omega) (bb L st) n;rw[show (aq st).ae=st.ae from rfl,au,cG] at qt;have eU:st.ae≠[]->(cn (ag T) T (qj (bb L st)) n (aq st)).2.ae≠[]:=λh=>pW (bQ T) (st:=aq st) h
 have ur:=ar (cn (ag T) T (qj (bb L st)) n (aq st)).1.1;have uc:=dy (cn (ag T) T (qj (bb L st)) n (aq st)).1.1;rw[kn] at qn;rw[ko] at q0 qn qt;rw[k1] at q0 qn qt;rw[kt] at q0 qn qt;generalize (cn (ag T) T (qj (bb L st)) n (aq st))=r at *;obtain⟨⟨u,lv,ok⟩,s1⟩:=r;dsimp only at *;by_cases h0:st.ae=[];by_cases h1:s1.ae=[];rw[a7 h0] at q0;rw[fh h0,h0,c8 h1] at qt;rw[fh h0] at q1;refine dw (n:=8) hE bW bX h0 h1 ?_ (bn _ _ _) rfl
 rotate_left
 rw[a7 h0] at q0;rw[fh h0,h0,cH h1] at qt;rw[fh h0] at q1;refine dZ (n:=8) hE bW bX 4 (by decide) h0 h1 ?_ (bn _ _ _) rfl
 rotate_left
 have h1:=eU h0;rw[a6 h0] at q0;rw[iE h0,dS h0 h1] at qt;rw[iE h0] at q1;refine da (n:=8) hE bW bX 5 (by decide) h0 h1 ?_ (bn _ _ _) rfl
 rotate_left
 all_goals
  rw[au];simp[w1,q0,qt,qn,q1,ur,uc,k3,k4,k5,k1,kt,kd,-an,-aL,-az,-aQ,-fA,bW,bX]
theorem Kt(N:Nat){x y:AV}{T:List aY}{L:List Tok}{st:St}(hx:a8 x=some T)(hy:bA y=some L)(hc:RC T L st)(hN:st.ak.length<=N)(hE:bY Tryz.prog bV (cg qJ (qx N)))(n:Int)(kn:(decide ((bb L st).ah=1)||decide ((bb L st).ah=2))=true)(ko:(bb L st).iT=false)(k1:(bb L st).ah=1)(kt:(bb L st).ay=[45])(k44:(bb L (aq st)).ah=4)(kd:¬(bb L (aq st)).bM=(bb L st).bM+1):
 ck Tryz.prog bV 120 [.ptr 0 0,.int .i64 n] (dz x y st) (.tuple [(bo T n st).1.1.aR,.int .i64 (bo T n st).1.2.1,.bool (bo T n st).1.2.2]) (some (dE x y st.ae (bo T n st).2)):=by
 have ks:(aB st).ah=(bb L st).ah:=by rw[br hc]
 have ts:(aB st).ay=(bb L st).ay:=by rw[br hc]
 have us:(aB st).bx=(bb L st).bx:=by rw[br hc]
 have os:(aB st).iT=(bb L st).iT:=by rw[br hc]
 have kc:(bb L st).ah=1\/(bb L st).ah=2:=by rw[Bool.or_eq_true,decide_eq_true_eq,decide_eq_true_eq] at kn;exact kn
 have k3:¬(bb L st).ah=3:=by omega
 have k4:¬(bb L st).ah=4:=by omega
 have k5:¬(bb L st).ah=5:=by omega
 have k0:(aB st).ah≠0:=by rw[ks];omega
 have nb:dQ (aB st)=true:=by unfold dQ;rw[ks];exact kn
 have oX:=fQ hc k0;have c1:=hc.FG (by omega);have hl:=dj st;have hp:=bF (st:=st) k0;have ks1:(aB (aq st)).ah=(bb L (aq st)).ah:=by rw[br c1]
 have e:bo T n st=cn (ag T) T (qj (bb L st)) n (aq st):=by unfold bo eH;rw[if_neg (λe=>k4 (ks.symm.trans e)),if_neg (λe=>k3 (ks.symm.trans e)),if_neg (λe=>k5 (ks.symm.trans e.1)),if_neg (λe=>k5 (ks.symm.trans e.1)),if_neg (λe=>k5 (ks.symm.trans e.1)),if_neg (by rw[nb];decide)];rw[if_neg (by rw[os,ko];simp),if_neg (λe=>kd (of_decide_eq_true ((Xq hc (fQ c1 (by rw[ks1,k44];decide))).symm.trans e.2.2.2)))];exact CV _ _ ks ts
 rw[e];have bW:=bK hx;have bX:=bu hy;have q0:=dH hx hy hc;rw[cG] at q0;have qn:=fN (bb L st);have w1:=wrap_i64 (n:=(st.bM:Int)+1) (by omega) (by have:=hc.le;have:=hc.lb;omega);have ta:=J6 hc;have w4:=wrap_i64 (n:=(bb L st).bM+1) (by omega) (by omega);have q1:=dH hx hy c1;rw[cG] at q1;have qt:=tG N hx hy c1 (by omega) (bb L st) n;rw[show (aq st).ae=st.ae from rfl,au,cG] at qt;have eU:st.ae≠[]->(cn (ag T) T (qj (bb L st)) n (aq st)).2.ae≠[]:=λh=>pW (bQ T) (st:=aq st) h
 have ur:=ar (cn (ag T) T (qj (bb L st)) n (aq st)).1.1;have uc:=dy (cn (ag T) T (qj (bb L st)) n (aq st)).1.1;rw[k44] at q1;rw[kn] at qn;rw[ko] at q0 qn qt;rw[k1] at q0 qn qt;rw[kt] at q0 qn qt;generalize (cn (ag T) T (qj (bb L st)) n (aq st))=r at *;obtain⟨⟨u,lv,ok⟩,s1⟩:=r;dsimp only at *;by_cases h0:st.ae=[];by_cases h1:s1.ae=[];rw[a7 h0] at q0;rw[fh h0,h0,c8 h1] at qt;rw[fh h0] at q1;refine dw (n:=8) hE bW bX h0 h1 ?_ (bn _ _ _) rfl
 rotate_left
 rw[a7 h0] at q0;rw[fh h0,h0,cH h1] at qt;rw[fh h0] at q1;refine dZ (n:=8) hE bW bX 4 (by decide) h0 h1 ?_ (bn _ _ _) rfl
 rotate_left
 have h1:=eU h0;rw[a6 h0] at q0;rw[iE h0,dS h0 h1] at qt;rw[iE h0] at q1;refine da (n:=8) hE bW bX 5 (by decide) h0 h1 ?_ (bn _ _ _) rfl
 rotate_left
 all_goals
  rw[au];simp[w1,q0,qt,qn,q1,ur,uc,k3,k4,k5,k1,kt,kd,w4,-an,-aL,-az,-aQ,-fA,bW,bX]
end
section
noncomputable def AM(N:Nat):cq:=⟨120,λ
 |[.ptr 0 0,.int .i64 n],os=>(match xz os with
   |some R=>if R.st.ak.length<=N then some (.tuple [(bo R.T n R.st).1.1.aR,.int .i64 (bo R.T n R.st).1.2.1,.bool (bo R.T n R.st).1.2.2],some (dE R.x R.y R.st.ae (bo R.T n R.st).2)) else none
   |none=>none)
 |_,_=>none⟩
theorem Ea(N:Nat):(AM N).f=120:=(rfl)
theorem Ta(N:Nat){x y:AV}{T:List aY}{L:List Tok}{st:St}(hx:a8 x=some T)(hy:bA y=some L)(h:RC T L st)(n:Int)(hn:st.ak.length<=N):
 (AM N).S [.ptr 0 0,.int .i64 n] (dz x y st)=some (.tuple [(bo T n st).1.1.aR,.int .i64 (bo T n st).1.2.1,.bool (bo T n st).1.2.2],some (dE x y st.ae (bo T n st).2)):=by
 simp only[AM,lz hx hy h];rw[if_pos hn]
theorem WS(N:Nat){x y:AV}{T:List aY}{L:List Tok}{st:St}(hx:a8 x=some T)(hy:bA y=some L)(h:RC T L st)(hN:st.ak.length<=N)(hE:bY Tryz.prog bV (cg qJ (qx N)))(n:Int):
 ck Tryz.prog bV 120 [.ptr 0 0,.int .i64 n] (dz x y st) (.tuple [(bo T n st).1.1.aR,.int .i64 (bo T n st).1.2.1,.bool (bo T n st).1.2.2]) (some (dE x y st.ae (bo T n st).2)):=by
 by_cases k4:(bb L st).ah=4
 .exact Vk N hx hy h hN hE n k4
 by_cases k3:(bb L st).ah=3
 .exact US N hx hy h hN hE n k3
 by_cases k5:(bb L st).ah=5
 .by_cases t1:(bb L st).ay=[40]
  .cases cK:(ag T 1200 (aq st)).1.2.2 with
   |true=>exact M4 N hx hy h hN hE n k5 t1 cK
   |false=>exact OU N hx hy h hN hE n k5 t1 cK
  by_cases t2:(bb L st).ay=[91]
  .exact Tl N hx hy h hN hE n k5 t2
  by_cases t3:(bb L st).ay=[123]
  .cases cK:(ag T 1200 (aq st)).1.2.2 with
   |true=>exact LJ N hx hy h hN hE n k5 t3 cK
   |false=>exact Mc N hx hy h hN hE n k5 t3 cK
  exact Xa N hx hy h hN hE n k5 t1 t2 t3
 cases kn:(decide ((bb L st).ah=1)||decide ((bb L st).ah=2)) with
 |false=>rw[Bool.or_eq_false_iff,decide_eq_false_iff_not,decide_eq_false_iff_not] at kn;exact Rj N hx hy h hN hE n kn.1 kn.2 k3 k4 k5
 |true=>
   cases ko:(bb L st).iT with
   |true=>
     cases cK:(aA T (aq (aq st))).1.2 with
     |true=>exact Ln N hx hy h hN hE n kn ko cK
     |false=>exact Mg N hx hy h hN hE n kn ko cK
   |false=>
     by_cases k1:(bb L st).ah=1
     .by_cases kt:(bb L st).ay=[45]
      .by_cases k44:(bb L (aq st)).ah=4
       .by_cases ka:(bb L (aq st)).bM=(bb L st).bM+1
        .exact T1 N hx hy h hN hE n k1 kt ko k44 ka
        .exact Kt N hx hy h hN hE n kn ko k1 kt k44 ka
       .exact LK N hx hy h hN hE n kn ko k1 kt k44
      .exact JI N hx hy h hN hE n kn ko k1 kt
     .exact Kx N hx hy h hN hE n kn ko k1
theorem SJ(N:Nat)(hN:cr Tryz.prog bV (iF N)):cr Tryz.prog bV (AM N):=λaa os v r hv=>by
 unfold AM at hv;dsimp only at hv;split at hv
 .rename_i os n;split at hv
  .rename_i R hR;split at hv
   .rename_i hn;cases hv;obtain⟨hx,hy,rfl,h⟩:=ke hR;rw[Ea];have hE:bY Tryz.prog bV (cg qJ (qx N)):=dW (by simp[qJ,PC.lift,Ef.lift,uU.lift]) (by simp[qx,hN,Ad,YO,EK,Om N hN,BP N hN,M5 N hN]);exact WS N hx hy h hn hE n
   .cases hv
  .cases hv
 .cases hv
section
variable {rec:Int->St->PR×St}{T:List aY}
theorem vA(M:Nat)(n:Int)(t:Tm)(lv:Int)(st:St):fC rec T M n (t,lv,false) st=((t,lv,false),st):=by
 cases M with
 |zero=>rfl
 |succ M=>rfl
theorem fx{M:Nat}{n:Int}{t:Tm}{lv:Int}{st:St}{B:aY×Bool}(hb:cC T (aB st)=B)(h:(!B.2||decide (n<B.1.l)||decide ((ax B.1).1<lv))=true):fC rec T M n (t,lv,true) st=((t,lv,true),st):=by
 cases M with
 |zero=>rfl
 |succ M=>unfold fC;rw[hb,if_neg (by simp),if_pos h]
theorem ti{M:Nat}{n:Int}{t:Tm}{lv:Int}{st:St}{o:aY}(hb:cC T (aB st)=(o,true))(h1:¬n<o.l)(h2:¬(ax o).1<lv):fC rec T (M+1) n (t,lv,true) st=fC rec T M n (ct (aB st).ay [t,(rec (ax o).2 (aq st)).1.1],o.l,(rec (ax o).2 (aq st)).1.2.2) (rec (ax o).2 (aq st)).2:=by
 conv=>lhs;unfold fC
 rw[hb,if_neg (by simp),if_neg (by simp[h1,h2])]
end
theorem rm(T:List aY)(x:cB):0<=(cC T x).1.l/\(cC T x).1.l<=1200:=by
 unfold cC;split
 .exact⟨by decide,by decide⟩
 .exact kq T x.ay false
theorem oL{T:List aY}{x:cB}(h:(cC T x).2=true):x.ah≠0:=λe=>by unfold cC dQ at h;rw[e] at h;cases h
theorem na(s:List UInt8)(u v:Tm):(ct s [u,v]).bH=.sl [.agg [.int .i64 u.ah,.int .i64 u.bx,.str u.aC,u.bH],.agg [.int .i64 v.ah,.int .i64 v.bx,.str v.aC,v.bH]]:=by rw[<-au,<-au];rfl
noncomputable def se:List aZ:=[oc,rh]
noncomputable def sh(N:Nat):List cq:=[wE,Gy,AM N,iF N]
def wC(x y:AV)(r:PR×St)(md:Nat):Option (Ex×List AV×af):=some (.exit 0,FM 75 [(4,.ptr 1 0),(7,.ptr 2 0),(8,.int .i64 r.1.2.1),(9,.bool r.1.2.2)],⟨3,[.row [.int .i64 r.1.1.ah,.int .i64 r.1.1.bx,.str r.1.1.aC,r.1.1.bH],.row [.int .i64 0,.int .i64 0,.str [],.aD],.row [x,y,.int .i64 r.2.bM,.int .i64 r.2.next,.aD]],1,md⟩)
def NW(x y:AV)(r:PR×St)(md:Nat):Option (Ex×List AV×af):=some (.exit 0,FM 75 [(4,.ptr 1 0),(7,.ptr 2 0),(8,.int .i64 r.1.2.1),(9,.bool r.1.2.2)],⟨4,[.row (bm r.2.ae),.row [.int .i64 r.1.1.ah,.int .i64 r.1.1.bx,.str r.1.1.aC,r.1.1.bH],.row [.int .i64 0,.int .i64 0,.str [],.aD],.row [x,y,.int .i64 r.2.bM,.int .i64 r.2.next,.vec 3 0 r.2.ae.length 2 r.2.ae.length]],0,md⟩)
def Q5(x y:AV)(r:PR×St)(md:Nat):Option (Ex×List AV×af):=some (.exit 0,FM 75 [(4,.ptr 1 0),(7,.ptr 3 0),(8,.int .i64 r.1.2.1),(9,.bool r.1.2.2)],⟨4,[.row [.int .i64 r.1.1.ah,.int .i64 r.1.1.bx,.str r.1.1.aC,r.1.1.bH],.row (bm r.2.ae),.row [.int .i64 0,.int .i64 0,.str [],.aD],.row [x,y,.int .i64 r.2.bM,.int .i64 r.2.next,.vec 2 0 r.2.ae.length 2 r.2.ae.length]],0,md⟩)
def NK(x y:AV)(r:PR×St)(md:Nat):Option (Ex×List AV×af):=some (.exit 0,FM 75 [(4,.ptr 1 0),(7,.ptr 3 0),(8,.int .i64 r.1.2.1),(9,.bool r.1.2.2)],⟨5,[.row (bm r.2.ae),.row [.int .i64 r.1.1.ah,.int .i64 r.1.1.bx,.str r.1.1.aC,r.1.1.bH],.dead,.row [.int .i64 0,.int .i64 0,.str [],.aD],.row [x,y,.int .i64 r.2.bM,.int .i64 r.2.next,.vec 4 0 r.2.ae.length 2 r.2.ae.length]],0,md⟩)
def Ty(x y:AV)(r:PR×St)(md:Nat):Option (Ex×List AV×af):=some (.exit 0,FM 75 [(4,.ptr 2 0),(7,.ptr 4 0),(8,.int .i64 r.1.2.1),(9,.bool r.1.2.2)],⟨5,[.row [.int .i64 r.1.1.ah,.int .i64 r.1.1.bx,.str r.1.1.aC,r.1.1.bH],.row (bm r.2.ae),.row [.int .i64 0,.int .i64 0,.str [],.aD],.dead,.row [x,y,.int .i64 r.2.bM,.int .i64 r.2.next,.vec 3 0 r.2.ae.length 2 r.2.ae.length]],0,md⟩)
def MT(x y:AV)(r:PR×St)(md:Nat):Option (Ex×List AV×af):=some (.exit 0,FM 75 [(4,.ptr 2 0),(7,.ptr 4 0),(8,.int .i64 r.1.2.1),(9,.bool r.1.2.2)],⟨6,[.row (bm r.2.ae),.row [.int .i64 r.1.1.ah,.int .i64 r.1.1.bx,.str r.1.1.aC,r.1.1.bH],.dead,.row [.int .i64 0,.int .i64 0,.str [],.aD],.dead,.row [x,y,.int .i64 r.2.bM,.int .i64 r.2.next,.vec 5 0 r.2.ae.length 2 r.2.ae.length]],0,md⟩)
attribute [local simp] jz jx jA jt gJ gI jr ju jw gK gL js kR kN kT kO kL kK iq iw Laid.aK fa fc bO aE qD jU se sh dL pR fK Ie Ea eQ jM aI
theorem aaZ(n N:Nat){x y:AV}{T:List aY}{L:List Tok}(hx:a8 x=some T)(hy:bA y=some L)(kk:Int):∀(M:Nat) (t:Tm) (lv:Int) (ok:Bool) (st:St) (m md:Nat),(ok=true->RC T L st)->st.ae≠[]->st.ak.length<=N->st.ak.length<M->M<=m->
 ∃cS,iV 3 1 (cb (aF (aH (cg se (sh N)) (n+1)) (n+1) qD) jU 3 m (mF (.ptr 0 0) (.int .i64 kk) (.ptr 1 0) (.ptr 2 0) (.int .i64 lv) (.bool ok)) ⟨4,[.row (bm st.ae),.row [.int .i64 t.ah,.int .i64 t.bx,.str t.aC,t.bH],.row [.int .i64 0,.int .i64 0,.str [],.aD],.row [x,y,.int .i64 st.bM,.int .i64 st.next,.vec 3 0 st.ae.length 2 st.ae.length]],0,md⟩)=
   NW x y (fC (ag T) T M kk (t,lv,ok) st) cS
 |0,_,_,_,_,_,_,_,_,_,h,_=>by omega
 |_+1,_,_,_,_,0,_,_,_,_,_,h=>by omega
 |M+1,t,lv,ok,st,m+1,md,Mr,h0,hN,hM,hm=>by
   have bW:=bK hx;have bX:=bu hy;rw[ai];have ur:=ar t;have uc:=dy t
   cases ok with
   |false=>rw[vA];simp only[NW];exact⟨0,by simp[-an,-aL,-az,-aQ,-fA,ur,uc,bW,bX]⟩
   |true=>
     have hc:=Mr rfl;have q0:=dH hx hy hc;have qb:=rK hx hy hc (bb L st);have eb:=qV hc;have bl:=rm T (aB st);have bk:=oL (T:=T) (x:=aB st);have ts:(aB st).ay=(bb L st).ay:=by rw[br hc]
     rw[eb] at bl bk;rw[cG,a6 h0] at q0;rw[a6 h0,show (eI T (bb L st)).1.aR=.agg [.str (eI T (bb L st)).1.n,.str (eI T (bb L st)).1.k,.int .i64 (eI T (bb L st)).1.l] from rfl] at qb;have qs:=kl (eI T (bb L st)).1 bl;generalize eI T (bb L st)=B at *;obtain⟨o,fd⟩:=B;dsimp only at qb qs bl bk
     cases fd with
     |false=>rw[fx eb rfl];simp only[NW];exact⟨0,by simp[-an,-aL,-az,-aQ,-fA,ur,uc,q0,qb,qs,bW,bX]⟩
     |true=>
       by_cases c2:kk<o.l
       .rw[fx eb (by simp[c2])];simp only[NW];exact⟨0,by simp[-an,-aL,-az,-aQ,-fA,ur,uc,q0,qb,qs,c2,bW,bX]⟩
       by_cases c3:(ax o).1<lv
       .rw[fx eb (by simp[c3])];simp only[NW];exact⟨0,by simp[-an,-aL,-az,-aQ,-fA,ur,uc,q0,qb,qs,c2,c3,bW,bX]⟩
       have CY:=bk rfl;have oX:=fQ hc CY;have c1:=hc.FG (by omega);have hl:=dj st;have hp:=bF CY;have w1:=wrap_i64 (n:=(st.bM:Int)+1) (by omega) (by have:=hc.lb;omega);rw[ti eb c2 c3,ts];have qt:=dF N hx hy c1 (ax o).2 (by omega);rw[show (aq st).ae=st.ae from rfl,au] at qt;have eU:=(bQ T).lv (ax o).2 (aq st);have MO:=eU.len;have Fu:(ag T (ax o).2 (aq st)).1.2.2=true->RC T L (ag T (ax o).2 (aq st)).2:=λh=>(c1.ok ((bQ T).ok _ _ h)).1
       have qq:st.ae≠[]->(ag T (ax o).2 (aq st)).2.ae≠[]:=eU.ae;have vr:=ar (ag T (ax o).2 (aq st)).1.1;have vc:=dy (ag T (ax o).2 (aq st)).1.1;have qc:=kZ (bb L st).ay [t,(ag T (ax o).2 (aq st)).1.1] (by simp);rw[GG,List.map_cons,List.map_cons,List.map_nil,au t,au (ag T (ax o).2 (aq st)).1.1] at qc;generalize ag T (ax o).2 (aq st)=r at *;obtain⟨⟨u,lv2,HL⟩,s1⟩:=r;dsimp only at *;have h1:=qq h0;rw[iE h0,dS h0 h1] at qt;obtain⟨cS,ih⟩:=aaZ n N hx hy kk M (ct (bb L st).ay [t,u]) o.l HL s1 m (min md 0) Fu h1 (by omega) (by omega) (by omega);rw[show (ct (bb L st).ay [t,u]).ah=2 from rfl,show (ct (bb L st).ay [t,u]).bx=0 from rfl,show (ct (bb L st).ay [t,u]).aC=(bb L st).ay from rfl,na] at ih;refine⟨cS,Eq.trans ?_ ih⟩;simp[-an,-aL,-az,-aQ,-fA,ur,uc,q0,qb,qs,qt,qc,c2,c3,w1,vr,vc,bW,bX]
theorem abk(n N:Nat){x y:AV}{T:List aY}{L:List Tok}(hx:a8 x=some T)(hy:bA y=some L)(kk:Int):∀(M:Nat) (t:Tm) (lv:Int) (ok:Bool) (st:St) (m md:Nat),(ok=true->RC T L st)->st.ae=[]->st.ak.length<=N->st.ak.length<M->M<=m->
 ∃cS,iV 3 1 (cb (aF (aH (cg se (sh N)) (n+1)) (n+1) qD) jU 3 m (mF (.ptr 0 0) (.int .i64 kk) (.ptr 1 0) (.ptr 2 0) (.int .i64 lv) (.bool ok)) ⟨3,[.row [.int .i64 t.ah,.int .i64 t.bx,.str t.aC,t.bH],.row [.int .i64 0,.int .i64 0,.str [],.aD],.row [x,y,.int .i64 st.bM,.int .i64 st.next,.aD]],3,md⟩)=
   (if (fC (ag T) T M kk (t,lv,ok) st).2.ae=[] then wC x y (fC (ag T) T M kk (t,lv,ok) st) cS else NW x y (fC (ag T) T M kk (t,lv,ok) st) cS)
 |0,_,_,_,_,_,_,_,_,_,h,_=>by omega
 |_+1,_,_,_,_,0,_,_,_,_,_,h=>by omega
 |M+1,t,lv,ok,st,m+1,md,Mr,h0,hN,hM,hm=>by
   have bW:=bK hx;have bX:=bu hy;rw[ai];have ur:=ar t;have uc:=dy t
   cases ok with
   |false=>rw[vA];simp only[if_pos h0];simp only[wC];exact⟨md,by simp[-an,-aL,-az,-aQ,-fA,ur,uc,bW,bX]⟩
   |true=>
     have hc:=Mr rfl;have q0:=dH hx hy hc;have qb:=rK hx hy hc (bb L st);have eb:=qV hc;have bl:=rm T (aB st);have bk:=oL (T:=T) (x:=aB st);have ts:(aB st).ay=(bb L st).ay:=by rw[br hc]
     rw[eb] at bl bk;rw[cG,a7 h0] at q0;rw[a7 h0,show (eI T (bb L st)).1.aR=.agg [.str (eI T (bb L st)).1.n,.str (eI T (bb L st)).1.k,.int .i64 (eI T (bb L st)).1.l] from rfl] at qb;have qs:=kl (eI T (bb L st)).1 bl;generalize eI T (bb L st)=B at *;obtain⟨o,fd⟩:=B;dsimp only at qb qs bl bk
     cases fd with
     |false=>rw[fx eb rfl];simp only[if_pos h0];simp only[wC];exact⟨min md 3,by simp[-an,-aL,-az,-aQ,-fA,ur,uc,q0,qb,qs,bW,bX]⟩
     |true=>
       by_cases c2:kk<o.l
       .rw[fx eb (by simp[c2])];simp only[if_pos h0];simp only[wC];exact⟨min md 3,by simp[-an,-aL,-az,-aQ,-fA,ur,uc,q0,qb,qs,c2,bW,bX]⟩
       by_cases c3:(ax o).1<lv
       .rw[fx eb (by simp[c3])];simp only[if_pos h0];simp only[wC];exact⟨min md 3,by simp[-an,-aL,-az,-aQ,-fA,ur,uc,q0,qb,qs,c2,c3,bW,bX]⟩
       have CY:=bk rfl;have oX:=fQ hc CY;have c1:=hc.FG (by omega);have hl:=dj st;have hp:=bF CY;have w1:=wrap_i64 (n:=(st.bM:Int)+1) (by omega) (by have:=hc.lb;omega);rw[ti eb c2 c3,ts];have qt:=dF N hx hy c1 (ax o).2 (by omega);rw[show (aq st).ae=st.ae from rfl,au] at qt;have eU:=(bQ T).lv (ax o).2 (aq st);have MO:=eU.len;have Fu:(ag T (ax o).2 (aq st)).1.2.2=true->RC T L (ag T (ax o).2 (aq st)).2:=λh=>(c1.ok ((bQ T).ok _ _ h)).1
       have qq:st.ae≠[]->(ag T (ax o).2 (aq st)).2.ae≠[]:=eU.ae;have vr:=ar (ag T (ax o).2 (aq st)).1.1;have vc:=dy (ag T (ax o).2 (aq st)).1.1;have qc:=kZ (bb L st).ay [t,(ag T (ax o).2 (aq st)).1.1] (by simp);rw[GG,List.map_cons,List.map_cons,List.map_nil,au t,au (ag T (ax o).2 (aq st)).1.1] at qc;generalize ag T (ax o).2 (aq st)=r at *;obtain⟨⟨u,lv2,HL⟩,s1⟩:=r;dsimp only at *;by_cases h1:s1.ae=[];rw[fh h0,h0,c8 h1] at qt;obtain⟨cS,ih⟩:=abk n N hx hy kk M (ct (bb L st).ay [t,u]) o.l HL s1 m (min md 0) Fu h1 (by omega) (by omega) (by omega);rw[show (ct (bb L st).ay [t,u]).ah=2 from rfl,show (ct (bb L st).ay [t,u]).bx=0 from rfl,show (ct (bb L st).ay [t,u]).aC=(bb L st).ay from rfl,na] at ih
       rotate_left
       rw[fh h0,h0,cH h1] at qt;obtain⟨cS,ih⟩:=aaZ n N hx hy kk M (ct (bb L st).ay [t,u]) o.l HL s1 m (min md 0) Fu h1 (by omega) (by omega) (by omega);rw[show (ct (bb L st).ay [t,u]).ah=2 from rfl,show (ct (bb L st).ay [t,u]).bx=0 from rfl,show (ct (bb L st).ay [t,u]).aC=(bb L st).ay from rfl,na] at ih;have hnn:¬(fC (ag T) T M kk (ct (bb L st).ay [t,u],o.l,HL) s1).2.ae=[]:=((mG (bQ T) T M kk (ct (bb L st).ay [t,u],o.l,HL) s1).1.ae h1)
       simp only[if_neg hnn]
       rotate_left
       all_goals
        refine⟨cS,Eq.trans ?_ ih⟩;simp[-an,-aL,-az,-aQ,-fA,ur,uc,q0,qb,qs,qt,qc,c2,c3,w1,vr,vc,bW,bX]
theorem abd(n N:Nat){x y:AV}{T:List aY}{L:List Tok}(hx:a8 x=some T)(hy:bA y=some L)(kk:Int):∀(M:Nat) (t:Tm) (lv:Int) (ok:Bool) (st:St) (m md:Nat),(ok=true->RC T L st)->st.ae≠[]->st.ak.length<=N->st.ak.length<M->M<=m->
 ∃cS,iV 4 0 (cb (aF (aH (cg se (sh N)) (n+1)) (n+1) qD) jU 4 m (mF (.ptr 0 0) (.int .i64 kk) (.ptr 1 0) (.ptr 3 0) (.int .i64 lv) (.bool ok)) ⟨5,[.row (bm st.ae),.row [.int .i64 t.ah,.int .i64 t.bx,.str t.aC,t.bH],.dead,.row [.int .i64 0,.int .i64 0,.str [],.aD],.row [x,y,.int .i64 st.bM,.int .i64 st.next,.vec 4 0 st.ae.length 2 st.ae.length]],0,md⟩)=
   NK x y (fC (ag T) T M kk (t,lv,ok) st) cS
 |0,_,_,_,_,_,_,_,_,_,h,_=>by omega
 |_+1,_,_,_,_,0,_,_,_,_,_,h=>by omega
 |M+1,t,lv,ok,st,m+1,md,Mr,h0,hN,hM,hm=>by
   have bW:=bK hx;have bX:=bu hy;rw[ai];have ur:=ar t;have uc:=dy t
   cases ok with
   |false=>rw[vA];simp only[NK];exact⟨0,by simp[-an,-aL,-az,-aQ,-fA,ur,uc,bW,bX]⟩
   |true=>
     have hc:=Mr rfl;have q0:=dH hx hy hc;have qb:=rK hx hy hc (bb L st);have eb:=qV hc;have bl:=rm T (aB st);have bk:=oL (T:=T) (x:=aB st);have ts:(aB st).ay=(bb L st).ay:=by rw[br hc]
     rw[eb] at bl bk;rw[cG,a6 h0] at q0;rw[a6 h0,show (eI T (bb L st)).1.aR=.agg [.str (eI T (bb L st)).1.n,.str (eI T (bb L st)).1.k,.int .i64 (eI T (bb L st)).1.l] from rfl] at qb;have qs:=kl (eI T (bb L st)).1 bl;generalize eI T (bb L st)=B at *;obtain⟨o,fd⟩:=B;dsimp only at qb qs bl bk
     cases fd with
     |false=>rw[fx eb rfl];simp only[NK];exact⟨0,by simp[-an,-aL,-az,-aQ,-fA,ur,uc,q0,qb,qs,bW,bX]⟩
     |true=>
       by_cases c2:kk<o.l
       .rw[fx eb (by simp[c2])];simp only[NK];exact⟨0,by simp[-an,-aL,-az,-aQ,-fA,ur,uc,q0,qb,qs,c2,bW,bX]⟩
       by_cases c3:(ax o).1<lv
       .rw[fx eb (by simp[c3])];simp only[NK];exact⟨0,by simp[-an,-aL,-az,-aQ,-fA,ur,uc,q0,qb,qs,c2,c3,bW,bX]⟩
       have CY:=bk rfl;have oX:=fQ hc CY;have c1:=hc.FG (by omega);have hl:=dj st;have hp:=bF CY;have w1:=wrap_i64 (n:=(st.bM:Int)+1) (by omega) (by have:=hc.lb;omega);rw[ti eb c2 c3,ts];have qt:=dF N hx hy c1 (ax o).2 (by omega);rw[show (aq st).ae=st.ae from rfl,au] at qt;have eU:=(bQ T).lv (ax o).2 (aq st);have MO:=eU.len;have Fu:(ag T (ax o).2 (aq st)).1.2.2=true->RC T L (ag T (ax o).2 (aq st)).2:=λh=>(c1.ok ((bQ T).ok _ _ h)).1
       have qq:st.ae≠[]->(ag T (ax o).2 (aq st)).2.ae≠[]:=eU.ae;have vr:=ar (ag T (ax o).2 (aq st)).1.1;have vc:=dy (ag T (ax o).2 (aq st)).1.1;have qc:=kZ (bb L st).ay [t,(ag T (ax o).2 (aq st)).1.1] (by simp);rw[GG,List.map_cons,List.map_cons,List.map_nil,au t,au (ag T (ax o).2 (aq st)).1.1] at qc;generalize ag T (ax o).2 (aq st)=r at *;obtain⟨⟨u,lv2,HL⟩,s1⟩:=r;dsimp only at *;have h1:=qq h0;rw[iE h0,dS h0 h1] at qt;obtain⟨cS,ih⟩:=abd n N hx hy kk M (ct (bb L st).ay [t,u]) o.l HL s1 m (min md 0) Fu h1 (by omega) (by omega) (by omega);rw[show (ct (bb L st).ay [t,u]).ah=2 from rfl,show (ct (bb L st).ay [t,u]).bx=0 from rfl,show (ct (bb L st).ay [t,u]).aC=(bb L st).ay from rfl,na] at ih;refine⟨cS,Eq.trans ?_ ih⟩;simp[-an,-aL,-az,-aQ,-fA,ur,uc,q0,qb,qs,qt,qc,c2,c3,w1,vr,vc,bW,bX]
theorem afO(n N:Nat){x y:AV}{T:List aY}{L:List Tok}(hx:a8 x=some T)(hy:bA y=some L)(kk:Int):∀(M:Nat) (t:Tm) (lv:Int) (ok:Bool) (st:St) (m md:Nat),(ok=true->RC T L st)->st.ae≠[]->st.ak.length<=N->st.ak.length<M->M<=m->
 (∃cS,iV 4 0 (cb (aF (aH (cg se (sh N)) (n+1)) (n+1) qD) jU 4 m (mF (.ptr 0 0) (.int .i64 kk) (.ptr 1 0) (.ptr 3 0) (.int .i64 lv) (.bool ok)) ⟨4,[.row [.int .i64 t.ah,.int .i64 t.bx,.str t.aC,t.bH],.row (bm st.ae),.row [.int .i64 0,.int .i64 0,.str [],.aD],.row [x,y,.int .i64 st.bM,.int .i64 st.next,.vec 2 0 st.ae.length 2 st.ae.length]],4,md⟩)=
  Q5 x y ((t,lv,ok),st) cS/\fC (ag T) T M kk (t,lv,ok) st=((t,lv,ok),st))\/∃cS,iV 4 0 (cb (aF (aH (cg se (sh N)) (n+1)) (n+1) qD) jU 4 m (mF (.ptr 0 0) (.int .i64 kk) (.ptr 1 0) (.ptr 3 0) (.int .i64 lv) (.bool ok)) ⟨4,[.row [.int .i64 t.ah,.int .i64 t.bx,.str t.aC,t.bH],.row (bm st.ae),.row [.int .i64 0,.int .i64 0,.str [],.aD],.row [x,y,.int .i64 st.bM,.int .i64 st.next,.vec 2 0 st.ae.length 2 st.ae.length]],4,md⟩)=
  NK x y (fC (ag T) T M kk (t,lv,ok) st) cS
 |0,_,_,_,_,_,_,_,_,_,h,_=>by omega
 |_+1,_,_,_,_,0,_,_,_,_,_,h=>by omega
 |M+1,t,lv,ok,st,m+1,md,Mr,h0,hN,hM,hm=>by
   have bW:=bK hx;have bX:=bu hy;rw[ai];have ur:=ar t;have uc:=dy t
   cases ok with
   |false=>rw[vA];left;simp only[Q5];exact⟨md,by simp[-an,-aL,-az,-aQ,-fA,ur,uc,bW,bX],trivial⟩
   |true=>
     have hc:=Mr rfl;have q0:=dH hx hy hc;have qb:=rK hx hy hc (bb L st);have eb:=qV hc;have bl:=rm T (aB st);have bk:=oL (T:=T) (x:=aB st);have ts:(aB st).ay=(bb L st).ay:=by rw[br hc]
     rw[eb] at bl bk;rw[cG,a6 h0] at q0;rw[a6 h0,show (eI T (bb L st)).1.aR=.agg [.str (eI T (bb L st)).1.n,.str (eI T (bb L st)).1.k,.int .i64 (eI T (bb L st)).1.l] from rfl] at qb;have qs:=kl (eI T (bb L st)).1 bl;generalize eI T (bb L st)=B at *;obtain⟨o,fd⟩:=B;dsimp only at qb qs bl bk
     cases fd with
     |false=>rw[fx eb rfl];left;simp only[Q5];exact⟨min md 4,by simp[-an,-aL,-az,-aQ,-fA,ur,uc,q0,qb,qs,bW,bX],trivial⟩
     |true=>
       by_cases c2:kk<o.l
       .rw[fx eb (by simp[c2])];left;simp only[Q5];exact⟨min md 4,by simp[-an,-aL,-az,-aQ,-fA,ur,uc,q0,qb,qs,c2,bW,bX],trivial⟩
       by_cases c3:(ax o).1<lv
       .rw[fx eb (by simp[c3])];left;simp only[Q5];exact⟨min md 4,by simp[-an,-aL,-az,-aQ,-fA,ur,uc,q0,qb,qs,c2,c3,bW,bX],trivial⟩
       have CY:=bk rfl;have oX:=fQ hc CY;have c1:=hc.FG (by omega);have hl:=dj st;have hp:=bF CY;have w1:=wrap_i64 (n:=(st.bM:Int)+1) (by omega) (by have:=hc.lb;omega);rw[ti eb c2 c3,ts];have qt:=dF N hx hy c1 (ax o).2 (by omega);rw[show (aq st).ae=st.ae from rfl,au] at qt;have eU:=(bQ T).lv (ax o).2 (aq st);have MO:=eU.len;have Fu:(ag T (ax o).2 (aq st)).1.2.2=true->RC T L (ag T (ax o).2 (aq st)).2:=λh=>(c1.ok ((bQ T).ok _ _ h)).1
       have qq:st.ae≠[]->(ag T (ax o).2 (aq st)).2.ae≠[]:=eU.ae;have vr:=ar (ag T (ax o).2 (aq st)).1.1;have vc:=dy (ag T (ax o).2 (aq st)).1.1;have qc:=kZ (bb L st).ay [t,(ag T (ax o).2 (aq st)).1.1] (by simp);rw[GG,List.map_cons,List.map_cons,List.map_nil,au t,au (ag T (ax o).2 (aq st)).1.1] at qc;generalize ag T (ax o).2 (aq st)=r at *;obtain⟨⟨u,lv2,HL⟩,s1⟩:=r;dsimp only at *;have h1:=qq h0;rw[iE h0,dS h0 h1] at qt;obtain⟨cS,ih⟩:=abd n N hx hy kk M (ct (bb L st).ay [t,u]) o.l HL s1 m (min md 0) Fu h1 (by omega) (by omega) (by omega);rw[show (ct (bb L st).ay [t,u]).ah=2 from rfl,show (ct (bb L st).ay [t,u]).bx=0 from rfl,show (ct (bb L st).ay [t,u]).aC=(bb L st).ay from rfl,na] at ih;right;refine⟨cS,Eq.trans ?_ ih⟩;simp[-an,-aL,-az,-aQ,-fA,ur,uc,q0,qb,qs,qt,qc,c2,c3,w1,vr,vc,bW,bX]
theorem abj(n N:Nat){x y:AV}{T:List aY}{L:List Tok}(hx:a8 x=some T)(hy:bA y=some L)(kk:Int):∀(M:Nat) (t:Tm) (lv:Int) (ok:Bool) (st:St) (m md:Nat),(ok=true->RC T L st)->st.ae≠[]->st.ak.length<=N->st.ak.length<M->M<=m->
 ∃cS,iV 5 0 (cb (aF (aH (cg se (sh N)) (n+1)) (n+1) qD) jU 5 m (mF (.ptr 0 0) (.int .i64 kk) (.ptr 2 0) (.ptr 4 0) (.int .i64 lv) (.bool ok)) ⟨6,[.row (bm st.ae),.row [.int .i64 t.ah,.int .i64 t.bx,.str t.aC,t.bH],.dead,.row [.int .i64 0,.int .i64 0,.str [],.aD],.dead,.row [x,y,.int .i64 st.bM,.int .i64 st.next,.vec 5 0 st.ae.length 2 st.ae.length]],0,md⟩)=
   MT x y (fC (ag T) T M kk (t,lv,ok) st) cS
 |0,_,_,_,_,_,_,_,_,_,h,_=>by omega
 |_+1,_,_,_,_,0,_,_,_,_,_,h=>by omega
 |M+1,t,lv,ok,st,m+1,md,Mr,h0,hN,hM,hm=>by
   have bW:=bK hx;have bX:=bu hy;rw[ai];have ur:=ar t;have uc:=dy t
   cases ok with
   |false=>rw[vA];simp only[MT];exact⟨0,by simp[-an,-aL,-az,-aQ,-fA,ur,uc,bW,bX]⟩
   |true=>
     have hc:=Mr rfl;have q0:=dH hx hy hc;have qb:=rK hx hy hc (bb L st);have eb:=qV hc;have bl:=rm T (aB st);have bk:=oL (T:=T) (x:=aB st);have ts:(aB st).ay=(bb L st).ay:=by rw[br hc]
     rw[eb] at bl bk;rw[cG,a6 h0] at q0;rw[a6 h0,show (eI T (bb L st)).1.aR=.agg [.str (eI T (bb L st)).1.n,.str (eI T (bb L st)).1.k,.int .i64 (eI T (bb L st)).1.l] from rfl] at qb;have qs:=kl (eI T (bb L st)).1 bl;generalize eI T (bb L st)=B at *;obtain⟨o,fd⟩:=B;dsimp only at qb qs bl bk
     cases fd with
     |false=>rw[fx eb rfl];simp only[MT];exact⟨0,by simp[-an,-aL,-az,-aQ,-fA,ur,uc,q0,qb,qs,bW,bX]⟩
     |true=>
       by_cases c2:kk<o.l
       .rw[fx eb (by simp[c2])];simp only[MT];exact⟨0,by simp[-an,-aL,-az,-aQ,-fA,ur,uc,q0,qb,qs,c2,bW,bX]⟩
       by_cases c3:(ax o).1<lv
       .rw[fx eb (by simp[c3])];simp only[MT];exact⟨0,by simp[-an,-aL,-az,-aQ,-fA,ur,uc,q0,qb,qs,c2,c3,bW,bX]⟩
       have CY:=bk rfl;have oX:=fQ hc CY;have c1:=hc.FG (by omega);have hl:=dj st;have hp:=bF CY;have w1:=wrap_i64 (n:=(st.bM:Int)+1) (by omega) (by have:=hc.lb;omega);rw[ti eb c2 c3,ts];have qt:=dF N hx hy c1 (ax o).2 (by omega);rw[show (aq st).ae=st.ae from rfl,au] at qt;have eU:=(bQ T).lv (ax o).2 (aq st);have MO:=eU.len;have Fu:(ag T (ax o).2 (aq st)).1.2.2=true->RC T L (ag T (ax o).2 (aq st)).2:=λh=>(c1.ok ((bQ T).ok _ _ h)).1
       have qq:st.ae≠[]->(ag T (ax o).2 (aq st)).2.ae≠[]:=eU.ae;have vr:=ar (ag T (ax o).2 (aq st)).1.1;have vc:=dy (ag T (ax o).2 (aq st)).1.1;have qc:=kZ (bb L st).ay [t,(ag T (ax o).2 (aq st)).1.1] (by simp);rw[GG,List.map_cons,List.map_cons,List.map_nil,au t,au (ag T (ax o).2 (aq st)).1.1] at qc;generalize ag T (ax o).2 (aq st)=r at *;obtain⟨⟨u,lv2,HL⟩,s1⟩:=r;dsimp only at *;have h1:=qq h0;rw[iE h0,dS h0 h1] at qt;obtain⟨cS,ih⟩:=abj n N hx hy kk M (ct (bb L st).ay [t,u]) o.l HL s1 m (min md 0) Fu h1 (by omega) (by omega) (by omega);rw[show (ct (bb L st).ay [t,u]).ah=2 from rfl,show (ct (bb L st).ay [t,u]).bx=0 from rfl,show (ct (bb L st).ay [t,u]).aC=(bb L st).ay from rfl,na] at ih;refine⟨cS,Eq.trans ?_ ih⟩;simp[-an,-aL,-az,-aQ,-fA,ur,uc,q0,qb,qs,qt,qc,c2,c3,w1,vr,vc,bW,bX]
theorem agv(n N:Nat){x y:AV}{T:List aY}{L:List Tok}(hx:a8 x=some T)(hy:bA y=some L)(kk:Int):∀(M:Nat) (t:Tm) (lv:Int) (ok:Bool) (st:St) (m md:Nat),(ok=true->RC T L st)->st.ae≠[]->st.ak.length<=N->st.ak.length<M->M<=m->
 (∃cS,iV 5 0 (cb (aF (aH (cg se (sh N)) (n+1)) (n+1) qD) jU 5 m (mF (.ptr 0 0) (.int .i64 kk) (.ptr 2 0) (.ptr 4 0) (.int .i64 lv) (.bool ok)) ⟨5,[.row [.int .i64 t.ah,.int .i64 t.bx,.str t.aC,t.bH],.row (bm st.ae),.row [.int .i64 0,.int .i64 0,.str [],.aD],.dead,.row [x,y,.int .i64 st.bM,.int .i64 st.next,.vec 3 0 st.ae.length 2 st.ae.length]],5,md⟩)=
  Ty x y ((t,lv,ok),st) cS/\fC (ag T) T M kk (t,lv,ok) st=((t,lv,ok),st))\/∃cS,iV 5 0 (cb (aF (aH (cg se (sh N)) (n+1)) (n+1) qD) jU 5 m (mF (.ptr 0 0) (.int .i64 kk) (.ptr 2 0) (.ptr 4 0) (.int .i64 lv) (.bool ok)) ⟨5,[.row [.int .i64 t.ah,.int .i64 t.bx,.str t.aC,t.bH],.row (bm st.ae),.row [.int .i64 0,.int .i64 0,.str [],.aD],.dead,.row [x,y,.int .i64 st.bM,.int .i64 st.next,.vec 3 0 st.ae.length 2 st.ae.length]],5,md⟩)=
  MT x y (fC (ag T) T M kk (t,lv,ok) st) cS
 |0,_,_,_,_,_,_,_,_,_,h,_=>by omega
 |_+1,_,_,_,_,0,_,_,_,_,_,h=>by omega
 |M+1,t,lv,ok,st,m+1,md,Mr,h0,hN,hM,hm=>by
   have bW:=bK hx;have bX:=bu hy;rw[ai];have ur:=ar t;have uc:=dy t
   cases ok with
   |false=>rw[vA];left;simp only[Ty];exact⟨md,by simp[-an,-aL,-az,-aQ,-fA,ur,uc,bW,bX],trivial⟩
   |true=>
     have hc:=Mr rfl;have q0:=dH hx hy hc;have qb:=rK hx hy hc (bb L st);have eb:=qV hc;have bl:=rm T (aB st);have bk:=oL (T:=T) (x:=aB st);have ts:(aB st).ay=(bb L st).ay:=by rw[br hc]
     rw[eb] at bl bk;rw[cG,a6 h0] at q0;rw[a6 h0,show (eI T (bb L st)).1.aR=.agg [.str (eI T (bb L st)).1.n,.str (eI T (bb L st)).1.k,.int .i64 (eI T (bb L st)).1.l] from rfl] at qb;have qs:=kl (eI T (bb L st)).1 bl;generalize eI T (bb L st)=B at *;obtain⟨o,fd⟩:=B;dsimp only at qb qs bl bk
     cases fd with
     |false=>rw[fx eb rfl];left;simp only[Ty];exact⟨min md 5,by simp[-an,-aL,-az,-aQ,-fA,ur,uc,q0,qb,qs,bW,bX],trivial⟩
     |true=>
       by_cases c2:kk<o.l
       .rw[fx eb (by simp[c2])];left;simp only[Ty];exact⟨min md 5,by simp[-an,-aL,-az,-aQ,-fA,ur,uc,q0,qb,qs,c2,bW,bX],trivial⟩
       by_cases c3:(ax o).1<lv
       .rw[fx eb (by simp[c3])];left;simp only[Ty];exact⟨min md 5,by simp[-an,-aL,-az,-aQ,-fA,ur,uc,q0,qb,qs,c2,c3,bW,bX],trivial⟩
       have CY:=bk rfl;have oX:=fQ hc CY;have c1:=hc.FG (by omega);have hl:=dj st;have hp:=bF CY;have w1:=wrap_i64 (n:=(st.bM:Int)+1) (by omega) (by have:=hc.lb;omega);rw[ti eb c2 c3,ts];have qt:=dF N hx hy c1 (ax o).2 (by omega);rw[show (aq st).ae=st.ae from rfl,au] at qt;have eU:=(bQ T).lv (ax o).2 (aq st);have MO:=eU.len;have Fu:(ag T (ax o).2 (aq st)).1.2.2=true->RC T L (ag T (ax o).2 (aq st)).2:=λh=>(c1.ok ((bQ T).ok _ _ h)).1
       have qq:st.ae≠[]->(ag T (ax o).2 (aq st)).2.ae≠[]:=eU.ae;have vr:=ar (ag T (ax o).2 (aq st)).1.1;have vc:=dy (ag T (ax o).2 (aq st)).1.1;have qc:=kZ (bb L st).ay [t,(ag T (ax o).2 (aq st)).1.1] (by simp);rw[GG,List.map_cons,List.map_cons,List.map_nil,au t,au (ag T (ax o).2 (aq st)).1.1] at qc;generalize ag T (ax o).2 (aq st)=r at *;obtain⟨⟨u,lv2,HL⟩,s1⟩:=r;dsimp only at *;have h1:=qq h0;rw[iE h0,dS h0 h1] at qt;obtain⟨cS,ih⟩:=abj n N hx hy kk M (ct (bb L st).ay [t,u]) o.l HL s1 m (min md 0) Fu h1 (by omega) (by omega) (by omega);rw[show (ct (bb L st).ay [t,u]).ah=2 from rfl,show (ct (bb L st).ay [t,u]).bx=0 from rfl,show (ct (bb L st).ay [t,u]).aC=(bb L st).ay from rfl,na] at ih;right;refine⟨cS,Eq.trans ?_ ih⟩;simp[-an,-aL,-az,-aQ,-fA,ur,uc,q0,qb,qs,qt,qc,c2,c3,w1,vr,vc,bW,bX]
end
section
theorem JO(T:List aY)(n:Int)(st:St):ag T n st=fC (ag T) T (st.ak.length+1) n (bo T n st).1 (bo T n st).2:=by
 have H:=pI T st.ak.length;have E:EqR st.ak.length (kG T st.ak.length) (ag T):=λn s h=>Zc T h n
 have p:=(sj H T (st.ak.length+1) n st).1.len;show kG T (st.ak.length+1) n st=_;unfold kG bo;rw[PX H E T (st.ak.length+1) (st.ak.length+1) n st (by omega) (by omega) (by omega)] at *;exact zH H E T _ _ n _ _ (by omega) (by omega) (by omega)
attribute [local simp] jz jx jA jt gJ gI jr ju jw gK gL js kR kN kT kO kL kK iq iw Laid.aK fa fc bO og aE adD c71 jU se sh dL pR fK Ie Ea eQ
theorem U3(N:Nat){x y:AV}{T:List aY}{L:List Tok}{st:St}(hx:a8 x=some T)(hy:bA y=some L)(hc:RC T L st)(hN:st.ak.length=N)(hE:bY Tryz.prog bV (cg se (sh N)))(n:Int):
 ck Tryz.prog bV 71 [.ptr 0 0,.int .i64 n] (dz x y st) (.tuple [(ag T n st).1.1.aR,.int .i64 (ag T n st).1.2.1,.bool (ag T n st).1.2.2]) (some (dE x y st.ae (ag T n st).2)):=by
 rw[JO];have bW:=bK hx;have bX:=bu hy;have q:=Ta N hx hy hc n (by omega);have qn:=R5 N hx hy hc n (by omega);have hl:st.ak.length<=100000:=by rw[hc.ak,List.length_drop,gG];have:=hc.lb;omega
 have eU:=sj (bQ T) T (st.ak.length+1) n st;change Lv st (bo T n st).2/\((bo T n st).1.2.2=true->Ok st (bo T n st).2) at eU;have MO:=eU.1.len;have Fu:(bo T n st).1.2.2=true->RC T L (bo T n st).2:=λh=>(hc.ok (eU.2 h)).1
 have qq:st.ae≠[]->(bo T n st).2.ae≠[]:=eU.1.ae;rw[au] at q;generalize bo T n st=P at *;obtain⟨⟨t,lv,ok⟩,s1⟩:=P;dsimp only at q MO Fu qq|-;have ur:=ar t;have uc:=dy t;have hnn:=(mG (bQ T) T (st.ak.length+1) n (t,lv,ok) s1).1.ae;have lC:=afO 199998 N hx hy n (st.ak.length+1) t lv ok s1 199999 0 Fu;have lG:=agv 199998 N hx hy n (st.ak.length+1) t lv ok s1 199999 0 Fu;have lA:=abk 199998 N hx hy n (st.ak.length+1) t lv ok s1 199999 0 Fu;generalize fC (ag T) T (st.ak.length+1) n (t,lv,ok) s1=Q at *;obtain⟨⟨u,lw,okk⟩,s2⟩:=Q;dsimp only at hnn lA lC lG|-;have vr:=ar u;have vc:=dy u;by_cases h0:st.ae=[];rw[a7 h0,h0] at q;rw[a7 h0] at qn;by_cases h1:s1.ae=[];rw[c8 h1] at q;obtain⟨cS,lp⟩:=lA h1 (by omega) (by omega) (by omega);by_cases h2:s2.ae=[];rw[if_pos h2] at lp;simp only[wC,jU,mF,se,sh] at lp;refine dw (n:=200000) hE bW bX h0 h2 ?_ (bn _ _ _) rfl
 rotate_left
 rw[if_neg h2] at lp;simp only[NW,jU,mF,se,sh] at lp;refine dZ (n:=200000) hE bW bX 3 (by decide) h0 h2 ?_ (bn _ _ _) rfl
 rotate_left
 rw[cH h1] at q;have h2:=hnn h1;rcases lC h1 (by omega) (by omega) (by omega) with⟨cS,lp,eq⟩|⟨cS,lp⟩;cases eq;simp only[Q5,jU,mF,se,sh] at lp;refine dZ (n:=200000) hE bW bX 2 (by decide) h0 h1 ?_ (bn _ _ _) rfl
 rotate_left
 simp only[NK,jU,mF,se,sh] at lp;refine dZ (n:=200000) hE bW bX 4 (by decide) h0 h2 ?_ (bn _ _ _) rfl
 rotate_left
 have h1:=qq h0;rw[a6 h0,dS h0 h1] at q;rw[a6 h0] at qn;have h2:=hnn h1;rcases lG h1 (by omega) (by omega) (by omega) with⟨cS,lp,eq⟩|⟨cS,lp⟩;cases eq;simp only[Ty,jU,mF,se,sh] at lp;refine da (n:=200000) hE bW bX 3 (by decide) h0 h1 ?_ (bn _ _ _) rfl
 rotate_left
 simp only[MT,jU,mF,se,sh] at lp;refine da (n:=200000) hE bW bX 5 (by decide) h0 h2 ?_ (bn _ _ _) rfl
 rotate_left
 all_goals
  rw[au];simp[qn,ur,uc,vr,vc,lp,q,-an,-aL,-az,-aQ,-fA,bW,bX]
theorem LQ(N:Nat)(hN:cr Tryz.prog bV (iF N)):cr Tryz.prog bV (iF (N+1)):=λaa os v r hv=>by
 unfold iF at hv;dsimp only at hv;split at hv
 .rename_i os n;split at hv
  .rename_i R hR;split at hv
   .rename_i hn;cases hv;obtain⟨hx,hy,rfl,h⟩:=ke hR;rw[eQ];have hE:bY Tryz.prog bV (cg se (sh N)):=dW (by simp[se,wo.lift,uU.lift]) (by simp[sh,hN,Ad,VX,SJ N hN]);by_cases de:R.st.ak.length<N
    .exact hN _ _ _ _ (dF N hx hy h n de)
    .exact U3 N hx hy h (by omega) hE n
   .cases hv
  .cases hv
 .cases hv
theorem DR:∀N,cr Tryz.prog bV (iF N)
 |0=>λaa os v r hv=>by
   unfold iF at hv;dsimp only at hv;split at hv
   .split at hv
    .split at hv
     .rename_i h;exact absurd h (by omega)
     .cases hv
    .cases hv
   .cases hv
 |N+1=>LQ N (DR N)
end
section
def okI(x:Int):Prop:=-9223372036854775808<=x/\x<9223372036854775808
instance (x:Int):Decidable (okI x):=inferInstanceAs (Decidable (_/\_))
def dgI(neg:Bool)(c:UInt8):Int:=if neg then -((c.toNat:Int)-48) else (c.toNat:Int)-48
def TZ(neg:Bool):Int->List UInt8->Option Int
 |n,[]=>some n
 |n,c::r=>if okI (n*10)/\okI (n*10+dgI neg c) then TZ neg (n*10+dgI neg c) r else none
theorem zw:∀(l:List UInt8) (v:Nat),cD l=true->v<=9223372036854775807->TZ false v l=if mP v l<=9223372036854775807 then some (mP v l:Int) else none
 |[],v,_,h=>by rw[nK,if_pos h];rfl
 |c::r,v,hd,h=>by
   simp only[cD,dd,Bool.and_eq_true,decide_eq_true_eq] at hd;have hg:=IX r (v*10+(c.toNat-48));have e:(v:Int)*10+dgI false c=((v*10+(c.toNat-48):Nat):Int):=by unfold dgI;rw[if_neg (by simp)];omega
   rw[kC];unfold TZ;rw[e];unfold okI;by_cases hx:v*10+(c.toNat-48)<=9223372036854775807
   .rw[if_pos (by omega)];exact zw r _ hd.2 hx
   .rw[if_neg (by omega),if_neg (by omega)]
theorem BW(M:Nat)(hM:M<=18446744073709551615):∀(l:List UInt8) (aJ:Nat),cD l=true->aJ<=M->M<mP aJ l->Lib.parseUintM M aJ l=.range
 |[],aJ,_,h1,h2=>by rw[nK] at h2;omega
 |c::r,aJ,h,h1,hv=>by
   simp only[cD,dd,Bool.and_eq_true,decide_eq_true_eq] at h;rw[kC] at hv;unfold Lib.parseUintM;rw[if_pos h.1];split
   .rfl
   .split
    .rfl
    .exact BW M hM r _ h.2 (by omega) hv
theorem uS(s:List UInt8)(hr:s≠[])(hd:cD s=true)(hv:¬mP 0 s<=9223372036854775807):Lib.parseIntB 64 s=.range:=by
 cases s with
 |nil=>exact absurd rfl hr
 |cons c r=>
   have hc:48<=c.toNat/\c.toNat<=57:=by simp only[cD,dd,Bool.and_eq_true,decide_eq_true_eq] at hd;exact hd.1
   unfold Lib.parseIntB Lib.parseUintB;simp only[show (c.toNat=43)=False from eq_false (by omega),show (c.toNat=45)=False from eq_false (by omega),or_false,if_false,hr];rw[show (2^64-1:Nat)=18446744073709551615 by decide];by_cases h:mP 0 (c::r)<=18446744073709551615
   .rw[r8 18446744073709551615 (Nat.le_refl _) (c::r) 0 hd h];simp only[not_false_iff,true_and,false_and,if_false];rw[if_pos (by omega)]
   .rw[BW 18446744073709551615 (Nat.le_refl _) (c::r) 0 hd (by omega) (by omega)]
theorem D7(c:UInt8)(r:List UInt8)(hc:c≠45):fw (c::r)=if cD (c::r)=false then ((0:Int),(2:Int)) else match TZ false 0 (c::r) with|some v=>(v,0)|none=>(0,3):=by
 unfold fw;rw[sn c r hc];dsimp only;rw[if_neg (by simp)]
 cases hd:cD (c::r) with
 |false=>rfl
 |true=>
   rw[if_neg (by simp),if_neg (by simp)];have e:=zw (c::r) 0 hd (by omega);rw[show (((0:Nat):Int))=0 by rfl] at e;rw[e];by_cases hv:mP 0 (c::r)<=9223372036854775807
   .rw[if_pos hv,GB (c::r) (by simp) hd hv]
   .rw[if_neg hv,uS (c::r) (by simp) hd hv]
def uB(t:Tok):Bool:=xS ⟨t.ah,t.ay,t.bx,t.iT,false⟩&&(decide (0<=t.bM)&&decide (t.bM<1000000))
theorem aam(c:UInt8)(r:List UInt8)(hc:c≠45):0<=(fw (c::r)).1/\(fw (c::r)).1<9223372036854775808:=by
 rw[D7 c r hc];split
 .exact⟨by decide,by decide⟩
 .rename_i hd;have hd:cD (c::r)=true:=by simpa using hd
  have e:=zw (c::r) 0 hd (by omega);rw[show (((0:Nat):Int))=0 by rfl] at e;rw[e];by_cases hv:mP 0 (c::r)<=9223372036854775807
  .rw[if_pos hv];exact⟨by dsimp only;omega,by dsimp only;omega⟩
  .rw[if_neg hv];exact⟨by decide,by decide⟩
theorem one_num(l:List UInt8):0<=(bN l).1.bx/\(bN l).1.bx<9223372036854775808:=by
 unfold bN;split
 .exact (by decide:(0:Int)<=0/\(0:Int)<9223372036854775808)
 rename_i c r;split
 .exact (by decide:(0:Int)<=0/\(0:Int)<9223372036854775808)
 split
 .exact (by decide:(0:Int)<=0/\(0:Int)<9223372036854775808)
 split
 .rename_i hd;have h1:=pw (r:=r) hd;have hc:c≠45:=λe=>by rw[e] at hd;exact absurd hd (by decide)
  obtain⟨k,hk⟩:∃k,runN dd (c::r)=k+1:=⟨runN dd (c::r)-1,by omega⟩
  dsimp only;rw[hk,List.take_succ_cons];exact aam c _ hc
 repeat' split
 all_goals exact (by decide:(0:Int)<=0/\(0:Int)<9223372036854775808)
theorem Kg:∀(f:Nat) (s:List UInt8) (j:Nat) (aJ:List Tok),s.length<=4096->aJ.all uB=true->aJ.length<=1024->(nP f s j aJ).1.all uB=true/\(nP f s j aJ).1.length<=1024
 |0,s,j,aJ,_,_,_=>⟨rfl,Nat.zero_le _⟩
 |f+1,s,j,aJ,h1,h2,h3=>by
   unfold nP;split
   .exact⟨h2,h3⟩
   rename_i hj;split
   .exact⟨rfl,by simp⟩
   split
   .exact⟨rfl,by simp⟩
   rename_i hl;have oJ:¬(((bN (s.drop j)).1.ah=1\/(bN (s.drop j)).1.ah=2)/\64<(bN (s.drop j)).1.ay.length):=λe=>hl (.inl e)
   have oK:¬aJ.length=1024:=λe=>hl (.inr e)
   have hn:=one_num (s.drop j);refine Kg f s _ _ h1 ?_ (by simp;omega);rw[List.all_append,h2,Bool.true_and];generalize (bN (s.drop j)).1=t at *;simp only[List.all_cons,List.all_nil,Bool.and_true,uB,xS,dQ,Bool.and_eq_true,Bool.or_eq_true,decide_eq_true_eq,Bool.not_eq_true',Bool.or_eq_false_iff,decide_eq_false_iff_not];refine⟨⟨?_,hn.1,hn.2⟩,by omega,by omega⟩;by_cases hk:t.ah=1\/t.ah=2
   .exact .inl (by have:=λh=>oJ ⟨hk,h⟩;omega)
   .exact .inr ⟨λe=>hk (.inl e),λe=>hk (.inr e)⟩
theorem AH(s:List UInt8):(dC s).1.all uB=true/\(dC s).1.length<=1024:=by
 unfold dC;split
 .exact⟨rfl,by simp⟩
 .exact Kg _ s _ [] (by omega) rfl (by simp)
theorem CO:∀{L:List Tok},L.all uB=true->(kB L).all xS=true
 |[],_=>rfl
 |t::r,h=>by rw[List.all_cons,Bool.and_eq_true] at h;unfold kB;rw[List.all_cons,Bool.and_eq_true];refine⟨?_,CO h.2⟩;have:=h.1;unfold uB at this;rw[Bool.and_eq_true] at this;exact this.1
def uj(L:List Tok)(a:Nat):St:=⟨a,(kB L).drop a,0,[]⟩
theorem ajS{T:List aY}{L:List Tok}{a:Nat}(hT:T.length<1000000)(hL:L.all uB=true)(hl:L.length<=1024)(ha:a<=L.length+1):RC T L (uj L a):=by
 have oX:(L.all λt=>decide (0<=t.bM)&&decide (t.bM<1000000))=true:=by rw[List.all_eq_true] at hL|-;intro t ht;have:=hL t ht;unfold uB at this;rw[Bool.and_eq_true] at this;exact this.2
 exact⟨rfl,ha,Nat.zero_le _,Nat.le_refl _,by omega,hT,CO hL,λp hp=>(List.not_mem_nil hp).elim,rfl,oX⟩
def qz(T:List aY)(st:St):(Tm×Int)×St:=
 let r:=ag T 1200 ⟨st.bM,st.ak,0,[]⟩
 if !r.1.2.2||!decide ((aB r.2).ah=6) then ((CR,2),r.2) else if dt r.1.1 then ((r.1.1,0),aq r.2) else ((CR,3),aq r.2)
end
end Go.Proofs.YtjmeonoabiliiaaGreatDoor
