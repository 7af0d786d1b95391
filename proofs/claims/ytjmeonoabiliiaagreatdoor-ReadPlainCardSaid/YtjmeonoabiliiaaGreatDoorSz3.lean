import Derived.Test.YtjmeonoabiliiaaGreatDoorSz2
import Derived.OrdersIn
import Derived.LoopNIn
import Derived.TacticsIn
import Derived.RangeFuncCalls
import Derived.Tactics
set_option linter.all false
set_option maxHeartbeats 16000000
set_option maxRecDepth 100000
namespace Sz
open Go
section
variable {X:World->Prop}{l0:Option Nat}{n0:Nat}
def FW:Option Nat->Fence
 |none=>Fence.wide
 |some l=>Fence.wide.inRound l
theorem O4:∀(l0:Option Nat) (f:FuncId),(FW l0).fn f
 |none,_=>trivial
 |some _,_=>trivial
theorem UP:∀(l0:Option Nat),(FW l0).depth.isSome=true->False
 |none,h=>by cases h
 |some _,h=>by cases h
theorem U2{n:Nat}{P:Program}{f:FuncId}{args:Array Value}{w:World}{R:Ending->World->Prop}:∀(l0:Option Nat),Calls P f args w R->CallsIn (FW l0) n P f args w R
 |none,h=>callsIn_wide.2 h
 |some l,h=>CallsIn.inRound l (callsIn_wide.2 h)
section
variable {P:Program}{C:Nat->List AV->ai->Option (AV×ai)}
theorem abg{ρ:Operand->Value}{o:Oper}(Fq:∀c,o.op≠.defer c):o.semAt (FW l0).round ρ=execOp ρ o:=by
 cases l0 with
 |none=>exact Oper.semAt_none ρ o
 |some l=>exact Oper.semAt_some l ρ o Fq
theorem ZK{o:Oper}{I7:xJ}{fr:List AV}{h:ai}{r:AV×ai}{ops:Array Oper}(hs:uC P o.op=some I7\/En P ops o=some I7)(hv:cf fr h I7=some r):∀c,o.op≠.defer c:=λc hc=>by
 rw[hc] at hs;rcases hs with hs|hs
 .simp[uC,eP] at hs;subst hs;simp[cf] at hv
 .simp[En,hc] at hs
theorem Ve{b:Prop}[Decidable b]{A:Prop}{G:FuncId->Prop}{B:Prop}(h:if b then A else B):if b then A else ((∀f,G f->(FW l0).fn f)/\B):=by
 split
 .rename_i hb;rwa[if_pos hb] at h
 .rename_i hb;rw[if_neg hb] at h;exact⟨λf _=>O4 l0 f,h⟩
theorem M6{φ:eL}{h h':ai}{w:World}{fr:List AV}{a:Act}{o:Oper}{v:AV}{f:Nat}{bu:Array Value}{args:List AV}(hC:qw P X C)(hc:C f args h=some (v,h'))(hr:HR φ h w)(hG:jM P X φ h w)(ha:mo φ h w args bu)
 (hf:FR φ h w fr a.tmps) (Fq:∀c,o.op≠.defer c) (uY:(execOp a.eval o).run P w=(callFunc f bu).run P w) {K:Act->World->Prop} {Q:Exit->Act->World->Prop}
 (hK:∀φ' cv w',FR φ' h' w' (gP fr o.dst v) (a.put o.dst cv).tmps->HR φ' h' w'->Ext φ h w φ' h' w'->K (a.put o.dst cv) w'):o.wpIn (FW l0) n0 P a w K Q:=by
 refine⟨λf _=>O4 l0 f,?_⟩;rw[abg Fq,uY];rcases hC f args h v h' hc φ w bu hr hG ha with⟨e1,e2⟩|⟨cv,w',φ',e1,e2,e3,e4⟩
 .rw[e1,Oper.uponIn_enter];refine⟨λh=>(UP l0 h).elim,CallsIn.mono (U2 l0 e2) λe w' he=>?_⟩;obtain⟨φ',cv,rfl,g1,g2,g3⟩:=he;obtain⟨p1,p2⟩:=CZ (hf.ext g3) g1 o.dst;exact hK φ' _ w' p1 g2 g3
 .rw[e1,Oper.uponIn_value];obtain⟨p1,p2⟩:=CZ (hf.ext e4) e2 o.dst;exact hK φ' _ w' p1 e3 e4
theorem ug(hC:qw P X C){ops:Array Oper}{o:Oper}{s:aW}(hs:lH P ops o=some s){φ:eL}{h h':ai}{w:World}{fr eD:List AV}{a:Act}(he:dd C s fr h=some (eD,h'))
 (hf:FR φ h w fr a.tmps) (hr:HR φ h w) (hG:jM P X φ h w) {K:Act->World->Prop} {Q:Exit->Act->World->Prop}
 (hK:∀φ' cv w',FR φ' h' w' eD (a.put o.dst cv).tmps->HR φ' h' w'->Ext φ h w φ' h' w'->K (a.put o.dst cv) w'):
 if Region.wanted o (yielded ops a.tmps) then o.wpIn (FW l0) n0 P a w K Q else K (a.put o.dst undef) w:=by
 unfold lH at hs;split at hs
 .cases hs
 .rename_i Co Z9
  -- the guard
  have aed:∃b,dR fr s.guard=some b/\Region.wanted o (yielded ops a.tmps)=!b:=by
   unfold dd at he
   cases hu:dR fr s.guard with
   |none=>rw[hu] at he;cases he
   |some b=>
     refine⟨b,rfl,?_⟩;split at hs
     .rename_i hg;cases hs;simp only[dR,Option.some.injEq] at hu;subst hu;simp[Region.wanted,hg]
     .rename_i j want hg;obtain⟨t,ht,rfl⟩:=Option.map_eq_some_iff.1 hs;simp only[dR] at hu;split at hu
      .rename_i b' BQ;cases hu;obtain⟨cR,e⟩:=List.getElem?_eq_some_iff.1 BQ;have rC:t<a.tmps.size:=by rw[hf.1];exact cR
       have:=hf.2 t;rw[List.getD_eq_getElem?_getD,BQ,Option.getD_some] at this;have hv:=this.jd
       have tO:a.tmps[t]? =some (.bool b'):=by rw[Array.getD_eq_getD_getElem?,Array.getElem?_eq_getElem rC,Option.getD_some] at hv;rw[Array.getElem?_eq_getElem rC,hv]
       have hy:yielded ops a.tmps j=some b':=by unfold yielded;rw[ht];simp[tO]
       simp only[Region.wanted,hg,hy];cases b'<;>cases want<;>rfl
      .rename_i BQ;cases hu;obtain⟨cR,e⟩:=List.getElem?_eq_some_iff.1 BQ;have rC:t<a.tmps.size:=by rw[hf.1];exact cR
       have:=hf.2 t;rw[List.getD_eq_getElem?_getD,BQ,Option.getD_some] at this;obtain⟨fu,hv,hl,_⟩:=this.vI
       have tO:a.tmps[t]? =some (.tuple fu):=by rw[Array.getD_eq_getD_getElem?,Array.getElem?_eq_getElem rC,Option.getD_some] at hv;rw[Array.getElem?_eq_getElem rC,hv]
       have hy:yielded ops a.tmps j=none:=by unfold yielded;rw[ht];simp[tO]
       simp only[Region.wanted,hg,hy];rfl
      .cases hu
  obtain⟨b,hb,hw⟩:=aed
  have aee:s.dst=o.dst/\s.op=Co:=by
   split at hs
   .cases hs;exact⟨rfl,rfl⟩
   .obtain⟨t,ht,rfl⟩:=Option.map_eq_some_iff.1 hs;exact⟨rfl,rfl⟩
  unfold dd at he;rw[hb] at he;rw[hw]
  cases b with
  |true=>simp only[Option.some.injEq,Prod.mk.injEq] at he;obtain⟨rfl,rfl⟩:=he;rw[if_neg (by simp)];rw[aee.1] at hK;obtain⟨p1,p2⟩:=CZ hf (RV.tuple [] #[] rfl λj hj=>by simp at hj:fI φ h w (.tuple []) undef) o.dst;exact hK φ _ w p1 hr (.refl _ _ _)
  |false=>
    rw[if_pos (by simp)];simp only[aee.2] at he;rw[aee.1] at he
    have aef:∀I7,(uC P o.op=some I7\/En P ops o=some I7)->(cf fr h I7).map (λp=>(gP fr o.dst p.1,p.2))=some (eD,h')->o.wpIn (FW l0) n0 P a w K Q:=λI7 Z9 he=>by
     obtain⟨⟨v,h1⟩,hv,e⟩:=Option.map_eq_some_iff.1 he;cases e;have Fq:=ZK Z9 hv;obtain⟨cv,w',φ',e1,e2,e3,e4⟩:=abM Z9 hv hf hr;obtain⟨p1,p2⟩:=CZ (hf.ext e4) e2 o.dst;have:=hK φ' _ w' p1 e3 e4;refine⟨λf _=>O4 l0 f,?_⟩;rw[abg Fq];rcases e1 with e1|⟨e1,rfl⟩
     .rw[e1,Oper.uponIn_value];exact this
     .rw[e1,Oper.uponIn_skip];exact this
    have WQ:∀(f0:Operand) (qj:Array Operand) (I3:Array TypeId) (x':dU) (args:List dU) (f:Nat) (bC:List AV) (v:AV) (h1:ai),o.op=.call {callee:=.value f0,args:=qj,argTypes:=I3}->iQ f0=some x'->
     pF qj=some args->x'.ev fr=.fn f bC->C f (args.map (·.ev fr)++bC) h=some (v,h1)->(gP fr o.dst v,h1)=(eD,h')->o.wpIn (FW l0) n0 P a w K Q:=λf0 qj I3 x' args f bC v h1 fg hx has EZ LJ e=>by
     cases e;have g:=di hx hf;rw[EZ] at g;obtain⟨fu,q1,q2,q3⟩:=g.Hc;have ga:=Tl has hf;refine M6 (bu:=qj.map a.eval++fu) hC LJ hr hG ⟨by simp[ga.1,q2],λj hj=>?_⟩ hf ?_ ?_ hK
     .by_cases hj1:j<(args.map (·.ev fr)).length
      .have:=ga.2 j hj1;rw[List.getElem_append_left hj1];have I6:j<(qj.map a.eval).size:=by rw[ga.1];exact hj1
       rw[Array.getD_eq_getD_getElem?] at this|-;rw[Array.getElem?_append_left I6];exact this
      .have hj3:j-(args.map (·.ev fr)).length<bC.length:=by simp at hj hj1|-;omega
       have:=q3 _ hj3;rw[List.getElem_append_right (by omega)];rw[Array.getD_eq_getD_getElem?] at this|-;rw[Array.getElem?_append_right (by rw[ga.1];omega),ga.1];exact this
     .exact λc hc=>by rw[fg] at hc;cases hc
     .unfold execOp;simp[fg,resolve,q1,Deferred.ofValue,invoke]
    have hinv:∀s',EE P ops o=some s'->(∃I7,(uC P o.op=some I7\/En P ops o=some I7)/\s'=.op I7)\/∃f0 qj I3 x' args,o.op=.call {callee:=.value f0,args:=qj,argTypes:=I3}/\iQ f0=some x'/\pF qj=some args/\
     ((∃g,x'=.const (.fn g [])/\s'=.call g args)\/s'=.ml x' args):=λs' IQ=>by
     unfold EE at IQ;split at IQ
     .rename_i I7 h1;cases IQ;exact .inl ⟨I7,.inr h1,rfl⟩
     unfold PC at IQ;split at IQ
     .rename_i f0 qj I3 fg;split at IQ
      .rename_i g as1 h1 h2;cases IQ;exact .inr ⟨f0,qj,I3,_,as1,fg,h1,h2,.inl ⟨g,rfl,rfl⟩⟩
      .rename_i f' as1 h1 h2 h3;cases IQ;exact .inr ⟨f0,qj,I3,_,as1,fg,by assumption,by assumption,.inr rfl⟩
      .cases IQ;exact .inl ⟨.die,.inl (by rw[fg];rfl),rfl⟩
     .obtain⟨I7,h1,rfl⟩:=Option.map_eq_some_iff.1 IQ;exact .inl ⟨I7,.inl h1,rfl⟩
    rcases hinv Co Z9 with⟨I7,h1,rfl⟩|⟨f0,qj,I3,x',args,fg,hx,has,IQ⟩
    .exact aef I7 h1 he
    .rcases IQ with⟨g,rfl,rfl⟩|rfl
     .dsimp only at he;obtain⟨⟨v,h1⟩,hv,e⟩:=Option.map_eq_some_iff.1 he;exact WQ f0 qj I3 _ args g [] v h1 fg hx has rfl (by simpa using hv) e
     .dsimp only at he;split at he
      .rename_i f bC EZ;obtain⟨⟨v,h1⟩,hv,e⟩:=Option.map_eq_some_iff.1 he;exact WQ f0 qj I3 _ args f bC v h1 fg hx has EZ hv e
      .cases he
theorem FF(hC:qw P X C){ops:Array Oper}{Q:Exit->Act->World->Prop}:∀{l:List Oper} {ss:List aW},eV (lH P ops) l=some ss->∀{φ:eL} {h h':ai} {w:World} {fr eD:List AV} {a:Act},
 dz C ss fr h=some (eD,h')->FR φ h w fr a.tmps->HR φ h w->jM P X φ h w->
 (∀φ' a' w',FR φ' h' w' eD a'.tmps->HR φ' h' w'->Ext φ h w φ' h' w'->a'.defers=a.defers->Q .normal a' w')->wpListIn (FW l0) n0 P ops Q l a w
 |[],ss,hs,φ,h,h',w,fr,eD,a,he,hf,hr,hG,hQ=>by simp only[eV,Option.some.injEq] at hs;subst hs;simp only[dz,Option.some.injEq,Prod.mk.injEq] at he;obtain⟨rfl,rfl⟩:=he;exact wpListIn_nil (hQ φ a w hf hr (.refl _ _ _) rfl)
 |o::l,ss,hs,φ,h,h',w,fr,eD,a,he,hf,hr,hG,hQ=>by
   unfold eV at hs;split at hs
   .rename_i s ss' h1 h2;cases hs;simp only[dz] at he;split at he
    .rename_i xC G4 WR;refine wpListIn_step λK hK=>Ve ?_
     refine ug hC h1 WR hf hr hG λφ1 cv w1 f1 r1 e1=>hK _ _ ?_
     have d1:(a.put o.dst cv).defers=a.defers:=by cases o.dst<;>rfl
     exact FF hC h2 he f1 r1 (hG.ext e1) λφ2 a2 w2 f2 r2 e2 d2=>hQ φ2 a2 w2 f2 r2 (e1.trans e2) (d2.trans d1)
    .cases he
   .cases hs
end
section
variable {P:Program}{C:Nat->List AV->ai->Option (AV×ai)}{ops:Array Oper}{ss:List aW}{b:List Nat}{F:Nat->List AV}{H:Nat->ai}{φ0:eL}{w0:World}{d0:List Deferred}
 {bD:Array Bool} {φ:eL} {pe:Nat->PE} {cu:List AV} {k:Nat} {a:Act} {w:World}
theorem ZN(hC:qw P X C)(hG:jM P X φ0 (H 0) w0)(T:Tr C ss b F H)(st:za P ops ss b){Q:Exit->Act->World->Prop}
 (hQ:∀φ' a' w',FR φ' (H ss.length) w' (F ss.length) a'.tmps->HR φ' (H ss.length) w'->Ext φ0 (H 0) w0 φ' (H ss.length) w'->a'.defers=d0->Q .normal a' w'):
 ∀(fuel:Nat) (bD:Array Bool) (φ:eL) (pe:Nat->PE) (cu:List AV) (k:Nat) (a:Act) (w:World),DI ops ss F H φ0 w0 d0 bD φ pe cu k a w->KX ss bD k->unl ss.length bD<=fuel->
   wpAnyIn (FW l0) n0 P .any ops Q fuel bD a w:=by
 have ahn:∀(bD:Array Bool) (φ:eL) (pe:Nat->PE) (cu:List AV) (k:Nat) (a:Act) (w:World),DI ops ss F H φ0 w0 d0 bD φ pe cu k a w->KX ss bD k->(∀i,i<ss.length->SS bD i)->Q .normal a w:=λbD φ pe cu k a w D kx nY=>by
  have hk:k=ss.length:=by
   rcases Nat.lt_or_ge k ss.length with h|h
   .obtain⟨s,_,_,hn⟩:=kx h;exact absurd (nY k h) hn
   .have:=D.kn;omega
  subst hk
  have hcu:∀t,cu.getD t .undef=(F ss.length).getD t .undef:=λt=>by
   by_cases hw:∃(j:Nat) (r:aW),ss[j]? =some r/\r.dst=some t
   .obtain⟨j,r,hj,hd⟩:=hw;have G3:j<ss.length:=(List.getElem?_eq_some_iff.1 hj).1;exact D.w1 j r t hj hd (nY j G3) λ_=>G3
   .have jm:∀(j:Nat) (r:aW),ss[j]? =some r->r.dst≠some t:=λj r hj hd=>hw ⟨j,r,hj,hd⟩
    rw[D.w3 t jm];have:=T.gK (d:=t) (i:=0) ss.length (by omega) λj' s' _ _ h3=>jm j' s' h3
    simpa using this.symm
  refine hQ φ a w ⟨?_,λt=>?_⟩ D.hr ?_ D.df
  .rw[D.fr.1,D.Y2,T.len ss.length (Nat.le_refl _)]
  .rw[<-hcu t];exact D.fr.2 t
  .have x:=D.ex;refine⟨x.os,x.tape,x.output,x.size,x.next,x.BK,x.pr,?_,λy hy=>(D.XP y hy).2⟩;funext y;refine propext ⟨λhy=>?_,λhy=>(D.XP y hy).1⟩;rcases D.gh y hy with h|⟨i,s,h1,h2,_⟩
   .exact h
   .have:=(List.getElem?_eq_some_iff.1 h2).1;omega
 have hnl:∀(bD:Array Bool) (i:Nat),bD.size=ss.length->bD.getD i true=false->i<ss.length/\¬SS bD i:=λbD i kU h=>by
  have cR:i<bD.size:=by
   rcases Nat.lt_or_ge i bD.size with h'|h'
   .exact h'
   .simp[Array.getElem?_eq_none h'] at h
  refine⟨by omega,λhS=>?_⟩;unfold SS at hS;simp[cR] at h hS;rw[h] at hS;cases hS
 intro fuel
 induction fuel with
 |zero=>
   intro bD φ pe cu k a w D kx hu;have nY:∀i,i<ss.length->SS bD i:=λi hi=>TH (by omega) hi
   refine⟨?_,ahn bD φ pe cu k a w D kx nY⟩;apply List.eq_nil_iff_forall_not_mem.2;intro i hi;obtain⟨h1,h2⟩:=hnl bD i D.sz (mem_ready.1 hi).1;exact h2 (nY i h1)
 |succ fuel ih=>
   intro bD φ pe cu k a w D kx hu;refine⟨λh0=>ahn bD φ pe cu k a w D kx λi hi=>?_,λi hi=>?_⟩
   .induction i using Nat.strongRecOn with
    |_ i ihi=>
      refine Classical.byContradiction λCn=>?_
      have akz:i<ops.size:=by rw[<-st.len];exact hi
      have hio:ops[i]? =some ops[i]:=Array.getElem?_eq_getElem akz
      have:i∈Region.ready .any ops bD:=by
       rw[mem_ready];refine⟨?_,_,hio,λe he hb=>?_⟩
       .have cR:i<bD.size:=by rw[D.sz];exact hi
        unfold SS at Cn;simp[cR] at Cn|-;exact Cn
       .have:=st.back i _ hio e he hb;exact ihi e.on this (by omega)
      rw[h0] at this;cases this
   .obtain⟨hun,o,ho,aho⟩:=mem_ready.1 hi;obtain⟨EW,Cn⟩:=hnl bD i D.sz hun;have zo:∀e∈o.after,Region.binds .any e=true->SS bD e.on:=aho;obtain⟨s,hs,Qg⟩:=st.comp i o ho;have hd:=Ur Qg;obtain⟨A0,uX,tp,a1,a2⟩:=T.st i s hs;have hrd:=D.reads T st kx ho hs zo Cn;have Fp:∀x∈s.op.pF,x.ev cu=x.ev (F i):=λx hxm=>yK λt ht=>hrd t (List.mem_append_right _ (List.mem_flatMap.2 ⟨x,hxm,ht⟩))
    have LD:unl ss.length (bD.setIfInBounds i true)<=fuel:=by have:=XL EW (by rw[D.sz];exact EW) Cn;omega
    unfold wpOpIn;rw[ho];dsimp only;refine Ve ?_;by_cases he:s.tN=true
    .rcases Nat.lt_trichotomy i k with Z5|Z5|Z5
     .exact absurd (D.lo i s Z5 hs he) Cn
     .subst Z5;obtain⟨v,hF,WS⟩:=s8 hrd tp;obtain⟨r1,r2⟩:=D.hr.alike a1;refine ug hC Qg WS (D.fr.ext r2) r1 ((hG.Tx D).ext r2) λφ' cv w' f1 r3 e1=>?_
      obtain⟨r4,r5⟩:=r3.alike a2;have D1:=D.step T st (k':=i+1) ho hs hd zo Cn (.inr ⟨rfl,rfl⟩) hF (f1.ext r5) r4 ((r2.trans e1).trans r5);obtain⟨φ2,cu2,k2,D2,kx2⟩:=D1.advance T st (ss.length) (by omega);exact ih _ φ2 pe cu2 k2 _ w' D2 kx2 LD
     .have hp:s.mU=true:=by
       obtain⟨q,hq,SI,WO⟩:=kx (by omega);rcases st.ord k i q s Z5 hq hs SI he with h|h
       .exact absurd (mi st D.cl (i+1) i k (by omega) o ho zo h) WO
       .exact h
      obtain⟨cs,vf,hh,hF,hvf,nY⟩:=Ki hp tp;obtain⟨WS,wi⟩:=nY cu (H k) Fp;subst hh;refine ug hC Qg WS D.fr D.hr (hG.Tx D) λφ' cv w' f1 r3 e1=>?_
      have BR:A0.next=(H i).next:=a1.1
      rw[BR] at hF;have D1:=D.early T st ho hs hd zo Cn Z5 hp ((a1.alloc _).trans a2) hF hvf (wi _ _ _ D.fr) f1 r3 e1;refine ih _ _ _ _ k _ w' D1 (λh=>?_) LD;obtain⟨q,hq,SI,WO⟩:=kx h;refine⟨q,hq,SI,λh'=>?_⟩;rcases (z6 (by rw[D.sz];exact EW) k).1 h' with e|e
      .omega
      .exact WO e
    .have he:s.tN=false:=by simpa using he
     obtain⟨v,hF,WS⟩:=s8 hrd tp
     obtain⟨_,akB⟩:=xO (h2:=H k) he WS λn x id off fg hx=>by
      have Ob:x.ev (F i)=.ptr id off:=by rw[<-Fp x (by rw[fg];simp[R5.pF,xJ.pF])];exact hx
      rw[a1.get id];exact D.load T st kx ho hs zo Cn fg Ob
     refine ug hC Qg akB D.fr D.hr (hG.Tx D) λφ' cv w' f1 r3 e1=>?_
     have D1:=D.step T st (k':=k) ho hs hd zo Cn (.inl ⟨rfl,he⟩) hF f1 r3 e1;refine ih _ _ _ _ k _ w' D1 (λh=>?_) LD;obtain⟨q,hq,SI,WO⟩:=kx h;refine⟨q,hq,SI,λh'=>?_⟩;rcases (z6 (by rw[D.sz];exact EW) k).1 h' with e|e
     .subst e;rw[hs] at hq;rw[<-Option.some.inj hq,he] at SI;cases SI
     .exact WO e
theorem Cq(hC:qw P X C)(hm:P.follows .mixedOrders=true)(hs:eV (lH P ops) ops.toList=some ss)(hd:HF ops ss b=true){F:Nat->List AV}{H:Nat->ai}(T:Tr C ss b F H)
 {φ:eL} {w:World} {a:Act} {id:Nat} {Q:Exit->Act->World->Prop} (hf:FR φ (H 0) w (F 0) a.tmps) (hr:HR φ (H 0) w) (hG:jM P X φ (H 0) w)
 (hQ:∀φ' a' w',FR φ' (H ss.length) w' (F ss.length) a'.tmps->HR φ' (H ss.length) w'->Ext φ (H 0) w φ' (H ss.length) w'->a'.defers=a.defers->Q .normal a' w'):(Code.region id ops true).wpIn (FW l0) n0 P Q a w:=by
 have st:=Zm hs hd;obtain⟨r1,x1⟩:=hr.world (w':={w with drawn:=w.drawn+1}) rfl rfl rfl rfl;refine wpIn_region_any hm ?_
 have LK:∀i,¬SS (Array.replicate ops.size false) i:=λi h=>by unfold SS at h;rw[Array.getD_eq_getD_getElem?,Array.getElem?_replicate] at h;split at h<;>cases h
 have D0:DI ops ss F H φ {w with drawn:=w.drawn+1} a.defers (Array.replicate ops.size false) φ (λ_=>default) (F 0) 0 a {w with drawn:=w.drawn+1}:=by
  refine⟨by simp[st.len],λj o _ h=>absurd h (LK j),Nat.zero_le _,λi s h=>by omega,λi s _ _ _ h=>absurd h (LK i),r1,hf.ext x1,.refl _ _ _,rfl,λi s d _ _ h=>absurd h (LK i),λ_ _ _ _ _ _=>rfl,λ_ _=>rfl,
   λi s _ _ _ h=>absurd h (LK i),λi j s r _ _ _ _ _ _ h=>absurd h (LK i),λy hy=>.inl hy,λy hy=>⟨hy,rfl⟩,rfl⟩
 obtain⟨φ1,cu1,k1,D1,kx⟩:=D0.advance T st ss.length (by omega);refine ZN hC (hG.ext x1) T st (λφ' a' w' f1 r2 e1 d1=>hQ φ' a' w' f1 r2 (x1.trans e1) d1) ops.size _ φ1 _ cu1 k1 a _ D1 kx ?_;unfold unl;have:=List.countP_le_length (p:=λi=>!(Array.replicate ops.size false).getD i false) (l:=List.range ss.length);rw[List.length_range,st.len] at this;rw[st.len];exact this
end
section
variable {P:Program}{C:Nat->List AV->ai->Option (AV×ai)}
def Pw(l0:Option Nat)(n0:Nat)(P:Program)(X:World->Prop)(C:Nat->List AV->ai->Option (AV×ai))(n:Nat)(ac:bW)(c:Code):Prop:=
 ∀⦃φ:eL⦄ ⦃h h':ai⦄ ⦃w:World⦄ ⦃fr eD:List AV⦄ ⦃a:Act⦄ ⦃ex:Ex⦄,aH C n ac fr h=some (ex,eD,h')->FR φ h w fr a.tmps->HR φ h w->jM P X φ h w->∀⦃Q:Exit->Act->World->Prop⦄,
   (∀φ' a' w',FR φ' h' w' eD a'.tmps->HR φ' h' w'->Ext φ h w φ' h' w'->a'.defers=a.defers->Q (adV ex) a' w')->c.wpIn (FW l0) n0 P Q a w
theorem KG(BC:pw C){n:Nat}{ac:bW}{c:Code}{live:List Bool}(hb:Pw l0 n0 P X C n ac c){φe:eL}{he:ai}{we:World}(zo:HR φe he we)(hG:jM P X φe he we):
 ∀(m:Nat) {φ:eL} {h h':ai} {w:World} {fr eD:List AV} {a:Act} {ex:Ex},wu (aH C n ac) live he.next m fr h=some (ex,eD,h')->
 FR φ h w fr a.tmps->HR φ h w->Ext φe he we φ h w->CW he h->∀{Q:Exit->Act->World->Prop},
 (∀φ' a' w',FR φ' h' w' eD a'.tmps->HR φ' h' w'->Ext φe he we φ' h' w'->a'.defers=a.defers->Q (adV ex) a' w')->Code.roundsIn (FW l0) n0 P c Q m a w
 |0,φ,h,h',w,fr,eD,a,ex,tp,hf,hr,hx,hc,Q,hQ=>by simp[wu] at tp
 |m+1,φ,h,h',w,fr,eD,a,ex,tp,hf,hr,hx,hc,Q,hQ=>by
   rw[roundsIn_succ];simp only[wu] at tp;obtain⟨φ0,r0,f0,x0⟩:=aau hr (DJ (live:=live) hf) hx zo (hc zo.wf).1;have c0:=VU (fr:=clear live fr) hc;split at tp
   .rename_i xC h1 h2;refine hb h2 f0 r0 (hG.ext x0) λφ1 a1 w1 f1 r1 e1 d1=>?_
    exact KG BC hb zo hG m tp f1 r1 (x0.trans e1) (c0.trans (yx BC h2)) λφ2 a2 w2 f2 r2 e2 d2=>hQ φ2 a2 w2 f2 r2 e2 (d2.trans d1)
   .rename_i fy;refine hb tp f0 r0 (hG.ext x0) λφ1 a1 w1 f1 r1 e1 d1=>?_
    have:=hQ φ1 a1 w1 f1 r1 (x0.trans e1) d1
    cases ex with
    |normal=>exact (fy _ _ tp).elim
    |exit id=>exact this
    |ret=>exact this
theorem iC(hC:qw P X C)(BC:pw C)(hm:P.follows .mixedOrders=true)(n:Nat):∀(c:Code) (ac:bW),dT P c=some ac.strip->Pw l0 n0 P X C n ac c
 |.skip,ac,hc=>by simp only[dT,Option.some.injEq] at hc;cases ac<;>simp[bW.strip] at hc;intro φ h h' w fr eD a ex he hf hr hG Q hQ;simp only[aH,Option.some.injEq,Prod.mk.injEq] at he;obtain⟨rfl,rfl,rfl⟩:=he;exact wpIn_skip (hQ φ a w hf hr (.refl _ _ _) rfl)
 |.exit id,ac,hc=>by simp only[dT,Option.some.injEq] at hc;cases ac<;>simp[bW.strip] at hc;subst hc;intro φ h h' w fr eD a ex he hf hr hG Q hQ;simp only[aH,Option.some.injEq,Prod.mk.injEq] at he;obtain⟨rfl,rfl,rfl⟩:=he;exact wpIn_exit (hQ φ a w (DJ hf) hr (.refl _ _ _) rfl)
 |.ret,ac,hc=>by simp only[dT,Option.some.injEq] at hc;cases ac<;>simp[bW.strip] at hc;intro φ h h' w fr eD a ex he hf hr hG Q hQ;simp only[aH,Option.some.injEq,Prod.mk.injEq] at he;obtain⟨rfl,rfl,rfl⟩:=he;exact wpIn_ret (hQ φ a w (DJ hf) hr (.refl _ _ _) rfl)
 |.region id ops draw,ac,hc=>by
   simp only[dT] at hc;split at hc
   .rename_i as1 has;split at hc
    .rename_i hd;subst hd;split at hc
     .rename_i bV;simp only[Option.some.injEq] at hc;intro φ h h' w fr eD a ex he hf hr hG Q hQ;unfold Vs at hc;split at hc
      .rename_i hp;cases ac<;>simp[bW.strip] at hc;subst hc;simp only[aH,Option.map_eq_some_iff] at he;obtain⟨⟨xC,h1⟩,he,e⟩:=he;cases e;obtain⟨F,H,rfl,rfl,rfl,rfl,wm⟩:=GW he;exact Cq hC hm has bV (Tr.of_steps wm hp) hf hr hG hQ
      .cases ac<;>simp[bW.strip] at hc;obtain⟨rfl,rfl⟩:=hc;simp only[aH] at he;split at he
       .rename_i xC h1 tr htr;split at he
        .rename_i akC;cases he;obtain⟨F,H,rfl,rfl,rfl,rfl,wm⟩:=Td htr;exact Cq hC hm has bV (Tr.ags BC wm hr.wf akC) hf hr hG hQ
        .cases he
       .cases he
     .simp only[Option.some.injEq] at hc;intro φ h h' w fr eD a ex he;exact (pg hc he).elim
    .rename_i hd;have hd':draw=false:=by simpa using hd
     subst hd';simp only[Option.some.injEq] at hc;cases ac<;>simp[bW.strip] at hc;subst hc;intro φ h h' w fr eD a ex he hf hr hG Q hQ;simp only[aH,Option.map_eq_some_iff] at he;obtain⟨⟨xC,h1⟩,he,e⟩:=he;cases e;exact wpIn_region_list (FF hC has he hf hr hG hQ)
   .simp only[Option.some.injEq] at hc;intro φ h h' w fr eD a ex he;exact (pg hc he).elim
 |.seq x y,ac,hc=>by
   simp only[dT] at hc;split at hc
   .rename_i x' y' hx hy;simp only[Option.some.injEq] at hc;cases ac<;>simp[bW.strip] at hc;rename_i p q;obtain⟨rfl,rfl⟩:=hc;have ihx:=iC hC BC hm n x p hx;have ihy:=iC hC BC hm n y q hy;intro φ h h' w fr eD a ex he hf hr hG Q hQ;refine wpIn_seq ?_;simp only[aH] at he;split at he
    .rename_i xC h1 h2;refine ihx h2 hf hr hG λφ1 a1 w1 f1 r1 e1 d1=>?_
     exact ihy he f1 r1 (hG.ext e1) λφ2 a2 w2 f2 r2 e2 d2=>hQ φ2 a2 w2 f2 r2 (e1.trans e2) (d2.trans d1)
    .rename_i fy;refine ihx he hf hr hG λφ1 a1 w1 f1 r1 e1 d1=>?_
     have:=hQ φ1 a1 w1 f1 r1 e1 d1
     cases ex with
     |normal=>exact (fy _ _ he).elim
     |exit id=>exact this
     |ret=>exact this
   .cases hc
 |.cond c x y,ac,hc=>by
   simp only[dT] at hc;split at hc
   .rename_i c' x' y' h1 hx hy;simp only[Option.some.injEq] at hc;cases ac<;>simp[bW.strip] at hc;rename_i c2 p q;obtain⟨rfl,rfl,rfl⟩:=hc;have ihx:=iC hC BC hm n x p hx;have ihy:=iC hC BC hm n y q hy;intro φ h h' w fr eD a ex he hf hr hG Q hQ;simp only[aH] at he;split at he
    .rename_i t ht;have g:=di h1 hf;rw[ht] at g;refine wpIn_cond g.jd ?_
     cases t with
     |true=>simp only[if_true] at he|-;exact ihx he hf hr hG hQ
     |false=>simp only[Bool.false_eq_true,if_false] at he|-;exact ihy he hf hr hG hQ
    .cases he
   .cases hc
 |.block id x,ac,hc=>by
   simp only[dT,Option.map_eq_some_iff] at hc;obtain⟨x',hx,hc⟩:=hc;cases ac<;>simp[bW.strip] at hc;rename_i WE p;obtain⟨rfl,rfl⟩:=hc;have ihx:=iC hC BC hm n x p hx;intro φ h h' w fr eD a ex he hf hr hG Q hQ;refine wpIn_block ?_;simp only[aH] at he;split at he
   .rename_i i xC h1 h2;cases he;refine ihx h2 hf hr hG λφ1 a1 w1 f1 r1 e1 d1=>?_
    have:=hQ φ1 a1 w1 f1 r1 e1 d1;show Exit.inBlock id Q (.exit i) a1 w1;unfold Exit.inBlock;dsimp only;by_cases hi:i=id
    .rw[if_pos hi] at this|-;exact this
    .rw[if_neg hi] at this|-;exact this
   .rename_i fy;refine ihx he hf hr hG λφ1 a1 w1 f1 r1 e1 d1=>?_
    have:=hQ φ1 a1 w1 f1 r1 e1 d1
    cases ex with
    |normal=>exact this
    |exit i=>exact (fy _ _ _ he).elim
    |ret=>exact this
 |.loop x,ac,hc=>by
   simp only[dT,Option.map_eq_some_iff] at hc;obtain⟨x',hx,hc⟩:=hc;cases ac<;>simp[bW.strip] at hc;rename_i live p;subst hc;have ihx:=iC hC BC hm n x p hx;intro φ h h' w fr eD a ex he hf hr hG Q hQ;simp only[aH] at he;obtain⟨⟨ex1,xC,h1⟩,h2,e⟩:=Option.map_eq_some_iff.1 he;cases e;obtain⟨s1,s2⟩:=hr.yN h.next h.md
   have hcw:=Ip (he:={h with wl:=h.next}) (λfr h ex eD h' he=>yx BC he) h2 (.refl _);refine wpIn_loop_rounds n (KG BC ihx (he:={h with wl:=h.next}) s1 (hG.ext s2) n h2 (hf.ext s2) s1 (.refl _ _ _) (.refl _) λφ1 a1 w1 f1 r1 e1 d1=>?_);obtain⟨φ2,r2,f2,e2⟩:=aau r1 f1 e1 s1 (hcw s1.wf).1;obtain⟨t1,t2⟩:=r2.yN (min h.wl (gc h.next xC h1).2.wl) (gc h.next xC h1).2.md;exact hQ φ2 a1 w1 (f2.ext t2) t1 ((s2.trans e2).trans t2) d1
 |.rangeFunc ..,ac,hc=>by simp only[dT,Option.some.injEq] at hc;intro φ h h' w fr eD a ex he;exact (pg hc he).elim
 |.scope ..,ac,hc=>by simp only[dT,Option.some.injEq] at hc;intro φ h h' w fr eD a ex he;exact (pg hc he).elim
 |.label ..,ac,hc=>by simp only[dT,Option.some.injEq] at hc;intro φ h h' w fr eD a ex he;exact (pg hc he).elim
 |.goto ..,ac,hc=>by simp only[dT,Option.some.injEq] at hc;intro φ h h' w fr eD a ex he;exact (pg hc he).elim
 |.refuse ..,ac,hc=>by simp only[dT,Option.some.injEq] at hc;intro φ h h' w fr eD a ex he;exact (pg hc he).elim
theorem T7(hC:qw P X C)(BC:pw C)(hm:P.follows .mixedOrders=true)(n:Nat)(c:Code)(ac:bW)(h:dT P c=some ac.strip):abf P X C n ac c:=λ_ _ _ _ _ _ _ _ he hf hr hG _ hQ=>wpIn_wide.1 (iC (l0:=none) (n0:=0) hC BC hm n c ac h he hf hr hG hQ)
end
end
section
variable {X:World->Prop}
def cD(P:Program)(f:Nat)(F:cn):Prop:=∃fn c,P.funcs[f]? =some fn/\(fn.name== "runtime.NumGoroutine")=false/\fn.body=some c/\fn.ntmps=F.ntmps/\dT P c=some F.code.strip/\eV (vw P) fn.results.toList=some F.results
theorem cD.of{P:Program}{f:Nat}{F:cn}{fn:Func}{c:Code}(h:P.funcs[f]? =some fn)(hb:fn.body=some c)(e:(fn.name== "runtime.NumGoroutine",fn.ntmps,dT P c,eV (vw P) fn.results.toList)=(false,F.ntmps,some F.code.strip,some F.results)):cD P f F:=by simp only[Prod.mk.injEq] at e;exact⟨fn,c,h,e.1,hb,e.2.1,e.2.2.1,e.2.2.2⟩
def acY(w w':World):Prop:=∀b,b<w.heap.size->w'.heap[b]? =w.heap[b]?
def uP(φ:eL)(h:ai)(w:World)(v:AV)(cv:Value)(w':World):Prop:=fI φ h w' v cv/\HR φ h w'/\Ext φ h w φ h w'/\acY w w'
def jA(P:Program)(X:World->Prop)(f:Nat)(args:List AV)(v:AV):Prop:=∀φ h w bu,HR φ h w->jM P X φ h w->mo φ h w args bu->
    ((callFunc f bu).run P w=.ok (.enter f bu) w/\Calls P f bu w λe w'=>∃cv,e=.returned cv/\uP φ h w v cv w')\/
    ∃cv w',(callFunc f bu).run P w=.ok (.value cv) w'/\uP φ h w v cv w'
abbrev SY(P:Program)(f:Nat)(args:List AV)(v:AV):Prop:=jA P (λ_=>True) f args v
def dA(P:Program)(X:World->Prop)(f:Nat)(args:List AV)(os:List bp)(v:AV)(r:Option (List bp)):Prop:=
 ∀φ h w τ bu,HR φ h w->jM P X φ h w->Fi h (λi=>τ.getD i 0) os->τ.length=os.length->(∀o∈os,∀_:o=.dead,False)->mo φ h w (args.map (sig λi=>τ.getD i 0)) bu->
   ((callFunc f bu).run P w=.ok (.enter f bu) w/\Calls P f bu w (ly φ h w v (nf h τ r)))\/
   ∃cv w' φ',(callFunc f bu).run P w=.ok (.value cv) w'/\fI φ' (nf h τ r) w' v cv/\HR φ' (nf h τ r) w'/\Ext φ h w φ' (nf h τ r) w'
structure cT(P:Program)(X:World->Prop)(E:Env):Prop where
 mixed:P.follows .mixedOrders=true
 fn:∀f F,E.fn f=some F->cD P f F
 E3:∀f args v,E.E3 f args=some v->jA P X f args v
 HJ:∀f args os v r,E.HJ f args os=some (v,r)->dA P X f args os v r
theorem Hj{φ:eL}{h:ai}{w w':World}(hr:HR φ h w)(ho:w'.os=w.os)(ht:w'.tape=w.tape)(hu:w'.output=w.output)(hs:w.heap.size<=w'.heap.size)(tG:acY w w'):HR φ h w'/\Ext φ h w φ h w':=by
 have x:Ext φ h w φ h w':=⟨ho,ht,hu,hs,Nat.le_refl _,λ_ _=>rfl,λb hb=>⟨⟨Nat.lt_of_lt_of_le hb.1 hs,hb.2⟩,tG b hb.1⟩,rfl,λb hb=>tG b (hr.gh b hb).1⟩
 exact⟨⟨hr.wf,λi cs hi=>(hr.rows i cs hi).ext x (ai.eK hi) (tG _ (hr.gJ ⟨_,hi,λe=>by cases e⟩)),
  λi es hi=>(hr.maps i es hi).ext x (ai.eK hi) (tG _ (hr.gJ ⟨_,hi,λe=>by cases e⟩)),hr.inj,λb hb=>⟨Nat.lt_of_lt_of_le (hr.gh b hb).1 hs,(hr.gh b hb).2⟩⟩,x⟩
theorem Da{φ φ':eL}{nx N9:Nat}{pr zn:Nat->Prop}{w w':World}{v:AV}{cv:Value}(hs:tF v=true)(h:RV φ nx pr w v cv):RV φ' N9 zn w' v cv:=by
 cases h<;>first|cases hs|skip
 .exact .bool _
 .exact .int _ _
 .exact .str _
 .exact .mV
 .exact .aJ _
 .exact .om
 .exact .jv
 .exact .mR
theorem Zv{φ φ':eL}{nx N9:Nat}{pr zn:Nat->Prop}{w w':World}{v:AV}{cv:Value}(hs:re v=true)(h:RV φ nx pr w v cv):RV φ' N9 zn w' v cv:=by
 cases v with
 |tuple vs=>obtain⟨fu,rfl,h1,h2⟩:=h.vI;exact .tuple _ _ h1 λj hj=>Da (List.all_eq_true.1 hs _ (List.getElem_mem hj)) (h2 j hj)
 |agg vs=>obtain⟨fu,rfl,h1,h2,h3⟩:=h.pL;exact .agg _ _ h1 h2 λj hj=>Da (List.all_eq_true.1 hs _ (List.getElem_mem hj)) (h3 j hj)
 |_=>exact Da hs h
theorem Ym(eS:List Nat):∀h:ai,CL h (kill h eS):=by
 induction eS with
 |nil=>exact λh=>.refl _
 |cons i r ih=>exact λh=>(CL.kill h i).trans (ih _)
section
variable {P:Program}{φ:eL}{h:ai}{w:World}
def J6(tm:Array Value):ResultVar->Sem Value
 |.tmp t=>Pure.pure (tm.getD t undef)
 |.cell a t=>do loadVar t (<-asAddr (tm.getD a undef))
theorem xw(fn:Func)(tm:Array Value):results fn tm=(fn.results.mapM (J6 tm) >>=λvs=>Pure.pure (if h:vs.size=1 then vs[0] else .tuple vs)):=by unfold results;congr 1
theorem MG{fr:List AV}{tm:Array Value}(hf:FR φ h w fr tm)(hr:HR φ h w):∀(rs:List ResultVar) (rs':List KE) (vs:List AV),eV (vw P) rs=some rs'->jj fr h rs'=some vs->
 ∃fu:List Value,(rs.mapM (J6 tm)).run P w=.ok fu w/\fu.length=vs.length/\∀j (h1:j<vs.length) (h2:j<fu.length),fI φ h w vs[j] fu[j]
 |[],rs',vs,hc,he=>by simp only[eV,Option.some.injEq] at hc;subst hc;simp only[jj,Option.some.injEq] at he;subst he;exact⟨[],by simp,rfl,λj h1=>by simp at h1⟩
 |r::rs,rs',vs,hc,he=>by
   unfold eV at hc;split at hc
   .rename_i r' akF h1 h2;cases hc;simp only[jj] at he;split at he
    .rename_i v vs' h3 h4;cases he;obtain⟨fu,g1,g2,g3⟩:=MG hf hr rs akF vs' h2 h4
     have key:∃cv,(J6 tm r).run P w=.ok cv w/\fI φ h w v cv:=by
      cases r with
      |tmp t=>simp only[vw,Option.some.injEq] at h1;subst h1;simp only[wa,Option.some.injEq] at h3;subst h3;exact⟨_,by simp[J6],hf.2 t⟩
      |cell a t=>simp only[vw,Option.map_eq_some_iff] at h1;obtain⟨n,hn,rfl⟩:=h1;simp only[wa] at h3;obtain⟨ad,cv,e1,e2,e3⟩:=S5 hn (hf.2 a) hr h3;exact⟨cv,by simp[J6,e1,asAddr,e2],e3⟩
     obtain⟨cv,k1,k2⟩:=key;refine⟨cv::fu,?_,by simp[g2],λj j1 j2=>?_⟩
     .rw[List.mapM_cons];simp only[Sem.run_bind,k1,Result.andThen_ok,g1,Sem.run_pure]
     .cases j with
      |zero=>exact k2
      |succ j=>exact g3 j (Nat.lt_of_succ_lt_succ j1) (Nat.lt_of_succ_lt_succ j2)
    .cases he
   .cases hc
end
theorem Gw{h0 h:ai}(jn:CL {h0 with wl:=h0.next,md:=h0.next} h){gK:Bool}{v:AV}:CL h0 (finish gK h0 v h).2:=by
 have plain:CL h0 {h with wl:=min h0.wl h.wl,md:=min h0.md h.md}:=⟨jn.next,Nat.min_le_left _ _,λn hn hw k id cG=>by have:=jn.le n hn (by dsimp only at hw;omega) (λi hi=>k i hi) id cG;exact this,Nat.min_le_left _ _,λid h1 h2=>jn.same id (by dsimp only at h1;omega) h2⟩
 unfold finish
 cases gK with
 |true=>simpa using plain
 |false=>
   simp only[Bool.false_eq_true,if_false];split
   .exact plain
   .rename_i v' eS WG;split
    .rename_i hc;have BR:min h.next h0.next=h0.next:=Nat.min_eq_right jn.next
     refine⟨?_,Nat.le_refl _,λn hn hw k id cG=>?_,?_,λid h1 h2=>?_⟩
     .show h0.next<=min h.next h0.next
      omega
     .have hn':n<=h0.next:=hn
      have:=jn.le n hn (by omega) (λi hi=>k i hi) id cG;unfold pK at this|-;have e:({h.kz h0.next with wl:=h0.wl,md:=(if h.md<h0.next then min h0.md h.md else h0.md)}:ai).get id=h.get id:=ai.rj (by omega);rw[e];exact this
     .dsimp only;split<;>omega
     .have e:({h.kz h0.next with wl:=h0.wl,md:=(if h.md<h0.next then min h0.md h.md else h0.md)}:ai).get id=h.get id:=ai.rj h2;rw[e];refine jn.same id ?_ h2;dsimp only at h1;split at h1<;>omega
    .have hnk:∀(eS:List Nat) (h:ai),(kill h eS).wl=h.wl/\CL h (kill h eS):=by
      intro eS
      induction eS with
      |nil=>exact λh=>⟨rfl,.refl _⟩
      |cons i r ih=>intro h;obtain⟨a1,a2⟩:=ih (h.set i .dead);exact⟨by simp only[kill];rw[a1];simp,(CL.kill h i).trans a2⟩
     have hko:∀(eS:List Nat) (h:ai) (i:Nat),i∉eS->(kill h eS).get i=h.get i:=by
      intro eS
      induction eS with
      |nil=>exact λh i _=>rfl
      |cons j r ih=>intro h i hi;simp only[List.mem_cons,not_or] at hi;simp only[kill];rw[ih _ i hi.2,ai.get_set_other (Ne.symm hi.1)]
     obtain⟨n1,n2⟩:=hnk eS h;have Oe:=jn.trans n2;refine⟨Oe.next,Nat.min_le_left _ _,λn hn hw k id cG=>?_,Nat.min_le_left _ _,λid h1 h2=>?_⟩
     .have:=Oe.le n hn (by rw[n1];dsimp only at hw;omega) (λi hi=>k i hi) id cG;exact this
     .have tq:=vJ 8 v v' eS WG;have e:(kill h eS).get id=h.get id:=hko eS h id λhm=>by have:=(tq id hm).1;omega
      show (kill h eS).get id=h0.get id;rw[e];exact jn.same id (by dsimp only at h1;omega) h2
theorem Iu:∀(eS:List Nat) {h:ai},h.wf->(kill h eS).wf
 |[],_,hw=>hw
 |i::r,_,hw=>Iu r (ai.wf_set i .dead hw)
theorem Gs{h0 h:ai}{gK:Bool}{v:AV}(hw:h.wf):(finish gK h0 v h).2.wf:=by
 unfold finish
 cases gK with
 |true=>exact hw
 |false=>
   simp only[Bool.false_eq_true,if_false];split
   .exact hw
   .split
    .exact ai.Jd _ hw
    .exact Iu _ hw
theorem uB:∀{τ:List Nat} {id:Nat},o5 τ id=true↔id∈τ
 |[],id=>by simp[o5]
 |k::r,id=>by
   unfold o5;by_cases e:k=id
   .rw[if_pos e];simp[e]
   .rw[if_neg e,uB];simp[Ne.symm e]
theorem BZ:∀{τ:List Nat} {id:Nat},id∈τ->wJ τ id<τ.length/\τ.getD (wJ τ id) 0=id
 |k::r,id,h=>by
   unfold wJ;by_cases e:k=id
   .rw[if_pos e];simp[e]
   .rw[if_neg e]
    have h':id∈r:=by
     rcases List.mem_cons.1 h with h|h
     .exact absurd h.symm e
     .exact h
    obtain⟨a,b⟩:=BZ h';exact⟨by simp;omega,by simpa[List.getD] using b⟩
theorem vU:∀(cs:List AV) (aB:List Nat),aB.Nodup->(fJ cs aB).Nodup/\∃r,fJ cs aB=aB++r
 |[],aB,h=>⟨h,[],by simp[fJ]⟩
 |v::cs,aB,h=>by
   unfold fJ
   cases hv:v.top with
   |none=>exact vU cs aB h
   |some j=>
     dsimp only;split
     .exact vU cs aB h
     .rename_i hn;have hj:j∉aB:=λhm=>hn (uB.2 hm)
      have h2:(aB++[j]).Nodup:=by rw[List.nodup_append];refine⟨h,by simp,λa ha b hb e=>?_⟩;simp at hb;exact hj (hb▸e▸ha)
      obtain⟨a,r,e⟩:=vU cs (aB++[j]) h2;exact⟨a,j::r,by rw[e];simp⟩
theorem vN{τ:List Nat}{v:AV}(h:okV τ v=true):sig (λi=>τ.getD i 0) (sig (wJ τ) v)=v/\qu τ.length (sig (wJ τ) v)=true:=by
 unfold okV at h
 cases v with
 |ptr id off=>obtain⟨a,b⟩:=BZ (uB.1 h);exact⟨by simp only[sig,b],by simpa[sig,qu] using a⟩
 |vec id off len sz lb=>obtain⟨a,b⟩:=BZ (uB.1 h);exact⟨by simp only[sig,b],by simpa[sig,qu] using a⟩
 |map id=>obtain⟨a,b⟩:=BZ (uB.1 h);exact⟨by simp only[sig,b],by simpa[sig,qu] using a⟩
 |_=>exact⟨rfl,h⟩
theorem OR{τ:List Nat}{o:bp}(h:okO τ o=true):gB (λi=>τ.getD i 0) (gB (wJ τ) o)=o/\BN τ.length (gB (wJ τ) o)=true/\∀_:gB (wJ τ) o=.dead,False:=by
 cases o with
 |dead=>cases h
 |row cs=>
   have hc:∀v∈cs,okV τ v=true:=List.all_eq_true.1 h;refine⟨?_,?_,λe=>by cases e⟩
   .simp only[gB,List.map_map];congr 1;conv=>rhs;rw[<-List.map_id cs]
    exact List.map_congr_left λv hv=>(vN (hc v hv)).1
   .simp only[gB,BN,List.all_map];exact List.all_eq_true.2 λv hv=>(vN (hc v hv)).2
 |map es=>
   have hc:∀e∈es,(okV τ e.1&&okV τ e.2)=true:=List.all_eq_true.1 h;refine⟨?_,?_,λe=>by cases e⟩
   .simp only[gB,List.map_map];congr 1;conv=>rhs;rw[<-List.map_id es]
    refine List.map_congr_left λe he=>?_
    have:=hc e he;rw[Bool.and_eq_true] at this;show (sig _ (sig _ e.1),sig _ (sig _ e.2))=e;rw[(vN this.1).1,(vN this.2).1]
   .simp only[gB,BN,List.all_map];refine List.all_eq_true.2 λe he=>?_
    have:=hc e he;rw[Bool.and_eq_true] at this;show (qu _ (sig _ e.1)&&qu _ (sig _ e.2))=true;rw[(vN this.1).2,(vN this.2).2];rfl
theorem Ep{h:ai}{τ:List Nat}:∀{ks:List Nat} {os:List bp},tD h τ ks=some os->os.length=ks.length/\∀(i:Nat) (o:bp),os[i]? =some o->∃id o0,ks[i]? =some id/\h.get id=some o0/\okO τ o0=true/\o=gB (wJ τ) o0
 |[],os,h1=>by simp only[tD,Option.some.injEq] at h1;subst h1;exact⟨rfl,λi o ho=>by simp at ho⟩
 |k::ks,os,h1=>by
   simp only[tD] at h1;split at h1
   .rename_i o0 os0 h2 h3;split at h1
    .rename_i bV;cases h1;obtain⟨a,b⟩:=Ep h3;refine⟨by simp[a],λi o ho=>?_⟩
     cases i with
     |zero=>simp only[List.getElem?_cons_zero,Option.some.injEq] at ho;exact⟨k,o0,rfl,h2,bV,ho.symm⟩
     |succ i=>exact b i o (by simpa using ho)
    .cases h1
   .cases h1
theorem GV{g:Nat->Nat}{v:AV}(h:v.aK=0):sig g v=v:=by
 cases v with
 |ptr id off=>simp[AV.aK] at h
 |vec id off len sz lb=>simp[AV.aK] at h
 |map id=>simp[AV.aK] at h
 |_=>rfl
theorem ZB(h:ai)(k:Nat)(o:bp):CL h (zQ h k o):=by
 refine⟨by rw[Gp];exact Nat.le_refl _,?_,λn hn hw hk id cG=>?_,ai.AK h k o,λid h1 _=>ai.wQ h k o id h1⟩
 .show (if o.aK<=k+1 then h.wl else min h.wl k)<=h.wl;split
  .exact Nat.le_refl _
  .exact Nat.min_le_left _ _
 .have Z0:n<=(if o.aK<=k+1 then h.wl else min h.wl k):=hw;by_cases e:id=k
  .subst e
   have hr:o.aK<=id+1:=by
    by_cases hc:o.aK<=id+1
    .exact hc
    .rw[if_neg hc] at Z0;have:=Nat.le_trans Z0 (Nat.min_le_right _ _);omega
   cases hg:h.get id with
   |none=>
     have:(zQ h id o).get id=none:=by
      show (h.set id o).get id=none;unfold ai.set;split
      .rename_i cR;unfold ai.get at hg|-;simp only[cR,if_true] at hg|-;rw[List.getElem?_eq_none_iff] at hg;exact List.getElem?_eq_none (by simpa using hg)
      .exact hg
     unfold pK;rw[this];exact⟨λ_ e=>(by cases e),λ_ e=>(by cases e)⟩
   |some o'=>
     unfold pK;rw[FA h id o hg];refine⟨λcs e=>?_,λes e p hp=>?_⟩
     .cases e;have:AV.aw cs<=id+1:=hr;omega
     .cases e;have h3:AV.aw (es.flatMap λe=>[e.1,e.2])<=id+1:=hr;have m1:p.1∈es.flatMap λe=>[e.1,e.2]:=List.mem_flatMap.2 ⟨p,hp,by simp⟩
      have m2:p.2∈es.flatMap λe=>[e.1,e.2]:=List.mem_flatMap.2 ⟨p,hp,by simp⟩
      have:=AV.dk m1;have:=AV.dk m2;omega
  .have:=hk id cG;unfold pK at this|-;rw[xi h k o e];exact this
theorem Ow(g:Nat->Nat):∀(ks:List Nat) (os:List bp) (h:ai),CL h (pB g ks os h)
 |[],_,h=>by unfold pB;exact .refl _
 |k::ks,[],h=>by unfold pB;exact .refl _
 |k::ks,o::os,h=>(ZB h k (gB g o)).trans (Ow g ks os _)
theorem OH(g:Nat->Nat):∀(os:List bp) (h:ai),CL h (xK g os h)
 |[],h=>.refl _
 |o::os,h=>(CL.alloc h (gB g o)).trans (OH g os _)
theorem Vw(h:ai)(τ:List Nat):∀r,CL h (nf h τ r)
 |none=>.refl _
 |some ng=>(Ow _ _ _ h).trans (OH _ _ _)
theorem V6{h:ai}(hw:h.wf)(τ:List Nat):∀r,(nf h τ r).wf
 |none=>hw
 |some ng=>O8 hw
theorem F0{M:List AV->List bp->Option (AV×Option (List bp))}{args:List AV}{h h':ai}{v:AV}(he:pf M args h=some (v,h')):
 ∃k rest cs os r,args=.ptr k 0::rest/\h.get k=some (.row cs)/\tD h (fJ cs [k]) (fJ cs [k])=some os/\AV.aw rest=0/\M (.ptr 0 0::rest) os=some (v,r)/\h'=nf h (fJ cs [k]) r:=by
 unfold pf at he;split at he
 .rename_i k rest;split at he
  .rename_i cs hg;split at he
   .rename_i os hs;split at he
    .rename_i hr;obtain⟨⟨v',r⟩,h1,e⟩:=Option.map_eq_some_iff.1 he;cases e;exact⟨k,rest,cs,os,r,rfl,hg,hs,hr,h1,rfl⟩
    .cases he
   .cases he
  .cases he
 .cases he
theorem Wm{P:Program}{E:Env}(hE:cT P X E){f:Nat}{args:List AV}{h h':ai}{v:AV}(he:pf (E.HJ f) args h=some (v,h')){φ:eL}{w:World}{bu:Array Value}(hr:HR φ h w)(hG:jM P X φ h w)
 (ha:mo φ h w args bu):((callFunc f bu).run P w=.ok (.enter f bu) w/\Calls P f bu w (ly φ h w v h'))\/
  ∃cv w' φ',(callFunc f bu).run P w=.ok (.value cv) w'/\fI φ' h' w' v cv/\HR φ' h' w'/\Ext φ h w φ' h' w':=by
 obtain⟨k,rest,cs,os,r,rfl,hg,hs,WK,hm,rfl⟩:=F0 he;obtain⟨hn,q,hq⟩:=vU cs [k] (by simp);obtain⟨hl,hso⟩:=Ep hs;have SP:∀i,i<(fJ cs [k]).length->∀id,(fJ cs [k])[i]? =some id->(fJ cs [k]).getD i 0=id:=λi hi id cG=>by simp[List.getD,cG]
 refine hE.HJ f _ os v r hm φ h w (fJ cs [k]) bu hr hG ⟨λi o ho jm=>?_,λi j o o' ho G5 _ _ e=>?_⟩ hl.symm (λo ho e=>?_) ?_
 .obtain⟨id,o0,a1,a2,a3,rfl⟩:=hso i o ho;obtain⟨b1,b2,_⟩:=OR a3;refine⟨?_,by rw[hl];exact b2⟩;show h.get ((fJ cs [k]).getD i 0)=_;rw[SP i (List.getElem?_eq_some_iff.1 a1).1 id a1,b1];exact a2
 .have hi:i<(fJ cs [k]).length:=by have:=(List.getElem?_eq_some_iff.1 ho).1;omega
  have hj:j<(fJ cs [k]).length:=by have:=(List.getElem?_eq_some_iff.1 G5).1;omega
  have e':(fJ cs [k])[i]=(fJ cs [k])[j]:=by have e:(fJ cs [k]).getD i 0=(fJ cs [k]).getD j 0:=e;simpa[List.getD,hi,hj] using e
  exact (List.getElem_inj hn).1 e'
 .obtain⟨i,hi,rfl⟩:=List.getElem_of_mem ho;obtain⟨id,o0,a1,a2,a3,a4⟩:=hso i _ (List.getElem?_eq_getElem hi);rw[a4] at e;exact (OR a3).2.2 e
 .have e0:(AV.ptr 0 0::rest).map (sig λi=>(fJ cs [k]).getD i 0)=.ptr k 0::rest:=by
   rw[List.map_cons]
   have h1:sig (λi=>(fJ cs [k]).getD i 0) (.ptr 0 0)=.ptr k 0:=by show AV.ptr ((fJ cs [k]).getD 0 0) 0=_;rw[hq];rfl
   have h2:rest.map (sig λi=>(fJ cs [k]).getD i 0)=rest:=by
    conv=>rhs;rw[<-List.map_id rest]
    exact List.map_congr_left λv hv=>GV (by have:=AV.dk hv;omega)
   rw[h1,h2]
  rw[e0];exact ha
theorem yk{P:Program}{E:Env}(hE:cT P X E):∀n,qw P X (aF E n)/\pw (aF E n)
 |0=>⟨λf args h v h' he=>by simp[aF] at he,λf args h v h' he=>by simp[aF] at he⟩
 |n+1=>by
   obtain⟨ih1,ih2⟩:=yk hE n
   have both:∀f args h v h',aF E (n+1) f args h=some (v,h')->(∀φ w bu,HR φ h w->jM P X φ h w->mo φ h w args bu->
    ((callFunc f bu).run P w=.ok (.enter f bu) w/\Calls P f bu w (ly φ h w v h'))\/
    ∃cv w' φ',(callFunc f bu).run P w=.ok (.value cv) w'/\fI φ' h' w' v cv/\HR φ' h' w'/\Ext φ h w φ' h' w'):=by
    intro f args h v h' he φ w bu hr hG ha;simp only[aF] at he;split at he
    .rename_i r hp;cases he;obtain⟨⟨rE,eS⟩,h1,h2⟩:=Option.bind_eq_some_iff.1 hp;obtain⟨v,hpv,e⟩:=Option.map_eq_some_iff.1 h2;simp only[Prod.mk.injEq] at e;obtain⟨rfl,rfl⟩:=e;obtain⟨k1,k2⟩:=PT eS hr;have tq:∀id∈eS,live h id:=λid cG=>(uT (p:=λid=>0<=id/\live h id) (λv v' eS he=>vJ 8 v v' eS he) args rE eS h1 id cG).2
     have hnk:(kill h eS).next=h.next:=by
      have:∀(eS:List Nat) (h:ai),(kill h eS).next=h.next:=by
       intro eS
       induction eS with
       |nil=>exact λh=>rfl
       |cons i r ih=>intro h;simp only[kill];rw[ih];simp
      exact this eS h
     obtain⟨q1,q2⟩:=yZ (φ:=φ) (nx:=h.next) (pr:=Pr φ h w) (zn:=Pr φ (kill h eS) w) (w:=w) (λv cv v' Og he hv hi=>Ij hr (n0:=0) (zn:=Pr φ (kill h eS) w) (λb hb=>(k2.pr b hb).1) 8 v cv v' Og he hv hi) args rE eS (λj=>bu.getD j default) h1 ha.2
      λid cG=>Pr.Ht (hr.gJ (tq id cG)) (λi hi e=>(by rw[hr.inj i id hi (tq id cG) e];exact cG)) λhg=>(hr.gh _ hg).2 id (tq id cG) rfl
     have ha':mo φ (kill h eS) w rE bu:=⟨ha.1.trans q1.symm,λj hj=>(q2 j hj).mono (λid _ cG=>⟨rfl,by rw[hnk];exact cG⟩) λb hb=>⟨hb,rfl⟩⟩
     have fin:∀cv w',uP φ (kill h eS) w v cv w'->fI φ (if re v then h else kill h eS) w' v cv/\HR φ (if re v then h else kill h eS) w'/\Ext φ h w φ (if re v then h else kill h eS) w':=λcv w' ⟨g1,g2,g3,g4⟩=>by
      by_cases hs:re v=true
      .obtain⟨s1,s2⟩:=Hj hr g3.os g3.tape g3.output g3.size g4;rw[if_pos hs];exact⟨Zv hs g1,s1,s2⟩
      .rw[if_neg hs];exact⟨g1,g2,k2.trans g3⟩
     rcases hE.E3 f rE v hpv φ (kill h eS) w bu k1 (hG.ext k2) ha' with⟨e1,e2⟩|⟨cv,w',e1,e2⟩
     .exact .inl ⟨e1,e2.mono λe w' ⟨cv,he,hp⟩=>⟨φ,cv,he,fin cv w' hp⟩⟩
     .exact .inr ⟨cv,w',φ,e1,fin cv w' e2⟩
    .split at he
     .rename_i r hm;cases he;exact Wm hE hm hr hG ha
     split at he
     .cases he
     .rename_i F hF;obtain⟨fn,c,EZ,zg,uZ,hnt,ahq,ES⟩:=hE.fn f F hF;left
      have LJ:(callFunc f bu).run P w=.ok (.enter f bu) w:=by
       have fy:¬fn.name= "runtime.NumGoroutine" :=by simpa using zg
       simp[callFunc,EZ,fy,uZ]
      refine⟨LJ,?_⟩
      have aeg:∃ex fr hh vs,aH (aF E n) n F.code (args++List.replicate (F.ntmps-args.length) .undef) {h with wl:=h.next,md:=h.next}=some (ex,fr,hh)/\(ex=.normal\/ex=.ret)/\jj fr hh F.results=some vs/\
       (v,h')=finish F.gK h (oneOf vs) hh:=by
       cases tp:aH (aF E n) n F.code (args++List.replicate (F.ntmps-args.length) .undef) {h with wl:=h.next,md:=h.next} with
       |none=>rw[tp] at he;cases he
       |some r=>
         obtain⟨ex,fr,hh⟩:=r;rw[tp] at he
         cases ex with
         |exit id=>cases he
         |normal=>obtain⟨vs,LX,e⟩:=Option.map_eq_some_iff.1 he;exact⟨.normal,fr,hh,vs,rfl,.inl rfl,LX,e.symm⟩
         |ret=>obtain⟨vs,LX,e⟩:=Option.map_eq_some_iff.1 he;exact⟨.ret,fr,hh,vs,rfl,.inr rfl,LX,e.symm⟩
      obtain⟨ex,fr,hh,vs,tp,hex,LX,aeh⟩:=aeg;obtain⟨s1,s2⟩:=hr.yN h.next h.next
      have EO:FR φ {h with wl:=h.next,md:=h.next} w (args++List.replicate (F.ntmps-args.length) .undef) (bu++Array.replicate (fn.ntmps-bu.size) undef):=by
       refine⟨by simp[ha.1,hnt],λt=>?_⟩;by_cases ht:t<args.length
       .have:=(ha.2 t ht).ext s2;rw[List.getD_eq_getElem?_getD,List.getElem?_append_left ht,List.getElem?_eq_getElem ht,Option.getD_some];have Xr:t<bu.size:=by rw[ha.1];exact ht
        rw[Array.getD_eq_getD_getElem?] at this|-;rw[Array.getElem?_append_left Xr,Array.getElem?_eq_getElem Xr,Option.getD_some];rw[Array.getElem?_eq_getElem Xr,Option.getD_some] at this;exact this
       .have hu:(args++List.replicate (F.ntmps-args.length) AV.undef).getD t .undef=.undef:=by
         rw[List.getD_eq_getElem?_getD,List.getElem?_append_right (by omega),List.getElem?_replicate];split<;>rfl
        rw[hu];exact .undef _
      refine calls_of_wp EZ uZ ?_;refine T7 ih1 ih2 hE.mixed n c F.code ahq tp EO s1 (hG.ext s2) λφ' a' w' f1 r1 e1 d1=>?_
      have jn:=(yx ih2 tp s1.wf).1;obtain⟨fu,g1,g2,g3⟩:=MG (P:=P) f1 r1 fn.results.toList F.results vs ES LX
      have aab:∃cv,(results fn a'.tmps).run P w'=.ok cv w'/\fI φ' hh w' (oneOf vs) cv:=by
       have hm:(fn.results.mapM (J6 a'.tmps)).run P w'=.ok fu.toArray w':=by rw[Array.mapM_eq_mapM_toList];simp only[Sem.run_map,g1,Result.andThen_ok]
       refine⟨if h:fu.toArray.size=1 then fu.toArray[0] else .tuple fu.toArray,?_,?_⟩
       .rw[xw];simp only[Sem.run_bind,hm,Result.andThen_ok,Sem.run_pure]
       .match vs,fu,g2,g3 with
        |[v1],[c1],_,g3=>exact g3 0 (by simp) (by simp)
        |[],[],_,_=>exact .tuple _ _ rfl λj hj=>by simp at hj
        |v1::v2::vr,fu,g2,g3=>
          have kU:¬(fu.toArray.size=1):=by simp at g2|-;omega
          rw[dif_neg kU];refine .tuple _ _ (by simpa using g2) λj hj=>?_
          have I6:j<fu.length:=by omega
          have:=g3 j hj I6;simpa[Array.getD,I6] using this
      obtain⟨cv,q1,q2⟩:=aab;obtain⟨t1,t2,t3⟩:=RH (gK:=F.gK) (h0:=h) (φ0:=φ) (w0:=w) r1 (s2.trans e1) jn hr q2;rw[<-aeh] at t1 t2 t3;have post:ly φ h w v h' (.returned cv) w':=⟨φ',cv,rfl,t1,t2,t3⟩
      have hd:a'.defers=[]:=d1;rcases hex with rfl|rfl
      .exact⟨hd,cv,q1,post⟩
      .exact⟨hd,cv,q1,post⟩
   refine⟨both,λf args h v h' he ER=>?_⟩;simp only[aF] at he;split at he
   .rename_i r hp;cases he;obtain⟨⟨rE,eS⟩,h1,h2⟩:=Option.bind_eq_some_iff.1 hp;obtain⟨v,hpv,e⟩:=Option.map_eq_some_iff.1 h2;simp only[Prod.mk.injEq] at e;obtain⟨rfl,rfl⟩:=e;by_cases hs:re v=true
    .rw[if_pos hs];exact⟨.refl _,ER⟩
    .rw[if_neg hs];exact⟨Ym eS h,Iu eS ER⟩
   .split at he
    .rename_i r hm;cases he;obtain⟨k,rest,cs,os,r,rfl,hg,hs,WK,hm,rfl⟩:=F0 hm;exact⟨Vw h _ r,V6 ER _ r⟩
    split at he
    .cases he
    .rename_i F hF
     cases tp:aH (aF E n) n F.code (args++List.replicate (F.ntmps-args.length) .undef) {h with wl:=h.next,md:=h.next} with
     |none=>rw[tp] at he;cases he
     |some r=>
       obtain⟨ex,fr,hh⟩:=r;rw[tp] at he;obtain⟨jn,Z0⟩:=yx ih2 tp ER
       cases ex with
       |exit id=>cases he
       |normal=>obtain⟨vs,LX,e⟩:=Option.map_eq_some_iff.1 he;have:=Gw (gK:=F.gK) (v:=oneOf vs) jn;have w2:=Gs (gK:=F.gK) (v:=oneOf vs) (h0:=h) Z0;rw[e] at this w2;exact⟨this,w2⟩
       |ret=>obtain⟨vs,LX,e⟩:=Option.map_eq_some_iff.1 he;have:=Gw (gK:=F.gK) (v:=oneOf vs) jn;have w2:=Gs (gK:=F.gK) (v:=oneOf vs) (h0:=h) Z0;rw[e] at this w2;exact⟨this,w2⟩
abbrev aaN(P:Program)(E:Env):Prop:=cT P (λ_=>True) E
end
section
variable {X:World->Prop}
def C0:Nat->List AV->ai->Option (AV×ai):=λ_ _ _=>none
structure Hp(P:Program)(f:Nat):Prop where
 mk::ok:∃(fn:Func) (r0 r2 r3:Code) (i1:Nat) (o1 o2:Oper) (t e ty:TypeId) (a0 a2 a3:bW),P.funcs[f]? =some fn/\(fn.name== "runtime.NumGoroutine")=false/\fn.body=some (.seq r0 (.seq (.seq (.region i1 #[o1,o2] false) (.cond (.tmp 4) r2 .skip)) r3))/\fn.ntmps=8/\fn.results=#[.tmp 2]/\lH P #[o1,o2] o1=some ⟨some 3,.op (.Hm (.tmp 0)),none⟩/\o2.op=.binOp .eql t (.tmp 3) (.const (.slice none 0 0)) ty/\o2.dst=some 4/\o2.guard=none/\P.underlying t=some (.slice e)/\dT P r0=some a0.strip/\dT P r2=some a2.strip/\dT P r3=some a3.strip/\(∀v h,aH C0 1 a0 [v,.undef,.undef,.undef,.undef,.undef,.undef,.undef] h=some (.normal,[v,.undef,.aJ,.undef,.undef,.undef,.undef,.undef],h))/\(∀v h,aH C0 1 a2 [v,.undef,.aJ,v,.bool true,.undef,.undef,.undef] h=some (.ret,[v,.undef,.aJ,v,.bool true,.undef,.undef,.undef],h))/\(∀v,v=.aJ\/v=.sl []->∀h,aH C0 1 a3 [v,.undef,.aJ,v,.bool false,.undef,.undef,.undef] h=some (.ret,[v,.undef,.aJ,v,.bool false,.aJ,v,.aJ],h))
theorem Md{P:Program}(hm:P.follows .mixedOrders=true){f:Nat}(hc:Hp P f){v:AV}(hv:v=.aJ\/v=.sl []){φ:eL}{h:ai}{w:World}{bu:Array Value}(hr:HR φ h w)(hG:jM P X φ h w)(ha:mo φ h w [v] bu):
 (callFunc f bu).run P w=.ok (.enter f bu) w/\Calls P f bu w (ly φ h w .aJ h):=by
 obtain⟨fn,r0,r2,r3,i1,o1,o2,t,e,ty,a0,a2,a3,EZ,zg,uZ,hnt,ES,hs1,fg,WT,hg2,ht,c0,c2,c3,e0,e2,e3⟩:=hc.ok;have hC:qw P X C0:=λf args h v h' he=>by cases he
 have BC:pw C0:=λf args h v h' he=>by cases he
 have LJ:(callFunc f bu).run P w=.ok (.enter f bu) w:=by
  have fy:¬fn.name= "runtime.NumGoroutine" :=by simpa using zg
  simp[callFunc,EZ,fy,uZ]
 refine⟨LJ,?_⟩;have nX:bu.size=1:=ha.1;have hv0:fI φ h w v (bu.getD 0 default):=ha.2 0 (by simp)
 have EO:FR φ h w [v,.undef,.undef,.undef,.undef,.undef,.undef,.undef] (bu++Array.replicate (fn.ntmps-bu.size) undef):=by
  refine⟨by simp[nX,hnt],λt=>?_⟩
  cases t with
  |zero=>rw[Array.getD_eq_getD_getElem?] at hv0|-;rw[Array.getElem?_append_left (by omega)];rw[Array.getElem?_eq_getElem (by omega:0<bu.size)] at hv0|-;exact hv0
  |succ t=>
    have:([v,.undef,.undef,.undef,.undef,.undef,.undef,.undef]:List AV).getD (t+1) .undef=.undef:=by
     match t with
     |0|1|2|3|4|5|6=>rfl
     |n+7=>rfl
    rw[this];exact .undef _
 refine calls_of_wp EZ uZ (wpIn_wide (n:=0).1 ?_);refine wpIn_seq ?_;refine iC (l0:=none) (n0:=0) hC BC hm 1 r0 a0 c0 (e0 v h) EO hr hG λφ1 a1 w1 f1 r1 x1 d1=>?_
 refine wpIn_seq ?_;refine wpIn_seq ?_;refine wpIn_region_list ?_;refine wpListIn_step λK hK=>Ve (l0:=none) ?_
 have h1:dd C0 ⟨some 3,.op (.Hm (.tmp 0)),none⟩ [v,.undef,.aJ,.undef,.undef,.undef,.undef,.undef] h=some ([v,.undef,.aJ,v,.undef,.undef,.undef,.undef],h):=rfl;refine ug (l0:=none) (n0:=0) hC hs1 h1 f1 r1 (hG.ext x1) λφ2 cv w2 f2 r2' x2=>hK _ _ ?_
 refine wpListIn_step λK2 hK2=>?_
 have hw:Region.wanted o2 (yielded #[o1,o2] (a1.put o1.dst cv).tmps)=true:=by simp[Region.wanted,hg2]
 rw[if_pos hw];have x12:=x1.trans x2
 -- what is tested
 have hx:∃ad n c,(a1.put o1.dst cv).eval (.tmp 3)=.slice ad n c:=by
  have q:=di (x:=.tmp 3) (x':=.tmp 3) rfl f2;have q':fI φ2 h w2 v ((a1.put o1.dst cv).eval (.tmp 3)):=q;rcases hv with rfl|rfl
  .obtain⟨ad,e⟩:=q'.py;exact⟨ad,0,0,e⟩
  .rcases q'.uA with⟨ad,c,_,e⟩|⟨b,o',c,sz,vs,e,_⟩
   .exact⟨ad,0,c,e⟩
   .exact⟨_,_,c,e⟩
 obtain⟨ad,n,c,hx⟩:=hx;have uY:=Kl (neg:=false) fg ht hx w2;refine⟨λf _=>O4 none f,?_⟩;have hs:=abg (l0:=none) (ρ:=(a1.put o1.dst cv).eval) (o:=o2) (λc h=>by rw[fg] at h;cases h);change Oper.semAt Fence.wide.round _ _=_ at hs;rw[hs,uY,Oper.uponIn_value];refine hK2 _ _ (wpListIn_nil ?_)
 have f3:FR φ2 h w2 [v,.undef,.aJ,v,.bool ad.isNone,.undef,.undef,.undef] ((a1.put o1.dst cv).put o2.dst (.bool ad.isNone)).tmps:=by rw[WT];exact f2.put (RV.bool _) 4
 have d3:((a1.put o1.dst cv).put o2.dst (.bool ad.isNone)).defers=[]:=by rw[put_defers,put_defers];exact d1
 have fin:∀(fr:List AV) (φ':eL) (a':Act) (w':World),fr.getD 2 .undef=.aJ->FR φ' h w' fr a'.tmps->HR φ' h w'->Ext φ h w φ' h w'->a'.defers=[]->
  a'.defers=[]/\∃v,(results fn a'.tmps).run P w'=.ok v w'/\ly φ h w .aJ h (.returned v) w':=λfr φ' a' w' akJ hf' Of Ob hd'=>by
  refine⟨hd',a'.tmps.getD 2 undef,?_,φ',_,rfl,?_,Of,Ob⟩
  .rw[xw,ES];simp[J6]
  .have:=hf'.2 2;rw[akJ] at this;exact this
 cases hn:ad.isNone with
 |true=>
   rw[hn] at f3 d3;refine wpIn_cond (RV.jd (di (x:=.tmp 4) (x':=.tmp 4) rfl f3:fI φ2 h w2 (.bool true) _)) ?_;refine iC (l0:=none) (n0:=0) hC BC hm 1 r2 a2 c2 (e2 v h) f3 r2' (hG.ext x12) λφ4 a4 w4 f4 r4 x4 d4=>?_
   exact fin _ φ4 a4 w4 rfl f4 r4 (x12.trans x4) (d4.trans d3)
 |false=>
   rw[hn] at f3 d3;refine wpIn_cond (RV.jd (di (x:=.tmp 4) (x':=.tmp 4) rfl f3:fI φ2 h w2 (.bool false) _)) ?_;refine wpIn_skip ?_;refine iC (l0:=none) (n0:=0) hC BC hm 1 r3 a3 c3 (e3 v hv h) f3 r2' (hG.ext x12) λφ4 a4 w4 f4 r4 x4 d4=>?_
   exact fin _ φ4 a4 w4 rfl f4 r4 (x12.trans x4) (d4.trans d3)
end
section
variable {X:World->Prop}
def h0:ai:=⟨0,[],0,0⟩
theorem vE{P:Program}{f:Nat}{args:List AV}{v:AV}{h':ai}(hv:v.aK=0)(ha:AV.aw args=0)
 (he:∀φ w bu,HR φ h0 w->jM P X φ h0 w->mo φ h0 w args bu->((callFunc f bu).run P w=.ok (.enter f bu) w/\Calls P f bu w (ly φ h0 w v h'))\/
     ∃cv w' φ',(callFunc f bu).run P w=.ok (.value cv) w'/\fI φ' h' w' v cv/\HR φ' h' w'/\Ext φ h0 w φ' h' w'):jA P X f args v:=by
 intro φ h w bu hr hG nX
 let φ0:eL:=⟨φ.at_,λb=>φ.gh b\/∃id,live h id/\(φ id).ib=b⟩
 have nol:∀id,¬live h0 id:=λid ⟨o,hg,_⟩=>by simp[ai.get,h0] at hg
 have ZF:HR φ0 h0 w:=by
  refine⟨rfl,λid cs hg=>by simp[ai.get,h0] at hg,λid es hg=>by simp[ai.get,h0] at hg,λi j hi=>absurd hi (nol i),λb hb=>⟨?_,λid hl=>absurd hl (nol id)⟩⟩;rcases hb with hb|⟨id,hl,rfl⟩
  .exact (hr.gh b hb).1
  .exact hr.gJ hl
 have Xm:∀b,Pr φ h w b->Pr φ0 h0 w b:=λb hb=>⟨hb.1,λid hl=>absurd hl (nol id),λhc=>by
  rcases hc with hc|⟨id,hl,e⟩
  .exact hb.2.2 hc
  .exact hb.2.1 id hl e⟩
 have WU:mo φ0 h0 w args bu:=⟨nX.1,λj hj=>(nX.2 j hj).mono (λid cG _=>by have:=AV.dk (List.getElem_mem hj);omega) λb hb=>⟨Xm b hb,rfl⟩⟩
 have back:∀(φ':eL) (cv:Value) (w':World),fI φ' h' w' v cv->Ext φ0 h0 w φ' h' w'->uP φ h w v cv w':=λφ' cv w' g1 g3=>by
  have tG:acY w w':=λb hb=>by
   by_cases hg:φ0.gh b
   .exact g3.gh.2 b hg
   .exact (g3.pr b ⟨hb,λid hl=>absurd hl (nol id),hg⟩).2
  obtain⟨s1,s2⟩:=Hj hr g3.os g3.tape g3.output g3.size tG;refine⟨g1.mono (λid cG _=>by omega) λb hb=>⟨⟨hb.1,λid hl e=>?_,λhg=>?_⟩,rfl⟩,s1,s2,tG⟩
  .exact hb.2.2 (by rw[g3.gh.1];exact .inr ⟨id,hl,e⟩)
  .exact hb.2.2 (by rw[g3.gh.1];exact .inl hg)
 have hG0:jM P X φ0 h0 w:=by
  obtain⟨w1,g1,g2⟩:=hG;refine⟨w1,g1,λb hb=>?_⟩;obtain⟨a1,a2,a3⟩:=g2 b hb;refine⟨a1,?_,a3⟩;rcases a2 with a2|a2
  .exact .inl (.inl a2)
  .exact .inr (Xm b a2)
 rcases he φ0 w bu ZF hG0 WU with⟨e1,e2⟩|⟨cv,w',φ',e1,e2,e3,e4⟩
 .refine .inl ⟨e1,e2.mono λe w' he=>?_⟩;obtain⟨φ',cv,rfl,g1,g2,g3⟩:=he;exact⟨cv,rfl,back φ' cv w' g1 g3⟩
 .exact .inr ⟨cv,w',e1,back φ' cv w' e2 e4⟩
theorem bG{P:Program}{E:Env}(hE:cT P X E){n f:Nat}{args:List AV}{v:AV}{h':ai}(he:aF E n f args h0=some (v,h'))(hv:v.aK=0)(ha:AV.aw args=0):jA P X f args v:=vE (h':=h') hv ha λφ w bu hr hG nX=>(yk hE n).1 f args h0 v h' he φ w bu hr hG nX
theorem KU{φ:eL}{h h':ai}{w:World}(hg:∀id,h'.get id=h.get id):Pr φ h' w=Pr φ h w:=by funext b;unfold Pr live;simp only[hg]
theorem HR.congr{φ:eL}{h h':ai}{w:World}(hg:∀id,h'.get id=h.get id)(hn:h'.next=h.next)(hw:h.wf)(hr:HR φ h' w):HR φ h w:=by
 have hp:=KU (φ:=φ) (w:=w) hg;refine⟨hw,λid cs hi=>?_,λid es hi=>?_,λi j hi hj e=>hr.inj i j ?_ ?_ e,λb hb=>⟨(hr.gh b hb).1,λid hl=>(hr.gh b hb).2 id ?_⟩⟩
 .have:=hr.rows id cs (by rw[hg];exact hi);unfold tS fI at this|-;rw[hp,hn] at this;exact this
 .have:=hr.maps id es (by rw[hg];exact hi);unfold yt fI at this|-;rw[hp,hn] at this;exact this
 .unfold live at hi|-;rw[hg];exact hi
 .unfold live at hj|-;rw[hg];exact hj
 .unfold live at hl|-;rw[hg];exact hl
theorem Df{m:Nat}{g g':Nat->Nat}(hg:∀i,i<m->g i=g' i){v:AV}(h:qu m v=true):sig g v=sig g' v:=by
 cases v with
 |ptr id off=>simp only[sig];rw[hg id (of_decide_eq_true h)]
 |vec id off len sz lb=>simp only[sig];rw[hg id (of_decide_eq_true h)]
 |map id=>simp only[sig];rw[hg id (of_decide_eq_true h)]
 |_=>rfl
theorem Ly{m:Nat}{g g':Nat->Nat}(hg:∀i,i<m->g i=g' i){o:bp}(h:BN m o=true):gB g o=gB g' o:=by
 cases o with
 |dead=>rfl
 |row cs=>simp only[gB];congr 1;exact List.map_congr_left λv hv=>Df hg (List.all_eq_true.1 h v hv)
 |map es=>
   simp only[gB];congr 1;refine List.map_congr_left λe he=>?_
   have:=List.all_eq_true.1 h e he;rw[Bool.and_eq_true] at this;rw[Df hg this.1,Df hg this.2]
theorem B8{P:Program}{E:Env}(hE:cT P X E){n f:Nat}{args:List AV}{os:List bp}{v:AV}{h1:ai}{r:Option (List bp)}{qs:List Nat}(he:aF E n f args (Cs os)=some (v,h1))(hv:v.aK=0)
 (ha:∀a∈args,qu os.length a=true) (hle:os.length<=(r.getD os).length) (hs:Fi h1 (qH os.length qs) (r.getD os)):dA P X f args os v r:=by
 intro φ h w τ bu hr hG S hτ nY nX;have ZF:=abT hr S
 have hG0:jM P X (o8 φ h (λi=>τ.getD i 0) os) (Cs os) w:=by
  obtain⟨w1,g1,g2⟩:=hG;refine⟨w1,g1,λb hb=>?_⟩;obtain⟨a1,a2,a3⟩:=g2 b hb;refine⟨a1,?_,a3⟩;rcases a2 with a2|a2
  .exact .inl (.inl a2)
  .exact .inr (H6 hr S a2)
 have WU:mo (o8 φ h (λi=>τ.getD i 0) os) (Cs os) w args bu:=by
  refine⟨by rw[nX.1,List.length_map],λj hj=>?_⟩;have h2:=nX.2 j (by simpa using hj);rw[List.getElem_map] at h2
  have:=RV.swap (φ':=o8 φ h (λi=>τ.getD i 0) os) (N9:=os.length) (m:=os.length) (zn:=Pr (o8 φ h (λi=>τ.getD i 0) os) (Cs os) w) (a:=λi=>τ.getD i 0) (b:=λi=>i) (λi hi=>⟨rfl,hi⟩)
   (λx hx=>H6 hr S hx) (ha _ (List.getElem_mem hj)) h2
  rw[Dt] at this;exact this
 have back:∀(φ1:eL) (cv:Value) (w':World),fI φ1 h1 w' v cv->HR φ1 h1 w'->Ext (o8 φ h (λi=>τ.getD i 0) os) (Cs os) w φ1 h1 w'->
  ∃φ',fI φ' (nf h τ r) w' v cv/\HR φ' (nf h τ r) w'/\Ext φ h w φ' (nf h τ r) w':=λφ1 cv w' g1 g2 g3=>by
  obtain⟨u1,u2,u3⟩:=Zu hr S hτ nY hle g3 g2 hs;have hvv:fI (pQ φ φ1 h.next qs) (join h τ (r.getD os)) w' v cv:=g1.mono (λid cG _=>by omega) λb hb=>⟨u3 b hb,rfl⟩
  cases r with
  |some ng=>exact⟨_,hvv,u1,u2⟩
  |none=>
    have BR:(join h τ os).next=h.next:=by rw[Gx];omega
    have tO:∀k∈τ,∃o,h.get k=some o:=λk hk=>by
     obtain⟨i,hi,rfl⟩:=List.getElem_of_mem hk;have jE:i<os.length:=by omega
     have:=(S.obj i _ (List.getElem?_eq_getElem jE) (nY _ (List.getElem_mem jE))).1;have e:τ.getD i 0=τ[i]:=by simp[List.getD,hi]
     rw[e] at this;exact⟨_,this⟩
    have Fq:τ.Nodup:=by
     rw[List.nodup_iff_pairwise_ne,List.pairwise_iff_getElem];intro i j hi hj wj e;have jE:i<os.length:=by omega
     have kP:j<os.length:=by omega
     have e1:τ.getD i 0=τ[i]:=by simp[List.getD,hi]
     have e2:τ.getD j 0=τ[j]:=by simp[List.getD,hj]
     have:=S.inj i j _ _ (List.getElem?_eq_getElem jE) (List.getElem?_eq_getElem kP) (nY _ (List.getElem_mem jE)) (nY _ (List.getElem_mem kP)) (by rw[e1,e2];exact e);omega
    have G6:∀id,(join h τ os).get id=h.get id:=λid=>by
     by_cases hm:id∈τ
     .obtain⟨i,hi,rfl⟩:=List.getElem_of_mem hm;have jE:i<os.length:=by omega
      have e:nW h τ i=τ[i]:=by unfold nW;rw[if_pos hi];simp[List.getD,hi]
      have e1:τ.getD i 0=τ[i]:=by simp[List.getD,hi]
      have j1:=Ix (ng:=os) Fq tO (List.getElem?_eq_getElem jE);obtain⟨s1,s2⟩:=S.obj i _ (List.getElem?_eq_getElem jE) (nY _ (List.getElem_mem jE));rw[e] at j1;rw[e1] at s1;rw[j1,s1,Ly (g':=λi=>τ.getD i 0) (λp hp=>?_) s2];unfold nW;rw[if_pos (by omega)]
     .by_cases hl:id<h.next
      .exact DL hl hm
      .have n1:h.get id=none:=by unfold ai.get;rw[if_neg hl]
       have n2:(join h τ os).get id=none:=by unfold ai.get;rw[if_neg (by rw[BR];exact hl)]
       rw[n1,n2]
    have hp:=KU (φ:=pQ φ φ1 h.next qs) (w:=w') G6;refine⟨pQ φ φ1 h.next qs,?_,HR.congr G6 BR hr.wf u1,?_⟩
    .have:=hvv;unfold fI at this|-;dsimp only[Option.getD] at this;rw[hp,BR] at this;exact this
    .refine⟨u2.os,u2.tape,u2.output,u2.size,Nat.le_refl _,u2.BK,λb hb=>?_,u2.gh⟩;obtain⟨p1,p2⟩:=u2.pr b hb;dsimp only[Option.getD] at p1;rw[hp] at p1;exact⟨p1,p2⟩
 rcases (yk hE n).1 f args (Cs os) v h1 he _ w bu ZF hG0 WU with⟨e1,e2⟩|⟨cv,w',φ1,e1,e2,e3,e4⟩
 .refine .inl ⟨e1,e2.mono λe w' he=>?_⟩;obtain⟨φ1,cv,rfl,g1,g2,g3⟩:=he;obtain⟨φ',b1,b2,b3⟩:=back φ1 cv w' g1 g2 g3;exact⟨φ',cv,rfl,b1,b2,b3⟩
 .obtain⟨φ',b1,b2,b3⟩:=back φ1 cv w' e2 e3 e4;exact .inr ⟨cv,w',φ',e1,b1,b2,b3⟩
theorem yY{h1:ai}{m:Nat}{qs:List Nat}{ng:List bp}(hq:qs.Nodup)(hm:∀q∈qs,m<=q)(hl:ng.length<=m+qs.length)
 (ho:∀i o,ng[i]? =some o->(∀_:o=.dead,False)->h1.get (qH m qs i)=some (gB (qH m qs) o)/\BN ng.length o=true):Fi h1 (qH m qs) ng:=by
 refine⟨ho,λi j o o' h2 h3 _ _ e=>?_⟩;have hi:=(List.getElem?_eq_some_iff.1 h2).1;have hj:=(List.getElem?_eq_some_iff.1 h3).1;unfold qH at e;have at':∀p,p<ng.length->¬p<m->∃hp:p-m<qs.length,qs.getD (p-m) 0=qs[p-m]:=λp hp hn=>⟨by omega,by simp[List.getD,show p-m<qs.length by omega]⟩
 split at e
 .rename_i a;split at e
  .exact e
  .rename_i b;obtain⟨hp,e1⟩:=at' j hj b;rw[e1] at e;have:=hm _ (List.getElem_mem hp);omega
 .rename_i a;obtain⟨hp,e1⟩:=at' i hi a;split at e
  .rename_i b;rw[e1] at e;have:=hm _ (List.getElem_mem hp);omega
  .rename_i b;obtain⟨Oc,e2⟩:=at' j hj b;rw[e1,e2] at e;have:=(List.getElem_inj hq).1 e;omega
def mrK(M:List AV->List bp->Option (AV×Option (List bp)))(k:Nat)(rest:List AV)(h:ai):Option bp->Option (AV×ai)
 |some (.row cs)=>(match tD h (fJ cs [k]) (fJ cs [k]) with
   |some os=>if AV.aw rest=0 then (M (.ptr 0 0::rest) os).map λr=>(r.1,nf h (fJ cs [k]) r.2) else none
   |none=>none)
 |_=>none
def msK(M:List AV->List bp->Option (AV×Option (List bp)))(rest:List AV)(h:ai)(τ:List Nat):Option (List bp)->Option (AV×ai)
 |some os=>if AV.aw rest=0 then (M (.ptr 0 0::rest) os).map λr=>(r.1,nf h τ r.2) else none
 |none=>none
def meK(h:ai)(τ:List Nat):Option (AV×Option (List bp))->Option (AV×ai)
 |some r=>some (r.1,nf h τ r.2)
 |none=>none
theorem QA(M:List AV->List bp->Option (AV×Option (List bp)))(k:Nat)(rest:List AV)(h:ai):pf M (.ptr k 0::rest) h=mrK M k rest h (h.get k):=by
 cases hg:h.get k with
 |none=>simp only[pf,hg,mrK]
 |some o=>
   cases o with
   |row cs=>simp only[pf,hg,mrK];cases tD h (fJ cs [k]) (fJ cs [k])<;>rfl
   |_=>simp only[pf,hg,mrK]
theorem Yn(M:List AV->List bp->Option (AV×Option (List bp)))(k:Nat)(rest:List AV)(h:ai)(cs:List AV):mrK M k rest h (some (.row cs))=msK M rest h (fJ cs [k]) (tD h (fJ cs [k]) (fJ cs [k])):=by rfl
theorem Lw(M:List AV->List bp->Option (AV×Option (List bp)))(rest:List AV)(h:ai)(τ:List Nat)(os:List bp)(hr:AV.aw rest=0):msK M rest h τ (some os)=meK h τ (M (.ptr 0 0::rest) os):=by show (if AV.aw rest=0 then (M (.ptr 0 0::rest) os).map λr=>(r.1,nf h τ r.2) else none)=_;rw[if_pos hr];cases M (.ptr 0 0::rest) os<;>rfl
theorem XE(M:List AV->List bp->Option (AV×Option (List bp)))(h:ai)(τ:List Nat)(os:List bp):msK M [] h τ (some os)=meK h τ (M [.ptr 0 0] os):=Lw M [] h τ os (by simp[AV.aw])
theorem afa(h:ai)(τ:List Nat)(r:AV×Option (List bp)):meK h τ (some r)=some (r.1,nf h τ r.2):=rfl
theorem aaq(h:ai)(τ:List Nat):meK h τ none=none:=rfl
theorem ZJ(h:ai)(τ:List Nat):nf h τ none=h:=rfl
theorem Yc(h:ai)(τ:List Nat)(os:List bp):nf h τ (some os)=join h τ os:=rfl
theorem Wp(aB:List Nat):fJ [] aB=aB:=rfl
theorem af(v:AV)(r:List AV)(aB:List Nat):fJ (v::r) aB=match v.top with|some j=>if o5 aB j then fJ r aB else fJ r (aB++[j])|none=>fJ r aB:=rfl
theorem Vq(id:Nat):o5 [] id=false:=rfl
theorem Ri(k:Nat)(r:List Nat)(id:Nat):o5 (k::r) id=if k=id then true else o5 r id:=rfl
theorem Ta(id:Nat):wJ [] id=0:=rfl
theorem Qx(k:Nat)(r:List Nat)(id:Nat):wJ (k::r) id=if k=id then 0 else wJ r id+1:=rfl
theorem Rj(h:ai)(τ:List Nat):tD h τ []=some []:=rfl
theorem N4(h:ai)(τ:List Nat)(id:Nat)(r:List Nat):tD h τ (id::r)=match h.get id,tD h τ r with|some o,some os=>if okO τ o then some (gB (wJ τ) o::os) else none|_,_=>none:=rfl
theorem aj(τ:List Nat)(cs:List AV):okO τ (.row cs)=cs.all (okV τ):=rfl
theorem YO(τ:List Nat)(es:List (AV×AV)):okO τ (.map es)=es.all λe=>okV τ e.1&&okV τ e.2:=rfl
theorem Zj(τ:List Nat)(v:AV):okV τ v=match v.top with|some id=>o5 τ id|none=>v.aK==0:=rfl
theorem ah(g:Nat->Nat)(cs:List AV):gB g (.row cs)=.row (cs.map (sig g)):=rfl
theorem UO(g:Nat->Nat)(es:List (AV×AV)):gB g (.map es)=.map (es.map λe=>(sig g e.1,sig g e.2)):=rfl
theorem acy(g:Nat->Nat):gB g .dead=.dead:=rfl
theorem U3(g:Nat->Nat)(os:List bp)(h:ai):pB g [] os h=h:=by unfold pB;rfl
theorem Rm(g:Nat->Nat)(k:Nat)(ks:List Nat)(o:bp)(os:List bp)(h:ai):pB g (k::ks) (o::os) h=pB g ks os (zQ h k (gB g o)):=rfl
theorem VS(g:Nat->Nat)(h:ai):xK g [] h=h:=rfl
theorem Qo(g:Nat->Nat)(o:bp)(os:List bp)(h:ai):xK g (o::os) h=xK g os (h.alloc (gB g o)):=rfl
theorem vB(o:bp):Cs [o]=⟨1,[o],1,1⟩:=rfl
theorem kG{v:AV}(n:Nat)(h:v.aK=0):qu n v=true:=by
 cases v with
 |ptr id off=>simp[AV.aK] at h
 |vec id off len sz lb=>simp[AV.aK] at h
 |map id=>simp[AV.aK] at h
 |_=>simpa[qu] using h
theorem ma{cs:List AV}(g:Nat->Nat)(h:AV.aw cs=0):gB g (.row cs)=.row cs:=by
 have e:cs.map (sig g)=cs:=by
  conv=>rhs;rw[<-List.map_id cs]
  exact List.map_congr_left λv hv=>(GV (v:=v) (by have h2:=AV.dk (v:=v) (l:=cs) hv;omega):sig g v=v)
 show bp.row (cs.map (sig g))=_;rw[e]
theorem jS{cs:List AV}(n:Nat)(h:AV.aw cs=0):BN n (.row cs)=true:=List.all_eq_true.2 λv hv=>kG n (by have:=AV.dk hv;omega)
theorem KO{rest:List AV}(hr:AV.aw rest=0):∀a∈AV.ptr 0 0::rest,qu 1 a=true:=λa ha=>by
 rcases List.mem_cons.1 ha with rfl|ha
 .rfl
 .exact kG 1 (by have:=AV.dk ha;omega)
theorem yR{P:Program}{E:Env}(hE:cT P X E){n f:Nat}{rest cs jt:List AV}{v:AV}{h1:ai}(he:aF E n f (.ptr 0 0::rest) (Cs [.row cs])=some (v,h1))(hg:h1.get 0=some (.row jt))
 (hv:v.aK=0) (hr:AV.aw rest=0) (hc:AV.aw jt=0):dA P X f (.ptr 0 0::rest) [.row cs] v (some [.row jt]):=
 B8 (qs:=[]) hE he hv (KO hr) (Nat.le_refl _) (yY (by simp) (by simp) (by simp) λi o ho _=>by
  cases i with
  |succ i=>simp at ho
  |zero=>simp only[Option.getD,List.getElem?_cons_zero,Option.some.injEq] at ho;subst ho;refine⟨?_,jS _ hc⟩;rw[ma _ hc];exact hg)
theorem Ar{P:Program}{E:Env}(hE:cT P X E){n f:Nat}{rest cs:List AV}{v:AV}{h1:ai}(he:aF E n f (.ptr 0 0::rest) (Cs [.row cs])=some (v,h1))(hg:h1.get 0=some (.row cs))
 (hv:v.aK=0) (hr:AV.aw rest=0) (hc:AV.aw cs=0):dA P X f (.ptr 0 0::rest) [.row cs] v none:=
 B8 (qs:=[]) hE he hv (KO hr) (Nat.le_refl _) (yY (by simp) (by simp) (by simp) λi o ho _=>by
  cases i with
  |succ i=>simp at ho
  |zero=>simp only[Option.getD,List.getElem?_cons_zero,Option.some.injEq] at ho;subst ho;refine⟨?_,jS _ hc⟩;rw[ma _ hc];exact hg)
end
end Sz
namespace Sz
open Go
end Sz
namespace Sz
open Go
section
variable {X:World->Prop}
def bL(B:List AV->ai->Option (Ex×List AV×ai))(live:List Bool)(n0:Nat):Nat->List AV->ai->Option (Ex×List AV×ai)
 |0,_,_=>none
 |n+1,fr,h=>
   match B fr h with
   |some (.normal,eD,h')=>bL B live n0 n (gc n0 (clear live eD) h').1 (gc n0 (clear live eD) h').2
   |r=>r
theorem A6(B:List AV->ai->Option (Ex×List AV×ai))(live:List Bool)(n0:Nat):∀n fr h,wu B live n0 n fr h=bL B live n0 n (gc n0 (clear live fr) h).1 (gc n0 (clear live fr) h).2
 |0,_,_=>rfl
 |n+1,fr,h=>by
   unfold wu bL
   cases hb:B (gc n0 (clear live fr) h).1 (gc n0 (clear live fr) h).2 with
   |none=>rfl
   |some r=>
     obtain⟨ex,xC,h1⟩:=r
     cases ex with
     |normal=>exact A6 B live n0 n xC h1
     |exit id=>rfl
     |ret=>rfl
def gu(n0 wl:Nat):Option (Ex×List AV×ai)->Option (Ex×List AV×ai)
 |none=>none
 |some (ex,fr,h)=>some (ex,(gc n0 fr h).1,⟨(gc n0 fr h).2.next,(gc n0 fr h).2.iF,min wl (gc n0 fr h).2.wl,(gc n0 fr h).2.md⟩)
def bgn(B:List AV->ai->Option (Ex×List AV×ai))(live:List Bool)(n0 n:Nat)(s:List AV×ai):Option (Ex×List AV×ai):=bL B live n0 n s.1 s.2
theorem adI(B:List AV->ai->Option (Ex×List AV×ai))(live:List Bool)(n0 n:Nat)(fr:List AV)(h:ai):bgn B live n0 n (fr,h)=bL B live n0 n fr h:=rfl
theorem Jo(C:Nat->List AV->ai->Option (AV×ai))(n:Nat)(live:List Bool)(a:bW)(fr:List AV)(h:ai):
 aH C n (.loop live a) fr h=gu h.next h.wl (bgn (aH C n a) live h.next n (gc h.next (clear live fr) ⟨h.next,h.iF,h.next,h.md⟩)):=by
 conv=>lhs;unfold aH
 rw[A6];unfold bgn gu;split
 .rename_i e;rw[e];rfl
 .rename_i e;rw[e];rfl
theorem ach(n0 wl:Nat)(ex:Ex)(fr:List AV)(h:ai):gu n0 wl (some (ex,fr,h))=
 match gc n0 fr h with
 |(eD,⟨nx,os,w,md⟩)=>some (ex,eD,⟨nx,os,min wl w,md⟩):=rfl
theorem ak(B:List AV->ai->Option (Ex×List AV×ai))(live:List Bool)(n0 n:Nat)(fr:List AV)(h:ai):bL B live n0 (n+1) fr h=
 match B fr h with
 |some (.normal,eD,h')=>bgn B live n0 n (gc n0 (clear live eD) h')
 |r=>r:=rfl
structure aX where
 f:Nat
 S:List AV->Option AV
def fi(P:Program)(X:World->Prop)(s:aX):Prop:=∀args v,s.S args=some v->jA P X s.f args v
abbrev aY(P:Program)(s:aX):Prop:=fi P (λ_=>True) s
open Classical in
noncomputable def aX.of{α:Type}(f:Nat)(enc:α->List AV)(pre:α->Prop)(val:α->AV):aX:=⟨f,λargs=>if h:∃a,args=enc a/\pre a then some (val h.choose) else none⟩
def nd:List aX->Nat->List AV->Option AV
 |[],_,_=>none
 |s::r,f,args=>if s.f=f then (match s.S args with|some v=>some v|none=>nd r f args) else nd r f args
def uG:List aX->Nat->List aX
 |[],_=>[]
 |s::r,f=>if s.f==f then s::uG r f else uG r f
theorem Sg(f:Nat):uG [] f=[]:=rfl
theorem Eg(s:aX)(r:List aX)(f:Nat):uG (s::r) f=if s.f==f then s::uG r f else uG r f:=rfl
theorem y5(f:Nat)(args:List AV):∀ss:List aX,nd (uG ss f) f args=nd ss f args
 |[]=>rfl
 |s::r=>by
   rw[Eg];by_cases h:s.f=f
   .rw[if_pos (by simpa using h)];simp only[nd,h,if_true,y5 f args r]
   .rw[if_neg (by simpa using h),y5 f args r];simp only[nd,h,if_false]
def Po(fn:Nat->Option cn)(ss:List aX):Env:=⟨fn,nd ss,λ_ _ _=>none⟩
theorem Kc{P:Program}{fn:Nat->Option cn}(hm:P.follows .mixedOrders=true)(EZ:∀f F,fn f=some F->cD P f F){ss:List aX}(hs:∀s∈ss,fi P X s):cT P X (Po fn ss):=by
 refine⟨hm,EZ,λf args v hp=>?_,λf args os v r h=>by cases h⟩
 have key:∀ss:List aX,(∀s∈ss,fi P X s)->nd ss f args=some v->jA P X f args v:=by
  intro ss
  induction ss with
  |nil=>intro _ h;cases h
  |cons s r ih=>
    intro hs hl;unfold nd at hl;split at hl
    .rename_i hf;split at hl
     .rename_i v' LB;cases hl;rw[<-hf];exact hs s (by simp) args v LB
     .exact ih (λt ht=>hs t (by simp[ht])) hl
    .exact ih (λt ht=>hs t (by simp[ht])) hl
 exact key ss hs hp
structure cr where
 f:Nat
 S:List AV->List bp->Option (AV×Option (List bp))
def pV:List cr->Nat->List AV->List bp->Option (AV×Option (List bp))
 |[],_,_,_=>none
 |m::r,f,args,os=>if m.f=f then (match m.S args os with|some v=>some v|none=>pV r f args os) else pV r f args os
def qF:List cr->Nat->List cr
 |[],_=>[]
 |m::r,f=>if m.f==f then m::qF r f else qF r f
theorem MZ(f:Nat):qF [] f=[]:=rfl
theorem By(m:cr)(r:List cr)(f:Nat):qF (m::r) f=if m.f==f then m::qF r f else qF r f:=rfl
theorem zP(f:Nat)(args:List AV)(os:List bp):∀ms:List cr,pV (qF ms f) f args os=pV ms f args os
 |[]=>rfl
 |m::r=>by
   rw[By];by_cases h:m.f=f
   .rw[if_pos (by simpa using h)];simp only[pV,h,if_true,zP f args os r]
   .rw[if_neg (by simpa using h),zP f args os r];simp only[pV,h,if_false]
def cC(P:Program)(X:World->Prop)(m:cr):Prop:=∀args os v r,m.S args os=some (v,r)->dA P X m.f args os v r
abbrev nK(P:Program)(m:cr):Prop:=cC P (λ_=>True) m
def TR(fn:Nat->Option cn)(ss:List aX)(ms:List cr):Env:=⟨fn,nd ss,pV ms⟩
theorem Sh{P:Program}{fn:Nat->Option cn}(hm:P.follows .mixedOrders=true)(EZ:∀f F,fn f=some F->cD P f F){ss:List aX}(hs:∀s∈ss,fi P X s){ms:List cr}(hms:∀m∈ms,cC P X m):
 cT P X (TR fn ss ms):=by
 refine⟨hm,EZ,(Kc hm EZ hs).E3,λf args os v r hp=>?_⟩
 have key:∀ms:List cr,(∀m∈ms,cC P X m)->pV ms f args os=some (v,r)->dA P X f args os v r:=by
  intro ms
  induction ms with
  |nil=>intro _ h;cases h
  |cons s q ih=>
    intro hs hl;unfold pV at hl;split at hl
    .rename_i hf;split at hl
     .rename_i v' LB;cases hl;rw[<-hf];exact hs s (by simp) args os v r LB
     .exact ih (λt ht=>hs t (by simp[ht])) hl
    .exact ih (λt ht=>hs t (by simp[ht])) hl
 exact key ms hms hp
theorem EK(args:List AV)(h:ai):pf (λ_ _=>none) args h=none:=by
 unfold pf;split
 .split
  .split
   .split<;>rfl
   .rfl
  .rfl
 .rfl
@[simp] theorem agf(fn:Nat->Option cn)(ss:List aX)(f:Nat):(Po fn ss).fn f=fn f:=rfl
@[simp] theorem adG(fn:Nat->Option cn)(ss:List aX):(Po fn ss).E3=nd ss:=rfl
theorem jM.mono{P:Program}{Y:World->Prop}(hXY:∀w,X w->Y w){φ:eL}{h:ai}{w:World}(g:jM P X φ h w):jM P Y φ h w:=by obtain⟨w1,h1,h2⟩:=g;exact⟨w1,⟨h1.1,hXY _ h1.2⟩,h2⟩
theorem aY.lift{P:Program}{s:aX}(h:aY P s):fi P X s:=λargs v hv φ hh w bu hr hG ha=>h args v hv φ hh w bu hr (hG.mono λ_ _=>trivial) ha
theorem nK.lift{P:Program}{m:cr}(h:nK P m):cC P X m:=λargs os v r hv φ hh w τ bu hr hG S h1 h2 ha=>h args os v r hv φ hh w τ bu hr (hG.mono λ_ _=>trivial) S h1 h2 ha
end
section
section
variable (C:Nat->List AV->ai->Option (AV×ai))(n:Nat)(fr:List AV)(h:ai)
theorem Jz:aH C n .skip fr h=some (.normal,fr,h):=rfl
theorem NV(ops:List aW):aH C n (.gA ops) fr h=match dz C ops fr h with|some (eD,h')=>some (.normal,eD,h')|none=>none:=by simp only[aH];cases dz C ops fr h<;>rfl
theorem Jm(ops:List aW)(Xq:List (Nat×Nat)):aH C n (.oE ops Xq) fr h=match tL C ops fr h with|some (eD,h',tr)=>if K9 tr Xq then some (.normal,eD,h') else none|none=>none:=rfl
theorem Nn(a b:bW):aH C n (.seq a b) fr h=match aH C n a fr h with|some (.normal,eD,h')=>aH C n b eD h'|r=>r:=rfl
theorem Lq(c:dU)(a b:bW):aH C n (.cond c a b) fr h=match c.ev fr with|.bool t=>if t then aH C n a fr h else aH C n b fr h|_=>none:=rfl
theorem Ia(id:Nat)(a:bW):aH C n (.block id a) fr h=match aH C n a fr h with|some (.exit i,eD,h')=>some (if i=id then .normal else .exit i,eD,h')|r=>r:=rfl
theorem JT(id:Nat)(live:List Bool):aH C n (.exit id live) fr h=some (.exit id,clear live fr,h):=rfl
theorem MU(live:List Bool):aH C n (.ret live) fr h=some (.ret,clear live fr,h):=rfl
theorem Ju:dz C [] fr h=some (fr,h):=rfl
theorem Ns(d:Option Nat)(o:xJ)(r:List aW):dz C (⟨d,.op o,none⟩::r) fr h=match cf fr h o with|some (v,h')=>dz C r (gP fr d v) h'|none=>none:=by simp only[dz,dd,dR];cases cf fr h o<;>rfl
theorem Iq(d:Option Nat)(f:Nat)(args:List dU)(r:List aW):dz C (⟨d,.call f args,none⟩::r) fr h=match C f (args.map (·.ev fr)) h with|some (v,h')=>dz C r (gP fr d v) h'|none=>none:=by simp only[dz,dd,dR];cases C f (args.map (·.ev fr)) h<;>rfl
theorem Fo(d:Option Nat)(x:dU)(args:List dU)(r:List aW):dz C (⟨d,.ml x args,none⟩::r) fr h=match x.ev fr with
 |.fn f bC=>(match C f (args.map (·.ev fr)++bC) h with|some (v,h')=>dz C r (gP fr d v) h'|none=>none)
 |_=>none:=by
 simp only[dz,dd,dR]
 cases x.ev fr with
 |fn f bC=>dsimp only;cases C f (args.map (·.ev fr)++bC) h<;>rfl
 |_=>rfl
theorem Wv:tL C [] fr h=some (fr,h,[]):=rfl
theorem Sy(s:aW)(r:List aW):tL C (s::r) fr h=match dd C s fr ⟨h.next,h.iF,h.wl,h.next⟩ with
 |some (eD,h')=>(match tL C r eD ⟨h'.next,h'.iF,h'.wl,min h.md h'.md⟩ with|some (fr2,h2,tr)=>some (fr2,h2,(BJ s fr,h,h')::tr)|none=>none)
 |none=>none:=by
 simp only[tL]
 cases dd C s fr ⟨h.next,h.iF,h.wl,h.next⟩ with
 |none=>rfl
 |some p=>dsimp only;cases tL C r p.1 ⟨p.2.next,p.2.iF,p.2.wl,min h.md p.2.md⟩<;>rfl
theorem RB(d:Option Nat)(o:xJ):dd C ⟨d,.op o,none⟩ fr h=match cf fr h o with|some (v,h')=>some (gP fr d v,h')|none=>none:=by simp only[dd,dR];cases cf fr h o<;>rfl
theorem Jb(d:Option Nat)(f:Nat)(args:List dU):dd C ⟨d,.call f args,none⟩ fr h=match C f (args.map (·.ev fr)) h with|some (v,h')=>some (gP fr d v,h')|none=>none:=by simp only[dd,dR];cases C f (args.map (·.ev fr)) h<;>rfl
theorem HM(d:Option Nat)(x:dU)(args:List dU):dd C ⟨d,.ml x args,none⟩ fr h=match x.ev fr with
 |.fn f bC=>(match C f (args.map (·.ev fr)++bC) h with|some (v,h')=>some (gP fr d v,h')|none=>none)
 |_=>none:=by
 simp only[dd,dR]
 cases x.ev fr with
 |fn f bC=>dsimp only;cases C f (args.map (·.ev fr)++bC) h<;>rfl
 |_=>rfl
theorem UE(x:dU):cf fr h (.Hm x)=some (x.ev fr,h):=rfl
theorem Qq(c x y:dU):cf fr h (.pick c x y)=match c.ev fr with|.bool b=>some (if b then x.ev fr else y.ev fr,h)|_=>none:=rfl
theorem Wc(x:dU):cf fr h (.box x)=match (x.ev fr).cells? with|some cs=>some (.ptr h.next 0,⟨h.next+1,.row cs::h.iF,h.wl,h.md⟩)|none=>none:=rfl
theorem T3(z:List AV)(ps:List (Nat×Nat×dU)):cf fr h (.Iw z ps)=match mM z (ps.map λp=>(p.1,p.2.1,p.2.2.ev fr)) with|some cs=>some (.agg cs,h)|none=>none:=by simp only[cf];cases mM z (ps.map λp=>(p.1,p.2.1,p.2.2.ev fr))<;>rfl
theorem S9(sz len:Nat)(z:List AV)(ps:List (Nat×dU)):cf fr h (.EU sz len z ps)=match mM z (ps.map λp=>(p.1*sz,sz,p.2.ev fr)) with|some cs=>some (.vec h.next 0 len sz len,⟨h.next+1,.row cs::h.iF,h.wl,h.md⟩)|none=>none:=by simp only[cf];cases mM z (ps.map λp=>(p.1*sz,sz,p.2.ev fr))<;>rfl
theorem XA(m:Option Nat)(x:dU):cf fr h (.ld m x)=match P6 h m (x.ev fr) with|some v=>some (v,h)|none=>none:=by simp only[cf];cases P6 h m (x.ev fr)<;>rfl
theorem Y4(m:Nat)(x v:dU):cf fr h (.st m x v)=match x.ev fr,(v.ev fr).cells? with
 |.ptr id off,some vs=>match h.row id with
   |some cs=>if vs.length=m/\off+m<=cs.length then some (.undef,(h.set id (.row (putAt cs off vs))).mark id (v.ev fr)) else none
   |none=>none
 |_,_=>none:=rfl
theorem Wx(x:dU):cf fr h (.nck x)=match QZ (x.ev fr) with|some false=>some (x.ev fr,h)|_=>none:=rfl
theorem Uk(op:BinOp)(x y:dU):cf fr h (.bin op x y)=match wV op (x.ev fr) (y.ev fr) with|some v=>some (v,h)|none=>none:=by simp only[cf];cases wV op (x.ev fr) (y.ev fr)<;>rfl
theorem Wz(neg:Bool)(x y:dU):cf fr h (.beq neg x y)=match x.ev fr,y.ev fr with|.bool a,.bool b=>some (.bool (if neg then !(a==b) else a==b),h)|_,_=>none:=rfl
theorem UK(ks:List Nat)(neg:Bool)(x y:dU):cf fr h (.YK ks neg x y)=match x.ev fr,y.ev fr with
 |.agg a,.agg b=>(match lN ks a b with|some r=>some (.bool (if neg then !r else r),h)|none=>none)
 |_,_=>none:=by
 simp only[cf];cases x.ev fr<;>try rfl
 cases y.ev fr<;>try rfl
 rename_i a b;dsimp only;cases lN ks a b<;>rfl
theorem Ua(k:Nat)(neg:Bool)(x y:dU):cf fr h (.peq k neg x y)=match wL k (x.ev fr),wL k (y.ev fr) with|some p,some true=>some (.bool (if neg then !p else p),h)|_,_=>none:=rfl
theorem Vl(x:dU):cf fr h (.un .not x)=match x.ev fr with|.bool b=>some (.bool (!b),h)|_=>none:=by simp only[cf];cases x.ev fr<;>rfl
theorem TD(x:dU):cf fr h (.un .neg x)=match x.ev fr with|.int k n=>some (.int k (k.wrap (0-n)),h)|_=>none:=by simp only[cf];cases x.ev fr<;>rfl
theorem UQ(x:dU):cf fr h (.un .xor x)=match x.ev fr with|.int k n=>some (.int k (Gr .xor k (if k.signed then -1 else k.max) n),h)|_=>none:=by simp only[cf];cases x.ev fr<;>rfl
theorem VZ(k:IntKind)(x:dU):cf fr h (.Xl k x)=match x.ev fr with|.int _ n=>some (.int k (k.wrap n),h)|_=>none:=rfl
theorem RF(x:dU):cf fr h (.M8 x)=match x.ev fr with|.int _ n=>if 0<=n/\n<128 then some (.str [UInt8.ofNat n.toNat],h) else none|_=>none:=rfl
theorem RE(x:dU):cf fr h (.TO x)=match x.ev fr with|.str s=>some (.sl (s.map λb=>.int .u8 b.toNat),h)|_=>none:=rfl
theorem Rk(x:dU):cf fr h (.Tg x)=match aT h 1 (x.ev fr),x.ev fr with
 |_,.str _=>none
 |some (_,cs),_=>(bytesOf cs).map λs=>(.str s,h)
 |none,_=>none:=rfl
theorem US(f:Nat)(bC:List dU):cf fr h (.Ui f bC)=some (.fn f (bC.map (·.ev fr)),h):=rfl
theorem U6(x:dU)(lo hi:Option dU):cf fr h (.EV x lo hi)=match x.ev fr with
 |.str s=>(match sliceB s.length (lo.map (·.ev fr)) (hi.map (·.ev fr)) with|some (l,u)=>some (.str ((s.take u).drop l),h)|none=>none)
 |_=>none:=by
 simp only[cf];cases x.ev fr<;>try rfl
 dsimp only;rename_i s;cases sliceB s.length (lo.map (·.ev fr)) (hi.map (·.ev fr))<;>rfl
theorem Tz(sz:Nat)(x:dU)(lo hi mx:Option dU):cf fr h (.slv sz x lo hi mx)=match x.ev fr with
 |.aJ=>(match jc 0 0 (lo.map (·.ev fr)) (hi.map (·.ev fr)) (mx.map (·.ev fr)) with|some _=>some (.aJ,h)|none=>none)
 |.sl xs=>if (xs.all λx=>(x.cells?.map List.length)==some sz) then
  (match jc xs.length xs.length (lo.map (·.ev fr)) (hi.map (·.ev fr)) (mx.map (·.ev fr)) with|some (l,u,m)=>some (if m=some l then .aJ else .sl ((xs.take u).drop l),h)|none=>none) else none
 |.vec id off len s lb=>if s=sz then
  (match jc len lb (lo.map (·.ev fr)) (hi.map (·.ev fr)) (mx.map (·.ev fr)) with|some (l,u,m)=>some (if m=some l then .aJ else .vec id (off+l*sz) (u-l) sz (m.getD lb-l),h)|none=>none) else none
 |_=>none:=by
 simp only[cf];cases x.ev fr<;>try rfl
 .dsimp only;cases jc 0 0 (lo.map (·.ev fr)) (hi.map (·.ev fr)) (mx.map (·.ev fr))<;>rfl
 .dsimp only;split
  .rename_i xs _;cases jc xs.length xs.length (lo.map (·.ev fr)) (hi.map (·.ev fr)) (mx.map (·.ev fr))<;>rfl
  .rfl
 .dsimp only;rename_i len _ lb;split
  .cases jc len lb (lo.map (·.ev fr)) (hi.map (·.ev fr)) (mx.map (·.ev fr))<;>rfl
  .rfl
theorem TT(off:Nat)(x:dU):cf fr h (.fad off x)=match x.ev fr with|.ptr id o=>some (.ptr id (o+off),h)|.ip cs=>some (.ip (cs.drop off),h)|_=>none:=rfl
theorem QX(off:Nat)(x:dU):cf fr h (.Xj off none x)=match x.ev fr with
 |.agg cs=>(match cs[off]? with|some v=>some (v,h)|none=>none)
 |_=>none:=by
 simp only[cf];cases x.ev fr<;>try rfl
 dsimp only;rename_i cs;cases cs[off]?<;>rfl
theorem Su(off n:Nat)(x:dU):cf fr h (.Xj off (some n) x)=match x.ev fr with
 |.agg cs=>if off+n<=cs.length then some (.agg ((cs.drop off).take n),h) else none
 |_=>none:=rfl
theorem U7(sz:Nat)(x i:dU):cf fr h (.iad sz x i)=match x.ev fr,i.ev fr with
 |.sl xs,.int _ i=>if 0<=i then (match xs[i.toNat]? with
  |some v=>(match v.cells? with
    |some cs=>if cs.length=sz then some (.ip cs,h) else none
    |none=>none)
  |none=>none) else none
 |.vec id off len s _,.int _ i=>if 0<=i/\i<len/\s=sz then some (.ptr id (off+i.toNat*sz),h) else none
 |_,_=>none:=rfl
theorem VE(x i:dU):cf fr h (.ZW x i)=match x.ev fr,i.ev fr with
 |.str s,.int _ i=>if 0<=i then (match s[i.toNat]? with|some b=>some (.int .u8 b.toNat,h)|none=>none) else none
 |_,_=>none:=by
 simp only[cf];cases x.ev fr<;>try rfl
 cases i.ev fr<;>try rfl
 rename_i s k i;dsimp only;cases s[i.toNat]?<;>rfl
theorem U8(x:dU)(i:Nat):cf fr h (.ext x i)=match x.ev fr with
 |.tuple vs=>(match vs[i]? with|some v=>some (v,h)|none=>none)
 |_=>none:=by
 simp only[cf];cases x.ev fr<;>try rfl
 rename_i vs;dsimp only;cases vs[i]?<;>rfl
theorem Rp(x:dU):cf fr h (.lens x)=match x.ev fr with|.str s=>some (.int .i64 s.length,h)|_=>none:=rfl
theorem gn(x:dU):cf fr h (.xX x)=match x.ev fr with
 |.aJ=>some (.int .i64 0,h)
 |.sl xs=>some (.int .i64 xs.length,h)
 |.vec _ _ n _ _=>some (.int .i64 n,h)
 |_=>none:=rfl
theorem BX(x y:dU):cf fr h (.mx x y)=match x.ev fr,y.ev fr with|.int k a,.int _ b=>some (.int k (if a<b then b else a),h)|_,_=>none:=rfl
theorem ZT(x y:dU):cf fr h (.mn x y)=match x.ev fr,y.ev fr with|.int k a,.int _ b=>some (.int k (if b<a then b else a),h)|_,_=>none:=rfl
theorem Ub(sz bytes:Nat)(x y:dU):cf fr h (.app sz bytes x y)=match aT h sz (y.ev fr) with
 |none=>none
 |some (n,news)=>
   match x.ev fr with
   |.aJ=>if n=0 then some (.aJ,h) else
     if n*bytes<=140737488355328/\n<2^63 then some (.vec h.next 0 n sz n,⟨h.next+1,.row news::h.iF,h.wl,h.md⟩) else none
   |.vec id off len s lb=>match h.row id with
     |some cs=>if s=sz/\off+len*sz<=cs.length then
      if n=0 then some (.vec id off len s lb,h) else
      if len+n<=lb/\off+(len+n)*sz<=cs.length then some (.vec id off (len+n) sz lb,(h.set id (.row (putAt cs (off+len*sz) news))).mark id (.agg news)) else
      if (len+n)*bytes<=140737488355328/\len+n<2^63 then
       some (.vec h.next 0 (len+n) sz (len+n),(h.set id .dead).alloc (.row ((cs.drop off).take (len*sz)++news))) else none
       else none
     |none=>none
   |_=>none:=rfl
theorem TB(len:Nat)(z:List AV)(ps:List (Nat×dU)):cf fr h (.Xn len z ps)=match mM z (ps.map λp=>(p.1*1,1,p.2.ev fr)) with|some cs=>if (bytesOf cs).isSome then some (.sl cs,h) else none|none=>none:=rfl
theorem Re(x:dU):cf fr h (.HU x)=match x.ev fr with|.sl cs=>(bytesOf cs).map λs=>(.str s,h)|_=>none:=rfl
theorem Vc:cf fr h .bs0=some (.aJ,h):=rfl
theorem QW(neg:Bool)(x:dU):cf fr h (.MD neg x)=match x.ev fr with
 |.sl (_::_)=>some (.bool neg,h)
 |.vec _ _ (_+1) _ _=>some (.bool neg,h)
 |_=>none:=rfl
theorem Tw(h:ai)(id:Nat):h.row id=match h.get id with|some (.row cs)=>some cs|_=>none:=rfl
theorem ac0(nx:Nat)(os:List bp)(wl md id:Nat):ai.get ⟨nx,os,wl,md⟩ id=if id<nx then os[nx-1-id]? else none:=rfl
theorem set_mk(nx:Nat)(os:List bp)(wl md id:Nat)(o:bp):ai.set ⟨nx,os,wl,md⟩ id o=if id<nx then⟨nx,os.set (nx-1-id) o,wl,min md id⟩ else⟨nx,os,wl,md⟩:=by unfold ai.set;split<;>rfl
theorem ZL(nx:Nat)(os:List bp)(wl md id:Nat)(v:AV):ai.mark ⟨nx,os,wl,md⟩ id v=if id+1<v.aK then⟨nx,os,min wl id,md⟩ else⟨nx,os,wl,md⟩:=by unfold ai.mark;split<;>rfl
theorem R6(nx:Nat)(os:List bp)(wl md:Nat)(o:bp):ai.alloc ⟨nx,os,wl,md⟩ o=⟨nx+1,o::os,wl,md⟩:=rfl
theorem V8(nx:Nat)(os:List bp)(wl md n:Nat):ai.kz ⟨nx,os,wl,md⟩ n=⟨min nx n,os.drop (nx-n),wl,md⟩:=rfl
theorem MM:jj fr h []=some []:=rfl
theorem JG(r:KE)(rs:List KE):jj fr h (r::rs)=match wa fr h r with
 |some v=>(match jj fr h rs with|some vs=>some (v::vs)|none=>none)
 |none=>none:=by
 simp only[jj]
 cases wa fr h r with
 |none=>rfl
 |some v=>cases jj fr h rs<;>rfl
theorem Sd(a b c:Nat)(os0 os:List bp)(nx wl md:Nat)(v:AV):finish false ⟨a,os0,b,c⟩ v ⟨nx,os,wl,md⟩=
 match jF ⟨nx,os,wl,md⟩ a 8 v with
 |none=>(v,⟨nx,os,min b wl,min c md⟩)
 |some (v',eS)=>
   if a<=wl/\v'.aK<=a then (v',⟨min nx a,os.drop (nx-a),b,if md<a then min c md else c⟩)
   else match kill ⟨nx,os,wl,md⟩ eS with|⟨N9,ng,_,_⟩=>(v',⟨N9,ng,min b wl,min c md⟩):=by
 simp only[finish,Bool.false_eq_true,if_false]
 cases jF ⟨nx,os,wl,md⟩ a 8 v with
 |none=>rfl
 |some p=>obtain⟨v',eS⟩:=p;dsimp only;split<;>rfl
theorem Ry(cs:List AV):(AV.agg cs).cells? =some cs:=rfl
theorem M7(b:Bool):(AV.bool b).cells? =some [.bool b]:=rfl
theorem Sj(k:IntKind)(n:Int):(AV.int k n).cells? =some [.int k n]:=rfl
theorem RJ(s:List UInt8):(AV.str s).cells? =some [.str s]:=rfl
theorem Mz:AV.mV.cells? =some [.mV]:=rfl
theorem Sv(i o:Nat):(AV.ptr i o).cells? =some [.ptr i o]:=rfl
theorem Uh(cs:List AV):(AV.ip cs).cells? =some [.ip cs]:=rfl
theorem MH:AV.aJ.cells? =some [.aJ]:=rfl
theorem Vo(xs:List AV):(AV.sl xs).cells? =some [.sl xs]:=rfl
theorem QO(a b c d e:Nat):(AV.vec a b c d e).cells? =some [.vec a b c d e]:=rfl
theorem MV:AV.om.cells? =some [.om]:=rfl
theorem QP(i:Nat):(AV.map i).cells? =some [.map i]:=rfl
theorem JJ:AV.jv.cells? =some [.jv]:=rfl
theorem WD(f:Nat)(cs:List AV):(AV.fn f cs).cells? =some [.fn f cs]:=rfl
theorem MT:AV.mR.cells? =some [.mR]:=rfl
theorem Jw(t:Nat)(v:AV):(AV.iface t v).cells? =some [.iface t v]:=rfl
section
variable (n0 d:Nat)
theorem Rw:jF h n0 (d+1) .undef=some (.undef,[]):=rfl
theorem Uy(b:Bool):jF h n0 (d+1) (.bool b)=some (.bool b,[]):=rfl
theorem YY(k:IntKind)(n:Int):jF h n0 (d+1) (.int k n)=some (.int k n,[]):=rfl
theorem X4(s:List UInt8):jF h n0 (d+1) (.str s)=some (.str s,[]):=rfl
theorem Up:jF h n0 (d+1) .mV=some (.mV,[]):=rfl
theorem YA(i o:Nat):jF h n0 (d+1) (.ptr i o)=some (.ptr i o,[]):=rfl
theorem adE(cs:List AV):jF h n0 (d+1) (.ip cs)=some (.ip cs,[]):=rfl
theorem Uw:jF h n0 (d+1) .aJ=some (.aJ,[]):=rfl
theorem acD(xs:List AV):jF h n0 (d+1) (.sl xs)=some (.sl xs,[]):=rfl
theorem Vt:jF h n0 (d+1) .om=some (.om,[]):=rfl
theorem Zx(i:Nat):jF h n0 (d+1) (.map i)=some (.map i,[]):=rfl
theorem Rb:jF h n0 (d+1) .jv=some (.jv,[]):=rfl
theorem abZ(f:Nat)(cs:List AV):jF h n0 (d+1) (.fn f cs)=some (.fn f cs,[]):=rfl
theorem Tj:jF h n0 (d+1) .mR=some (.mR,[]):=rfl
theorem Rt(t:Nat)(v:AV):jF h n0 (d+1) (.iface t v)=some (.iface t v,[]):=rfl
theorem YM{id:Nat}(off len sz lb:Nat)(cG:id<n0):jF h n0 (d+1) (.vec id off len sz lb)=some (.vec id off len sz lb,[]):=by simp only[jF,cG,if_true]
theorem iA(id off len sz lb:Nat):jF h n0 (d+1) (.vec id off len sz lb)=if id<n0 then some (.vec id off len sz lb,[]) else
 match h.row id with
 |some cs=>if off+len*sz<=cs.length/\sz≠0 then
  (match kY (jF h n0 d) ((cs.drop off).take (len*sz)) with
  |some (jt,eS)=>if AV.aw jt=0/\(jt.all λc=>c.cells?.map List.length==some 1) then some (.sl (chunk sz len jt),id::eS) else none
  |none=>none) else none
 |none=>none:=rfl
theorem Y5(cs:List AV):jF h n0 (d+1) (.agg cs)=match kY (jF h n0 d) cs with|some (jt,eS)=>some (.agg jt,eS)|none=>none:=by simp only[jF];cases kY (jF h n0 d) cs<;>rfl
theorem QR(cs:List AV):jF h n0 (d+1) (.tuple cs)=match kY (jF h n0 d) cs with|some (jt,eS)=>some (.tuple jt,eS)|none=>none:=by simp only[jF];cases kY (jF h n0 d) cs<;>rfl
theorem VR(F:AV->Option (AV×List Nat)):kY F []=some ([],[]):=rfl
theorem RS(F:AV->Option (AV×List Nat))(v:AV)(r:List AV):kY F (v::r)=match F v with
 |some (v',i)=>(match kY F r with|some (r',j)=>some (v'::r',i++j)|none=>none)
 |none=>none:=by
 simp only[kY]
 cases F v with
 |none=>rfl
 |some p=>obtain⟨v',i⟩:=p;cases kY F r<;>rfl
end
theorem Ke(sz:Nat):aT h sz .aJ=some (0,[]):=rfl
theorem MR(sz id off len s lb:Nat):aT h sz (.vec id off len s lb)=match h.row id with
 |some cs=>if s=sz/\off+len*sz<=cs.length then some (len,(cs.drop off).take (len*sz)) else none
 |none=>none:=rfl
theorem Nv(sz:Nat)(s:List UInt8):aT h sz (.str s)=if sz=1 then some (s.length,s.map λb=>.int .u8 b.toNat) else none:=rfl
theorem Vj:kill h []=h:=rfl
theorem QK(id:Nat)(r:List Nat):kill h (id::r)=kill (h.set id .dead) r:=rfl
theorem Ma(sz:Nat)(cs:List AV):chunk sz 0 cs=[]:=rfl
theorem NN(sz n:Nat)(cs:List AV):chunk sz (n+1) cs=(if sz=1 then (cs.headD .undef) else .agg (cs.take sz))::chunk sz n (cs.drop sz):=rfl
theorem QS(b:Bool):re (.bool b)=true:=rfl
theorem VM(k:IntKind)(n:Int):re (.int k n)=true:=rfl
theorem TI(s:List UInt8):re (.str s)=true:=rfl
theorem RN:re .aJ=true:=rfl
theorem Zr(xs:List AV):re (.sl xs)=false:=rfl
theorem NG(vs:List AV):re (.tuple vs)=vs.all tF:=rfl
theorem VT(vs:List AV):re (.agg vs)=vs.all tF:=rfl
theorem Ms(b:Bool):tF (.bool b)=true:=rfl
theorem R8(k:IntKind)(n:Int):tF (.int k n)=true:=rfl
theorem Sx(s:List UInt8):tF (.str s)=true:=rfl
theorem Ng:tF .aJ=true:=rfl
theorem VG(xs:List AV):tF (.sl xs)=false:=rfl
theorem QM(vs:List AV):tF (.agg vs)=false:=rfl
theorem UA:cf fr h .die=none:=rfl
theorem RW(cs:List AV)(k:Nat):putAt cs k []=cs:=rfl
theorem jB(x:AV)(cs:List AV)(k:Nat)(v:AV)(vs:List AV):putAt (x::cs) k (v::vs)=putAt ((x::cs).set k v) (k+1) vs:=rfl
end
end
section
theorem wrap_i64{n:Int}(h1:-9223372036854775808<=n)(h2:n<9223372036854775808):IntKind.i64.wrap n=n:=by rw[IntKind.wrap_i64];omega
theorem mm{k:Nat}(h:k<4611686018427387904):IntKind.i64.wrap ((k:Int)+1)=((k+1:Nat):Int):=by rw[wrap_i64 (by omega) (by omega)];rfl
def fm{α:Type}(p:α->Bool):List α->Option Nat
 |[]=>none
 |x::r=>if p x then some 0 else (fm p r).map (·+1)
def basic:AV->Bool
 |.bool _|.int .. |.str _|.mV|.aJ|.sl _|.ip _|.om|.jv|.mR=>true
 |_=>false
theorem zF{h:ai}{n0 d:Nat}{v:AV}(hv:basic v=true):jF h n0 (d+1) v=some (v,[]):=by cases v<;>first|rfl|cases hv
theorem Mp{v:AV}(hv:basic v=true):v.aK=0:=by cases v<;>first|rfl|cases hv
theorem mh{v:AV}(hv:basic v=true):v.cells? =some [v]:=by cases v<;>first|rfl|cases hv
theorem CY{h:ai}{n0 d:Nat}:∀{cs:List AV},cs.all basic=true->kY (jF h n0 (d+1)) cs=some (cs,[])
 |[],_=>rfl
 |v::r,hb=>by simp only[List.all_cons,Bool.and_eq_true] at hb;simp only[kY,zF hb.1,CY hb.2,List.append_nil]
theorem nU:∀{cs:List AV},cs.all basic=true->AV.aw cs=0
 |[],_=>rfl
 |v::r,hb=>by simp only[List.all_cons,Bool.and_eq_true] at hb;simp only[AV.aw,Mp hb.1,nU hb.2];rfl
theorem Eh:∀{cs:List AV},cs.all basic=true->(cs.all λc=>c.cells?.map List.length==some 1)=true
 |[],_=>rfl
 |v::r,hb=>by simp only[List.all_cons,Bool.and_eq_true] at hb|-;exact⟨by rw[mh hb.1];rfl,Eh hb.2⟩
def Fl(sz:Nat)(v:AV):Prop:=v.cells.length=sz/\v.cells.all basic=true/\(sz=1->v.cells=[v])/\(sz≠1->v=.agg v.cells)/\v.cells? =some v.cells
theorem xU{sz:Nat}{xs:List AV}(h:∀x∈xs,Fl sz x):(xs.flatMap AV.cells).all basic=true:=by rw[List.all_eq_true];intro v hv;obtain⟨x,hx,hv⟩:=List.mem_flatMap.1 hv;exact List.all_eq_true.1 (h x hx).2.1 v hv
theorem xT{sz:Nat}:∀{xs:List AV},(∀x∈xs,Fl sz x)->(xs.flatMap AV.cells).length=xs.length*sz
 |[],_=>by simp
 |x::r,h=>by
   have:=xT (xs:=r) λy hy=>h y (by simp[hy])
   simp only[List.flatMap_cons,List.length_append,List.length_cons,this,(h x (by simp)).1,Nat.add_mul];omega
theorem Dd{sz:Nat}:∀{xs:List AV},(∀x∈xs,Fl sz x)->chunk sz xs.length (xs.flatMap AV.cells)=xs
 |[],_=>rfl
 |x::r,h=>by
   have hx:=h x (by simp);have ih:=Dd (xs:=r) λy hy=>h y (by simp[hy])
   simp only[List.length_cons,List.flatMap_cons,chunk];have hd:(x.cells++r.flatMap AV.cells).drop sz=r.flatMap AV.cells:=by rw[<-hx.1];simp
   rw[hd,ih];congr 1;split
   .rename_i h1;rw[hx.2.2.1 h1];rfl
   .rename_i h1;have ht:(x.cells++r.flatMap AV.cells).take sz=x.cells:=by rw[<-hx.1];simp
    rw[ht];exact (hx.2.2.2.1 h1).symm
theorem J7{sz:Nat}{xs:List AV}(h:∀x∈xs,Fl sz x):(xs.all λx=>(x.cells?.map List.length)==some sz)=true:=by rw[List.all_eq_true];intro x hx;have:=h x hx;rw[this.2.2.2.2];simp[this.1]
theorem qS(vs:List AV):∀(cs:List AV) (k:Nat),k+vs.length<=cs.length->putAt cs k vs=cs.take k++vs++cs.drop (k+vs.length):=by
 induction vs with
 |nil=>intro cs k _;simp[putAt]
 |cons v r ih=>
   intro cs k h;simp only[List.length_cons] at h;rw[putAt,ih _ _ (by simp;omega)];have hk:k<cs.length:=by omega
   have e1:(cs.set k v).take (k+1)=cs.take k++[v]:=by rw[List.take_set,List.take_succ_eq_append_getElem hk,List.set_append_right _ _ (by simp;omega)];simp[Nat.min_eq_left (Nat.le_of_lt hk)]
   have e2:(cs.set k v).drop (k+1+r.length)=cs.drop (k+(r.length+1)):=by rw[List.drop_set_of_lt (by omega)];congr 1;omega
   rw[e1,e2];simp
theorem yj{h:ai}{n0 d id len sz lb:Nat}{xs:List AV}{cs:List AV}(cG:n0<=id)(hg:h.get id=some (.row cs))(kU:sz≠0)(hx:∀x∈xs,Fl sz x)(hl:xs.length=len)(hle:len*sz<=cs.length)(hc:cs.take (len*sz)=xs.flatMap AV.cells):
 jF h n0 (d+2) (.vec id 0 len sz lb)=some (.sl xs,[id]):=by
 subst hl;have hb:=xU hx
 have e:jF h n0 (d+2) (.vec id 0 xs.length sz lb)=if id<n0 then some (.vec id 0 xs.length sz lb,[]) else match h.row id with
  |some cs=>if 0+xs.length*sz<=cs.length/\sz≠0 then
   (match kY (jF h n0 (d+1)) ((cs.drop 0).take (xs.length*sz)) with
   |some (jt,eS)=>if AV.aw jt=0/\(jt.all λc=>c.cells?.map List.length==some 1) then some (.sl (chunk sz xs.length jt),id::eS) else none
   |none=>none) else none
  |none=>none:=rfl
 rw[e,if_neg (by omega),Tw,hg];dsimp only;rw[if_pos ⟨by omega,kU⟩,List.drop_zero,hc,CY hb];dsimp only;rw[if_pos ⟨nU hb,Eh hb⟩,Dd hx]
theorem oG(vs:List AV){cs:List AV}{k:Nat}(h:k+vs.length<=cs.length):(putAt cs k vs).take (k+vs.length)=cs.take k++vs:=by rw[qS vs cs k h];exact List.take_left' (by simp;omega)
theorem Q6(n:Nat):(n+1<=n)=False:=eq_false (by omega)
end
section
def lk:List (Nat×AV)->Nat->AV
 |[],_=>.undef
 |(k,v)::m,t=>if k=t then v else lk m t
def FM(n:Nat)(m:List (Nat×AV)):List AV:=(List.range n).map (lk m)
def mk(n:Nat)(ks:List Nat):List Bool:=(List.range n).map λt=>ks.contains t
def pick(m:List (Nat×AV)):List Nat->List (Nat×AV)
 |[]=>[]
 |k::ks=>(k,lk m k)::pick m ks
def ya:Nat->List AV->List (Nat×AV)
 |_,[]=>[]
 |k,a::r=>(k,a)::ya (k+1) r
def wb(n:Nat):Nat->List (Nat×AV)->Bool
 |_,[]=>true
 |lo,(k,_)::r=>decide (lo<=k)&&decide (k<n)&&wb n (k+1) r
def C5:List (Nat×AV)->List AV
 |[]=>[]
 |(_,v)::r=>v::C5 r
def Lp(n0:Nat)(ks:List Nat):List (Nat×AV)->List (Nat×AV)
 |[]=>[]
 |(k,v)::r=>(k,ck n0 ks v)::Lp n0 ks r
theorem acA(t:Nat)(v:AV)(m:List (Nat×AV)):lk ((t,v)::m) t=v:=if_pos rfl
theorem YU{k t:Nat}(v:AV)(m:List (Nat×AV))(h:(k==t)=false):lk ((k,v)::m) t=lk m t:=if_neg (by simpa using h)
theorem adg(t:Nat):lk [] t=.undef:=rfl
theorem nE(n:Nat)(m:List (Nat×AV)):(FM n m).length=n:=by simp[FM]
theorem wM{n t:Nat}(m:List (Nat×AV))(h:t<n):(FM n m)[t]? =some (lk m t):=by simp[FM,h]
theorem B0{n t:Nat}(m:List (Nat×AV))(h:t<n):(FM n m).getD t .undef=lk m t:=by rw[List.getD_eq_getElem?_getD,wM m h];rfl
theorem Vf(n:Nat)(m:List (Nat×AV))(t:Nat)(v:AV):(FM n m).set t v=FM n ((t,v)::m):=by
 apply List.ext_getElem?;intro i;rw[List.getElem?_set,nE];by_cases hi:i<n
 .rw[wM _ hi,wM _ hi];by_cases e:t=i
  .subst e;simp[hi,lk]
  .simp[e,lk]
 .have h1:(FM n m)[i]? =none:=List.getElem?_eq_none (by rw[nE];omega);have h2:(FM n ((t,v)::m))[i]? =none:=List.getElem?_eq_none (by rw[nE];omega);rw[h1,h2];split
  .split
   .omega
   .rfl
  .rfl
theorem agM{n t:Nat}(m:List (Nat×AV))(h:t<n):dU.ev (FM n m) (.tmp t)=lk m t:=B0 m h
theorem Uv(fr:List AV)(v:AV):dU.ev fr (.const v)=v:=rfl
theorem adK(n:Nat)(m:List (Nat×AV))(d:Nat)(v:AV):gP (FM n m) (some d) v=FM n ((d,v)::m):=Vf n m d v
theorem Ux(fr:List AV)(v:AV):gP fr none v=fr:=rfl
theorem Jh{n t:Nat}(m:List (Nat×AV))(want:Bool)(h:t<n):dR (FM n m) (some (t,want))=match lk m t with
 |.bool b=>some (b !=want)
 |.tuple []=>some true
 |_=>none:=by
 simp only[dR,wM m h]
 cases lk m t with
 |tuple vs=>cases vs<;>rfl
 |_=>rfl
theorem YE{n t:Nat}(m:List (Nat×AV))(hp:ai)(h:t<n):wa (FM n m) hp (.tmp t)=some (lk m t):=by simp only[wa,B0 m h]
theorem Ya{n t:Nat}(m:List (Nat×AV))(hp:ai)(k:Option Nat)(h:t<n):wa (FM n m) hp (.cell t k)=P6 hp k (lk m t):=by simp only[wa,B0 m h]
theorem P5(m:List (Nat×AV))(t:Nat):∀ks:List Nat,lk (pick m ks) t=if ks.contains t then lk m t else .undef
 |[]=>by simp[pick,lk]
 |k::ks=>by
   simp only[pick,lk,P5 m t ks,List.contains_cons];by_cases e:k=t
   .subst e;simp
   .have e':¬t=k:=λh=>e h.symm
    simp[e,e']
theorem Ga:∀(bs:List Bool) (fr:List AV) (t:Nat),bs.length=fr.length->(clear bs fr)[t]? =(fr[t]?).map λv=>if bs.getD t false then v else .undef
 |[],[],t,_=>by simp[clear]
 |b::bs,v::fr,0,_=>by simp[clear]
 |b::bs,v::fr,t+1,h=>by simp only[clear,List.getElem?_cons_succ,List.getD_cons_succ];exact Ga bs fr t (by simpa using h)
theorem Ln(n:Nat)(m:List (Nat×AV))(ks:List Nat):clear (mk n ks) (FM n m)=FM n (pick m ks):=by
 apply List.ext_getElem?;intro t;rw[Ga _ _ _ (by simp[mk,FM])];by_cases ht:t<n
 .rw[wM _ ht,wM _ ht,P5]
  have:(mk n ks).getD t false=ks.contains t:=by rw[List.getD_eq_getElem?_getD];simp[mk,ht]
  simp only[this,Option.map_some]
 .have h1:(FM n m)[t]? =none:=List.getElem?_eq_none (by rw[nE];omega);have h2:(FM n (pick m ks))[t]? =none:=List.getElem?_eq_none (by rw[nE];omega);rw[h1,h2];rfl
def Bm:Nat->List Bool->List Nat
 |_,[]=>[]
 |k,true::r=>k::Bm (k+1) r
 |k,false::r=>Bm (k+1) r
theorem Ao:∀(bs:List Bool) (k t:Nat),(Bm k bs).contains t=(decide (k<=t)&&bs.getD (t-k) false)
 |[],k,t=>by simp[Bm]
 |true::r,k,t=>by
   rw[Bm,List.contains_cons,Ao r (k+1) t];by_cases e:t=k
   .subst e;simp
   .by_cases hl:k<=t
    .have:t-k=(t-(k+1))+1:=by omega
     have h2:k+1<=t:=by omega
     simp[e,hl,this,h2]
    .have h2:¬k+1<=t:=by omega
     simp[e,hl,h2]
 |false::r,k,t=>by
   rw[Bm,Ao r (k+1) t];by_cases e:t=k
   .subst e;have h2:¬t+1<=t:=by omega
    simp only[h2,decide_false,Bool.false_and,Nat.sub_self,List.getD_cons_zero,Bool.and_false]
   .by_cases hl:k<=t
    .have:t-k=(t-(k+1))+1:=by omega
     have h2:k+1<=t:=by omega
     simp[hl,this,h2]
    .have h2:¬k+1<=t:=by omega
     simp[hl,h2]
theorem QE{n:Nat}(m:List (Nat×AV))(bs:List Bool)(h:bs.length=n):clear bs (FM n m)=FM n (pick m (Bm 0 bs)):=by
 rw[<-Ln];congr 1;apply List.ext_getElem?;intro t;by_cases ht:t<n
 .have:t<bs.length:=by omega
  simp only[mk,List.getElem?_map,List.getElem?_range ht,Option.map_some,Ao];simp[List.getD_eq_getElem?_getD,this]
 .rw[List.getElem?_eq_none (by omega),List.getElem?_eq_none (by simp[mk];omega)]
theorem Ll:∀(as:List AV) (k t:Nat),lk (ya k as) t=if k<=t then as.getD (t-k) .undef else .undef
 |[],k,t=>by simp[ya,lk]
 |a::r,k,t=>by
   simp only[ya,lk,Ll r (k+1) t];by_cases e:k=t
   .subst e;simp
   .by_cases hl:k<=t
    .have:t-k=(t-(k+1))+1:=by omega
     have h2:k+1<=t:=by omega
     simp[e,hl,this,h2]
    .have h2:¬k+1<=t:=by omega
     simp[e,hl,h2]
theorem Is{n:Nat}(as:List AV)(h:as.length<=n):as++List.replicate (n-as.length) .undef=FM n (ya 0 as):=by
 apply List.ext_getElem?;intro t;by_cases ht:t<n
 .rw[wM _ ht,Ll];simp only[Nat.zero_le,if_true,Nat.sub_zero];by_cases h2:t<as.length
  .rw[List.getElem?_append_left h2,List.getD_eq_getElem?_getD,List.getElem?_eq_getElem h2];rfl
  .rw[List.getElem?_append_right (by omega),List.getElem?_replicate,if_pos (by omega),List.getD_eq_getElem?_getD,List.getElem?_eq_none (by omega)];rfl
 .rw[List.getElem?_eq_none (by simp;omega),List.getElem?_eq_none (by rw[nE];omega)]
theorem yc(n0:Nat):∀(len lo:Nat) (m:List (Nat×AV)) (aB:List Nat),wb (lo+len) lo m=true->az n0 ((List.range' lo len).map (lk m)) aB=az n0 (C5 m) aB
 |0,lo,[],aB,_=>rfl
 |0,lo,(k,v)::m,aB,h=>by simp only[wb,Bool.and_eq_true,decide_eq_true_eq] at h;omega
 |len+1,lo,m,aB,h=>by
   rw[List.range'_succ,List.map_cons]
   cases m with
   |nil=>have:=yc n0 len (lo+1) [] aB rfl;simp only[lk,az,AV.top];exact this
   |cons p r=>
     obtain⟨k,v⟩:=p;simp only[wb,Bool.and_eq_true,decide_eq_true_eq] at h;obtain⟨⟨h1,h2⟩,h3⟩:=h;by_cases e:k=lo
     .subst e
      have tl:(List.range' (k+1) len).map (lk ((k,v)::r))=(List.range' (k+1) len).map (lk r):=by apply List.map_congr_left;intro t ht;have:=List.mem_range'_1.1 ht;simp only[lk];rw[if_neg (by omega)]
      have ih:=λaB=>yc n0 len (k+1) r aB (by rw[show k+1+len=k+(len+1) by omega];exact h3)
      rw[tl];have e0:lk ((k,v)::r) k=v:=if_pos rfl;rw[e0];simp only[C5];unfold az
      cases v.top with
      |none=>dsimp only;exact ih aB
      |some id=>dsimp only;split<;>exact ih _
     .have ih:=yc n0 len (lo+1) ((k,v)::r) aB (by
       simp only[wb,Bool.and_eq_true,decide_eq_true_eq];rw[show lo+1+len=lo+(len+1) by omega];exact⟨⟨by omega,h2⟩,h3⟩)
      have hz:lk ((k,v)::r) lo=.undef:=by
       have:∀(m:List (Nat×AV)) (a t:Nat),wb (lo+(len+1)) a m=true->t<a->lk m t=.undef:=by
        intro m
        induction m with
        |nil=>intro a t _ _;rfl
        |cons p r ih=>obtain⟨k,v⟩:=p;intro a t h ht;simp only[wb,Bool.and_eq_true,decide_eq_true_eq] at h;simp only[lk];rw[if_neg (by omega)];exact ih (k+1) t h.2 (by omega)
       simp only[lk];rw[if_neg e];exact this r (k+1) lo h3 (by omega)
      rw[hz];simp only[az,AV.top];exact ih
theorem PL(n0:Nat)(ks:List Nat)(t:Nat):∀m:List (Nat×AV),lk (Lp n0 ks m) t=ck n0 ks (lk m t)
 |[]=>rfl
 |(k,v)::m=>by
   simp only[Lp,lk];split
   .rfl
   .exact PL n0 ks t m
theorem V7(n n0:Nat)(ks:List Nat)(m:List (Nat×AV)):(FM n m).map (ck n0 ks)=FM n (Lp n0 ks m):=by unfold FM;rw[List.map_map];apply List.map_congr_left;intro t _;exact (PL n0 ks t m).symm
def allM(n0:Nat):List (Nat×AV)->Bool
 |[]=>true
 |(_,v)::r=>(v.top.isSome||decide (v.aK<=n0))&&allM n0 r
theorem abV{m:List (Nat×AV)}{n lo t:Nat}:wb n lo m=true->lk m t=.undef\/∃p∈m,p.2=lk m t:=by
 induction m generalizing lo with
 |nil=>exact λ_=>.inl rfl
 |cons p r ih=>
   obtain⟨k,v⟩:=p;intro h;simp only[wb,Bool.and_eq_true,decide_eq_true_eq] at h;simp only[lk];split
   .exact .inr ⟨_,List.mem_cons_self,rfl⟩
   .rcases ih h.2 with h|⟨p,hp,e⟩
    .exact .inl h
    .exact .inr ⟨p,List.mem_cons_of_mem _ hp,e⟩
theorem RY{m:List (Nat×AV)}{n lo:Nat}:wb n lo m=true->∀p∈m,p.1<n/\lk m p.1=p.2:=by
 induction m generalizing lo with
 |nil=>intro _ p hp;cases hp
 |cons q r ih=>
   obtain⟨k,v⟩:=q;intro h p hp;simp only[wb,Bool.and_eq_true,decide_eq_true_eq] at h
   have low:∀(r:List (Nat×AV)) (a:Nat),wb n a r=true->∀p∈r,a<=p.1:=by
    intro r
    induction r with
    |nil=>intro a _ p hp;cases hp
    |cons q r ih=>
      obtain⟨k,v⟩:=q;intro a h p hp;simp only[wb,Bool.and_eq_true,decide_eq_true_eq] at h
      cases hp with
      |head=>exact h.1.1
      |tail _ hp=>have:=ih (k+1) h.2 p hp;omega
   cases hp with
   |head=>exact⟨h.1.2,if_pos rfl⟩
   |tail _ hp=>obtain⟨g1,g2⟩:=ih h.2 p hp;have:=low r (k+1) h.2 p hp;refine⟨g1,?_⟩;simp only[lk];rw[if_neg (by omega)];exact g2
theorem Tk{n:Nat}{m:List (Nat×AV)}(n0:Nat)(h:wb n 0 m=true):((FM n m).all λv=>v.top.isSome||decide (v.aK<=n0))=allM n0 m:=by
 have e:allM n0 m=m.all λp=>p.2.top.isSome||decide (p.2.aK<=n0):=by
  clear h
  induction m with
  |nil=>rfl
  |cons p r ih=>obtain⟨k,v⟩:=p;simp[allM,ih]
 rw[e,Bool.eq_iff_iff,List.all_eq_true,List.all_eq_true];constructor
 .intro H p hp;obtain⟨h1,h2⟩:=RY h p hp;rw[<-h2];exact H _ (List.mem_map.2 ⟨p.1,by simpa using h1,rfl⟩)
 .intro H v hv;obtain⟨t,_,rfl⟩:=List.mem_map.1 hv;rcases abV (t:=t) h with e|⟨p,hp,e⟩
  .rw[e];simp[AV.aK]
  .rw[<-e];exact H p hp
def Ka(n0:Nat):List bp->List Nat->List Nat
 |[],aB=>aB
 |o::r,aB=>if gV n0 o=true then Ka n0 r aB else Ka n0 r (az n0 (jK o) aB)
def CV(n0:Nat):List bp->Bool
 |[]=>true
 |o::r=>(gV n0 o||(jK o).all (sD n0))&&CV n0 r
def EB(n0:Nat):List bp->Bool
 |[]=>true
 |o::r=>gV n0 o&&EB n0 r
def CR(n0:Nat)(ks:List Nat):List bp->List bp
 |[]=>[]
 |o::r=>(if gV n0 o=true then o else qy n0 ks o)::CR n0 ks r
theorem Ae{n0:Nat}:∀{l:List AV} {aB:List Nat},(l.all λv=>decide (v.aK<=n0))=true->az n0 l aB=aB
 |[],aB,_=>rfl
 |v::r,aB,h=>by
   rw[List.all_cons,Bool.and_eq_true] at h;simp only[az];split
   .rename_i id ht
    have cR:id+1<=n0:=by have:=of_decide_eq_true h.1;cases v<;>simp only[AV.top,Option.some.injEq,reduceCtorEq] at ht<;>subst ht<;>exact this
    rw[if_neg (by omega)];exact Ae h.2
   .exact Ae h.2
theorem zZ(n0:Nat):∀(os:List bp) (aB:List Nat),az n0 (jN os) aB=Ka n0 os aB
 |[],aB=>rfl
 |o::r,aB=>by
   rw[jN,mD,Ka];split
   .rename_i h;rw[Ae h];exact zZ n0 r aB
   .exact zZ n0 r _
theorem PD(n0:Nat):∀os:List bp,(jN os).all (sD n0)=CV n0 os
 |[]=>rfl
 |o::r=>by
   rw[jN,List.all_append,PD n0 r,CV];congr 1;by_cases h:gV n0 o=true
   .rw[h,Bool.true_or,List.all_eq_true];intro v hv;unfold gV at h;have:=List.all_eq_true.1 h v hv;unfold sD;rw[this,Bool.or_true]
   .rw[Bool.not_eq_true] at h;rw[h,Bool.false_or]
theorem PQ(n0:Nat):∀os:List bp,os.all (gV n0)=EB n0 os
 |[]=>rfl
 |o::r=>by rw[List.all_cons,PQ n0 r,EB]
theorem Pq(n0:Nat)(ks:List Nat):∀os:List bp,os.map (qy n0 ks)=CR n0 ks os
 |[]=>rfl
 |o::r=>by
   rw[List.map_cons,Pq n0 ks r,CR];congr 1;split
   .rename_i h;exact ED h
   .rfl
theorem yd(n0:Nat)(cs:List AV):gV n0 (.row cs)=decide (AV.aw cs<=n0):=by
 show (cs.all λv=>decide (v.aK<=n0))=_;rw[Bool.eq_iff_iff,List.all_eq_true,decide_eq_true_eq];constructor
 .intro h;exact AV.kI λv hv=>by simpa using h v hv
 .intro h v hv;have:=AV.dk hv;simp only[decide_eq_true_eq];omega
theorem HH(n0:Nat)(es:List (AV×AV)):gV n0 (.map es)=es.all λe=>decide (e.1.aK<=n0)&&decide (e.2.aK<=n0):=by
 show ((es.flatMap λe=>[e.1,e.2]).all λv=>decide (v.aK<=n0))=_
 induction es with
 |nil=>rfl
 |cons e r ih=>rw[List.flatMap_cons,List.all_append,ih];simp
theorem Fb(n0:Nat):gV n0 .dead=true:=rfl
theorem aaU(n0:Nat){n:Nat}{m:List (Nat×AV)}(nx:Nat)(os:List bp)(wl md:Nat)(hs:wb n 0 m=true):gc n0 (FM n m) ⟨nx,os,wl,md⟩=
 if n0<=wl then
  match ob ⟨nx,os,wl,md⟩ n0 (az n0 (C5 m) []) with
  |some ks=>if n0<=wl/\n0<=nx/\allM n0 m=true then
   (FM n (Lp n0 (az n0 (C5 m) []) m),⟨n0+ks.length,ks.reverse++os.drop (nx-n0),wl,md⟩) else (FM n m,⟨nx,os,wl,md⟩)
  |none=>(FM n m,⟨nx,os,wl,md⟩)
 else
  match ob ⟨nx,os,wl,md⟩ n0 (Ka n0 (os.drop (nx-n0)) (az n0 (C5 m) [])) with
  |some ks=>if n0<=nx/\allM n0 m=true/\CV n0 (os.drop (nx-n0))=true/\EB n0 ((os.drop (nx-n0)).drop (n0-wl))=true then
   (FM n (Lp n0 (Ka n0 (os.drop (nx-n0)) (az n0 (C5 m) [])) m),
    ⟨n0+ks.length,ks.reverse++CR n0 (Ka n0 (os.drop (nx-n0)) (az n0 (C5 m) [])) (os.drop (nx-n0)),wl,min md wl⟩) else (FM n m,⟨nx,os,wl,md⟩)
  |none=>(FM n m,⟨nx,os,wl,md⟩):=by
 have hk:az n0 (FM n m) []=az n0 (C5 m) []:=by have:=yc n0 n 0 m [] (by rw[Nat.zero_add];exact hs);rw[<-List.range_eq_range'] at this;exact this
 have ha:(FM n m).all (sD n0)=allM n0 m:=Tk n0 hs;unfold gc;split
 .unfold JZ;rw[hk,Tk n0 hs,V7];rfl
 .unfold I2;dsimp only;rw[hk,ha,V7,PD,PQ,Pq,zZ];rfl
theorem acF(n0 n nx:Nat)(os:List bp)(wl md:Nat)(hw:n0<=wl):gc n0 (FM n []) ⟨nx,os,wl,md⟩=if n0<=wl/\n0<=nx then (FM n [],⟨n0,os.drop (nx-n0),wl,md⟩) else (FM n [],⟨nx,os,wl,md⟩):=by rw[aaU (m:=[]) n0 nx os wl md rfl];simp[az,C5,ob,allM,Lp,hw]
end
end Sz
