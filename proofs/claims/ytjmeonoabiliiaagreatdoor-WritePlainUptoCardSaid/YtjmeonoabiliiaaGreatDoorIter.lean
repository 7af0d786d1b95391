import Derived.Test.YtjmeonoabiliiaaGreatDoorSz2
import Derived.OrdersIn
import Derived.LoopNIn
import Derived.TacticsIn
import Derived.RangeFuncCalls
import Derived.Test.YtjmeonoabiliiaaGreatDoorArg
import Derived.RangeFuncBox
import Derived.Shelf.Abstract
import Derived.Test.YtjmeonoabiliiaaGreatDoorSz3
import Derived.RangeFuncNested
import Derived.RangeFuncBound
import Derived.RangeFuncLeaves
set_option linter.all false
set_option maxHeartbeats 16000000
set_option maxRecDepth 100000
namespace Sz
open Go
section
variable {X:World->Prop}{l0:Option Nat}{n0:Nat}
def FW:Option Nat->Fence
 |none=>Fence.wide
 |some l=>Fence.wide.inRound l
theorem Xe:∀(l0:Option Nat) (f:FuncId),(FW l0).fn f
 |none,_=>trivial
 |some _,_=>trivial
theorem X0:∀(l0:Option Nat),(FW l0).depth.isSome=true->False
 |none,h=>by cases h
 |some _,h=>by cases h
theorem Yc{n:Nat}{P:Program}{f:FuncId}{args:Array Value}{w:World}{R:Ending->World->Prop}:∀(l0:Option Nat),Calls P f args w R->CallsIn (FW l0) n P f args w R
 |none,h=>callsIn_wide.2 h
 |some l,h=>CallsIn.inRound l (callsIn_wide.2 h)
section
variable {P:Program}{C:Nat->List AV->af->Option (AV×af)}
theorem ahK{ρ:Operand->Value}{o:Oper}(N9:∀c,o.op≠.defer c):o.semAt (FW l0).round ρ=execOp ρ o:=by
 cases l0 with
 |none=>exact Oper.semAt_none ρ o
 |some l=>exact Oper.semAt_some l ρ o N9
theorem aci{o:Oper}{xE:B6}{fr:List AV}{h:af}{r:AV×af}{ops:Array Oper}(hs:rp P o.op=some xE\/Am P ops o=some xE)(hv:bG fr h xE=some r):∀c,o.op≠.defer c:=λc hc=>by
 rw[hc] at hs;rcases hs with hs|hs
 .simp[rp,dt] at hs;subst hs;simp[bG] at hv
 .simp[Am,hc] at hs
theorem adm{b:Prop}[Decidable b]{A:Prop}{G:FuncId->Prop}{B:Prop}(h:if b then A else B):if b then A else ((∀f,G f->(FW l0).fn f)/\B):=by
 split
 .rename_i hb;rwa[if_pos hb] at h
 .rename_i hb;rw[if_neg hb] at h;exact⟨λf _=>Xe l0 f,h⟩
theorem Pv{φ:eJ}{h h':af}{w:World}{fr:List AV}{a:Act}{o:Oper}{v:AV}{f:Nat}{aV:Array Value}{args:List AV}(hC:lY P X C)(hc:C f args h=some (v,h'))(hr:HR φ h w)(hG:ir P X φ h w)(ha:kU φ h w args aV)
 (hf:FR φ h w fr a.tmps) (N9:∀c,o.op≠.defer c) (rG:(execOp a.eval o).run P w=(callFunc f aV).run P w) {K:Act->World->Prop} {Q:Exit->Act->World->Prop}
 (hK:∀φ' cv w',FR φ' h' w' (gw fr o.dst v) (a.put o.dst cv).tmps->HR φ' h' w'->Ext φ h w φ' h' w'->K (a.put o.dst cv) w'):o.wpIn (FW l0) n0 P a w K Q:=by
 refine⟨λf _=>Xe l0 f,?_⟩;rw[ahK N9,rG];rcases hC f args h v h' hc φ w aV hr hG ha with⟨e1,e2⟩|⟨cv,w',φ',e1,e2,e3,e4⟩
 .rw[e1,Oper.uponIn_enter];refine⟨λh=>(X0 l0 h).elim,CallsIn.mono (Yc l0 e2) λe w' he=>?_⟩;obtain⟨φ',cv,rfl,g1,g2,g3⟩:=he;obtain⟨p1,p2⟩:=tH (hf.ext g3) g1 o.dst;exact hK φ' _ w' p1 g2 g3
 .rw[e1,Oper.uponIn_value];obtain⟨p1,p2⟩:=tH (hf.ext e4) e2 o.dst;exact hK φ' _ w' p1 e3 e4
theorem zm(hC:lY P X C){ops:Array Oper}{o:Oper}{s:aQ}(hs:im P ops o=some s){φ:eJ}{h h':af}{w:World}{fr de:List AV}{a:Act}(he:cK C s fr h=some (de,h'))
 (hf:FR φ h w fr a.tmps) (hr:HR φ h w) (hG:ir P X φ h w) {K:Act->World->Prop} {Q:Exit->Act->World->Prop}
 (hK:∀φ' cv w',FR φ' h' w' de (a.put o.dst cv).tmps->HR φ' h' w'->Ext φ h w φ' h' w'->K (a.put o.dst cv) w'):
 if Region.wanted o (yielded ops a.tmps) then o.wpIn (FW l0) n0 P a w K Q else K (a.put o.dst undef) w:=by
 unfold im at hs;split at hs
 .cases hs
 .rename_i DT N2
  -- the guard
  have QN:∃b,cW fr s.guard=some b/\Region.wanted o (yielded ops a.tmps)=!b:=by
   unfold cK at he
   cases hu:cW fr s.guard with
   |none=>rw[hu] at he;cases he
   |some b=>
     refine⟨b,rfl,?_⟩;split at hs
     .rename_i hg;cases hs;simp only[cW,Option.some.injEq] at hu;subst hu;simp[Region.wanted,hg]
     .rename_i j want hg;obtain⟨t,ht,rfl⟩:=Option.map_eq_some_iff.1 hs;simp only[cW] at hu;split at hu
      .rename_i b' B2;cases hu;obtain⟨cY,e⟩:=List.getElem?_eq_some_iff.1 B2;have Gl:t<a.tmps.size:=by rw[hf.1];exact cY
       have:=hf.2 t;rw[List.getD_eq_getElem?_getD,B2,Option.getD_some] at this;have hv:=this.gM
       have mg:a.tmps[t]? =some (.bool b'):=by rw[Array.getD_eq_getD_getElem?,Array.getElem?_eq_getElem Gl,Option.getD_some] at hv;rw[Array.getElem?_eq_getElem Gl,hv]
       have hy:yielded ops a.tmps j=some b':=by unfold yielded;rw[ht];simp[mg]
       simp only[Region.wanted,hg,hy];cases b'<;>cases want<;>rfl
      .rename_i B2;cases hu;obtain⟨cY,e⟩:=List.getElem?_eq_some_iff.1 B2;have Gl:t<a.tmps.size:=by rw[hf.1];exact cY
       have:=hf.2 t;rw[List.getD_eq_getElem?_getD,B2,Option.getD_some] at this;obtain⟨eY,hv,hl,_⟩:=this.sa
       have mg:a.tmps[t]? =some (.tuple eY):=by rw[Array.getD_eq_getD_getElem?,Array.getElem?_eq_getElem Gl,Option.getD_some] at hv;rw[Array.getElem?_eq_getElem Gl,hv]
       have hy:yielded ops a.tmps j=none:=by unfold yielded;rw[ht];simp[mg]
       simp only[Region.wanted,hg,hy];rfl
      .cases hu
  obtain⟨b,hb,hw⟩:=QN
  have QO:s.dst=o.dst/\s.op=DT:=by
   split at hs
   .cases hs;exact⟨rfl,rfl⟩
   .obtain⟨t,ht,rfl⟩:=Option.map_eq_some_iff.1 hs;exact⟨rfl,rfl⟩
  unfold cK at he;rw[hb] at he;rw[hw]
  cases b with
  |true=>simp only[Option.some.injEq,Prod.mk.injEq] at he;obtain⟨rfl,rfl⟩:=he;rw[if_neg (by simp)];rw[QO.1] at hK;obtain⟨p1,p2⟩:=tH hf (RV.tuple [] #[] rfl λj hj=>by simp at hj:fe φ h w (.tuple []) undef) o.dst;exact hK φ _ w p1 hr (.refl _ _ _)
  |false=>
    rw[if_pos (by simp)];simp only[QO.2] at he;rw[QO.1] at he
    have QP:∀xE,(rp P o.op=some xE\/Am P ops o=some xE)->(bG fr h xE).map (λp=>(gw fr o.dst p.1,p.2))=some (de,h')->o.wpIn (FW l0) n0 P a w K Q:=λxE N2 he=>by
     obtain⟨⟨v,h1⟩,hv,e⟩:=Option.map_eq_some_iff.1 he;cases e;have N9:=aci N2 hv;obtain⟨cv,w',φ',e1,e2,e3,e4⟩:=WG N2 hv hf hr;obtain⟨p1,p2⟩:=tH (hf.ext e4) e2 o.dst;have:=hK φ' _ w' p1 e3 e4;refine⟨λf _=>Xe l0 f,?_⟩;rw[ahK N9];rcases e1 with e1|⟨e1,rfl⟩
     .rw[e1,Oper.uponIn_value];exact this
     .rw[e1,Oper.uponIn_skip];exact this
    have Gm:∀(f0:Operand) (iz:Array Operand) (zU:Array TypeId) (x':dY) (args:List dY) (f:Nat) (aO:List AV) (v:AV) (h1:af),o.op=.call {callee:=.value f0,args:=iz,argTypes:=zU}->fZ f0=some x'->
     nH iz=some args->x'.ev fr=.fn f aO->C f (args.map (·.ev fr)++aO) h=some (v,h1)->(gw fr o.dst v,h1)=(de,h')->o.wpIn (FW l0) n0 P a w K Q:=λf0 iz zU x' args f aO v h1 dT hx has AU Gn e=>by
     cases e;have g:=ch hx hf;rw[AU] at g;obtain⟨eY,q1,q2,q3⟩:=g.D5;have ga:=Ll has hf;refine Pv (aV:=iz.map a.eval++eY) hC Gn hr hG ⟨by simp[ga.1,q2],λj hj=>?_⟩ hf ?_ ?_ hK
     .by_cases VE:j<(args.map (·.ev fr)).length
      .have:=ga.2 j VE;rw[List.getElem_append_left VE];have DO:j<(iz.map a.eval).size:=by rw[ga.1];exact VE
       rw[Array.getD_eq_getD_getElem?] at this|-;rw[Array.getElem?_append_left DO];exact this
      .have hj3:j-(args.map (·.ev fr)).length<aO.length:=by simp at hj VE|-;omega
       have:=q3 _ hj3;rw[List.getElem_append_right (by omega)];rw[Array.getD_eq_getD_getElem?] at this|-;rw[Array.getElem?_append_right (by rw[ga.1];omega),ga.1];exact this
     .exact λc hc=>by rw[dT] at hc;cases hc
     .unfold execOp;simp[dT,resolve,q1,Deferred.ofValue,invoke]
    have hinv:∀s',vZ P ops o=some s'->(∃xE,(rp P o.op=some xE\/Am P ops o=some xE)/\s'=.op xE)\/∃f0 iz zU x' args,o.op=.call {callee:=.value f0,args:=iz,argTypes:=zU}/\fZ f0=some x'/\nH iz=some args/\
     ((∃g,x'=.const (.fn g [])/\s'=.call g args)\/s'=.lM x' args):=λs' xW=>by
     unfold vZ at xW;split at xW
     .rename_i xE h1;cases xW;exact .inl ⟨xE,.inr h1,rfl⟩
     unfold JY at xW;split at xW
     .rename_i f0 iz zU dT;split at xW
      .rename_i g as1 h1 h2;cases xW;exact .inr ⟨f0,iz,zU,_,as1,dT,h1,h2,.inl ⟨g,rfl,rfl⟩⟩
      .rename_i f' as1 h1 h2 h3;cases xW;exact .inr ⟨f0,iz,zU,_,as1,dT,by assumption,by assumption,.inr rfl⟩
      .cases xW;exact .inl ⟨.die,.inl (by rw[dT];rfl),rfl⟩
     .obtain⟨xE,h1,rfl⟩:=Option.map_eq_some_iff.1 xW;exact .inl ⟨xE,.inl h1,rfl⟩
    rcases hinv DT N2 with⟨xE,h1,rfl⟩|⟨f0,iz,zU,x',args,dT,hx,has,xW⟩
    .exact QP xE h1 he
    .rcases xW with⟨g,rfl,rfl⟩|rfl
     .dsimp only at he;obtain⟨⟨v,h1⟩,hv,e⟩:=Option.map_eq_some_iff.1 he;exact Gm f0 iz zU _ args g [] v h1 dT hx has rfl (by simpa using hv) e
     .dsimp only at he;split at he
      .rename_i f aO AU;obtain⟨⟨v,h1⟩,hv,e⟩:=Option.map_eq_some_iff.1 he;exact Gm f0 iz zU _ args f aO v h1 dT hx has AU hv e
      .cases he
theorem Hj(hC:lY P X C){ops:Array Oper}{Q:Exit->Act->World->Prop}:∀{l:List Oper} {ss:List aQ},dP (im P ops) l=some ss->∀{φ:eJ} {h h':af} {w:World} {fr de:List AV} {a:Act},
 cS C ss fr h=some (de,h')->FR φ h w fr a.tmps->HR φ h w->ir P X φ h w->
 (∀φ' a' w',FR φ' h' w' de a'.tmps->HR φ' h' w'->Ext φ h w φ' h' w'->a'.defers=a.defers->Q .normal a' w')->wpListIn (FW l0) n0 P ops Q l a w
 |[],ss,hs,φ,h,h',w,fr,de,a,he,hf,hr,hG,hQ=>by simp only[dP,Option.some.injEq] at hs;subst hs;simp only[cS,Option.some.injEq,Prod.mk.injEq] at he;obtain⟨rfl,rfl⟩:=he;exact wpListIn_nil (hQ φ a w hf hr (.refl _ _ _) rfl)
 |o::l,ss,hs,φ,h,h',w,fr,de,a,he,hf,hr,hG,hQ=>by
   unfold dP at hs;split at hs
   .rename_i s ss' h1 h2;cases hs;simp only[cS] at he;split at he
    .rename_i th KJ N3;refine wpListIn_step λK hK=>adm ?_
     refine zm hC h1 N3 hf hr hG λφ1 cv w1 f1 r1 e1=>hK _ _ ?_
     have d1:(a.put o.dst cv).defers=a.defers:=by cases o.dst<;>rfl
     exact Hj hC h2 he f1 r1 (hG.ext e1) λφ2 a2 w2 f2 r2 e2 d2=>hQ φ2 a2 w2 f2 r2 (e1.trans e2) (d2.trans d1)
    .cases he
   .cases hs
end
section
variable {P:Program}{C:Nat->List AV->af->Option (AV×af)}{ops:Array Oper}{ss:List aQ}{b:List Nat}{F:Nat->List AV}{H:Nat->af}{φ0:eJ}{w0:World}{d0:List Deferred}
 {aR:Array Bool} {φ:eJ} {pe:Nat->PE} {cu:List AV} {k:Nat} {a:Act} {w:World}
theorem ack(hC:lY P X C)(hG:ir P X φ0 (H 0) w0)(T:Tr C ss b F H)(st:xU P ops ss b){Q:Exit->Act->World->Prop}
 (hQ:∀φ' a' w',FR φ' (H ss.length) w' (F ss.length) a'.tmps->HR φ' (H ss.length) w'->Ext φ0 (H 0) w0 φ' (H ss.length) w'->a'.defers=d0->Q .normal a' w'):
 ∀(fuel:Nat) (aR:Array Bool) (φ:eJ) (pe:Nat->PE) (cu:List AV) (k:Nat) (a:Act) (w:World),DI ops ss F H φ0 w0 d0 aR φ pe cu k a w->KX ss aR k->Z7 ss.length aR<=fuel->
   wpAnyIn (FW l0) n0 P .any ops Q fuel aR a w:=by
 have N7:∀(aR:Array Bool) (φ:eJ) (pe:Nat->PE) (cu:List AV) (k:Nat) (a:Act) (w:World),DI ops ss F H φ0 w0 d0 aR φ pe cu k a w->KX ss aR k->(∀i,i<ss.length->SS aR i)->Q .normal a w:=λaR φ pe cu k a w D kx iF=>by
  have hk:k=ss.length:=by
   rcases Nat.lt_or_ge k ss.length with h|h
   .obtain⟨s,_,_,hn⟩:=kx h;exact absurd (iF k h) hn
   .have:=D.kn;omega
  subst hk
  have hcu:∀t,cu.getD t .undef=(F ss.length).getD t .undef:=λt=>by
   by_cases hw:∃(j:Nat) (r:aQ),ss[j]? =some r/\r.dst=some t
   .obtain⟨j,r,hj,hd⟩:=hw;have Gj:j<ss.length:=(List.getElem?_eq_some_iff.1 hj).1;exact D.w1 j r t hj hd (iF j Gj) λ_=>Gj
   .have fW:∀(j:Nat) (r:aQ),ss[j]? =some r->r.dst≠some t:=λj r hj hd=>hw ⟨j,r,hj,hd⟩
    rw[D.w3 t fW];have:=T.gB (d:=t) (i:=0) ss.length (by omega) λj' s' _ _ h3=>fW j' s' h3
    simpa using this.symm
  refine hQ φ a w ⟨?_,λt=>?_⟩ D.hr ?_ D.df
  .rw[D.fr.1,D.Z5,T.len ss.length (Nat.le_refl _)]
  .rw[<-hcu t];exact D.fr.2 t
  .have x:=D.ex;refine⟨x.os,x.tape,x.output,x.size,x.next,x.CD,x.pr,?_,λy hy=>(D.Wg y hy).2⟩;funext y;refine propext ⟨λhy=>?_,λhy=>(D.Wg y hy).1⟩;rcases D.gh y hy with h|⟨i,s,h1,h2,_⟩
   .exact h
   .have:=(List.getElem?_eq_some_iff.1 h2).1;omega
 have hnl:∀(aR:Array Bool) (i:Nat),aR.size=ss.length->aR.getD i true=false->i<ss.length/\¬SS aR i:=λaR i iE h=>by
  have cY:i<aR.size:=by
   rcases Nat.lt_or_ge i aR.size with h'|h'
   .exact h'
   .simp[Array.getElem?_eq_none h'] at h
  refine⟨by omega,λhS=>?_⟩;unfold SS at hS;simp[cY] at h hS;rw[h] at hS;cases hS
 intro fuel
 induction fuel with
 |zero=>
   intro aR φ pe cu k a w D kx hu;have iF:∀i,i<ss.length->SS aR i:=λi hi=>LL (by omega) hi
   refine⟨?_,N7 aR φ pe cu k a w D kx iF⟩;apply List.eq_nil_iff_forall_not_mem.2;intro i hi;obtain⟨h1,h2⟩:=hnl aR i D.sz (mem_ready.1 hi).1;exact h2 (iF i h1)
 |succ fuel ih=>
   intro aR φ pe cu k a w D kx hu;refine⟨λh0=>N7 aR φ pe cu k a w D kx λi hi=>?_,λi hi=>?_⟩
   .induction i using Nat.strongRecOn with
    |_ i ihi=>
      refine Classical.byContradiction λuX=>?_
      have agG:i<ops.size:=by rw[<-st.len];exact hi
      have hio:ops[i]? =some ops[i]:=Array.getElem?_eq_getElem agG
      have:i∈Region.ready .any ops aR:=by
       rw[mem_ready];refine⟨?_,_,hio,λe he hb=>?_⟩
       .have cY:i<aR.size:=by rw[D.sz];exact hi
        unfold SS at uX;simp[cY] at uX|-;exact uX
       .have:=st.back i _ hio e he hb;exact ihi e.on this (by omega)
      rw[h0] at this;cases this
   .obtain⟨hun,o,ho,ZN⟩:=mem_ready.1 hi;obtain⟨qo,uX⟩:=hnl aR i D.sz hun;have ti:∀e∈o.after,Region.binds .any e=true->SS aR e.on:=ZN;obtain⟨s,hs,AP⟩:=st.comp i o ho;have hd:=Ms AP;obtain⟨AM,tg,oV,a1,a2⟩:=T.st i s hs;have VI:=D.reads T st kx ho hs ti uX;have B3:∀x∈s.op.nH,x.ev cu=x.ev (F i):=λx hxm=>ub λt ht=>VI t (List.mem_append_right _ (List.mem_flatMap.2 ⟨x,hxm,ht⟩))
    have G1:Z7 ss.length (aR.setIfInBounds i true)<=fuel:=by have:=Q9 qo (by rw[D.sz];exact qo) uX;omega
    unfold wpOpIn;rw[ho];dsimp only;refine adm ?_;by_cases he:s.uy=true
    .rcases Nat.lt_trichotomy i k with IW|IW|IW
     .exact absurd (D.lo i s IW hs he) uX
     .subst IW;obtain⟨v,hF,Gp⟩:=nq VI oV;obtain⟨r1,r2⟩:=D.hr.alike a1;refine zm hC AP Gp (D.fr.ext r2) r1 ((hG.Hs D).ext r2) λφ' cv w' f1 r3 e1=>?_
      obtain⟨r4,r5⟩:=r3.alike a2;have D1:=D.step T st (k':=i+1) ho hs hd ti uX (.inr ⟨rfl,rfl⟩) hF (f1.ext r5) r4 ((r2.trans e1).trans r5);obtain⟨φ2,cu2,k2,D2,kx2⟩:=D1.advance T st (ss.length) (by omega);exact ih _ φ2 pe cu2 k2 _ w' D2 kx2 G1
     .have hp:s.nj=true:=by
       obtain⟨q,hq,G2,N6⟩:=kx (by omega);rcases st.ord k i q s IW hq hs G2 he with h|h
       .exact absurd (kN st D.cl (i+1) i k (by omega) o ho ti h) N6
       .exact h
      obtain⟨cs,vf,hh,hF,hvf,iF⟩:=Cq hp oV;obtain⟨Gp,wi⟩:=iF cu (H k) B3;subst hh;refine zm hC AP Gp D.fr D.hr (hG.Hs D) λφ' cv w' f1 r3 e1=>?_
      have CQ:AM.next=(H i).next:=a1.1
      rw[CQ] at hF;have D1:=D.early T st ho hs hd ti uX IW hp ((a1.alloc _).trans a2) hF hvf (wi _ _ _ D.fr) f1 r3 e1;refine ih _ _ _ _ k _ w' D1 (λh=>?_) G1;obtain⟨q,hq,G2,N6⟩:=kx h;refine⟨q,hq,G2,λh'=>?_⟩;rcases (vq (by rw[D.sz];exact qo) k).1 h' with e|e
      .omega
      .exact N6 e
    .have he:s.uy=false:=by simpa using he
     obtain⟨v,hF,Gp⟩:=nq VI oV
     obtain⟨_,agH⟩:=tw (h2:=H k) he Gp λn x id off dT hx=>by
      have Ky:x.ev (F i)=.ptr id off:=by rw[<-B3 x (by rw[dT];simp[Sd.nH,B6.nH])];exact hx
      rw[a1.get id];exact D.load T st kx ho hs ti uX dT Ky
     refine zm hC AP agH D.fr D.hr (hG.Hs D) λφ' cv w' f1 r3 e1=>?_
     have D1:=D.step T st (k':=k) ho hs hd ti uX (.inl ⟨rfl,he⟩) hF f1 r3 e1;refine ih _ _ _ _ k _ w' D1 (λh=>?_) G1;obtain⟨q,hq,G2,N6⟩:=kx h;refine⟨q,hq,G2,λh'=>?_⟩;rcases (vq (by rw[D.sz];exact qo) k).1 h' with e|e
     .subst e;rw[hs] at hq;rw[<-Option.some.inj hq,he] at G2;cases G2
     .exact N6 e
theorem DY(hC:lY P X C)(hm:P.follows .mixedOrders=true)(hs:dP (im P ops) ops.toList=some ss)(hd:EZ ops ss b=true){F:Nat->List AV}{H:Nat->af}(T:Tr C ss b F H)
 {φ:eJ} {w:World} {a:Act} {id:Nat} {Q:Exit->Act->World->Prop} (hf:FR φ (H 0) w (F 0) a.tmps) (hr:HR φ (H 0) w) (hG:ir P X φ (H 0) w)
 (hQ:∀φ' a' w',FR φ' (H ss.length) w' (F ss.length) a'.tmps->HR φ' (H ss.length) w'->Ext φ (H 0) w φ' (H ss.length) w'->a'.defers=a.defers->Q .normal a' w'):(Code.region id ops true).wpIn (FW l0) n0 P Q a w:=by
 have st:=R9 hs hd;obtain⟨r1,x1⟩:=hr.world (w':={w with drawn:=w.drawn+1}) rfl rfl rfl rfl;refine wpIn_region_any hm ?_
 have wo:∀i,¬SS (Array.replicate ops.size false) i:=λi h=>by unfold SS at h;rw[Array.getD_eq_getD_getElem?,Array.getElem?_replicate] at h;split at h<;>cases h
 have D0:DI ops ss F H φ {w with drawn:=w.drawn+1} a.defers (Array.replicate ops.size false) φ (λ_=>default) (F 0) 0 a {w with drawn:=w.drawn+1}:=by
  refine⟨by simp[st.len],λj o _ h=>absurd h (wo j),Nat.zero_le _,λi s h=>by omega,λi s _ _ _ h=>absurd h (wo i),r1,hf.ext x1,.refl _ _ _,rfl,λi s d _ _ h=>absurd h (wo i),λ_ _ _ _ _ _=>rfl,λ_ _=>rfl,
   λi s _ _ _ h=>absurd h (wo i),λi j s r _ _ _ _ _ _ h=>absurd h (wo i),λy hy=>.inl hy,λy hy=>⟨hy,rfl⟩,rfl⟩
 obtain⟨φ1,cu1,k1,D1,kx⟩:=D0.advance T st ss.length (by omega);refine ack hC (hG.ext x1) T st (λφ' a' w' f1 r2 e1 d1=>hQ φ' a' w' f1 r2 (x1.trans e1) d1) ops.size _ φ1 _ cu1 k1 a _ D1 kx ?_;unfold Z7;have:=List.countP_le_length (p:=λi=>!(Array.replicate ops.size false).getD i false) (l:=List.range ss.length);rw[List.length_range,st.len] at this;rw[st.len];exact this
end
section
variable {P:Program}{C:Nat->List AV->af->Option (AV×af)}
def RO(l0:Option Nat)(n0:Nat)(P:Program)(X:World->Prop)(C:Nat->List AV->af->Option (AV×af))(n:Nat)(ac:bZ)(c:Code):Prop:=
 ∀⦃φ:eJ⦄ ⦃h h':af⦄ ⦃w:World⦄ ⦃fr de:List AV⦄ ⦃a:Act⦄ ⦃ex:Ex⦄,aC C n ac fr h=some (ex,de,h')->FR φ h w fr a.tmps->HR φ h w->ir P X φ h w->∀⦃Q:Exit->Act->World->Prop⦄,
   (∀φ' a' w',FR φ' h' w' de a'.tmps->HR φ' h' w'->Ext φ h w φ' h' w'->a'.defers=a.defers->Q (acr ex) a' w')->c.wpIn (FW l0) n0 P Q a w
theorem MT(uT:oQ C){n:Nat}{ac:bZ}{c:Code}{live:List Bool}(hb:RO l0 n0 P X C n ac c){φe:eJ}{he:af}{we:World}(ti:HR φe he we)(hG:ir P X φe he we):
 ∀(m:Nat) {φ:eJ} {h h':af} {w:World} {fr de:List AV} {a:Act} {ex:Ex},rL (aC C n ac) live he.next m fr h=some (ex,de,h')->
 FR φ h w fr a.tmps->HR φ h w->Ext φe he we φ h w->CW he h->∀{Q:Exit->Act->World->Prop},
 (∀φ' a' w',FR φ' h' w' de a'.tmps->HR φ' h' w'->Ext φe he we φ' h' w'->a'.defers=a.defers->Q (acr ex) a' w')->Code.roundsIn (FW l0) n0 P c Q m a w
 |0,φ,h,h',w,fr,de,a,ex,oV,hf,hr,hx,hc,Q,hQ=>by simp[rL] at oV
 |m+1,φ,h,h',w,fr,de,a,ex,oV,hf,hr,hx,hc,Q,hQ=>by
   rw[roundsIn_succ];simp only[rL] at oV;obtain⟨φ0,r0,f0,x0⟩:=Rf hr (rZ (live:=live) hf) hx ti (hc ti.wf).1;have c0:=Sn (fr:=clear live fr) hc;split at oV
   .rename_i th h1 h2;refine hb h2 f0 r0 (hG.ext x0) λφ1 a1 w1 f1 r1 e1 d1=>?_
    exact MT uT hb ti hG m oV f1 r1 (x0.trans e1) (c0.trans (tV uT h2)) λφ2 a2 w2 f2 r2 e2 d2=>hQ φ2 a2 w2 f2 r2 e2 (d2.trans d1)
   .rename_i eR;refine hb oV f0 r0 (hG.ext x0) λφ1 a1 w1 f1 r1 e1 d1=>?_
    have:=hQ φ1 a1 w1 f1 r1 (x0.trans e1) d1
    cases ex with
    |normal=>exact (eR _ _ oV).elim
    |exit id=>exact this
    |ret=>exact this
theorem lO(hC:lY P X C)(uT:oQ C)(hm:P.follows .mixedOrders=true)(n:Nat):∀(c:Code) (ac:bZ),ck P c=some ac.strip->RO l0 n0 P X C n ac c
 |.skip,ac,hc=>by simp only[ck,Option.some.injEq] at hc;cases ac<;>simp[bZ.strip] at hc;intro φ h h' w fr de a ex he hf hr hG Q hQ;simp only[aC,Option.some.injEq,Prod.mk.injEq] at he;obtain⟨rfl,rfl,rfl⟩:=he;exact wpIn_skip (hQ φ a w hf hr (.refl _ _ _) rfl)
 |.exit id,ac,hc=>by simp only[ck,Option.some.injEq] at hc;cases ac<;>simp[bZ.strip] at hc;subst hc;intro φ h h' w fr de a ex he hf hr hG Q hQ;simp only[aC,Option.some.injEq,Prod.mk.injEq] at he;obtain⟨rfl,rfl,rfl⟩:=he;exact wpIn_exit (hQ φ a w (rZ hf) hr (.refl _ _ _) rfl)
 |.ret,ac,hc=>by simp only[ck,Option.some.injEq] at hc;cases ac<;>simp[bZ.strip] at hc;intro φ h h' w fr de a ex he hf hr hG Q hQ;simp only[aC,Option.some.injEq,Prod.mk.injEq] at he;obtain⟨rfl,rfl,rfl⟩:=he;exact wpIn_ret (hQ φ a w (rZ hf) hr (.refl _ _ _) rfl)
 |.region id ops draw,ac,hc=>by
   simp only[ck] at hc;split at hc
   .rename_i as1 has;split at hc
    .rename_i hd;subst hd;split at hc
     .rename_i cT;simp only[Option.some.injEq] at hc;intro φ h h' w fr de a ex he hf hr hG Q hQ;unfold P7 at hc;split at hc
      .rename_i hp;cases ac<;>simp[bZ.strip] at hc;subst hc;simp only[aC,Option.map_eq_some_iff] at he;obtain⟨⟨th,h1⟩,he,e⟩:=he;cases e;obtain⟨F,H,rfl,rfl,rfl,rfl,qS⟩:=BX he;exact DY hC hm has cT (Tr.of_steps qS hp) hf hr hG hQ
      .cases ac<;>simp[bZ.strip] at hc;obtain⟨rfl,rfl⟩:=hc;simp only[aC] at he;split at he
       .rename_i th h1 tr KK;split at he
        .rename_i agL;cases he;obtain⟨F,H,rfl,rfl,rfl,rfl,qS⟩:=Oy KK;exact DY hC hm has cT (Tr.adr uT qS hr.wf agL) hf hr hG hQ
        .cases he
       .cases he
     .simp only[Option.some.injEq] at hc;intro φ h h' w fr de a ex he;exact (ik hc he).elim
    .rename_i hd;have hd':draw=false:=by simpa using hd
     subst hd';simp only[Option.some.injEq] at hc;cases ac<;>simp[bZ.strip] at hc;subst hc;intro φ h h' w fr de a ex he hf hr hG Q hQ;simp only[aC,Option.map_eq_some_iff] at he;obtain⟨⟨th,h1⟩,he,e⟩:=he;cases e;exact wpIn_region_list (Hj hC has he hf hr hG hQ)
   .simp only[Option.some.injEq] at hc;intro φ h h' w fr de a ex he;exact (ik hc he).elim
 |.seq x y,ac,hc=>by
   simp only[ck] at hc;split at hc
   .rename_i x' y' hx hy;simp only[Option.some.injEq] at hc;cases ac<;>simp[bZ.strip] at hc;rename_i p q;obtain⟨rfl,rfl⟩:=hc;have Kz:=lO hC uT hm n x p hx;have ihy:=lO hC uT hm n y q hy;intro φ h h' w fr de a ex he hf hr hG Q hQ;refine wpIn_seq ?_;simp only[aC] at he;split at he
    .rename_i th h1 h2;refine Kz h2 hf hr hG λφ1 a1 w1 f1 r1 e1 d1=>?_
     exact ihy he f1 r1 (hG.ext e1) λφ2 a2 w2 f2 r2 e2 d2=>hQ φ2 a2 w2 f2 r2 (e1.trans e2) (d2.trans d1)
    .rename_i eR;refine Kz he hf hr hG λφ1 a1 w1 f1 r1 e1 d1=>?_
     have:=hQ φ1 a1 w1 f1 r1 e1 d1
     cases ex with
     |normal=>exact (eR _ _ he).elim
     |exit id=>exact this
     |ret=>exact this
   .cases hc
 |.cond c x y,ac,hc=>by
   simp only[ck] at hc;split at hc
   .rename_i c' x' y' h1 hx hy;simp only[Option.some.injEq] at hc;cases ac<;>simp[bZ.strip] at hc;rename_i c2 p q;obtain⟨rfl,rfl,rfl⟩:=hc;have Kz:=lO hC uT hm n x p hx;have ihy:=lO hC uT hm n y q hy;intro φ h h' w fr de a ex he hf hr hG Q hQ;simp only[aC] at he;split at he
    .rename_i t ht;have g:=ch h1 hf;rw[ht] at g;refine wpIn_cond g.gM ?_
     cases t with
     |true=>simp only[if_true] at he|-;exact Kz he hf hr hG hQ
     |false=>simp only[Bool.false_eq_true,if_false] at he|-;exact ihy he hf hr hG hQ
    .cases he
   .cases hc
 |.block id x,ac,hc=>by
   simp only[ck,Option.map_eq_some_iff] at hc;obtain⟨x',hx,hc⟩:=hc;cases ac<;>simp[bZ.strip] at hc;rename_i VC p;obtain⟨rfl,rfl⟩:=hc;have Kz:=lO hC uT hm n x p hx;intro φ h h' w fr de a ex he hf hr hG Q hQ;refine wpIn_block ?_;simp only[aC] at he;split at he
   .rename_i i th h1 h2;cases he;refine Kz h2 hf hr hG λφ1 a1 w1 f1 r1 e1 d1=>?_
    have:=hQ φ1 a1 w1 f1 r1 e1 d1;show Exit.inBlock id Q (.exit i) a1 w1;unfold Exit.inBlock;dsimp only;by_cases hi:i=id
    .rw[if_pos hi] at this|-;exact this
    .rw[if_neg hi] at this|-;exact this
   .rename_i eR;refine Kz he hf hr hG λφ1 a1 w1 f1 r1 e1 d1=>?_
    have:=hQ φ1 a1 w1 f1 r1 e1 d1
    cases ex with
    |normal=>exact this
    |exit i=>exact (eR _ _ _ he).elim
    |ret=>exact this
 |.loop x,ac,hc=>by
   simp only[ck,Option.map_eq_some_iff] at hc;obtain⟨x',hx,hc⟩:=hc;cases ac<;>simp[bZ.strip] at hc;rename_i live p;subst hc;have Kz:=lO hC uT hm n x p hx;intro φ h h' w fr de a ex he hf hr hG Q hQ;simp only[aC] at he;obtain⟨⟨ex1,th,h1⟩,h2,e⟩:=Option.map_eq_some_iff.1 he;cases e;obtain⟨s1,s2⟩:=hr.uK h.next h.md
   have hcw:=DF (he:={h with wl:=h.next}) (λfr h ex de h' he=>tV uT he) h2 (.refl _);refine wpIn_loop_rounds n (MT uT Kz (he:={h with wl:=h.next}) s1 (hG.ext s2) n h2 (hf.ext s2) s1 (.refl _ _ _) (.refl _) λφ1 a1 w1 f1 r1 e1 d1=>?_);obtain⟨φ2,r2,f2,e2⟩:=Rf r1 f1 e1 s1 (hcw s1.wf).1;obtain⟨t1,t2⟩:=r2.uK (min h.wl (gc h.next th h1).2.wl) (gc h.next th h1).2.md;exact hQ φ2 a1 w1 (f2.ext t2) t1 ((s2.trans e2).trans t2) d1
 |.rangeFunc ..,ac,hc=>by simp only[ck,Option.some.injEq] at hc;intro φ h h' w fr de a ex he;exact (ik hc he).elim
 |.scope ..,ac,hc=>by simp only[ck,Option.some.injEq] at hc;intro φ h h' w fr de a ex he;exact (ik hc he).elim
 |.label ..,ac,hc=>by simp only[ck,Option.some.injEq] at hc;intro φ h h' w fr de a ex he;exact (ik hc he).elim
 |.goto ..,ac,hc=>by simp only[ck,Option.some.injEq] at hc;intro φ h h' w fr de a ex he;exact (ik hc he).elim
 |.refuse ..,ac,hc=>by simp only[ck,Option.some.injEq] at hc;intro φ h h' w fr de a ex he;exact (ik hc he).elim
end
end
section
open Go.RowKit
mutual
def AV.fM:AV->Bool
 |.sl xs=>AV.vo xs
 |.ip cs=>!cs.isEmpty&&AV.oR cs
 |.agg cs=>AV.oR cs
 |.fn _ aO=>AV.oR aO
 |.iface _ v=>v.fM
 |.tuple vs=>AV.oR vs
 |_=>true
def AV.oR:List AV->Bool
 |[]=>true
 |v::r=>v.fM&&AV.oR r
def AV.vo:List AV->Bool
 |[]=>true
 |v::r=>!v.cells.isEmpty&&v.fM&&AV.vo r
end
theorem lW:∀{l:List AV},AV.oR l=true->∀j (h:j<l.length),(l[j]).fM=true
 |v::r,hs,0,_=>by simp only[AV.oR,Bool.and_eq_true] at hs;exact hs.1
 |v::r,hs,j+1,h=>by simp only[AV.oR,Bool.and_eq_true] at hs;exact lW hs.2 j (by simpa using h)
theorem yv:∀{l:List AV},AV.vo l=true->∀j (h:j<l.length),(l[j]).cells≠[]/\(l[j]).fM=true
 |v::r,hs,0,_=>by simp only[AV.vo,Bool.and_eq_true] at hs;exact⟨by simpa using hs.1.1,hs.1.2⟩
 |v::r,hs,j+1,h=>by simp only[AV.vo,Bool.and_eq_true] at hs;exact yv hs.2 j (by simpa using h)
theorem Mm{v:AV}(hs:v.fM=true):∀j (h:j<v.cells.length),(v.cells[j]).fM=true:=by
 intro j h
 cases v with
 |agg cs=>simp only[AV.fM] at hs;exact lW (l:=cs) hs j h
 |_=>
   simp only[AV.cells,List.length_singleton] at h;have:j=0:=by omega
   subst this;simpa[AV.cells] using hs
def na(w:World)(b:Nat):Prop:=∃o:Obj,w.heap[b]? =some o/\o.isCells=true
theorem na.RN{w:World}{b o:Nat}{v:Value}(h:w.cell? ⟨b,o,none⟩=some v):na w b:=cells_of_cell h
theorem RV.fM{φ:eJ}{nx:Nat}{pr:Nat->Prop}{w:World}{v:AV}{cv:Value}(h:RV φ nx pr w v cv):v.fM=true->RV φ nx (λb=>pr b/\na w b) w v cv:=by
 induction h with
 |undef v=>exact λ_=>.undef v
 |bool b=>exact λ_=>.bool b
 |int k n=>exact λ_=>.int k n
 |str s=>exact λ_=>.str s
 |nw=>exact λ_=>.nw
 |ptr id off h=>exact λ_=>.ptr id off h
 |ip cs b o vs hp wi h1 hc hv ih=>
   intro hs;simp only[AV.fM,Bool.and_eq_true] at hs
   have hn:0<cs.length:=by
    cases cs with
    |nil=>simp at hs
    |cons _ _=>simp
   exact .ip cs b o vs ⟨hp,na.RN (hc 0 hn)⟩ wi h1 hc λj hj=>ih j hj (lW hs.2 j hj)
 |aF a=>exact λ_=>.aF a
 |slnil a cap=>exact λ_=>.slnil a cap
 |sl xs b o cap sz vs hp kI wi h1 iE hc hv ih=>
   intro hs;have xW:AV.vo xs=true:=hs;by_cases hn:xs.length=0
   .have:xs=[]:=List.eq_nil_of_length_eq_zero hn;subst this;exact .slnil _ _
   .have h0:0<xs.length:=by omega
    obtain⟨c1,c2⟩:=yv xW 0 h0
    have lP:0<sz:=by
     have:=iE 0 h0
     cases N0:(xs[0]).cells? with
     |none=>rw[N0] at this;cases this
     |some l=>rw[N0] at this;simp only[Option.map_some,Option.some.injEq] at this;have e:=tY N0;rw[<-e] at this;rw[<-this];exact List.length_pos_iff.2 c1
    refine .sl xs b o cap sz vs ⟨hp,na.RN (hc 0 0 h0 lP)⟩ kI wi h1 iE hc λi hi j hj=>ih i hi j hj ?_
    exact Mm (yv xW i hi).2 j hj
 |vec id off len sz lb cap a h hl hb hr ha=>exact λ_=>.vec id off len sz lb cap a h hl hb hr ha
 |kq=>exact λ_=>.kq
 |map id h=>exact λ_=>.map id h
 |ji=>exact λ_=>.ji
 |fn f aO eY hl hv ih=>exact λhs=>.fn f aO eY hl λj hj=>ih j hj (lW (by simpa[AV.fM] using hs) j hj)
 |nu=>exact λ_=>.nu
 |iface t v cv hv ih=>exact λhs=>.iface t v cv (ih (by simpa[AV.fM] using hs))
 |agg cs eY hl h1 hv ih=>exact λhs=>.agg cs eY hl h1 λj hj=>ih j hj (lW (by simpa[AV.fM] using hs) j hj)
 |tuple cs eY hl hv ih=>exact λhs=>.tuple cs eY hl λj hj=>ih j hj (lW (by simpa[AV.fM] using hs) j hj)
def Sk(φ:eJ)(h:af)(w:World)(k:Nat)(W:World)(b:Nat):Prop:=Pr φ h w b\/(w.heap.size+k<=b/\na W b)
abbrev uQ(φ:eJ)(h:af)(w:World)(k:Nat)(W:World):AV->Value->Prop:=RV φ h.next (Sk φ h w k W) W
section
variable {φ:eJ}{h:af}{w W W':World}{k:Nat}{v:AV}{cv:Value}
theorem uQ.start(hv:fe φ h w v cv)(hB:Below w.heap.size w W):uQ φ h w k W v cv:=hv.mono (λ_ _ bX=>⟨rfl,bX⟩) λb hb=>⟨.inl hb,hB.block b hb.1⟩
theorem na.grown{row:Option Nat}{b:Nat}(hc:na W b)(hg:W.grownBy W' row)(hr:∀r,row=some r->∃o:Obj,W.heap[r]? =some o/\o.isCells=false):na W' b/\W'.heap[b]? =W.heap[b]?:=by obtain⟨o,h1,h2⟩:=hc;have e:=grownBy_keeps_cells hg hr h1 h2;exact⟨⟨o,e.trans h1,h2⟩,e⟩
theorem uQ.own{row:Option Nat}(hv:uQ φ h w k W v cv)(hg:W.grownBy W' row)(hr:∀r,row=some r->w.heap.size<=r/\∃o:Obj,W.heap[r]? =some o/\o.isCells=false)(iE:w.heap.size<=W.heap.size):uQ φ h w k W' v cv:=
 hv.mono (λ_ _ bX=>⟨rfl,bX⟩) λb hb=>by
  rcases hb with hb|⟨h1,h2⟩
  .refine⟨.inl hb,hg.block b (Nat.lt_of_lt_of_le hb.1 iE) λe=>?_⟩;have:=(hr b e.symm).1;have:=hb.1;omega
  .obtain⟨g1,g2⟩:=h2.grown hg λr e=>(hr r e).2
   exact⟨.inr ⟨h1,g1⟩,g2⟩
theorem uQ.same(hv:uQ φ h w k W v cv)(hs:∀b,b<w.heap.size\/w.heap.size+k<=b->b<W.heap.size->W'.heap[b]? =W.heap[b]?)(iE:w.heap.size<=W.heap.size):uQ φ h w k W' v cv:=
 hv.mono (λ_ _ bX=>⟨rfl,bX⟩) λb hb=>by
  rcases hb with hb|⟨h1,o,h2,h3⟩
  .exact⟨.inl hb,hs b (.inl hb.1) (Nat.lt_of_lt_of_le hb.1 iE)⟩
  .have e:=hs b (.inr h1) (Array.getElem?_eq_some_iff.1 h2).1;exact⟨.inr ⟨h1,o,e.trans h2,h3⟩,e⟩
theorem uQ.below(hv:uQ φ h w k W v cv)(hB:Below W.heap.size W W')(iE:w.heap.size<=W.heap.size):uQ φ h w k W' v cv:=hv.same (λb _ hb=>hB.block b hb) iE
theorem uQ.done(hr:HR φ h w)(iE:w.heap.size<=W.heap.size)(hv:uQ φ h w k W v cv):fe φ h W v cv:=
 hv.mono (λ_ _ bX=>⟨rfl,bX⟩) λb hb=>by
  refine⟨?_,rfl⟩;rcases hb with hb|⟨h1,o,h2,h3⟩
  .exact⟨Nat.lt_of_lt_of_le hb.1 iE,hb.2⟩
  .refine⟨(Array.getElem?_eq_some_iff.1 h2).1,λid hl e=>?_,λhg=>?_⟩
   .have:=hr.fA hl;omega
   .have:=(hr.gh b hg).1;omega
theorem uQ.call{P:Program}{X:World->Prop}{f:Nat}{args:List AV}{aV:Array Value}(hp:gD P X f args v)(hv:v.fM=true)(hr:HR φ h w)(hG:ir P X φ h w)(hB:Below w.heap.size w W)(hk:w.heap.size+k<=W.heap.size)
 (ha:aV.size=args.length/\∀j (hj:j<args.length),uQ φ h w k W args[j] (aV.getD j default)):
 ((callFunc f aV).run P W=.ok (.enter f aV) W/\Calls P f aV W λe W'=>∃cv,e=.returned cv/\uQ φ h w k W' v cv/\Below W.heap.size W W')\/
 ∃cv W',(callFunc f aV).run P W=.ok (.value cv) W'/\uQ φ h w k W' v cv/\Below W.heap.size W W':=by
 let φ':eJ:=⟨φ.at_,λb=>φ.gh b\/(w.heap.size<=b/\b<W.heap.size/\(b<w.heap.size+k\/¬na W b))⟩
 have iE:w.heap.size<=W.heap.size:=by omega
 have Z8:∀b,Pr φ h w b->Pr φ' h W b/\W.heap[b]? =w.heap[b]?:=λb hb=>by
  refine⟨⟨Nat.lt_of_lt_of_le hb.1 iE,hb.2.1,λhg=>?_⟩,hB.block b hb.1⟩;rcases hg with hg|⟨hg,_⟩
  .exact hb.2.2 hg
  .have:=hb.1;omega
 have ex:∀b,φ.gh b->W.heap[b]? =w.heap[b]?:=λb hb=>hB.block b (hr.gh b hb).1
 have up:∀{u:AV} {cu:Value},fe φ h w u cu->fe φ' h W u cu:=λhu=>hu.mono (λ_ _ bX=>⟨rfl,bX⟩) Z8
 have N1:HR φ' h W:=by
  refine⟨hr.wf,λid cs hg=>?_,λid es hg=>?_,hr.inj,λb hb=>?_⟩
  .obtain⟨c,el,fr,g1,g2,g3,g4,g5,g6⟩:=hr.rows id cs hg;exact⟨c,el,fr,(hB.block _ (hr.fA ⟨_,hg,λe=>by cases e⟩)).trans g1,g2,g3,g4,g5,λj hj=>up (g6 j hj)⟩
  .obtain⟨gn,pB,g1,g2,g3⟩:=hr.maps id es hg;exact⟨gn,pB,(hB.block _ (hr.fA ⟨_,hg,λe=>by cases e⟩)).trans g1,g2,λj hj=>⟨up (g3 j hj).1,up (g3 j hj).2⟩⟩
  .rcases hb with hb|⟨h1,h2,_⟩
   .exact⟨Nat.lt_of_lt_of_le (hr.gh b hb).1 iE,(hr.gh b hb).2⟩
   .refine⟨h2,λid hl e=>?_⟩;have:=hr.fA hl;have e':(φ id).gA=b:=e;omega
 have hG':ir P X φ' h W:=by
  obtain⟨w1,g1,g2⟩:=hG;refine⟨w1,g1,λb hb=>?_⟩;obtain⟨a1,a2,a3⟩:=g2 b hb;refine⟨by omega,?_,(hB.block b a1).trans a3⟩;rcases a2 with a2|a2
  .exact .inl (.inl a2)
  .exact .inr (Z8 b a2).1
 have ha':kU φ' h W args aV:=⟨ha.1,λj hj=>(ha.2 j hj).mono (λ_ _ bX=>⟨rfl,bX⟩) λb hb=>by
  refine⟨?_,rfl⟩;rcases hb with hb|⟨h1,h2⟩
  .exact (Z8 b hb).1
  .obtain⟨o,h3,h4⟩:=h2;refine⟨(Array.getElem?_eq_some_iff.1 h3).1,λid hl e=>?_,λhg=>?_⟩
   .have:=hr.fA hl;have e':(φ id).gA=b:=e;omega
   .rcases hg with hg|⟨_,_,hg⟩
    .have:=(hr.gh b hg).1;omega
    .rcases hg with hg|hg
     .omega
     .exact hg ⟨o,h3,h4⟩⟩
 have back:∀{cv:Value} {W':World},vX φ' h W v cv W'->uQ φ h w k W' v cv/\Below W.heap.size W W':=λ{cv W'} hp=>by
  obtain⟨g1,_,g3,g4⟩:=hp;refine⟨(RV.fM g1 hv).mono (λ_ _ bX=>⟨rfl,bX⟩) λb hb=>⟨?_,rfl⟩,⟨g3.os,g3.tape,g3.output,g3.size,g4⟩⟩;obtain⟨⟨b1,b2,b3⟩,b4⟩:=hb;by_cases hl:b<w.heap.size
  .exact .inl ⟨hl,b2,λhg=>b3 (.inl hg)⟩
  .refine .inr ⟨?_,b4⟩;by_cases qh:b<w.heap.size+k
   .exact absurd (.inr ⟨by omega,by omega,.inl qh⟩) b3
   .omega
 rcases hp φ' h W aV N1 hG' ha' with⟨e1,e2⟩|⟨cv,W',e1,e2⟩
 .refine .inl ⟨e1,e2.mono λe W' he=>?_⟩;obtain⟨cv,rfl,aj7⟩:=he;exact⟨cv,rfl,back aj7⟩
 .exact .inr ⟨cv,W',e1,back e2⟩
end
end
section
open Go.RowKit
variable {X:World->Prop}{P:Program}
theorem HR.move{φ φ':eJ}{h:af}{w w':World}(hr:HR φ h w)(uY:∀id,id<h.next->φ' id=φ id)
 (pr:∀b,Pr φ h w b->Pr φ' h w' b/\w'.heap[b]? =w.heap[b]?) (lv:∀id,live h id->w'.heap[(φ id).gA]? =w.heap[(φ id).gA]?)
 (gh:∀b,φ'.gh b->b<w'.heap.size/\∀id,live h id->(φ id).gA≠b):HR φ' h w':=by
 have up:∀{v:AV} {cv:Value},fe φ h w v cv->fe φ' h w' v cv:=λhv=>hv.mono (λid _ bX=>⟨uY id bX,bX⟩) pr
 have lt:∀id,live h id->id<h.next:=λid ⟨o,hg,_⟩=>af.dR hg
 refine⟨hr.wf,λid cs hg=>?_,λid es hg=>?_,λi j hi hj e=>?_,λb hb=>?_⟩
 .obtain⟨c,el,fr,g1,g2,g3,g4,g5,g6⟩:=hr.rows id cs hg;have e:=uY id (af.dR hg);unfold u5;rw[e];exact⟨c,el,fr,(lv id ⟨_,hg,λe=>by cases e⟩).trans g1,g2,g3,g4,g5,λj hj=>up (g6 j hj)⟩
 .obtain⟨gn,pB,g1,g2,g3⟩:=hr.maps id es hg;have e:=uY id (af.dR hg);unfold zR;rw[e];exact⟨gn,pB,(lv id ⟨_,hg,λe=>by cases e⟩).trans g1,g2,λj hj=>⟨up (g3 j hj).1,up (g3 j hj).2⟩⟩
 .rw[uY i (lt i hi),uY j (lt j hj)] at e;exact hr.inj i j hi hj e
 .obtain⟨g1,g2⟩:=gh b hb;exact⟨g1,λid hl=>by rw[uY id (lt id hl)];exact g2 id hl⟩
structure RI(φ1:eJ)(h1:af)(W0:World)(fr:List AV)(tm:Array Value)(Es:List AV)(ce:Nat->Value)(hk:af)(φ':eJ)(W:World):Prop where
 hr:HR φ' hk W
 fr:FR φ' hk W fr tm
 es:∀j (hj:j<Es.length),fe φ' hk W Es[j] (ce j)
 OO:∀b,b<W0.heap.size->(φ'.gh b↔φ1.gh b)
 TO:∀b,W0.heap.size<=b->(φ'.gh b↔∃o:Obj,W.heap[b]? =some o/\o.isCells=false)
 nx:hk.next=h1.next
 at_:∀id,id<h1.next->φ' id=φ1 id
 lv:∀id,live hk id->live h1 id
 os:W.os=W0.os
 tape:W.tape=W0.tape
 output:W.output=W0.output
 size:W0.heap.size<=W.heap.size
 gB:∀b,b<W0.heap.size->(∀id,live h1 id->(φ1 id).gA≠b)->W.heap[b]? =W0.heap[b]?
section
variable {φ1:eJ}{h1 hk:af}{W0 W W':World}{fr:List AV}{tm:Array Value}{Es:List AV}{ce:Nat->Value}{φ':eJ}
theorem RI.P0(mH:HR φ1 h1 W0)(r:RI φ1 h1 W0 fr tm Es ce hk φ' W){id:Nat}(hl:live hk id):φ' id=φ1 id/\(φ1 id).gA<W0.heap.size:=by have pg:=r.lv id hl;obtain⟨o,hg,_⟩:=pg;exact⟨r.at_ id (af.dR hg),mH.fA (r.lv id hl)⟩
theorem RI.start(mH:HR φ1 h1 W0)(hf:FR φ1 h1 W0 fr tm)(he:∀j (hj:j<Es.length),fe φ1 h1 W0 Es[j] (ce j)):RI φ1 h1 W0 fr tm Es ce h1 φ1 W0:=⟨mH,hf,he,λ_ _=>.rfl,λb hb=>⟨λh=>by have:=(mH.gh b h).1;omega,λ⟨o,ho,_⟩=>by have:=(Array.getElem?_eq_some_iff.1 ho).1;omega⟩,rfl,λ_ _=>rfl,λ_ h=>h,rfl,rfl,rfl,Nat.le_refl _,λ_ _ _=>rfl⟩
theorem RI.own(mH:HR φ1 h1 W0)(r:RI φ1 h1 W0 fr tm Es ce hk φ' W){row:Option Nat}(hg:W.grownBy W' row)(rF:∀b,row=some b->W0.heap.size<=b/\∃o:Obj,W.heap[b]? =some o/\o.isCells=false):
 ∃φ'',RI φ1 h1 W0 fr tm Es ce hk φ'' W':=by
 have eR:∀b,b<W.heap.size->¬φ'.gh b->W'.heap[b]? =W.heap[b]?:=λb hb hn=>hg.block b hb λe=>by obtain⟨g1,g2⟩:=rF b e.symm;exact hn ((r.TO b g1).2 g2)
 have G0:∀b,b<W0.heap.size->W'.heap[b]? =W.heap[b]?:=λb hb=>hg.block b (Nat.lt_of_lt_of_le hb r.size) λe=>by have:=(rF b e.symm).1;omega
 have iE:=hg.size
 let φ'':eJ:=⟨φ'.at_,λb=>(b<W0.heap.size/\φ'.gh b)\/(W0.heap.size<=b/\∃o:Obj,W'.heap[b]? =some o/\o.isCells=false)⟩
 have pr:∀b,Pr φ' hk W b->Pr φ'' hk W' b/\W'.heap[b]? =W.heap[b]?:=λb hb=>by
  have e:=eR b hb.1 hb.2.2;refine⟨⟨Nat.lt_of_lt_of_le hb.1 iE,hb.2.1,λDR=>?_⟩,e⟩;rcases DR with DR|⟨DR,ho⟩
  .exact hb.2.2 DR.2
  .rw[e] at ho;exact hb.2.2 ((r.TO b DR).2 ho)
 have up:∀{v:AV} {cv:Value},fe φ' hk W v cv->fe φ'' hk W' v cv:=λhv=>hv.mono (λid _ bX=>⟨rfl,bX⟩) pr
 refine⟨φ'',r.hr.move (λ_ _=>rfl) pr (λid hl=>?_) (λb hb=>?_),⟨r.fr.1,λt=>up (r.fr.2 t)⟩,λj hj=>up (r.es j hj),λb hb=>?_,λb hb=>?_,r.nx,r.at_,r.lv,hg.os.trans r.os,hg.tape.trans r.tape,hg.output.trans r.output,Nat.le_trans r.size iE,
  λb hb hn=>(G0 b hb).trans (r.gB b hb hn)⟩
 .obtain⟨e1,e2⟩:=r.P0 mH hl;rw[e1];exact G0 _ e2
 .rcases hb with hb|⟨hb,o,ho,_⟩
  .exact⟨Nat.lt_of_lt_of_le (r.hr.gh b hb.2).1 iE,(r.hr.gh b hb.2).2⟩
  .refine⟨(Array.getElem?_eq_some_iff.1 ho).1,λid hl e=>?_⟩;obtain⟨e1,e2⟩:=r.P0 mH hl;rw[e1] at e;omega
 .refine⟨λh=>?_,λh=>.inl ⟨hb,(r.OO b hb).2 h⟩⟩;rcases h with h|h
  .exact (r.OO b hb).1 h.2
  .omega
 .refine⟨λh=>?_,λh=>.inr ⟨hb,h⟩⟩;rcases h with h|h
  .omega
  .exact h.2
theorem RI.done(mH:HR φ1 h1 W0)(r:RI φ1 h1 W0 fr tm Es ce hk φ' W):HR ⟨φ'.at_,φ1.gh⟩ hk W/\FR ⟨φ'.at_,φ1.gh⟩ hk W fr tm/\Ext φ1 h1 W0 ⟨φ'.at_,φ1.gh⟩ hk W:=by
 have pr:∀b,Pr φ' hk W b->Pr ⟨φ'.at_,φ1.gh⟩ hk W b/\W.heap[b]? =W.heap[b]?:=λb hb=>⟨⟨hb.1,hb.2.1,λh=>hb.2.2 ((r.OO b (mH.gh b h).1).2 h)⟩,rfl⟩
 have up:∀{v:AV} {cv:Value},fe φ' hk W v cv->fe ⟨φ'.at_,φ1.gh⟩ hk W v cv:=λhv=>hv.mono (λid _ bX=>⟨rfl,bX⟩) pr
 have fW:∀b,(∀id,live h1 id->(φ1 id).gA≠b)->∀id,live hk id->(φ' id).gA≠b:=λb hb id hl=>by rw[(r.P0 mH hl).1];exact hb id (r.lv id hl)
 refine⟨r.hr.move (λ_ _=>rfl) pr (λ_ _=>rfl) λb hb=>?_,⟨r.fr.1,λt=>up (r.fr.2 t)⟩,r.os,r.tape,r.output,r.size,by rw[r.nx];exact Nat.le_refl _,λid bX=>r.at_ id bX,λb hb=>?_,rfl,λb hb=>?_⟩
 .obtain⟨g1,g2⟩:=mH.gh b hb;exact⟨Nat.lt_of_lt_of_le g1 r.size,fW b g2⟩
 .exact⟨⟨Nat.lt_of_lt_of_le hb.1 r.size,fW b hb.2.1,hb.2.2⟩,r.gB b hb.1 hb.2.1⟩
 .obtain⟨g1,g2⟩:=mH.gh b hb;exact r.gB b g1 g2
theorem RI.alX(mH:HR φ1 h1 W0)(hG:ir P X φ1 h1 W0)(r:RI φ1 h1 W0 fr tm Es ce hk φ' W):ir P X φ' hk W:=by
 obtain⟨w1,g1,g2⟩:=hG;refine⟨w1,g1,λb hb=>?_⟩;obtain⟨a1,a2,a3⟩:=g2 b hb
 have a4:∀id,live h1 id->(φ1 id).gA≠b:=by
  rcases a2 with a2|a2
  .exact (mH.gh b a2).2
  .exact a2.2.1
 refine⟨Nat.lt_of_lt_of_le a1 r.size,?_,(r.gB b a1 a4).trans a3⟩;rcases a2 with a2|a2
 .exact .inl ((r.OO b a1).2 a2)
 .refine .inr ⟨Nat.lt_of_lt_of_le a1 r.size,λid hl=>?_,λh=>a2.2.2 ((r.OO b a1).1 h)⟩;rw[(r.P0 mH hl).1];exact a4 id (r.lv id hl)
theorem RI.next(mH:HR φ1 h1 W0)(r:RI φ1 h1 W0 fr tm Es ce hk φ' W){φ2:eJ}{h2 yL:af}(AO:HR φ2 h2 W')(x:Ext φ' hk W φ2 h2 W')(dq:CL hk h2)(hnl:h1.next<=h2.wl)
 (KK:(h2.kj h1.next).gm=yL.gm) (CQ:yL.next=h1.next) (eF:∀id,live yL id->live hk id)
 (hsr:∀id cs,yL.get id=some (.row cs)->∀v∈cs,v.fM=true) (ZQ:∀id es,yL.get id=some (.map es)->∀e∈es,e.1.fM=true/\e.2.fM=true):
 (∃φ3,RI φ1 h1 W0 fr tm Es ce yL φ3 W')/\KeepsFrom W0.heap.size W W'/\∀b,b<W0.heap.size->(∀id,live h1 id->(φ1 id).gA≠b)->W'.heap[b]? =W.heap[b]?:=by
 have gH:h1.next<=h2.next:=by have:=x.next;rw[r.nx] at this;exact this
 obtain⟨t1,t2,t3⟩:=Na AO gH (dq.le h1.next (by rw[r.nx];exact Nat.le_refl _) hnl (by rw[<-r.nx];exact λid bX=>r.hr.R7 id bX))
 -- the same heap
 obtain⟨t4,_⟩:=t1.uK yL.wl yL.md;have ap3:min h2.next h1.next=h1.next:=Nat.min_eq_right gH
 have heq:({h2.kj h1.next with wl:=yL.wl,md:=yL.md}:af)=yL:=by cases yL;simp only[af.kj] at KK CQ|-;simp only[af.mk.injEq,and_true];exact⟨by omega,KK⟩
 rw[heq] at t4;have anL:∀id,live yL id↔live (h2.kj h1.next) id:=λid=>by rw[<-heq];exact .rfl
 have pr2:∀b,Pr φ2 h2 W' b->Pr φ2 yL W' b:=λb hb=>by obtain⟨p1,p2,p3⟩:=t2 b hb;exact⟨p1,λid hl=>p2 id ((anL id).1 hl),p3⟩
 have DR:φ2.gh=φ'.gh:=x.gh.1
 have wk:∀b,W0.heap.size<=b->b<W.heap.size->¬φ'.gh b->∃o:Obj,W.heap[b]? =some o/\o.isCells=true:=λb KJ DW hn=>by
  refine⟨W.heap[b],Array.getElem?_eq_getElem DW,?_⟩
  cases hc:(W.heap[b]).isCells with
  |true=>rfl
  |false=>exact absurd ((r.TO b KJ).2 ⟨_,Array.getElem?_eq_getElem DW,hc⟩) hn
 let φ3:eJ:=⟨φ2.at_,λb=>(b<W0.heap.size/\φ2.gh b)\/(W0.heap.size<=b/\∃o:Obj,W'.heap[b]? =some o/\o.isCells=false)⟩
 have lvt:∀id,live yL id->φ2 id=φ1 id/\(φ1 id).gA<W0.heap.size:=λid hl=>by have wj:=eF id hl;obtain⟨e1,e2⟩:=r.P0 mH wj;obtain⟨o,hg,_⟩:=wj;exact⟨(x.CD id (af.dR hg)).trans e1,e2⟩
 -- what was held
 have GB:∀{v:AV} {cv:Value},fe φ' hk W v cv->fe φ3 yL W' v cv:=λhv=>hv.mono (λid _ bX=>⟨x.CD id bX,by rw[CQ,<-r.nx];exact bX⟩) λb hb=>by
  obtain⟨q1,q2⟩:=x.pr b hb;obtain⟨p1,p2,p3⟩:=pr2 b q1;refine⟨⟨p1,p2,λh=>?_⟩,q2⟩;rcases h with h|⟨h,o,ho,hc⟩
  .exact p3 h.2
  .rw[q2] at ho;exact hb.2.2 ((r.TO b h).2 ⟨o,ho,hc⟩)
 -- what lies in the objects
 have new:∀{v:AV} {cv:Value},v.fM=true->fe φ2 yL W' v cv->fe φ3 yL W' v cv:=λhs hv=>(RV.fM hv hs).mono (λid _ bX=>⟨rfl,bX⟩) λb hb=>by
  obtain⟨⟨p1,p2,p3⟩,o,ho,hc⟩:=hb;refine⟨⟨p1,p2,λh=>?_⟩,rfl⟩;rcases h with h|⟨h,o',IX,VK⟩
  .exact p3 h.2
  .rw[ho] at IX;cases IX;rw[hc] at VK;cases VK
 have hr3:HR φ3 yL W':=by
  refine⟨t4.wf,λid cs hg=>?_,λid es hg=>?_,t4.inj,λb hb=>?_⟩
  .obtain⟨c,el,fz,g1,g2,g3,g4,g5,g6⟩:=t4.rows id cs hg;exact⟨c,el,fz,g1,g2,g3,g4,g5,λj hj=>new (hsr id cs hg _ (List.getElem_mem hj)) (g6 j hj)⟩
  .obtain⟨gn,pB,g1,g2,g3⟩:=t4.maps id es hg;exact⟨gn,pB,g1,g2,λj hj=>⟨new (ZQ id es hg _ (List.getElem_mem hj)).1 (g3 j hj).1,new (ZQ id es hg _ (List.getElem_mem hj)).2 (g3 j hj).2⟩⟩
  .rcases hb with hb|⟨hb,o,ho,_⟩
   .exact t4.gh b hb.2
   .refine⟨(Array.getElem?_eq_some_iff.1 ho).1,λid hl e=>?_⟩;obtain⟨e1,e2⟩:=lvt id hl;have e':(φ2 id).gA=b:=e;rw[e1] at e';omega
 have adM:∀b,b<W0.heap.size->(∀id,live h1 id->(φ1 id).gA≠b)->W'.heap[b]? =W.heap[b]?:=λb hb hn=>by
  by_cases hg:φ'.gh b
  .exact x.gh.2 b hg
  .refine (x.pr b ⟨Nat.lt_of_lt_of_le hb r.size,λid hl=>?_,hg⟩).2;rw[(r.P0 mH hl).1];exact hn id (r.lv id hl)
 refine⟨⟨φ3,hr3,⟨r.fr.1,λt=>GB (r.fr.2 t)⟩,λj hj=>GB (r.es j hj),λb hb=>?_,λb hb=>?_,CQ,λid bX=>?_,λid hl=>r.lv id (eF id hl),x.os.trans r.os,x.tape.trans r.tape,x.output.trans r.output,Nat.le_trans r.size x.size,
  λb hb hn=>(adM b hb hn).trans (r.gB b hb hn)⟩,⟨x.size,λk o hB yL hc=>?_⟩,adM⟩
 .refine⟨λh=>?_,λh=>.inl ⟨hb,by rw[DR];exact (r.OO b hb).2 h⟩⟩;rcases h with h|h
  .rw[DR] at h;exact (r.OO b hb).1 h.2
  .omega
 .refine⟨λh=>?_,λh=>.inr ⟨hb,h⟩⟩;rcases h with h|h
  .omega
  .exact h.2
 .exact (x.CD id (by rw[r.nx];exact bX)).trans (r.at_ id bX)
 .exact (x.gh.2 k ((r.TO k hB).2 ⟨o,yL,hc⟩)).trans yL
end
end
section
open Go.RowKit
variable {X:World->Prop}{P:Program}{C:Nat->List AV->af->Option (AV×af)}
def KpR(φ1:eJ)(h1:af)(W0 A B:World):Prop:=∀b,b<W0.heap.size->(∀id,live h1 id->(φ1 id).gA≠b)->B.heap[b]? =A.heap[b]?
theorem aiX(p0 p1:Nat)(u v:Value)(tm:Array Value):(#[p0,p1].zip #[u,v]).foldl (λt (p,v)=>t.setIfInBounds p v) tm=(tm.setIfInBounds p0 u).setIfInBounds p1 v:=by simp
theorem adt{F:Fence}{n:Nat}{ops:Array Oper}{Q:Exit->Act->World->Prop}{a:Act}{w w':World}{rest:List Oper}{o:Oper}{v:Value}{l:Nat}(hF:∀f,F.fn f)(hro:F.round=some l)(hg:o.guard=none)(N9:∀c,o.op≠.defer c)
 (hr:(execOp a.eval o).run P w=.ok (.value v) w'\/((execOp a.eval o).run P w=.ok .skip w'/\v=undef)) (h:wpListIn F n P ops Q rest (a.put o.dst v) w'):wpListIn F n P ops Q (o::rest) a w:=by
 refine wpListIn_plain hg λK hK=>⟨λf _=>hF f,?_⟩
 rw[hro,Oper.semAt_some l a.eval o N9];rcases hr with hr|⟨hr,rfl⟩
 .rw[hr,Oper.uponIn_value];exact hK _ _ h
 .rw[hr,Oper.uponIn_skip];exact hK _ _ h
theorem Qn{n l:Nat}{ia T d p1:Nat}{o1 o2:Oper}(h1:o1.op=.alloc T/\o1.dst=some d/\o1.guard=none)(h2:o2.op=.store T (.tmp d) (.tmp p1)/\o2.dst=none/\o2.guard=none)
 {i:TypeInfo} {z:Value} (hi:P.info? T=some i) (hz:i.zero=some z) (IV:z.cells.size=i.size) {tm:Array Value} (hd:d<tm.size) (hp1:p1<tm.size) (eR:d≠p1) {cs:Array Value} (hv:tm.getD p1 undef=.agg cs) (nQ:cs.size=i.size) (h1c:∀j,(cs.getD j default).oneCell'=true)
 (W:World) {K:Act->World->Prop} (hK:∀W',W.grownBy W' none->(∃c,W'.heap[W.heap.size]? =some (.cells c T)/\c.size=i.size/\∀j,j<i.size->c.getD j default=cs.getD j default)->
  K {tmps:=tm.setIfInBounds d (.pointer (some ⟨W.heap.size,0,none⟩)),defers:=[]} W'):
 (Code.region ia #[o1,o2] false).wpIn (Fence.wide.inRound l) n P (Exit.then K (λ_ _ _=>False)) {tmps:=tm,defers:=[]} W:=by
 obtain⟨qT,h12,h13⟩:=h1;obtain⟨h21,h22,h23⟩:=h2;refine wpIn_region_lit ?_
 have e1:(execOp ({tmps:=tm,defers:=[]}:Act).eval o1).run P W=.ok (.value (.pointer (some ⟨W.heap.size,0,none⟩))) (W.alloc (.cells z.cells T)):=by unfold execOp;simp[qT,Instr.alloc,zeroValue,typeInfo,hi,hz,newVar,newRow]
 refine adt (λ_=>trivial) rfl h13 (λc hc=>by rw[qT] at hc;cases hc) (.inl e1) ?_;rw[h12]
 obtain⟨w',s1,s2,s3,s4,s5,s6,s7⟩:=mM (P:=P) (b:=W.heap.size) cs.toList z.cells 0 0 (W.alloc (.cells z.cells T)) (el:=T) (fz:=(0,0)) (World.alloc_heap_new W _) (by simp[IV,nQ]) (λx _ h=>by omega) (λv hvm=>by
  obtain⟨j,hj,rfl⟩:=List.getElem_of_mem hvm;have:=h1c j;have jC:j<cs.size:=by simpa using hj
  simpa[Array.getD,jC] using this)
 obtain⟨a1,VL⟩:∃a1,(({tmps:=tm,defers:=[]}:Act).put (some d) (.pointer (some ⟨W.heap.size,0,none⟩)))=a1:=⟨_,rfl⟩
 have aj8:a1.tmps=tm.setIfInBounds d (.pointer (some ⟨W.heap.size,0,none⟩)):=by rw[<-VL];rfl
 have aqa:a1.defers=[]:=by rw[<-VL];rfl
 have ed:a1.eval (.tmp d)=.pointer (some ⟨W.heap.size,0,none⟩):=by show a1.tmps.getD d undef=_;rw[aj8];simp[Array.getD,hd]
 have ep:a1.eval (.tmp p1)=.agg cs:=by show a1.tmps.getD p1 undef=_;rw[aj8,<-hv];rw[Array.getD_eq_getD_getElem?,Array.getD_eq_getD_getElem?,Array.getElem?_setIfInBounds_ne eR]
 have e2:(execOp a1.eval o2).run P (W.alloc (.cells z.cells T))=.ok .skip w':=by unfold execOp;have hce:(Value.agg cs).cells=cs:=rfl;simp[h21,Instr.storeAt,Instr.sureAddr,ed,ep,storeVar,jG hi,hce,nQ,s1]
 rw[VL];refine adt (λ_=>trivial) rfl h23 (λc hc=>by rw[h21] at hc;cases hc) (.inr ⟨e2,rfl⟩) (wpListIn_nil ?_);rw[h22];have agO:a1.put none undef={tmps:=tm.setIfInBounds d (.pointer (some ⟨W.heap.size,0,none⟩)),defers:=[]}:=by rw[<-VL];rfl
 rw[agO]
 have cY:∀k,k<W.heap.size->w'.heap[k]? =W.heap[k]?:=λk hk=>by rw[s4 k (by omega)];exact Below.heap_alloc W _ k hk
 refine hK w' ⟨s5,s6,s7,?_,λk hk _=>cY k hk⟩ ⟨_,s2,by rw[mA];exact IV,λj hj=>?_⟩
 .rw[s3];simp
 .rw[nP _ _ _ _ (by simp[IV,nQ]),if_pos (by simp[nQ,hj])];have:j<cs.size:=by omega
  simp[List.getD,Array.getD,this]
section
variable {φ1:eJ}{h1:af}{W0:World}
theorem I8(hC:lY P X C)(uT:oQ C)(hm:P.follows .mixedOrders=true){n m:Nat}(hn:1<=n){g:Operand}{ia T d p0 p1:Nat}{o1 o2:Oper}{body:Code}{acB:bZ}{Q:Exit->Act->World->Prop}{a:Act}{fr:List AV}
 (mH:HR φ1 h1 W0) (hG:ir P X φ1 h1 W0) (hf:FR φ1 h1 W0 fr a.tmps)
 {gf:Nat} {lb:Array Value} (hg:a.eval g=.func (.func gf) #[] lb) (eg:∀args w,(callFunc gf args).run P w=.ok (.enter gf args) w)
 (a1:o1.op=.alloc T/\o1.dst=some d/\o1.guard=none) (a2:o2.op=.store T (.tmp d) (.tmp p1)/\o2.dst=none/\o2.guard=none)
 {i:TypeInfo} {z:Value} (hi:P.info? T=some i) (hz:i.zero=some z) (IV:z.cells.size=i.size) (hd:d<fr.length) (hp0:p0<fr.length) (hp1:p1<fr.length) (eR:d≠p1)
 {Es:List AV} {vs:Nat->Array Value} (hEs:∀j (hj:j<Es.length),fe φ1 h1 W0 Es[j] (.agg (vs j))) (hEa:∀v∈Es,∃cs,v=.agg cs/\cs.length=i.size/\AV.ah cs=0)
 {S:List (Fin Es.length)->Prop} (anN:SeqStopsK Fence.wide (n-1) P gf lb (λx:Fin Es.length=>#[.int .i64 (x.1:Int),.agg (vs x.1)]) (KpR φ1 h1 W0) S (λ_=>True) Es.length W0)
 (hcb:ck P body=some acB.strip) (H:List (Fin Es.length)->af) (hH0:H []=h1) (hHn:∀pre,(H pre).next=h1.next)
 (N3:∀pre (x:Fin Es.length),∃fr2 h2,aC C m acB (((fr.set p0 (.int .i64 (x.1:Int))).set p1 Es[x.1]).set d (.ip (Es[x.1]).cells)) (H pre)=some (.normal,fr2,h2)/\h1.next<=h2.wl/\
  (h2.kj h1.next).gm=(H (pre++[x])).gm/\(∀id,live (H (pre++[x])) id->live (H pre) id)/\(∀id cs,(H (pre++[x])).get id=some (.row cs)->∀v∈cs,v.fM=true)/\
  ∀id es,(H (pre++[x])).get id=some (.map es)->∀e∈es,e.1.fM=true/\e.2.fM=true)
 (aj9:∀(D:Nat) (xs:List (Fin Es.length)) (W:World) (φ':eJ),W0.heap.size<=D->S xs->FR φ' (H xs) W fr a.tmps->HR φ' (H xs) W->Ext φ1 h1 W0 φ' (H xs) W->W.heap[D]? =some (.deferred (some []))->
  Q .normal {a with defers:={target:=.collected D,args:=#[]}::a.defers} W):
 (Code.rangeFunc g #[p0,p1] (.region ia #[o1,o2] false) body).wpIn Fence.wide n P Q a W0:=by
 have hts:a.tmps.size=fr.length:=hf.1
 have acR:∀j,j<Es.length->(vs j).size=i.size/\∀k,((vs j).getD k default).oneCell'=true:=λj hj=>by obtain⟨cs,nQ,dq,_⟩:=hEa _ (List.getElem_mem hj);have:=hEs j hj;rw[nQ] at this;obtain⟨eY,e,g1,g2,_⟩:=this.qu;cases e;exact⟨by omega,g2⟩
 refine wpIn_rangeFunc_ownH (α:=Fin Es.length) (w0:=W0) rfl hn hg trivial eg anN (λ{A B C} h k b hb hn=>(k b hb hn).trans (h b hb hn)) (λW l o o' hl ho hc _ b hb _=>World.putObj_heap_other (by omega)) (Below.refl _ _) (λ_=>rfl)
  (λpre W=>∃φ',RI φ1 h1 W0 fr a.tmps Es (λj=>.agg (vs j)) (H pre) φ' W) (λ_ _ _=>False)
  (λs A B row hs B4 hr=>by obtain⟨φ',r⟩:=hs;exact r.own mH B4 hr) (λ_ _ _ _ _ hs _ _=>hs.elim) ⟨φ1,by rw[hH0];exact RI.start mH hf hEs⟩
  (λx a' W=>∃(B:Nat) (c:Array Value),W0.heap.size<=B/\W.heap[B]? =some (.cells c T)/\c.size=i.size/\(∀j,j<i.size->c.getD j default=(vs x.1).getD j default)/\
   a'={tmps:=((a.tmps.setIfInBounds p0 (.int .i64 (x.1:Int))).setIfInBounds p1 (.agg (vs x.1))).setIfInBounds d (.pointer (some ⟨B,0,none⟩)),defers:=[]})
  (λx a' s A B row hs B4 hr=>by
   obtain⟨Bx,c,b1,b2,b3,b4,b5⟩:=hs;refine⟨Bx,c,b1,?_,b3,b4,b5⟩;rw[B4.block Bx (Array.getElem?_eq_some_iff.1 b2).1 λe=>?_]
   .exact b2
   .obtain⟨_,o,ho,hc⟩:=hr Bx e.symm;rw[b2] at ho;cases ho;cases hc)
  ?assign ?body ?done ?stop
 case assign=>
  intro l pre x W K ⟨φ',r⟩ hK;have hx:=acR x.1 x.2;refine Qn a1 a2 hi hz IV (cs:=vs x.1) (by simp;omega) (by simp;omega) eR ?_ hx.1 hx.2 W λW' B4 ⟨c,c1,c2,c3⟩=>?_
  .show (((#[p0,p1].zip #[.int .i64 (x.1:Int),.agg (vs x.1)]).foldl (λt (p,v)=>t.setIfInBounds p v) a.tmps)).getD p1 undef=_;have:p1<(a.tmps.setIfInBounds p0 (.int .i64 (x.1:Int))).size:=by simp;omega
   have e:=aiX p0 p1 (.int .i64 (x.1:Int)) (.agg (vs x.1)) a.tmps;rw[e,Array.getD_eq_getD_getElem?,Array.getElem?_setIfInBounds_self_of_lt this];rfl
  .obtain⟨φ'',r'⟩:=r.own mH B4 (λb e=>by cases e);exact hK _ W' ⟨B4.size,λk o _ hk _=>(B4.block k (Array.getElem?_eq_some_iff.1 hk).1 (by simp)).trans hk⟩ (λb hb _=>B4.block b (Nat.lt_of_lt_of_le hb r.size) (by simp)) ⟨φ'',r'⟩ ⟨W.heap.size,c,r.size,c1,c2,c3,congrArg (λt=>({tmps:=t.setIfInBounds d (.pointer (some ⟨W.heap.size,0,none⟩)),defers:=[]}:Act)) (aiX p0 p1 _ _ _)⟩
 case body=>
  rintro l pre x a' W - - ⟨φ',r⟩ ⟨B,c,b1,b2,b3,b4,rfl⟩ -;obtain⟨fr2,h2,s1,s2,s3,s4,s5,s6⟩:=N3 pre x;have hx:=acR x.1 x.2;obtain⟨cs,nQ,dq,hcr⟩:=hEa _ (List.getElem_mem x.2);have hex:=r.es x.1 x.2
  have anO:FR φ' (H pre) W (((fr.set p0 (.int .i64 (x.1:Int))).set p1 Es[x.1]).set d (.ip (Es[x.1]).cells)) (((a.tmps.setIfInBounds p0 (.int .i64 (x.1:Int))).setIfInBounds p1 (.agg (vs x.1))).setIfInBounds d (.pointer (some ⟨B,0,none⟩))):=by
   refine ((r.fr.put (RV.int _ _) p0).put hex p1).put ?_ d;have hce:(Es[x.1]).cells=cs:=by rw[nQ];rfl
   rw[hce];rw[nQ] at hex;obtain⟨eY,e,g1,g2,g3⟩:=hex.qu;cases e;refine .ip cs B 0 (λj=>(vs x.1).getD j default) ⟨(Array.getElem?_eq_some_iff.1 b2).1,λid hl e=>?_,λDR=>?_⟩ hcr hx.2 (λj hj=>?_) λj hj=>g3 j hj
   .obtain⟨e1,e2⟩:=r.P0 mH hl;rw[e1] at e;omega
   .obtain⟨o,ho,hc⟩:=(r.TO B b1).1 DR;rw[b2] at ho;cases ho;cases hc
   .have hjc:j<c.size:=by omega
    have:=b4 j (by omega);unfold World.cell?;simp only[b2,Nat.zero_add];rw[Array.getElem?_eq_getElem hjc];have e:c.getD j default=c[j]:=by simp[Array.getD,hjc]
    rw[<-e,this];rfl
  refine lO (l0:=some l) hC uT hm m body acB hcb s1 anO r.hr (r.alX mH hG) λφ2 a2' w2 f2 r2 x2 _=>?_
  obtain⟨n1,n2,n3⟩:=r.next mH r2 x2 ((tV uT s1) r.hr.wf).1 s2 s3 (hHn _) s4 s5 s6
  exact⟨n2,n3,n1⟩
 case done=>rintro D xs W hD hS ⟨φ',r⟩ hK;obtain⟨d1,d2,d3⟩:=r.done mH;exact aj9 D xs W _ hD hS d2 d1 d3 hK
 case stop=>rintro D c pre W _ _ h _;exact h.elim
end
end
section
variable {X:World->Prop}{P:Program}
theorem agf{φ:eJ}{h:af}{w:World}(hr:HR φ h w){id:Nat}{cs:List AV}(hg:h.get id=some (.row cs))(wi:AV.ah cs=0){cv:Value}(hv:fe φ h w (.ptr id 0) cv):
 fe φ (kill h [id]) w (.ip cs) cv:=by
 obtain⟨c,el,fz,g1,g2,g3,g4,g5,g6⟩:=hr.rows id cs hg;have hl:live h id:=⟨_,hg,λe=>by cases e⟩
 obtain⟨k1,k2⟩:=Sc [id] hr
 cases hv with
 |ptr _ _ bX=>
   refine .ip cs (φ id).gA ((φ id).base+0) (λj=>if j<cs.length then c.getD ((φ id).base+j) default else default) ?_ wi (λj=>?_) (λj hj=>?_) λj hj=>?_
   .exact Pr.Jq (hr.fA hl) (λi hi e=>(by rw[hr.inj i id hi hl e];simp)) λDR=>(hr.gh _ DR).2 id hl rfl
   .split
    .exact g5 j (by omega)
    .rfl
   .have hjc:(φ id).base+0+j<c.size:=by omega
    unfold World.cell?;simp only[g1];rw[Array.getElem?_eq_getElem hjc];simp only[Nat.add_zero] at hjc|-;simp[hj,Array.getD,hjc]
   .rw[if_pos hj];exact (g6 j hj).mono (λi hi _=>by have:=AV.cR (List.getElem_mem hj);omega) λb hb=>⟨(k2.pr b hb).1,rfl⟩
theorem Ny{E:Env}(hE:cb P X E){n f g:Nat}{args:List AV}{cs:List AV}{wl md:Nat}(he:aH E n f args h0=some (.fn g [.ptr 0 0],⟨1,[.row cs],wl,md⟩))(nQ:AV.ah cs=0)(ha:AV.ah args=0):
 gD P X f args (.fn g [.ip cs]):=by
 have conv:∀(φ:eJ) (w:World) (φ':eJ) (cv:Value) (w':World),fe φ' ⟨1,[.row cs],wl,md⟩ w' (.fn g [.ptr 0 0]) cv->HR φ' ⟨1,[.row cs],wl,md⟩ w'->Ext φ h0 w φ' ⟨1,[.row cs],wl,md⟩ w'->
  fe φ' (kill ⟨1,[.row cs],wl,md⟩ [0]) w' (.fn g [.ip cs]) cv/\HR φ' (kill ⟨1,[.row cs],wl,md⟩ [0]) w'/\Ext φ h0 w φ' (kill ⟨1,[.row cs],wl,md⟩ [0]) w':=λφ w φ' cv w' g1 g2 g3=>by
  obtain⟨k1,k2⟩:=Sc [0] g2;obtain⟨eY,rfl,q2,q3⟩:=g1.D5;refine⟨.fn _ _ _ q2 λj hj=>?_,k1,g3.trans k2⟩;have hj0:j=0:=by simp at hj;omega
  subst hj0;exact agf g2 rfl nQ (q3 0 (by simp))
 refine w6 (h':=kill ⟨1,[.row cs],wl,md⟩ [0]) (by simp[AV.aJ,AV.ah]) ha λφ w aV hr hG kV=>?_
 rcases (zO hE n).1 f args h0 _ _ he φ w aV hr hG kV with⟨e1,e2⟩|⟨cv,w',φ',e1,e2,e3,e4⟩
 .refine .inl ⟨e1,e2.mono λe w' he=>?_⟩;obtain⟨φ',cv,rfl,g1,g2,g3⟩:=he;obtain⟨r1,r2,r3⟩:=conv φ w φ' cv w' g1 g2 g3;exact⟨φ',cv,rfl,r1,r2,r3⟩
 .obtain⟨r1,r2,r3⟩:=conv φ w φ' cv w' e2 e3 e4;exact .inr ⟨cv,w',φ',e1,r1,r2,r3⟩
theorem Qt{φ:eJ}{h:af}{w:World}{args:List AV}{aV:Array Value}(ha:kU φ h w args aV)(n:Nat)(hle:args.length<=n):
 FR φ h w (FM n (zw 0 args)) (aV++Array.replicate (n-aV.size) undef):=by
 rw[<-Kb args hle];refine⟨by simp[ha.1],λt=>?_⟩;by_cases ht:t<args.length
 .have:=ha.2 t ht;rw[List.getD_eq_getElem?_getD,List.getElem?_append_left ht,List.getElem?_eq_getElem ht,Option.getD_some];have ht2:t<aV.size:=by rw[ha.1];exact ht
  rw[Array.getD_eq_getD_getElem?] at this|-;rw[Array.getElem?_append_left ht2];rw[Array.getElem?_eq_getElem ht2] at this|-;exact this
 .rw[List.getD_eq_getElem?_getD,List.getElem?_append_right (by omega)]
  have:((List.replicate (n-args.length) AV.undef)[t-args.length]?).getD .undef=.undef:=by rw[List.getElem?_replicate];split<;>rfl
  rw[this];exact .undef _
theorem aa7{F:Fence}{n:Nat}{φ0 φ:eJ}{g0 h:af}{w0 W:World}{fn:Func}{rs:List MS}{fr:List AV}{tm:Array Value}{v:AV}{D:Nat}(C5:HR φ0 g0 w0)(Gs:dP (wQ P) fn.results.toList=some rs)(hf:FR φ h W fr tm)(hr:HR φ h W)
 (hx:Ext φ0 g0 w0 φ h W) (hD:W.heap[D]? =some (.deferred (some []))) (hDw:w0.heap.size<=D) (hsr:∀id cs,h.get id=some (.row cs)->∀v∈cs,v.fM=true) (ZQ:∀id es,h.get id=some (.map es)->∀e∈es,e.1.fM=true/\e.2.fM=true)
 (hsf:∀t,(fr.getD t .undef).fM=true) (Gz:jf fr h rs=some [v]):
 LeavesInM F n P fn tm (lL φ0 g0 w0 v h) [{target:=.collected D,args:=#[]}] .returning W:=by
 have hDl:D<W.heap.size:=(Array.getElem?_eq_some_iff.1 hD).1;have ZR:∀b,b≠D->(W.putObj D (.deferred none)).heap[b]? =W.heap[b]?:=λb hb=>World.putObj_heap_other hb
 have iE:(W.putObj D (.deferred none)).heap.size=W.heap.size:=by simp[World.putObj]
 have dq:∀b,na W b->b≠D:=λb ⟨o,ho,hc⟩ e=>by subst e;rw[hD] at ho;cases ho;cases hc
 have up:∀{u:AV} {cu:Value},u.fM=true->fe φ h W u cu->fe φ h (W.putObj D (.deferred none)) u cu:=λhs hv=>(RV.fM hv hs).mono (λid _ bX=>⟨rfl,bX⟩) λb hb=>⟨⟨by rw[iE];exact hb.1.1,hb.1.2⟩,ZR b (dq b hb.2)⟩
 have eF:∀id,live h id->(φ id).gA≠D:=λid hl e=>by
  obtain⟨o,hg,hd⟩:=hl
  cases o with
  |row cs=>obtain⟨c,el,fz,g1,_⟩:=hr.rows id cs hg;rw[e,hD] at g1;cases g1
  |map es=>obtain⟨gn,pB,g1,_⟩:=hr.maps id es hg;rw[e,hD] at g1;cases g1
  |dead=>exact hd rfl
 have N1:HR φ h (W.putObj D (.deferred none)):=by
  refine⟨hr.wf,λid cs hg=>?_,λid es hg=>?_,hr.inj,λb hb=>⟨by rw[iE];exact (hr.gh b hb).1,(hr.gh b hb).2⟩⟩
  .obtain⟨c,el,fz,g1,g2,g3,g4,g5,g6⟩:=hr.rows id cs hg;exact⟨c,el,fz,(ZR _ (eF id ⟨_,hg,λe=>by cases e⟩)).trans g1,g2,g3,g4,g5,λj hj=>up (hsr id cs hg _ (List.getElem_mem hj)) (g6 j hj)⟩
  .obtain⟨gn,pB,g1,g2,g3⟩:=hr.maps id es hg;exact⟨gn,pB,(ZR _ (eF id ⟨_,hg,λe=>by cases e⟩)).trans g1,g2,λj hj=>⟨up (ZQ id es hg _ (List.getElem_mem hj)).1 (g3 j hj).1,up (ZQ id es hg _ (List.getElem_mem hj)).2 (g3 j hj).2⟩⟩
 have hf':FR φ h (W.putObj D (.deferred none)) fr tm:=⟨hf.1,λt=>up (hsf t) (hf.2 t)⟩
 have Ky:Ext φ0 g0 w0 φ h (W.putObj D (.deferred none)):=by
  refine⟨hx.os,hx.tape,hx.output,by rw[iE];exact hx.size,hx.next,hx.CD,λb hb=>?_,hx.gh.1,λb hb=>?_⟩
  .obtain⟨p1,p2⟩:=hx.pr b hb;exact⟨⟨by rw[iE];exact p1.1,p1.2⟩,(ZR b (by have:=hb.1;omega)).trans p2⟩
  .exact (ZR b (by have:=(C5.gh b hb).1;omega)).trans (hx.gh.2 b hb)
 obtain⟨eY,g1,g2,g3⟩:=OX (P:=P) hf' N1 fn.results.toList rs [v] Gs Gz;refine⟨by simp,.inl ⟨D,_,rfl,run_takeDeferred hD,?_⟩⟩
 have hm:(fn.results.mapM (Mc tm)).run P (W.putObj D (.deferred none))=.ok eY.toArray (W.putObj D (.deferred none)):=by rw[Array.mapM_eq_mapM_toList];simp only[Sem.run_map,g1,Result.andThen_ok]
 match eY,g2,g3,hm with
 |[c1],_,g3,hm=>refine⟨c1,?_,φ,c1,rfl,g3 0 (by simp) (by simp),N1,Ky⟩;rw[yG];simp only[Sem.run_bind,hm,Result.andThen_ok,Sem.run_pure];rfl
end
end Sz
