import Derived.Test.YtjmeonoabiliiaaGreatDoorSz2
import Derived.OrdersIn
import Derived.LoopNIn
import Derived.TacticsIn
import Derived.RangeFuncCalls
import Derived.Test.YtjmeonoabiliiaaGreatDoorArg
import Derived.RangeFuncBox
import Derived.Shelf.Abstract
import Derived.Test.YtjmeonoabiliiaaGreatDoorSz3
import Derived.RangeFuncNested
import Derived.RangeFuncBound
import Derived.RangeFuncLeaves
set_option linter.unusedVariables false
set_option linter.unusedSimpArgs false
set_option linter.unusedSectionVars false
set_option maxHeartbeats 16000000
set_option maxRecDepth 100000

/- The abstract run is sound inside a round of a range over a function. Printed by wip/gen/mkin.py out of the texts on the plain frame. No program is named here. -/
namespace Sz
open Go
variable {X:World→Prop} {l0:Option Nat} {n0:Nat}
def FW:Option Nat→Fence
 | none=>Fence.wide
 | some l=>Fence.wide.inRound l
theorem KJ:∀(l0:Option Nat) (f:FuncId),(FW l0).fn f
 | none,_=>trivial
 | some _,_=>trivial
theorem JW:∀(l0:Option Nat),(FW l0).depth.isSome=true→False
 | none,h=>by cases h
 | some _,h=>by cases h
theorem Kt {n:Nat} {P:Program} {f:FuncId} {args:Array Value} {w:World} {R:Ending→World→Prop}:∀(l0:Option Nat),Calls P f args w R→CallsIn (FW l0) n P f args w R
 | none,h=>callsIn_wide.2 h
 | some l,h=>CallsIn.inRound l (callsIn_wide.2 h)
section
variable {P:Program} {C:Nat→List AV→aa→Option (AV×aa)}
theorem RL {ρ:Operand→Value} {o:Oper} (hnd:∀c,o.op≠.defer c):o.semAt (FW l0).round ρ=execOp ρ o:=by
 cases l0 with
 | none=>exact Oper.semAt_none ρ o
 | some l=>exact Oper.semAt_some l ρ o hnd
theorem Ml {o:Oper} {op':qR} {fr:List AV} {h:aa} {r:AV×aa} {ops:Array Oper} (hs:lY P o.op=some op'∨rA P ops o=some op') (hv:bE fr h op'=some r):∀c,o.op≠.defer c:=fun c hc=>by
 rw[hc] at hs;rcases hs with hs | hs
 ·simp[lY,cR] at hs;subst hs;simp[bE] at hv
 ·simp[rA,hc] at hs
theorem NT {b:Prop} [Decidable b] {A:Prop} {G:FuncId→Prop} {B:Prop} (h:if b then A else B):if b then A else ((∀f,G f→(FW l0).fn f)∧B):=by
 split
 ·rename_i hb;rwa[if_pos hb] at h
 ·rename_i hb;rw[if_neg hb] at h;exact⟨fun f _=>KJ l0 f,h⟩
theorem DF {φ:dp} {h h':aa} {w:World} {fr:List AV} {a:Act} {o:Oper} {v:AV} {f:Nat} {cargs:Array Value} {args:List AV} (hC:iE P X C) (hc:C f args h=some (v,h')) (hr:HR φ h w) (hG:fv P X φ h w) (ha:iv φ h w args cargs)
 (hf:FR φ h w fr a.tmps) (hnd:∀c,o.op≠.defer c) (hrun:(execOp a.eval o).run P w=(callFunc f cargs).run P w) {K:Act→World→Prop} {Q:Exit→Act→World→Prop}
 (hK:∀φ' cv w',FR φ' h' w' (eG fr o.dst v) (a.put o.dst cv).tmps→HR φ' h' w'→Ext φ h w φ' h' w'→K (a.put o.dst cv) w'):o.wpIn (FW l0) n0 P a w K Q:=by
 refine⟨fun f _=>KJ l0 f,?_⟩;rw[RL hnd,hrun];rcases hC f args h v h' hc φ w cargs hr hG ha with⟨e1,e2⟩ | ⟨cv,w',φ',e1,e2,e3,e4⟩
 ·rw[e1,Oper.uponIn_enter];refine⟨fun h=>(JW l0 h).elim,CallsIn.mono (Kt l0 e2) fun e w' he=>?_⟩;obtain⟨φ',cv,rfl,g1,g2,g3⟩:=he;obtain⟨p1,p2⟩:=mY (hf.ext g3) g1 o.dst;exact hK φ' _ w' p1 g2 g3
 ·rw[e1,Oper.uponIn_value];obtain⟨p1,p2⟩:=mY (hf.ext e4) e2 o.dst;exact hK φ' _ w' p1 e3 e4
theorem sq (hC:iE P X C) {ops:Array Oper} {o:Oper} {s:aU} (hs:fp P ops o=some s) {φ:dp} {h h':aa} {w:World} {fr fr':List AV} {a:Act} (he:cd C s fr h=some (fr',h'))
 (hf:FR φ h w fr a.tmps) (hr:HR φ h w) (hG:fv P X φ h w) {K:Act→World→Prop} {Q:Exit→Act→World→Prop}
 (hK:∀φ' cv w',FR φ' h' w' fr' (a.put o.dst cv).tmps→HR φ' h' w'→Ext φ h w φ' h' w'→K (a.put o.dst cv) w'):
 if Region.wanted o (yielded ops a.tmps) then o.wpIn (FW l0) n0 P a w K Q else K (a.put o.dst undef) w:=by
 unfold fp at hs;split at hs
 ·cases hs
 ·rename_i aop haop
  -- the guard
  have hguard:∃b,cG fr s.guard=some b∧Region.wanted o (yielded ops a.tmps)=!b:=by
   unfold cd at he
   cases hu:cG fr s.guard with
   | none=>rw[hu] at he;cases he
   | some b=>
     refine⟨b,rfl,?_⟩;split at hs
     ·rename_i hg;cases hs;simp only[cG,Option.some.injEq] at hu;subst hu;simp[Region.wanted,hg]
     ·rename_i j want hg;obtain⟨t,ht,rfl⟩:=Option.map_eq_some_iff.1 hs;simp only[cG] at hu;split at hu
      ·rename_i b' hb';cases hu;obtain⟨hlt,e⟩:=List.getElem?_eq_some_iff.1 hb';have hlt2:t < a.tmps.size:=by rw[hf.1];exact hlt
       have:=hf.2 t;rw[List.getD_eq_getElem?_getD,hb',Option.getD_some] at this;have hv:=this.eX
       have hget:a.tmps[t]? =some (.bool b'):=by
        rw[Array.getD_eq_getD_getElem?,Array.getElem?_eq_getElem hlt2,Option.getD_some] at hv;rw[Array.getElem?_eq_getElem hlt2,hv]
       have hy:yielded ops a.tmps j=some b':=by
        unfold yielded;rw[ht];simp[hget]
       simp only[Region.wanted,hg,hy];cases b'<;>cases want<;>rfl
      ·rename_i hb';cases hu;obtain⟨hlt,e⟩:=List.getElem?_eq_some_iff.1 hb';have hlt2:t < a.tmps.size:=by rw[hf.1];exact hlt
       have:=hf.2 t;rw[List.getD_eq_getElem?_getD,hb',Option.getD_some] at this;obtain⟨cvs,hv,hl,_⟩:=this.l8
       have hget:a.tmps[t]? =some (.tuple cvs):=by
        rw[Array.getD_eq_getD_getElem?,Array.getElem?_eq_getElem hlt2,Option.getD_some] at hv;rw[Array.getElem?_eq_getElem hlt2,hv]
       have hy:yielded ops a.tmps j=none:=by
        unfold yielded;rw[ht];simp[hget]
       simp only[Region.wanted,hg,hy];rfl
      ·cases hu
  obtain⟨b,hb,hw⟩:=hguard
  have hdst:s.dst=o.dst∧s.op=aop:=by
   split at hs
   ·cases hs;exact⟨rfl,rfl⟩
   ·obtain⟨t,ht,rfl⟩:=Option.map_eq_some_iff.1 hs;exact⟨rfl,rfl⟩
  unfold cd at he;rw[hb] at he;rw[hw]
  cases b with
  | true=>
    simp only[Option.some.injEq,Prod.mk.injEq] at he;obtain⟨rfl,rfl⟩:=he;rw[if_neg (by simp)];rw[hdst.1] at hK;obtain⟨p1,p2⟩:=mY hf (RV.tuple [] #[] rfl fun j hj=>by simp at hj:dK φ h w (.tuple []) undef) o.dst;exact hK φ _ w p1 hr (.refl _ _ _)
  | false=>
    rw[if_pos (by simp)];simp only[hdst.2] at he;rw[hdst.1] at he
    have hplain:∀op',(lY P o.op=some op'∨rA P ops o=some op')→(bE fr h op').map (fun p=>(eG fr o.dst p.1,p.2))=some (fr',h')→o.wpIn (FW l0) n0 P a w K Q:=fun op' haop he=>by
     obtain⟨⟨v,h1⟩,hv,e⟩:=Option.map_eq_some_iff.1 he;cases e;have hnd:=Ml haop hv;obtain⟨cv,w',φ',e1,e2,e3,e4⟩:=Kd haop hv hf hr;obtain⟨p1,p2⟩:=mY (hf.ext e4) e2 o.dst;have:=hK φ' _ w' p1 e3 e4;refine⟨fun f _=>KJ l0 f,?_⟩;rw[RL hnd];rcases e1 with e1 | ⟨e1,rfl⟩
     ·rw[e1,Oper.uponIn_value];exact this
     ·rw[e1,Oper.uponIn_skip];exact this
    have hcallv:∀(f0:Operand) (args0:Array Operand) (rF:Array TypeId) (x':cI) (args:List cI) (f:Nat) (caps:List AV) (v:AV) (h1:aa),o.op=.call {callee:=.value f0,args:=args0,argTypes:=rF}→eD f0=some x'→
     jO args0=some args→x'.ev fr=.fn f caps→C f (args.map (·.ev fr)++caps) h=some (v,h1)→(eG fr o.dst v,h1)=(fr',h')→o.wpIn (FW l0) n0 P a w K Q:=fun f0 args0 rF x' args f caps v h1 hop hx has hfn hcall e=>by
     cases e;have g:=bO hx hf;rw[hfn] at g;obtain⟨cvs,q1,q2,q3⟩:=g.w8;have ga:=AU has hf;refine DF (cargs:=args0.map a.eval++cvs) hC hcall hr hG ⟨by simp[ga.1,q2],fun j hj=>?_⟩ hf ?_ ?_ hK
     ·by_cases hj1:j < (args.map (·.ev fr)).length
      ·have:=ga.2 j hj1;rw[List.getElem_append_left hj1];have hj2:j < (args0.map a.eval).size:=by rw[ga.1];exact hj1
       rw[Array.getD_eq_getD_getElem?] at this ⊢;rw[Array.getElem?_append_left hj2];exact this
      ·have hj3:j - (args.map (·.ev fr)).length < caps.length:=by simp at hj hj1 ⊢;omega
       have:=q3 _ hj3;rw[List.getElem_append_right (by omega)];rw[Array.getD_eq_getD_getElem?] at this ⊢;rw[Array.getElem?_append_right (by rw[ga.1];omega),ga.1];exact this
     ·exact fun c hc=>by rw[hop] at hc;cases hc
     ·unfold execOp;simp[hop,resolve,q1,Deferred.ofValue,invoke]
    have hinv:∀s',oC P ops o=some s'→(∃op',(lY P o.op=some op'∨rA P ops o=some op')∧s'=.op op')∨∃f0 args0 rF x' args,o.op=.call {callee:=.value f0,args:=args0,argTypes:=rF}∧eD f0=some x'∧jO args0=some args∧
     ((∃g,x'=.const (.fn g [])∧s'=.call g args)∨s'=.hU x' args):=fun s' hs'=>by
     unfold oC at hs';split at hs'
     ·rename_i op' h1;cases hs';exact .inl ⟨op',.inr h1,rfl⟩
     unfold zW at hs';split at hs'
     ·rename_i f0 args0 rF hop;split at hs'
      ·rename_i g as1 h1 h2;cases hs';exact .inr ⟨f0,args0,rF,_,as1,hop,h1,h2,.inl ⟨g,rfl,rfl⟩⟩
      ·rename_i f' as1 h1 h2 h3;cases hs';exact .inr ⟨f0,args0,rF,_,as1,hop,by assumption,by assumption,.inr rfl⟩
      ·cases hs';exact .inl ⟨.die,.inl (by rw[hop];rfl),rfl⟩
     ·obtain⟨op',h1,rfl⟩:=Option.map_eq_some_iff.1 hs';exact .inl ⟨op',.inl h1,rfl⟩
    rcases hinv aop haop with⟨op',h1,rfl⟩ | ⟨f0,args0,rF,x',args,hop,hx,has,hs'⟩
    ·exact hplain op' h1 he
    ·rcases hs' with⟨g,rfl,rfl⟩ | rfl
     ·dsimp only at he;obtain⟨⟨v,h1⟩,hv,e⟩:=Option.map_eq_some_iff.1 he;exact hcallv f0 args0 rF _ args g [] v h1 hop hx has rfl (by simpa using hv) e
     ·dsimp only at he;split at he
      ·rename_i f caps hfn;obtain⟨⟨v,h1⟩,hv,e⟩:=Option.map_eq_some_iff.1 he;exact hcallv f0 args0 rF _ args f caps v h1 hop hx has hfn hv e
      ·cases he
theorem yQ (hC:iE P X C) {ops:Array Oper} {Q:Exit→Act→World→Prop}:∀{l:List Oper} {ss:List aU},dm (fp P ops) l=some ss→∀{φ:dp} {h h':aa} {w:World} {fr fr':List AV} {a:Act},
 cB C ss fr h=some (fr',h')→FR φ h w fr a.tmps→HR φ h w→fv P X φ h w→
 (∀φ' a' w',FR φ' h' w' fr' a'.tmps→HR φ' h' w'→Ext φ h w φ' h' w'→a'.defers=a.defers→Q .normal a' w')→wpListIn (FW l0) n0 P ops Q l a w
 | [],ss,hs,φ,h,h',w,fr,fr',a,he,hf,hr,hG,hQ=>by
   simp only[dm,Option.some.injEq] at hs;subst hs;simp only[cB,Option.some.injEq,Prod.mk.injEq] at he;obtain⟨rfl,rfl⟩:=he;exact wpListIn_nil (hQ φ a w hf hr (.refl _ _ _) rfl)
 | o::l,ss,hs,φ,h,h',w,fr,fr',a,he,hf,hr,hG,hQ=>by
   unfold dm at hs;split at hs
   ·rename_i s ss' h1 h2;cases hs;simp only[cB] at he;split at he
    ·rename_i fr1 h1' hstep;refine wpListIn_step fun K hK=>NT ?_
     refine sq hC h1 hstep hf hr hG fun φ1 cv w1 f1 r1 e1=>hK _ _ ?_
     have d1:(a.put o.dst cv).defers=a.defers:=by cases o.dst<;>rfl
     exact yQ hC h2 he f1 r1 (hG.ext e1) fun φ2 a2 w2 f2 r2 e2 d2=>hQ φ2 a2 w2 f2 r2 (e1.trans e2) (d2.trans d1)
    ·cases he
   ·cases hs
end
section
variable {P:Program} {C:Nat→List AV→aa→Option (AV×aa)} {ops:Array Oper} {ss:List aU} {b:List Nat} {F:Nat→List AV} {H:Nat→aa} {φ0:dp} {w0:World} {d0:List Deferred}
 {listed:Array Bool} {φ:dp} {pe:Nat→PE} {cu:List AV} {k:Nat} {a:Act} {w:World}
theorem Lk (hC:iE P X C) (hG:fv P X φ0 (H 0) w0) (T:Tr C ss b F H) (st:pL P ops ss b) {Q:Exit→Act→World→Prop}
 (hQ:∀φ' a' w',FR φ' (H ss.length) w' (F ss.length) a'.tmps→HR φ' (H ss.length) w'→Ext φ0 (H 0) w0 φ' (H ss.length) w'→a'.defers=d0→Q .normal a' w'):
 ∀(fuel:Nat) (listed:Array Bool) (φ:dp) (pe:Nat→PE) (cu:List AV) (k:Nat) (a:Act) (w:World),DI ops ss F H φ0 w0 d0 listed φ pe cu k a w→KX ss listed k→La ss.length listed≤fuel→
   wpAnyIn (FW l0) n0 P .any ops Q fuel listed a w:=by
 have hend:∀(listed:Array Bool) (φ:dp) (pe:Nat→PE) (cu:List AV) (k:Nat) (a:Act) (w:World),DI ops ss F H φ0 w0 d0 listed φ pe cu k a w→KX ss listed k→(∀i,i < ss.length→SS listed i)→Q .normal a w:=fun listed φ pe cu k a w D kx hall=>by
  have hk:k=ss.length:=by
   rcases Nat.lt_or_ge k ss.length with h | h
   ·obtain⟨s,_,_,hn⟩:=kx h;exact absurd (hall k h) hn
   ·have:=D.kn;omega
  subst hk
  have hcu:∀t,cu.getD t .undef=(F ss.length).getD t .undef:=fun t=>by
   by_cases hw:∃(j:Nat) (r:aU),ss[j]? =some r∧r.dst=some t
   ·obtain⟨j,r,hj,hd⟩:=hw;have hjl:j < ss.length:=(List.getElem?_eq_some_iff.1 hj).1;exact D.w1 j r t hj hd (hall j hjl) fun _=>hjl
   ·have hno:∀(j:Nat) (r:aU),ss[j]? =some r→r.dst≠some t:=fun j r hj hd=>hw ⟨j,r,hj,hd⟩
    rw[D.w3 t hno];have:=T.eI (d:=t) (i:=0) ss.length (by omega) fun j' s' _ _ h3=>hno j' s' h3
    simpa using this.symm
  refine hQ φ a w ⟨?_,fun t=>?_⟩ D.hr ?_ D.df
  ·rw[D.fr.1,D.K1,T.len ss.length (Nat.le_refl _)]
  ·rw[←hcu t];exact D.fr.2 t
  ·have x:=D.ex;refine⟨x.os,x.tape,x.output,x.size,x.next,x.uJ,x.pr,?_,fun y hy=>(D.Ik y hy).2⟩;funext y;refine propext ⟨fun hy=>?_,fun hy=>(D.Ik y hy).1⟩;rcases D.gh y hy with h | ⟨i,s,h1,h2,_⟩
   ·exact h
   ·have:=(List.getElem?_eq_some_iff.1 h2).1;omega
 have hnl:∀(listed:Array Bool) (i:Nat),listed.size=ss.length→listed.getD i true=false→i < ss.length∧¬ SS listed i:=fun listed i hsz h=>by
  have hlt:i < listed.size:=by
   rcases Nat.lt_or_ge i listed.size with h' | h'
   ·exact h'
   ·simp[Array.getElem?_eq_none h'] at h
  refine⟨by omega,fun hS=>?_⟩;unfold SS at hS;simp[hlt] at h hS;rw[h] at hS;cases hS
 intro fuel
 induction fuel with
 | zero=>
   intro listed φ pe cu k a w D kx hu;have hall:∀i,i < ss.length→SS listed i:=fun i hi=>Bb (by omega) hi
   refine⟨?_,hend listed φ pe cu k a w D kx hall⟩;apply List.eq_nil_iff_forall_not_mem.2;intro i hi;obtain⟨h1,h2⟩:=hnl listed i D.sz (mem_ready.1 hi).1;exact h2 (hall i h1)
 | succ fuel ih=>
   intro listed φ pe cu k a w D kx hu;refine⟨fun h0=>hend listed φ pe cu k a w D kx fun i hi=>?_,fun i hi=>?_⟩
   ·induction i using Nat.strongRecOn with
    | _ i ihi=>
      refine Classical.byContradiction fun hns=>?_
      have hio':i < ops.size:=by rw[←st.len];exact hi
      have hio:ops[i]? =some ops[i]:=Array.getElem?_eq_getElem hio'
      have:i ∈ Region.ready .any ops listed:=by
       rw[mem_ready];refine⟨?_,_,hio,fun e he hb=>?_⟩
       ·have hlt:i < listed.size:=by rw[D.sz];exact hi
        unfold SS at hns;simp[hlt] at hns ⊢;exact hns
       ·have:=st.back i _ hio e he hb;exact ihi e.on this (by omega)
      rw[h0] at this;cases this
   ·obtain⟨hun,o,ho,hedge⟩:=mem_ready.1 hi;obtain⟨hil,hns⟩:=hnl listed i D.sz hun;have hre:∀e ∈ o.after,Region.binds .any e=true→SS listed e.on:=hedge;obtain⟨s,hs,hcomp⟩:=st.comp i o ho;have hd:=BC hcomp;obtain⟨hin,hout,hev,a1,a2⟩:=T.st i s hs;have hrd:=D.reads T st kx ho hs hre hns;have hops:∀x ∈ s.op.jO,x.ev cu=x.ev (F i):=fun x hxm=>na fun t ht=>hrd t (List.mem_append_right _ (List.mem_flatMap.2 ⟨x,hxm,ht⟩))
    have hu':La ss.length (listed.setIfInBounds i true)≤fuel:=by
     have:=Fm hil (by rw[D.sz];exact hil) hns;omega
    unfold wpOpIn;rw[ho];dsimp only;refine NT ?_;by_cases he:s.mL=true
    ·rcases Nat.lt_trichotomy i k with hik | hik | hik
     ·exact absurd (D.lo i s hik hs he) hns
     ·subst hik;obtain⟨v,hF,hev'⟩:=jg hrd hev;obtain⟨r1,r2⟩:=D.hr.alike a1;refine sq hC hcomp hev' (D.fr.ext r2) r1 ((hG.yT D).ext r2) fun φ' cv w' f1 r3 e1=>?_
      obtain⟨r4,r5⟩:=r3.alike a2;have D1:=D.step T st (k':=i+1) ho hs hd hre hns (.inr ⟨rfl,rfl⟩) hF (f1.ext r5) r4 ((r2.trans e1).trans r5);obtain⟨φ2,cu2,k2,D2,kx2⟩:=D1.advance T st (ss.length) (by omega);exact ih _ φ2 pe cu2 k2 _ w' D2 kx2 hu'
     ·have hp:s.jd=true:=by
       obtain⟨q,hq,hqe,hqn⟩:=kx (by omega);rcases st.ord k i q s hik hq hs hqe he with h | h
       ·exact absurd (gT st D.cl (i+1) i k (by omega) o ho hre h) hqn
       ·exact h
      obtain⟨cs,vf,hh,hF,hvf,hall⟩:=uO hp hev;obtain⟨hev',hrf⟩:=hall cu (H k) hops;subst hh;refine sq hC hcomp hev' D.fr D.hr (hG.yT D) fun φ' cv w' f1 r3 e1=>?_
      have hnx:hin.next=(H i).next:=a1.1
      rw[hnx] at hF;have D1:=D.early T st ho hs hd hre hns hik hp ((a1.alloc _).trans a2) hF hvf (hrf _ _ _ D.fr) f1 r3 e1;refine ih _ _ _ _ k _ w' D1 (fun h=>?_) hu';obtain⟨q,hq,hqe,hqn⟩:=kx h;refine⟨q,hq,hqe,fun h'=>?_⟩;rcases (nQ (by rw[D.sz];exact hil) k).1 h' with e | e
      ·omega
      ·exact hqn e
    ·have he:s.mL=false:=by simpa using he
     obtain⟨v,hF,hev'⟩:=jg hrd hev
     obtain⟨_,hev2⟩:=nd (h2:=H k) he hev' fun n x id off hop hx=>by
      have hx':x.ev (F i)=.ptr id off:=by
       rw[←hops x (by rw[hop];simp[F6.jO,qR.jO])];exact hx
      rw[a1.get id];exact D.load T st kx ho hs hre hns hop hx'
     refine sq hC hcomp hev2 D.fr D.hr (hG.yT D) fun φ' cv w' f1 r3 e1=>?_
     have D1:=D.step T st (k':=k) ho hs hd hre hns (.inl ⟨rfl,he⟩) hF f1 r3 e1;refine ih _ _ _ _ k _ w' D1 (fun h=>?_) hu';obtain⟨q,hq,hqe,hqn⟩:=kx h;refine⟨q,hq,hqe,fun h'=>?_⟩;rcases (nQ (by rw[D.sz];exact hil) k).1 h' with e | e
     ·subst e;rw[hs] at hq;rw[←Option.some.inj hq,he] at hqe;cases hqe
     ·exact hqn e
theorem wj (hC:iE P X C) (hm:P.follows .mixedOrders=true) (hs:dm (fp P ops) ops.toList=some ss) (hd:vX ops ss b=true) {F:Nat→List AV} {H:Nat→aa} (T:Tr C ss b F H)
 {φ:dp} {w:World} {a:Act} {id:Nat} {Q:Exit→Act→World→Prop} (hf:FR φ (H 0) w (F 0) a.tmps) (hr:HR φ (H 0) w) (hG:fv P X φ (H 0) w)
 (hQ:∀φ' a' w',FR φ' (H ss.length) w' (F ss.length) a'.tmps→HR φ' (H ss.length) w'→Ext φ (H 0) w φ' (H ss.length) w'→a'.defers=a.defers→Q .normal a' w'):(Code.region id ops true).wpIn (FW l0) n0 P Q a w:=by
 have st:=EV hs hd;obtain⟨r1,x1⟩:=hr.world (w':={w with drawn:=w.drawn+1}) rfl rfl rfl rfl;refine wpIn_region_any hm ?_
 have hnone:∀i,¬ SS (Array.replicate ops.size false) i:=fun i h=>by
  unfold SS at h;rw[Array.getD_eq_getD_getElem?,Array.getElem?_replicate] at h;split at h<;>cases h
 have D0:DI ops ss F H φ {w with drawn:=w.drawn+1} a.defers (Array.replicate ops.size false) φ (fun _=>default) (F 0) 0 a {w with drawn:=w.drawn+1}:=by
  refine⟨by simp[st.len],fun j o _ h=>absurd h (hnone j),Nat.zero_le _,fun i s h=>by omega,fun i s _ _ _ h=>absurd h (hnone i),r1,hf.ext x1,.refl _ _ _,rfl,fun i s d _ _ h=>absurd h (hnone i),fun _ _ _ _ _ _=>rfl,fun _ _=>rfl,
   fun i s _ _ _ h=>absurd h (hnone i),fun i j s r _ _ _ _ _ _ h=>absurd h (hnone i),fun y hy=>.inl hy,fun y hy=>⟨hy,rfl⟩,rfl⟩
 obtain⟨φ1,cu1,k1,D1,kx⟩:=D0.advance T st ss.length (by omega);refine Lk hC (hG.ext x1) T st (fun φ' a' w' f1 r2 e1 d1=>hQ φ' a' w' f1 r2 (x1.trans e1) d1) ops.size _ φ1 _ cu1 k1 a _ D1 kx ?_;unfold La;have:=List.countP_le_length (p:=fun i=>!(Array.replicate ops.size false).getD i false) (l:=List.range ss.length);rw[List.length_range,st.len] at this;rw[st.len];exact this
end
section
variable {P:Program} {C:Nat→List AV→aa→Option (AV×aa)}
def EJ (l0:Option Nat) (n0:Nat) (P:Program) (X:World→Prop) (C:Nat→List AV→aa→Option (AV×aa)) (n:Nat) (ac:bF) (c:Code):Prop:=
 ∀⦃φ:dp⦄ ⦃h h':aa⦄ ⦃w:World⦄ ⦃fr fr':List AV⦄ ⦃a:Act⦄ ⦃ex:Ex⦄,aT C n ac fr h=some (ex,fr',h')→FR φ h w fr a.tmps→HR φ h w→fv P X φ h w→∀⦃Q:Exit→Act→World→Prop⦄,
   (∀φ' a' w',FR φ' h' w' fr' a'.tmps→HR φ' h' w'→Ext φ h w φ' h' w'→a'.defers=a.defers→Q (Na ex) a' w')→c.wpIn (FW l0) n0 P Q a w
theorem A9 (hCL:ki C) {n:Nat} {ac:bF} {c:Code} {live:List Bool} (hb:EJ l0 n0 P X C n ac c) {φe:dp} {he:aa} {we:World} (hre:HR φe he we) (hG:fv P X φe he we):
 ∀(m:Nat) {φ:dp} {h h':aa} {w:World} {fr fr':List AV} {a:Act} {ex:Ex},mE (aT C n ac) live he.next m fr h=some (ex,fr',h')→
 FR φ h w fr a.tmps→HR φ h w→Ext φe he we φ h w→CW he h→∀{Q:Exit→Act→World→Prop},
 (∀φ' a' w',FR φ' h' w' fr' a'.tmps→HR φ' h' w'→Ext φe he we φ' h' w'→a'.defers=a.defers→Q (Na ex) a' w')→Code.roundsIn (FW l0) n0 P c Q m a w
 | 0,φ,h,h',w,fr,fr',a,ex,hev,hf,hr,hx,hc,Q,hQ=>by simp[mE] at hev
 | m+1,φ,h,h',w,fr,fr',a,ex,hev,hf,hr,hx,hc,Q,hQ=>by
   rw[roundsIn_succ];simp only[mE] at hev;obtain⟨φ0,r0,f0,x0⟩:=EO hr (mb (live:=live) hf) hx hre (hc hre.wf).1;have c0:=E1 (fr:=clear live fr) hc;split at hev
   ·rename_i fr1 h1 h2;refine hb h2 f0 r0 (hG.ext x0) fun φ1 a1 w1 f1 r1 e1 d1=>?_
    exact A9 hCL hb hre hG m hev f1 r1 (x0.trans e1) (c0.trans (mV hCL h2)) fun φ2 a2 w2 f2 r2 e2 d2=>hQ φ2 a2 w2 f2 r2 e2 (d2.trans d1)
   ·rename_i hne;refine hb hev f0 r0 (hG.ext x0) fun φ1 a1 w1 f1 r1 e1 d1=>?_
    have:=hQ φ1 a1 w1 f1 r1 (x0.trans e1) d1
    cases ex with
    | normal=>exact (hne _ _ hev).elim
    | exit id=>exact this
    | ret=>exact this
theorem iw (hC:iE P X C) (hCL:ki C) (hm:P.follows .mixedOrders=true) (n:Nat):∀(c:Code) (ac:bF),bV P c=some ac.strip→EJ l0 n0 P X C n ac c
 | .skip,ac,hc=>by
   simp only[bV,Option.some.injEq] at hc;cases ac<;>simp[bF.strip] at hc;intro φ h h' w fr fr' a ex he hf hr hG Q hQ;simp only[aT,Option.some.injEq,Prod.mk.injEq] at he;obtain⟨rfl,rfl,rfl⟩:=he;exact wpIn_skip (hQ φ a w hf hr (.refl _ _ _) rfl)
 | .exit id,ac,hc=>by
   simp only[bV,Option.some.injEq] at hc;cases ac<;>simp[bF.strip] at hc;subst hc;intro φ h h' w fr fr' a ex he hf hr hG Q hQ;simp only[aT,Option.some.injEq,Prod.mk.injEq] at he;obtain⟨rfl,rfl,rfl⟩:=he;exact wpIn_exit (hQ φ a w (mb hf) hr (.refl _ _ _) rfl)
 | .ret,ac,hc=>by
   simp only[bV,Option.some.injEq] at hc;cases ac<;>simp[bF.strip] at hc;intro φ h h' w fr fr' a ex he hf hr hG Q hQ;simp only[aT,Option.some.injEq,Prod.mk.injEq] at he;obtain⟨rfl,rfl,rfl⟩:=he;exact wpIn_ret (hQ φ a w (mb hf) hr (.refl _ _ _) rfl)
 | .region id ops draw,ac,hc=>by
   simp only[bV] at hc;split at hc
   ·rename_i as1 has;split at hc
    ·rename_i hd;subst hd;split at hc
     ·rename_i hok;simp only[Option.some.injEq] at hc;intro φ h h' w fr fr' a ex he hf hr hG Q hQ;unfold Dg at hc;split at hc
      ·rename_i hp;cases ac<;>simp[bF.strip] at hc;subst hc;simp only[aT,Option.map_eq_some_iff] at he;obtain⟨⟨fr1,h1⟩,he,e⟩:=he;cases e;obtain⟨F,H,rfl,rfl,rfl,rfl,hst⟩:=uf he;exact wj hC hm has hok (Tr.of_steps hst hp) hf hr hG hQ
      ·cases ac<;>simp[bF.strip] at hc;obtain⟨rfl,rfl⟩:=hc;simp only[aT] at he;split at he
       ·rename_i fr1 h1 tr htr;split at he
        ·rename_i hchk;cases he;obtain⟨F,H,rfl,rfl,rfl,rfl,hst⟩:=CH htr;exact wj hC hm has hok (Tr.Nw hCL hst hr.wf hchk) hf hr hG hQ
        ·cases he
       ·cases he
     ·simp only[Option.some.injEq] at hc;intro φ h h' w fr fr' a ex he;exact (fq hc he).elim
    ·rename_i hd;have hd':draw=false:=by simpa using hd
     subst hd';simp only[Option.some.injEq] at hc;cases ac<;>simp[bF.strip] at hc;subst hc;intro φ h h' w fr fr' a ex he hf hr hG Q hQ;simp only[aT,Option.map_eq_some_iff] at he;obtain⟨⟨fr1,h1⟩,he,e⟩:=he;cases e;exact wpIn_region_list (yQ hC has he hf hr hG hQ)
   ·simp only[Option.some.injEq] at hc;intro φ h h' w fr fr' a ex he;exact (fq hc he).elim
 | .seq x y,ac,hc=>by
   simp only[bV] at hc;split at hc
   ·rename_i x' y' hx hy;simp only[Option.some.injEq] at hc;cases ac<;>simp[bF.strip] at hc;rename_i p q;obtain⟨rfl,rfl⟩:=hc;have ihx:=iw hC hCL hm n x p hx;have ihy:=iw hC hCL hm n y q hy;intro φ h h' w fr fr' a ex he hf hr hG Q hQ;refine wpIn_seq ?_;simp only[aT] at he;split at he
    ·rename_i fr1 h1 h2;refine ihx h2 hf hr hG fun φ1 a1 w1 f1 r1 e1 d1=>?_
     exact ihy he f1 r1 (hG.ext e1) fun φ2 a2 w2 f2 r2 e2 d2=>hQ φ2 a2 w2 f2 r2 (e1.trans e2) (d2.trans d1)
    ·rename_i hne;refine ihx he hf hr hG fun φ1 a1 w1 f1 r1 e1 d1=>?_
     have:=hQ φ1 a1 w1 f1 r1 e1 d1
     cases ex with
     | normal=>exact (hne _ _ he).elim
     | exit id=>exact this
     | ret=>exact this
   ·cases hc
 | .cond c x y,ac,hc=>by
   simp only[bV] at hc;split at hc
   ·rename_i c' x' y' h1 hx hy;simp only[Option.some.injEq] at hc;cases ac<;>simp[bF.strip] at hc;rename_i c2 p q;obtain⟨rfl,rfl,rfl⟩:=hc;have ihx:=iw hC hCL hm n x p hx;have ihy:=iw hC hCL hm n y q hy;intro φ h h' w fr fr' a ex he hf hr hG Q hQ;simp only[aT] at he;split at he
    ·rename_i t ht;have g:=bO h1 hf;rw[ht] at g;refine wpIn_cond g.eX ?_
     cases t with
     | true=>
       simp only[if_true] at he ⊢;exact ihx he hf hr hG hQ
     | false=>
       simp only[Bool.false_eq_true,if_false] at he ⊢;exact ihy he hf hr hG hQ
    ·cases he
   ·cases hc
 | .block id x,ac,hc=>by
   simp only[bV,Option.map_eq_some_iff] at hc;obtain⟨x',hx,hc⟩:=hc;cases ac<;>simp[bF.strip] at hc;rename_i id' p;obtain⟨rfl,rfl⟩:=hc;have ihx:=iw hC hCL hm n x p hx;intro φ h h' w fr fr' a ex he hf hr hG Q hQ;refine wpIn_block ?_;simp only[aT] at he;split at he
   ·rename_i i fr1 h1 h2;cases he;refine ihx h2 hf hr hG fun φ1 a1 w1 f1 r1 e1 d1=>?_
    have:=hQ φ1 a1 w1 f1 r1 e1 d1;show Exit.inBlock id Q (.exit i) a1 w1;unfold Exit.inBlock;dsimp only;by_cases hi:i=id
    ·rw[if_pos hi] at this ⊢;exact this
    ·rw[if_neg hi] at this ⊢;exact this
   ·rename_i hne;refine ihx he hf hr hG fun φ1 a1 w1 f1 r1 e1 d1=>?_
    have:=hQ φ1 a1 w1 f1 r1 e1 d1
    cases ex with
    | normal=>exact this
    | exit i=>exact (hne _ _ _ he).elim
    | ret=>exact this
 | .loop x,ac,hc=>by
   simp only[bV,Option.map_eq_some_iff] at hc;obtain⟨x',hx,hc⟩:=hc;cases ac<;>simp[bF.strip] at hc;rename_i live p;subst hc;have ihx:=iw hC hCL hm n x p hx;intro φ h h' w fr fr' a ex he hf hr hG Q hQ;simp only[aT] at he;obtain⟨⟨ex1,fr1,h1⟩,h2,e⟩:=Option.map_eq_some_iff.1 he;cases e;obtain⟨s1,s2⟩:=hr.nD h.next h.md
   have hcw:=uY (he:={h with wl:=h.next}) (fun fr h ex fr' h' he=>mV hCL he) h2 (.refl _);refine wpIn_loop_rounds n (A9 hCL ihx (he:={h with wl:=h.next}) s1 (hG.ext s2) n h2 (hf.ext s2) s1 (.refl _ _ _) (.refl _) fun φ1 a1 w1 f1 r1 e1 d1=>?_);obtain⟨φ2,r2,f2,e2⟩:=EO r1 f1 e1 s1 (hcw s1.wf).1;obtain⟨t1,t2⟩:=r2.nD (min h.wl (gc h.next fr1 h1).2.wl) (gc h.next fr1 h1).2.md;exact hQ φ2 a1 w1 (f2.ext t2) t1 ((s2.trans e2).trans t2) d1
 | .rangeFunc ..,ac,hc=>by
   simp only[bV,Option.some.injEq] at hc;intro φ h h' w fr fr' a ex he;exact (fq hc he).elim
 | .scope ..,ac,hc=>by
   simp only[bV,Option.some.injEq] at hc;intro φ h h' w fr fr' a ex he;exact (fq hc he).elim
 | .label ..,ac,hc=>by
   simp only[bV,Option.some.injEq] at hc;intro φ h h' w fr fr' a ex he;exact (fq hc he).elim
 | .goto ..,ac,hc=>by
   simp only[bV,Option.some.injEq] at hc;intro φ h h' w fr fr' a ex he;exact (fq hc he).elim
 | .refuse ..,ac,hc=>by
   simp only[bV,Option.some.injEq] at hc;intro φ h h' w fr fr' a ex he;exact (fq hc he).elim
end
end Sz

/- Walks by hand beside known calls: what is held while a loop over an iterator runs. No program is named here. -/
namespace Sz
open Go Go.RowKit
mutual
def AV.dY:AV→Bool
 | .sl xs=>AV.oG xs
 | .ip cs=>!cs.isEmpty&&AV.kh cs
 | .agg cs=>AV.kh cs
 | .fn _ caps=>AV.kh caps
 | .iface _ v=>v.dY
 | .tuple vs=>AV.kh vs
 | _=>true
def AV.kh:List AV→Bool
 | []=>true
 | v::r=>v.dY&&AV.kh r
def AV.oG:List AV→Bool
 | []=>true
 | v::r=>!v.cells.isEmpty&&v.dY&&AV.oG r
end
theorem iI:∀{l:List AV},AV.kh l=true→∀j (h:j < l.length),(l[j]).dY=true
 | v::r,hs,0,_=>by simp only[AV.kh,Bool.and_eq_true] at hs;exact hs.1
 | v::r,hs,j+1,h=>by
   simp only[AV.kh,Bool.and_eq_true] at hs;exact iI hs.2 j (by simpa using h)
theorem qw:∀{l:List AV},AV.oG l=true→∀j (h:j < l.length),(l[j]).cells≠[]∧(l[j]).dY=true
 | v::r,hs,0,_=>by
   simp only[AV.oG,Bool.and_eq_true] at hs;exact⟨by simpa using hs.1.1,hs.1.2⟩
 | v::r,hs,j+1,h=>by
   simp only[AV.oG,Bool.and_eq_true] at hs;exact qw hs.2 j (by simpa using h)
theorem BJ {v:AV} (hs:v.dY=true):∀j (h:j < v.cells.length),(v.cells[j]).dY=true:=by
 intro j h
 cases v with
 | agg cs=>
   simp only[AV.dY] at hs;exact iI (l:=cs) hs j h
 | _=>
   simp only[AV.cells,List.length_singleton] at h;have:j=0:=by omega
   subst this;simpa[AV.cells] using hs
def je (w:World) (b:Nat):Prop:=∃o:Obj,w.heap[b]? =some o∧o.isCells=true
theorem je.ES {w:World} {b o:Nat} {v:Value} (h:w.cell? ⟨b,o,none⟩=some v):je w b:=cells_of_cell h
theorem RV.dY {φ:dp} {nx:Nat} {pr:Nat→Prop} {w:World} {v:AV} {cv:Value} (h:RV φ nx pr w v cv):v.dY=true→RV φ nx (fun b=>pr b∧je w b) w v cv:=by
 induction h with
 | undef v=>exact fun _=>.undef v
 | bool b=>exact fun _=>.bool b
 | int k n=>exact fun _=>.int k n
 | str s=>exact fun _=>.str s
 | jr=>exact fun _=>.jr
 | ptr id off h=>exact fun _=>.ptr id off h
 | ip cs b o vs hp hrf h1 hc hv ih=>
   intro hs;simp only[AV.dY,Bool.and_eq_true] at hs
   have hn:0 < cs.length:=by
    cases cs with
    | nil=>simp at hs
    | cons _ _=>simp
   exact .ip cs b o vs ⟨hp,je.ES (hc 0 hn)⟩ hrf h1 hc fun j hj=>ih j hj (iI hs.2 j hj)
 | aw a=>exact fun _=>.aw a
 | slnil a cap=>exact fun _=>.slnil a cap
 | sl xs b o cap sz vs hp hcap hrf h1 hsz hc hv ih=>
   intro hs;have hs':AV.oG xs=true:=hs;by_cases hn:xs.length=0
   ·have:xs=[]:=List.eq_nil_of_length_eq_zero hn;subst this;exact .slnil _ _
   ·have h0:0 < xs.length:=by omega
    obtain⟨c1,c2⟩:=qw hs' 0 h0
    have hpos:0 < sz:=by
     have:=hsz 0 h0
     cases hc2:(xs[0]).cells? with
     | none=>rw[hc2] at this;cases this
     | some l=>
       rw[hc2] at this;simp only[Option.map_some,Option.some.injEq] at this;have e:=np hc2;rw[←e] at this;rw[←this];exact List.length_pos_iff.2 c1
    refine .sl xs b o cap sz vs ⟨hp,je.ES (hc 0 0 h0 hpos)⟩ hcap hrf h1 hsz hc fun i hi j hj=>ih i hi j hj ?_
    exact BJ (qw hs' i hi).2 j hj
 | vec id off len sz lb cap a h hl hb hr ha=>exact fun _=>.vec id off len sz lb cap a h hl hb hr ha
 | iC=>exact fun _=>.iC
 | map id h=>exact fun _=>.map id h
 | fQ=>exact fun _=>.fQ
 | fn f caps cvs hl hv ih=>exact fun hs=>.fn f caps cvs hl fun j hj=>ih j hj (iI (by simpa[AV.dY] using hs) j hj)
 | jt=>exact fun _=>.jt
 | iface t v cv hv ih=>exact fun hs=>.iface t v cv (ih (by simpa[AV.dY] using hs))
 | agg cs cvs hl h1 hv ih=>exact fun hs=>.agg cs cvs hl h1 fun j hj=>ih j hj (iI (by simpa[AV.dY] using hs) j hj)
 | tuple cs cvs hl hv ih=>exact fun hs=>.tuple cs cvs hl fun j hj=>ih j hj (iI (by simpa[AV.dY] using hs) j hj)
def Sk (φ:dp) (h:aa) (w:World) (k:Nat) (W:World) (b:Nat):Prop:=Pr φ h w b∨(w.heap.size+k≤b∧je W b)
abbrev nM (φ:dp) (h:aa) (w:World) (k:Nat) (W:World):AV→Value→Prop:=RV φ h.next (Sk φ h w k W) W
section
variable {φ:dp} {h:aa} {w W W':World} {k:Nat} {v:AV} {cv:Value}
theorem nM.start (hv:dK φ h w v cv) (hB:Below w.heap.size w W):nM φ h w k W v cv:=
 hv.mono (fun _ _ hid=>⟨rfl,hid⟩) fun b hb=>⟨.inl hb,hB.block b hb.1⟩
theorem je.grown {row:Option Nat} {b:Nat} (hc:je W b) (hg:W.grownBy W' row) (hr:∀r,row=some r→∃o:Obj,W.heap[r]? =some o∧o.isCells=false):je W' b∧W'.heap[b]? =W.heap[b]?:=by
 obtain⟨o,h1,h2⟩:=hc;have e:=grownBy_keeps_cells hg hr h1 h2;exact⟨⟨o,e.trans h1,h2⟩,e⟩
theorem nM.own {row:Option Nat} (hv:nM φ h w k W v cv) (hg:W.grownBy W' row) (hr:∀r,row=some r→w.heap.size≤r∧∃o:Obj,W.heap[r]? =some o∧o.isCells=false) (hsz:w.heap.size≤W.heap.size):nM φ h w k W' v cv:=
 hv.mono (fun _ _ hid=>⟨rfl,hid⟩) fun b hb=>by
  rcases hb with hb | ⟨h1,h2⟩
  ·refine⟨.inl hb,hg.block b (Nat.lt_of_lt_of_le hb.1 hsz) fun e=>?_⟩;have:=(hr b e.symm).1;have:=hb.1;omega
  ·obtain⟨g1,g2⟩:=h2.grown hg fun r e=>(hr r e).2
   exact⟨.inr ⟨h1,g1⟩,g2⟩
theorem nM.same (hv:nM φ h w k W v cv) (hs:∀b,b < w.heap.size∨w.heap.size+k≤b→b < W.heap.size→W'.heap[b]? =W.heap[b]?) (hsz:w.heap.size≤W.heap.size):nM φ h w k W' v cv:=
 hv.mono (fun _ _ hid=>⟨rfl,hid⟩) fun b hb=>by
  rcases hb with hb | ⟨h1,o,h2,h3⟩
  ·exact⟨.inl hb,hs b (.inl hb.1) (Nat.lt_of_lt_of_le hb.1 hsz)⟩
  ·have e:=hs b (.inr h1) (Array.getElem?_eq_some_iff.1 h2).1;exact⟨.inr ⟨h1,o,e.trans h2,h3⟩,e⟩
theorem nM.below (hv:nM φ h w k W v cv) (hB:Below W.heap.size W W') (hsz:w.heap.size≤W.heap.size):nM φ h w k W' v cv:=hv.same (fun b _ hb=>hB.block b hb) hsz
theorem nM.done (hr:HR φ h w) (hsz:w.heap.size≤W.heap.size) (hv:nM φ h w k W v cv):dK φ h W v cv:=
 hv.mono (fun _ _ hid=>⟨rfl,hid⟩) fun b hb=>by
  refine⟨?_,rfl⟩;rcases hb with hb | ⟨h1,o,h2,h3⟩
  ·exact⟨Nat.lt_of_lt_of_le hb.1 hsz,hb.2⟩
  ·refine⟨(Array.getElem?_eq_some_iff.1 h2).1,fun id hl e=>?_,fun hg=>?_⟩
   ·have:=hr.dW hl;omega
   ·have:=(hr.gh b hg).1;omega
theorem nM.call {P:Program} {X:World→Prop} {f:Nat} {args:List AV} {cargs:Array Value} (hp:fX P X f args v) (hv:v.dY=true) (hr:HR φ h w) (hG:fv P X φ h w) (hB:Below w.heap.size w W) (hk:w.heap.size+k≤W.heap.size)
 (ha:cargs.size=args.length∧∀j (hj:j < args.length),nM φ h w k W args[j] (cargs.getD j default)):
 ((callFunc f cargs).run P W=.ok (.enter f cargs) W∧Calls P f cargs W fun e W'=>∃cv,e=.returned cv∧nM φ h w k W' v cv∧Below W.heap.size W W')∨
 ∃cv W',(callFunc f cargs).run P W=.ok (.value cv) W'∧nM φ h w k W' v cv∧Below W.heap.size W W':=by
 let φ':dp:=⟨φ.at_,fun b=>φ.gh b∨(w.heap.size≤b∧b < W.heap.size∧(b < w.heap.size+k∨¬ je W b))⟩
 have hsz:w.heap.size≤W.heap.size:=by omega
 have K4:∀b,Pr φ h w b→Pr φ' h W b∧W.heap[b]? =w.heap[b]?:=fun b hb=>by
  refine⟨⟨Nat.lt_of_lt_of_le hb.1 hsz,hb.2.1,fun hg=>?_⟩,hB.block b hb.1⟩;rcases hg with hg | ⟨hg,_⟩
  ·exact hb.2.2 hg
  ·have:=hb.1;omega
 have ex:∀b,φ.gh b→W.heap[b]? =w.heap[b]?:=fun b hb=>hB.block b (hr.gh b hb).1
 have up:∀{u:AV} {cu:Value},dK φ h w u cu→dK φ' h W u cu:=fun hu=>hu.mono (fun _ _ hid=>⟨rfl,hid⟩) K4
 have hr':HR φ' h W:=by
  refine⟨hr.wf,fun id cs hg=>?_,fun id es hg=>?_,hr.inj,fun b hb=>?_⟩
  ·obtain⟨c,el,fr,g1,g2,g3,g4,g5,g6⟩:=hr.rows id cs hg;exact⟨c,el,fr,(hB.block _ (hr.dW ⟨_,hg,fun e=>by cases e⟩)).trans g1,g2,g3,g4,g5,fun j hj=>up (g6 j hj)⟩
  ·obtain⟨ents,clk,g1,g2,g3⟩:=hr.maps id es hg;exact⟨ents,clk,(hB.block _ (hr.dW ⟨_,hg,fun e=>by cases e⟩)).trans g1,g2,fun j hj=>⟨up (g3 j hj).1,up (g3 j hj).2⟩⟩
  ·rcases hb with hb | ⟨h1,h2,_⟩
   ·exact⟨Nat.lt_of_lt_of_le (hr.gh b hb).1 hsz,(hr.gh b hb).2⟩
   ·refine⟨h2,fun id hl e=>?_⟩;have:=hr.dW hl;have e':(φ id).eM=b:=e;omega
 have hG':fv P X φ' h W:=by
  obtain⟨w1,g1,g2⟩:=hG;refine⟨w1,g1,fun b hb=>?_⟩;obtain⟨a1,a2,a3⟩:=g2 b hb;refine⟨by omega,?_,(hB.block b a1).trans a3⟩;rcases a2 with a2 | a2
  ·exact .inl (.inl a2)
  ·exact .inr (K4 b a2).1
 have ha':iv φ' h W args cargs:=⟨ha.1,fun j hj=>(ha.2 j hj).mono (fun _ _ hid=>⟨rfl,hid⟩) fun b hb=>by
  refine⟨?_,rfl⟩;rcases hb with hb | ⟨h1,h2⟩
  ·exact (K4 b hb).1
  ·obtain⟨o,h3,h4⟩:=h2;refine⟨(Array.getElem?_eq_some_iff.1 h3).1,fun id hl e=>?_,fun hg=>?_⟩
   ·have:=hr.dW hl;have e':(φ id).eM=b:=e;omega
   ·rcases hg with hg | ⟨_,_,hg⟩
    ·have:=(hr.gh b hg).1;omega
    ·rcases hg with hg | hg
     ·omega
     ·exact hg ⟨o,h3,h4⟩⟩
 have back:∀{cv:Value} {W':World},oK φ' h W v cv W'→nM φ h w k W' v cv∧Below W.heap.size W W':=fun {cv W'} hp=>by
  obtain⟨g1,_,g3,g4⟩:=hp;refine⟨(RV.dY g1 hv).mono (fun _ _ hid=>⟨rfl,hid⟩) fun b hb=>⟨?_,rfl⟩,⟨g3.os,g3.tape,g3.output,g3.size,g4⟩⟩;obtain⟨⟨b1,b2,b3⟩,b4⟩:=hb;by_cases hl:b < w.heap.size
  ·exact .inl ⟨hl,b2,fun hg=>b3 (.inl hg)⟩
  ·refine .inr ⟨?_,b4⟩;by_cases hl2:b < w.heap.size+k
   ·exact absurd (.inr ⟨by omega,by omega,.inl hl2⟩) b3
   ·omega
 rcases hp φ' h W cargs hr' hG' ha' with⟨e1,e2⟩ | ⟨cv,W',e1,e2⟩
 ·refine .inl ⟨e1,e2.mono fun e W' he=>?_⟩;obtain⟨cv,rfl,hpost⟩:=he;exact⟨cv,rfl,back hpost⟩
 ·exact .inr ⟨cv,W',e1,back e2⟩
end
end Sz

/- A range over a function whose rounds are runs of the evaluator. No program is named here. -/
namespace Sz
open Go Go.RowKit
variable {X:World→Prop} {P:Program}
theorem HR.move {φ φ':dp} {h:aa} {w w':World} (hr:HR φ h w) (hat:∀id,id < h.next→φ' id=φ id)
 (pr:∀b,Pr φ h w b→Pr φ' h w' b∧w'.heap[b]? =w.heap[b]?) (lv:∀id,live h id→w'.heap[(φ id).eM]? =w.heap[(φ id).eM]?)
 (gh:∀b,φ'.gh b→b < w'.heap.size∧∀id,live h id→(φ id).eM≠b):HR φ' h w':=by
 have up:∀{v:AV} {cv:Value},dK φ h w v cv→dK φ' h w' v cv:=fun hv=>hv.mono (fun id _ hid=>⟨hat id hid,hid⟩) pr
 have lt:∀id,live h id→id < h.next:=fun id ⟨o,hg,_⟩=>aa.di hg
 refine⟨hr.wf,fun id cs hg=>?_,fun id es hg=>?_,fun i j hi hj e=>?_,fun b hb=>?_⟩
 ·obtain⟨c,el,fr,g1,g2,g3,g4,g5,g6⟩:=hr.rows id cs hg;have e:=hat id (aa.di hg);unfold ov;rw[e];exact⟨c,el,fr,(lv id ⟨_,hg,fun e=>by cases e⟩).trans g1,g2,g3,g4,g5,fun j hj=>up (g6 j hj)⟩
 ·obtain⟨ents,clk,g1,g2,g3⟩:=hr.maps id es hg;have e:=hat id (aa.di hg);unfold rP;rw[e];exact⟨ents,clk,(lv id ⟨_,hg,fun e=>by cases e⟩).trans g1,g2,fun j hj=>⟨up (g3 j hj).1,up (g3 j hj).2⟩⟩
 ·rw[hat i (lt i hi),hat j (lt j hj)] at e;exact hr.inj i j hi hj e
 ·obtain⟨g1,g2⟩:=gh b hb;exact⟨g1,fun id hl=>by rw[hat id (lt id hl)];exact g2 id hl⟩
structure RI (φ1:dp) (h1:aa) (W0:World) (fr:List AV) (tm:Array Value) (Es:List AV) (ce:Nat→Value) (hk:aa) (φ':dp) (W:World):Prop where
 hr:HR φ' hk W
 fr:FR φ' hk W fr tm
 es:∀j (hj:j < Es.length),dK φ' hk W Es[j] (ce j)
 CC:∀b,b < W0.heap.size→(φ'.gh b↔φ1.gh b)
 HO:∀b,W0.heap.size≤b→(φ'.gh b↔∃o:Obj,W.heap[b]? =some o∧o.isCells=false)
 nx:hk.next=h1.next
 at_:∀id,id < h1.next→φ' id=φ1 id
 lv:∀id,live hk id→live h1 id
 os:W.os=W0.os
 tape:W.tape=W0.tape
 output:W.output=W0.output
 size:W0.heap.size≤W.heap.size
 eI:∀b,b < W0.heap.size→(∀id,live h1 id→(φ1 id).eM≠b)→W.heap[b]? =W0.heap[b]?
section
variable {φ1:dp} {h1 hk:aa} {W0 W W':World} {fr:List AV} {tm:Array Value} {Es:List AV} {ce:Nat→Value} {φ':dp}
theorem RI.Dk (hr1:HR φ1 h1 W0) (r:RI φ1 h1 W0 fr tm Es ce hk φ' W) {id:Nat} (hl:live hk id):φ' id=φ1 id∧(φ1 id).eM < W0.heap.size:=by
 have hl1:=r.lv id hl;obtain⟨o,hg,_⟩:=hl1;exact⟨r.at_ id (aa.di hg),hr1.dW (r.lv id hl)⟩
theorem RI.start (hr1:HR φ1 h1 W0) (hf:FR φ1 h1 W0 fr tm) (he:∀j (hj:j < Es.length),dK φ1 h1 W0 Es[j] (ce j)):RI φ1 h1 W0 fr tm Es ce h1 φ1 W0:=
 ⟨hr1,hf,he,fun _ _=>.rfl,fun b hb=>⟨fun h=>by have:=(hr1.gh b h).1;omega,fun⟨o,ho,_⟩=>by have:=(Array.getElem?_eq_some_iff.1 ho).1;omega⟩,rfl,fun _ _=>rfl,fun _ h=>h,rfl,rfl,rfl,Nat.le_refl _,fun _ _ _=>rfl⟩
theorem RI.own (hr1:HR φ1 h1 W0) (r:RI φ1 h1 W0 fr tm Es ce hk φ' W) {row:Option Nat} (hg:W.grownBy W' row) (hrow:∀b,row=some b→W0.heap.size≤b∧∃o:Obj,W.heap[b]? =some o∧o.isCells=false):
 ∃φ'',RI φ1 h1 W0 fr tm Es ce hk φ'' W':=by
 have hne:∀b,b < W.heap.size→¬ φ'.gh b→W'.heap[b]? =W.heap[b]?:=fun b hb hn=>hg.block b hb fun e=>by
  obtain⟨g1,g2⟩:=hrow b e.symm;exact hn ((r.HO b g1).2 g2)
 have hlo:∀b,b < W0.heap.size→W'.heap[b]? =W.heap[b]?:=fun b hb=>hg.block b (Nat.lt_of_lt_of_le hb r.size) fun e=>by
  have:=(hrow b e.symm).1;omega
 have hsz:=hg.size
 let φ'':dp:=⟨φ'.at_,fun b=>(b < W0.heap.size∧φ'.gh b)∨(W0.heap.size≤b∧∃o:Obj,W'.heap[b]? =some o∧o.isCells=false)⟩
 have pr:∀b,Pr φ' hk W b→Pr φ'' hk W' b∧W'.heap[b]? =W.heap[b]?:=fun b hb=>by
  have e:=hne b hb.1 hb.2.2;refine⟨⟨Nat.lt_of_lt_of_le hb.1 hsz,hb.2.1,fun hgh=>?_⟩,e⟩;rcases hgh with hgh | ⟨hgh,ho⟩
  ·exact hb.2.2 hgh.2
  ·rw[e] at ho;exact hb.2.2 ((r.HO b hgh).2 ho)
 have up:∀{v:AV} {cv:Value},dK φ' hk W v cv→dK φ'' hk W' v cv:=fun hv=>hv.mono (fun id _ hid=>⟨rfl,hid⟩) pr
 refine⟨φ'',r.hr.move (fun _ _=>rfl) pr (fun id hl=>?_) (fun b hb=>?_),⟨r.fr.1,fun t=>up (r.fr.2 t)⟩,fun j hj=>up (r.es j hj),fun b hb=>?_,fun b hb=>?_,r.nx,r.at_,r.lv,hg.os.trans r.os,hg.tape.trans r.tape,hg.output.trans r.output,Nat.le_trans r.size hsz,
  fun b hb hn=>(hlo b hb).trans (r.eI b hb hn)⟩
 ·obtain⟨e1,e2⟩:=r.Dk hr1 hl;rw[e1];exact hlo _ e2
 ·rcases hb with hb | ⟨hb,o,ho,_⟩
  ·exact⟨Nat.lt_of_lt_of_le (r.hr.gh b hb.2).1 hsz,(r.hr.gh b hb.2).2⟩
  ·refine⟨(Array.getElem?_eq_some_iff.1 ho).1,fun id hl e=>?_⟩;obtain⟨e1,e2⟩:=r.Dk hr1 hl;rw[e1] at e;omega
 ·refine⟨fun h=>?_,fun h=>.inl ⟨hb,(r.CC b hb).2 h⟩⟩;rcases h with h | h
  ·exact (r.CC b hb).1 h.2
  ·omega
 ·refine⟨fun h=>?_,fun h=>.inr ⟨hb,h⟩⟩;rcases h with h | h
  ·omega
  ·exact h.2
theorem RI.done (hr1:HR φ1 h1 W0) (r:RI φ1 h1 W0 fr tm Es ce hk φ' W):HR ⟨φ'.at_,φ1.gh⟩ hk W∧FR ⟨φ'.at_,φ1.gh⟩ hk W fr tm∧Ext φ1 h1 W0 ⟨φ'.at_,φ1.gh⟩ hk W:=by
 have pr:∀b,Pr φ' hk W b→Pr ⟨φ'.at_,φ1.gh⟩ hk W b∧W.heap[b]? =W.heap[b]?:=fun b hb=>
  ⟨⟨hb.1,hb.2.1,fun h=>hb.2.2 ((r.CC b (hr1.gh b h).1).2 h)⟩,rfl⟩
 have up:∀{v:AV} {cv:Value},dK φ' hk W v cv→dK ⟨φ'.at_,φ1.gh⟩ hk W v cv:=fun hv=>hv.mono (fun id _ hid=>⟨rfl,hid⟩) pr
 have hno:∀b,(∀id,live h1 id→(φ1 id).eM≠b)→∀id,live hk id→(φ' id).eM≠b:=fun b hb id hl=>by
  rw[(r.Dk hr1 hl).1];exact hb id (r.lv id hl)
 refine⟨r.hr.move (fun _ _=>rfl) pr (fun _ _=>rfl) fun b hb=>?_,⟨r.fr.1,fun t=>up (r.fr.2 t)⟩,r.os,r.tape,r.output,r.size,by rw[r.nx];exact Nat.le_refl _,fun id hid=>r.at_ id hid,fun b hb=>?_,rfl,fun b hb=>?_⟩
 ·obtain⟨g1,g2⟩:=hr1.gh b hb;exact⟨Nat.lt_of_lt_of_le g1 r.size,hno b g2⟩
 ·exact⟨⟨Nat.lt_of_lt_of_le hb.1 r.size,hno b hb.2.1,hb.2.2⟩,r.eI b hb.1 hb.2.1⟩
 ·obtain⟨g1,g2⟩:=hr1.gh b hb;exact r.eI b g1 g2
theorem RI.TV (hr1:HR φ1 h1 W0) (hG:fv P X φ1 h1 W0) (r:RI φ1 h1 W0 fr tm Es ce hk φ' W):fv P X φ' hk W:=by
 obtain⟨w1,g1,g2⟩:=hG;refine⟨w1,g1,fun b hb=>?_⟩;obtain⟨a1,a2,a3⟩:=g2 b hb
 have a4:∀id,live h1 id→(φ1 id).eM≠b:=by
  rcases a2 with a2 | a2
  ·exact (hr1.gh b a2).2
  ·exact a2.2.1
 refine⟨Nat.lt_of_lt_of_le a1 r.size,?_,(r.eI b a1 a4).trans a3⟩;rcases a2 with a2 | a2
 ·exact .inl ((r.CC b a1).2 a2)
 ·refine .inr ⟨Nat.lt_of_lt_of_le a1 r.size,fun id hl=>?_,fun h=>a2.2.2 ((r.CC b a1).1 h)⟩;rw[(r.Dk hr1 hl).1];exact a4 id (r.lv id hl)
theorem RI.next (hr1:HR φ1 h1 W0) (r:RI φ1 h1 W0 fr tm Es ce hk φ' W) {φ2:dp} {h2 hk':aa} (hr2:HR φ2 h2 W') (x:Ext φ' hk W φ2 h2 W') (hcl:CL hk h2) (hnl:h1.next≤h2.wl)
 (htr:(h2.gM h1.next).fi=hk'.fi) (hnx:hk'.next=h1.next) (hlv:∀id,live hk' id→live hk id)
 (hsr:∀id cs,hk'.get id=some (.row cs)→∀v ∈ cs,v.dY=true) (hsm:∀id es,hk'.get id=some (.map es)→∀e ∈ es,e.1.dY=true∧e.2.dY=true):
 (∃φ3,RI φ1 h1 W0 fr tm Es ce hk' φ3 W')∧KeepsFrom W0.heap.size W W'∧∀b,b < W0.heap.size→(∀id,live h1 id→(φ1 id).eM≠b)→W'.heap[b]? =W.heap[b]?:=by
 have hn2:h1.next≤h2.next:=by have:=x.next;rw[r.nx] at this;exact this
 obtain⟨t1,t2,t3⟩:=Bv hr2 hn2 (hcl.le h1.next (by rw[r.nx];exact Nat.le_refl _) hnl (by rw[←r.nx];exact fun id hid=>r.hr.EG id hid))
 -- the same heap
 obtain⟨t4,_⟩:=t1.nD hk'.wl hk'.md;have hmin:min h2.next h1.next=h1.next:=Nat.min_eq_right hn2
 have heq:({h2.gM h1.next with wl:=hk'.wl,md:=hk'.md}:aa)=hk':=by
  cases hk';simp only[aa.gM] at htr hnx ⊢;simp only[aa.mk.injEq,and_true];exact⟨by omega,htr⟩
 rw[heq] at t4;have hlv2:∀id,live hk' id↔live (h2.gM h1.next) id:=fun id=>by rw[←heq];exact .rfl
 have pr2:∀b,Pr φ2 h2 W' b→Pr φ2 hk' W' b:=fun b hb=>by
  obtain⟨p1,p2,p3⟩:=t2 b hb;exact⟨p1,fun id hl=>p2 id ((hlv2 id).1 hl),p3⟩
 have hgh:φ2.gh=φ'.gh:=x.gh.1
 have hcells:∀b,W0.heap.size≤b→b < W.heap.size→¬ φ'.gh b→∃o:Obj,W.heap[b]? =some o∧o.isCells=true:=fun b h1' h2' hn=>by
  refine⟨W.heap[b],Array.getElem?_eq_getElem h2',?_⟩
  cases hc:(W.heap[b]).isCells with
  | true=>rfl
  | false=>exact absurd ((r.HO b h1').2 ⟨_,Array.getElem?_eq_getElem h2',hc⟩) hn
 let φ3:dp:=⟨φ2.at_,fun b=>(b < W0.heap.size∧φ2.gh b)∨(W0.heap.size≤b∧∃o:Obj,W'.heap[b]? =some o∧o.isCells=false)⟩
 have lvt:∀id,live hk' id→φ2 id=φ1 id∧(φ1 id).eM < W0.heap.size:=fun id hl=>by
  have hl':=hlv id hl;obtain⟨e1,e2⟩:=r.Dk hr1 hl';obtain⟨o,hg,_⟩:=hl';exact⟨(x.uJ id (aa.di hg)).trans e1,e2⟩
 -- what was held
 have old:∀{v:AV} {cv:Value},dK φ' hk W v cv→dK φ3 hk' W' v cv:=fun hv=>hv.mono (fun id _ hid=>⟨x.uJ id hid,by rw[hnx,←r.nx];exact hid⟩) fun b hb=>by
  obtain⟨q1,q2⟩:=x.pr b hb;obtain⟨p1,p2,p3⟩:=pr2 b q1;refine⟨⟨p1,p2,fun h=>?_⟩,q2⟩;rcases h with h | ⟨h,o,ho,hc⟩
  ·exact p3 h.2
  ·rw[q2] at ho;exact hb.2.2 ((r.HO b h).2 ⟨o,ho,hc⟩)
 -- what lies in the objects
 have new:∀{v:AV} {cv:Value},v.dY=true→dK φ2 hk' W' v cv→dK φ3 hk' W' v cv:=fun hs hv=>(RV.dY hv hs).mono (fun id _ hid=>⟨rfl,hid⟩) fun b hb=>by
  obtain⟨⟨p1,p2,p3⟩,o,ho,hc⟩:=hb;refine⟨⟨p1,p2,fun h=>?_⟩,rfl⟩;rcases h with h | ⟨h,o',ho',hc'⟩
  ·exact p3 h.2
  ·rw[ho] at ho';cases ho';rw[hc] at hc';cases hc'
 have hr3:HR φ3 hk' W':=by
  refine⟨t4.wf,fun id cs hg=>?_,fun id es hg=>?_,t4.inj,fun b hb=>?_⟩
  ·obtain⟨c,el,fz,g1,g2,g3,g4,g5,g6⟩:=t4.rows id cs hg;exact⟨c,el,fz,g1,g2,g3,g4,g5,fun j hj=>new (hsr id cs hg _ (List.getElem_mem hj)) (g6 j hj)⟩
  ·obtain⟨ents,clk,g1,g2,g3⟩:=t4.maps id es hg;exact⟨ents,clk,g1,g2,fun j hj=>⟨new (hsm id es hg _ (List.getElem_mem hj)).1 (g3 j hj).1,new (hsm id es hg _ (List.getElem_mem hj)).2 (g3 j hj).2⟩⟩
  ·rcases hb with hb | ⟨hb,o,ho,_⟩
   ·exact t4.gh b hb.2
   ·refine⟨(Array.getElem?_eq_some_iff.1 ho).1,fun id hl e=>?_⟩;obtain⟨e1,e2⟩:=lvt id hl;have e':(φ2 id).eM=b:=e;rw[e1] at e';omega
 have keepb:∀b,b < W0.heap.size→(∀id,live h1 id→(φ1 id).eM≠b)→W'.heap[b]? =W.heap[b]?:=fun b hb hn=>by
  by_cases hg:φ'.gh b
  ·exact x.gh.2 b hg
  ·refine (x.pr b ⟨Nat.lt_of_lt_of_le hb r.size,fun id hl=>?_,hg⟩).2;rw[(r.Dk hr1 hl).1];exact hn id (r.lv id hl)
 refine⟨⟨φ3,hr3,⟨r.fr.1,fun t=>old (r.fr.2 t)⟩,fun j hj=>old (r.es j hj),fun b hb=>?_,fun b hb=>?_,hnx,fun id hid=>?_,fun id hl=>r.lv id (hlv id hl),x.os.trans r.os,x.tape.trans r.tape,x.output.trans r.output,Nat.le_trans r.size x.size,
  fun b hb hn=>(keepb b hb hn).trans (r.eI b hb hn)⟩,⟨x.size,fun k o hB hk' hc=>?_⟩,keepb⟩
 ·refine⟨fun h=>?_,fun h=>.inl ⟨hb,by rw[hgh];exact (r.CC b hb).2 h⟩⟩;rcases h with h | h
  ·rw[hgh] at h;exact (r.CC b hb).1 h.2
  ·omega
 ·refine⟨fun h=>?_,fun h=>.inr ⟨hb,h⟩⟩;rcases h with h | h
  ·omega
  ·exact h.2
 ·exact (x.uJ id (by rw[r.nx];exact hid)).trans (r.at_ id hid)
 ·exact (x.gh.2 k ((r.HO k hB).2 ⟨o,hk',hc⟩)).trans hk'
end
end Sz

/- A range over a function of two loop variables, the second boxed: the rule. No program is named here. -/
namespace Sz
open Go Go.RowKit
variable {X:World→Prop} {P:Program} {C:Nat→List AV→aa→Option (AV×aa)}
def Ut (φ1:dp) (h1:aa) (W0 A B:World):Prop:=∀b,b < W0.heap.size→(∀id,live h1 id→(φ1 id).eM≠b)→B.heap[b]? =A.heap[b]?
theorem Rr (p0 p1:Nat) (u v:Value) (tm:Array Value):(#[p0,p1].zip #[u,v]).foldl (fun t (p,v)=>t.setIfInBounds p v) tm=(tm.setIfInBounds p0 u).setIfInBounds p1 v:=by
 simp
theorem NH {F:Fence} {n:Nat} {ops:Array Oper} {Q:Exit→Act→World→Prop} {a:Act} {w w':World} {rest:List Oper} {o:Oper} {v:Value} {l:Nat} (hF:∀f,F.fn f) (hro:F.round=some l) (hg:o.guard=none) (hnd:∀c,o.op≠.defer c)
 (hr:(execOp a.eval o).run P w=.ok (.value v) w'∨((execOp a.eval o).run P w=.ok .skip w'∧v=undef)) (h:wpListIn F n P ops Q rest (a.put o.dst v) w'):wpListIn F n P ops Q (o::rest) a w:=by
 refine wpListIn_plain hg fun K hK=>⟨fun f _=>hF f,?_⟩
 rw[hro,Oper.semAt_some l a.eval o hnd];rcases hr with hr | ⟨hr,rfl⟩
 ·rw[hr,Oper.uponIn_value];exact hK _ _ h
 ·rw[hr,Oper.uponIn_skip];exact hK _ _ h
theorem Eg {n l:Nat} {ia T d p1:Nat} {o1 o2:Oper} (h1:o1.op=.alloc T∧o1.dst=some d∧o1.guard=none) (h2:o2.op=.store T (.tmp d) (.tmp p1)∧o2.dst=none∧o2.guard=none)
 {i:TypeInfo} {z:Value} (hi:P.info? T=some i) (hz:i.zero=some z) (hzs:z.cells.size=i.size) {tm:Array Value} (hd:d < tm.size) (hp1:p1 < tm.size) (hne:d≠p1) {cs:Array Value} (hv:tm.getD p1 undef=.agg cs) (hcs:cs.size=i.size) (h1c:∀j,(cs.getD j default).oneCell'=true)
 (W:World) {K:Act→World→Prop} (hK:∀W',W.grownBy W' none→(∃c,W'.heap[W.heap.size]? =some (.cells c T)∧c.size=i.size∧∀j,j < i.size→c.getD j default=cs.getD j default)→
  K {tmps:=tm.setIfInBounds d (.pointer (some ⟨W.heap.size,0,none⟩)),defers:=[]} W'):
 (Code.region ia #[o1,o2] false).wpIn (Fence.wide.inRound l) n P (Exit.then K (fun _ _ _=>False)) {tmps:=tm,defers:=[]} W:=by
 obtain⟨h11,h12,h13⟩:=h1;obtain⟨h21,h22,h23⟩:=h2;refine wpIn_region_lit ?_
 have e1:(execOp ({tmps:=tm,defers:=[]}:Act).eval o1).run P W=.ok (.value (.pointer (some ⟨W.heap.size,0,none⟩))) (W.alloc (.cells z.cells T)):=by
  unfold execOp;simp[h11,Instr.alloc,zeroValue,typeInfo,hi,hz,newVar,newRow]
 refine NH (fun _=>trivial) rfl h13 (fun c hc=>by rw[h11] at hc;cases hc) (.inl e1) ?_;rw[h12]
 obtain⟨w',s1,s2,s3,s4,s5,s6,s7⟩:=iU (P:=P) (b:=W.heap.size) cs.toList z.cells 0 0 (W.alloc (.cells z.cells T)) (el:=T) (fz:=(0,0)) (World.alloc_heap_new W _) (by simp[hzs,hcs]) (fun x _ h=>by omega) (fun v hvm=>by
  obtain⟨j,hj,rfl⟩:=List.getElem_of_mem hvm;have:=h1c j;have hj':j < cs.size:=by simpa using hj
  simpa[Array.getD,hj'] using this)
 obtain⟨a1,ha1⟩:∃a1,(({tmps:=tm,defers:=[]}:Act).put (some d) (.pointer (some ⟨W.heap.size,0,none⟩)))=a1:=⟨_,rfl⟩
 have ha1t:a1.tmps=tm.setIfInBounds d (.pointer (some ⟨W.heap.size,0,none⟩)):=by rw[←ha1];rfl
 have ha1d:a1.defers=[]:=by rw[←ha1];rfl
 have ed:a1.eval (.tmp d)=.pointer (some ⟨W.heap.size,0,none⟩):=by
  show a1.tmps.getD d undef=_;rw[ha1t];simp[Array.getD,hd]
 have ep:a1.eval (.tmp p1)=.agg cs:=by
  show a1.tmps.getD p1 undef=_;rw[ha1t,←hv];rw[Array.getD_eq_getD_getElem?,Array.getD_eq_getD_getElem?,Array.getElem?_setIfInBounds_ne hne]
 have e2:(execOp a1.eval o2).run P (W.alloc (.cells z.cells T))=.ok .skip w':=by
  unfold execOp;have hce:(Value.agg cs).cells=cs:=rfl;simp[h21,Instr.storeAt,Instr.sureAddr,ed,ep,storeVar,gr hi,hce,hcs,s1]
 rw[ha1];refine NH (fun _=>trivial) rfl h23 (fun c hc=>by rw[h21] at hc;cases hc) (.inr ⟨e2,rfl⟩) (wpListIn_nil ?_);rw[h22];have hfin:a1.put none undef={tmps:=tm.setIfInBounds d (.pointer (some ⟨W.heap.size,0,none⟩)),defers:=[]}:=by rw[←ha1];rfl
 rw[hfin]
 have hlt:∀k,k < W.heap.size→w'.heap[k]? =W.heap[k]?:=fun k hk=>by
  rw[s4 k (by omega)];exact Below.heap_alloc W _ k hk
 refine hK w' ⟨s5,s6,s7,?_,fun k hk _=>hlt k hk⟩ ⟨_,s2,by rw[iK];exact hzs,fun j hj=>?_⟩
 ·rw[s3];simp
 ·rw[jD _ _ _ _ (by simp[hzs,hcs]),if_pos (by simp[hcs,hj])];have:j < cs.size:=by omega
  simp[List.getD,Array.getD,this]
section
variable {φ1:dp} {h1:aa} {W0:World}
theorem zY (hC:iE P X C) (hCL:ki C) (hm:P.follows .mixedOrders=true) {n m:Nat} (hn:1≤n) {g:Operand} {ia T d p0 p1:Nat} {o1 o2:Oper} {body:Code} {acB:bF} {Q:Exit→Act→World→Prop} {a:Act} {fr:List AV}
 (hr1:HR φ1 h1 W0) (hG:fv P X φ1 h1 W0) (hf:FR φ1 h1 W0 fr a.tmps)
 {gf:Nat} {lb:Array Value} (hg:a.eval g=.func (.func gf) #[] lb) (eg:∀args w,(callFunc gf args).run P w=.ok (.enter gf args) w)
 (a1:o1.op=.alloc T∧o1.dst=some d∧o1.guard=none) (a2:o2.op=.store T (.tmp d) (.tmp p1)∧o2.dst=none∧o2.guard=none)
 {i:TypeInfo} {z:Value} (hi:P.info? T=some i) (hz:i.zero=some z) (hzs:z.cells.size=i.size) (hd:d < fr.length) (hp0:p0 < fr.length) (hp1:p1 < fr.length) (hne:d≠p1)
 {Es:List AV} {vs:Nat→Array Value} (hEs:∀j (hj:j < Es.length),dK φ1 h1 W0 Es[j] (.agg (vs j))) (hEa:∀v ∈ Es,∃cs,v=.agg cs∧cs.length=i.size∧AV.ai cs=0)
 {S:List (Fin Es.length)→Prop} (hseq:SeqStopsK Fence.wide (n - 1) P gf lb (fun x:Fin Es.length=>#[.int .i64 (x.1:Int),.agg (vs x.1)]) (Ut φ1 h1 W0) S (fun _=>True) Es.length W0)
 (hcb:bV P body=some acB.strip) (H:List (Fin Es.length)→aa) (hH0:H []=h1) (hHn:∀pre,(H pre).next=h1.next)
 (hstep:∀pre (x:Fin Es.length),∃fr2 h2,aT C m acB (((fr.set p0 (.int .i64 (x.1:Int))).set p1 Es[x.1]).set d (.ip (Es[x.1]).cells)) (H pre)=some (.normal,fr2,h2)∧h1.next≤h2.wl∧
  (h2.gM h1.next).fi=(H (pre++[x])).fi∧(∀id,live (H (pre++[x])) id→live (H pre) id)∧(∀id cs,(H (pre++[x])).get id=some (.row cs)→∀v ∈ cs,v.dY=true)∧
  ∀id es,(H (pre++[x])).get id=some (.map es)→∀e ∈ es,e.1.dY=true∧e.2.dY=true)
 (hdone:∀(D:Nat) (xs:List (Fin Es.length)) (W:World) (φ':dp),W0.heap.size≤D→S xs→FR φ' (H xs) W fr a.tmps→HR φ' (H xs) W→Ext φ1 h1 W0 φ' (H xs) W→W.heap[D]? =some (.deferred (some []))→
  Q .normal {a with defers:={target:=.collected D,args:=#[]}::a.defers} W):
 (Code.rangeFunc g #[p0,p1] (.region ia #[o1,o2] false) body).wpIn Fence.wide n P Q a W0:=by
 have hts:a.tmps.size=fr.length:=hf.1
 have hone:∀j,j < Es.length→(vs j).size=i.size∧∀k,((vs j).getD k default).oneCell'=true:=fun j hj=>by
  obtain⟨cs,hcs,hcl,_⟩:=hEa _ (List.getElem_mem hj);have:=hEs j hj;rw[hcs] at this;obtain⟨cvs,e,g1,g2,_⟩:=this.lO;cases e;exact⟨by omega,g2⟩
 refine wpIn_rangeFunc_ownH (α:=Fin Es.length) (w0:=W0) rfl hn hg trivial eg hseq (fun {A B C} h k b hb hn=>(k b hb hn).trans (h b hb hn)) (fun W l o o' hl ho hc _ b hb _=>World.putObj_heap_other (by omega)) (Below.refl _ _) (fun _=>rfl)
  (fun pre W=>∃φ',RI φ1 h1 W0 fr a.tmps Es (fun j=>.agg (vs j)) (H pre) φ' W) (fun _ _ _=>False)
  (fun s A B row hs hg' hr=>by obtain⟨φ',r⟩:=hs;exact r.own hr1 hg' hr) (fun _ _ _ _ _ hs _ _=>hs.elim) ⟨φ1,by rw[hH0];exact RI.start hr1 hf hEs⟩
  (fun x a' W=>∃(B:Nat) (c:Array Value),W0.heap.size≤B∧W.heap[B]? =some (.cells c T)∧c.size=i.size∧(∀j,j < i.size→c.getD j default=(vs x.1).getD j default)∧
   a'={tmps:=((a.tmps.setIfInBounds p0 (.int .i64 (x.1:Int))).setIfInBounds p1 (.agg (vs x.1))).setIfInBounds d (.pointer (some ⟨B,0,none⟩)),defers:=[]})
  (fun x a' s A B row hs hg' hr=>by
   obtain⟨Bx,c,b1,b2,b3,b4,b5⟩:=hs;refine⟨Bx,c,b1,?_,b3,b4,b5⟩;rw[hg'.block Bx (Array.getElem?_eq_some_iff.1 b2).1 fun e=>?_]
   ·exact b2
   ·obtain⟨_,o,ho,hc⟩:=hr Bx e.symm;rw[b2] at ho;cases ho;cases hc)
  ?assign ?body ?done ?stop
 case assign=>
  intro l pre x W K ⟨φ',r⟩ hK;have hx:=hone x.1 x.2;refine Eg a1 a2 hi hz hzs (cs:=vs x.1) (by simp;omega) (by simp;omega) hne ?_ hx.1 hx.2 W fun W' hg' ⟨c,c1,c2,c3⟩=>?_
  ·show (((#[p0,p1].zip #[.int .i64 (x.1:Int),.agg (vs x.1)]).foldl (fun t (p,v)=>t.setIfInBounds p v) a.tmps)).getD p1 undef=_;have:p1 < (a.tmps.setIfInBounds p0 (.int .i64 (x.1:Int))).size:=by simp;omega
   have e:=Rr p0 p1 (.int .i64 (x.1:Int)) (.agg (vs x.1)) a.tmps;rw[e,Array.getD_eq_getD_getElem?,Array.getElem?_setIfInBounds_self_of_lt this];rfl
  ·obtain⟨φ'',r'⟩:=r.own hr1 hg' (fun b e=>by cases e);exact hK _ W' ⟨hg'.size,fun k o _ hk _=>(hg'.block k (Array.getElem?_eq_some_iff.1 hk).1 (by simp)).trans hk⟩ (fun b hb _=>hg'.block b (Nat.lt_of_lt_of_le hb r.size) (by simp)) ⟨φ'',r'⟩ ⟨W.heap.size,c,r.size,c1,c2,c3,congrArg (fun t=>({tmps:=t.setIfInBounds d (.pointer (some ⟨W.heap.size,0,none⟩)),defers:=[]}:Act)) (Rr p0 p1 _ _ _)⟩
 case body=>
  rintro l pre x a' W - - ⟨φ',r⟩ ⟨B,c,b1,b2,b3,b4,rfl⟩ -;obtain⟨fr2,h2,s1,s2,s3,s4,s5,s6⟩:=hstep pre x;have hx:=hone x.1 x.2;obtain⟨cs,hcs,hcl,hcr⟩:=hEa _ (List.getElem_mem x.2);have hex:=r.es x.1 x.2
  have hfr3:FR φ' (H pre) W (((fr.set p0 (.int .i64 (x.1:Int))).set p1 Es[x.1]).set d (.ip (Es[x.1]).cells)) (((a.tmps.setIfInBounds p0 (.int .i64 (x.1:Int))).setIfInBounds p1 (.agg (vs x.1))).setIfInBounds d (.pointer (some ⟨B,0,none⟩))):=by
   refine ((r.fr.put (RV.int _ _) p0).put hex p1).put ?_ d;have hce:(Es[x.1]).cells=cs:=by rw[hcs];rfl
   rw[hce];rw[hcs] at hex;obtain⟨cvs,e,g1,g2,g3⟩:=hex.lO;cases e;refine .ip cs B 0 (fun j=>(vs x.1).getD j default) ⟨(Array.getElem?_eq_some_iff.1 b2).1,fun id hl e=>?_,fun hgh=>?_⟩ hcr hx.2 (fun j hj=>?_) fun j hj=>g3 j hj
   ·obtain⟨e1,e2⟩:=r.Dk hr1 hl;rw[e1] at e;omega
   ·obtain⟨o,ho,hc⟩:=(r.HO B b1).1 hgh;rw[b2] at ho;cases ho;cases hc
   ·have hjc:j < c.size:=by omega
    have:=b4 j (by omega);unfold World.cell?;simp only[b2,Nat.zero_add];rw[Array.getElem?_eq_getElem hjc];have e:c.getD j default=c[j]:=by simp[Array.getD,hjc]
    rw[←e,this];rfl
  refine iw (l0:=some l) hC hCL hm m body acB hcb s1 hfr3 r.hr (r.TV hr1 hG) fun φ2 a2' w2 f2 r2 x2 _=>?_
  obtain⟨n1,n2,n3⟩:=r.next hr1 r2 x2 ((mV hCL s1) r.hr.wf).1 s2 s3 (hHn _) s4 s5 s6
  exact⟨n2,n3,n1⟩
 case done=>
  rintro D xs W hD hS ⟨φ',r⟩ hK;obtain⟨d1,d2,d3⟩:=r.done hr1;exact hdone D xs W _ hD hS d2 d1 d3 hK
 case stop=>
  rintro D c pre W _ _ h _;exact h.elim
end
end Sz

/- A closure over a box of its own that it only reads: what it holds, by value. No program is named here. -/
namespace Sz
open Go
variable {X:World→Prop} {P:Program}
theorem N7 {φ:dp} {h:aa} {w:World} (hr:HR φ h w) {id:Nat} {cs:List AV} (hg:h.get id=some (.row cs)) (hrf:AV.ai cs=0) {cv:Value} (hv:dK φ h w (.ptr id 0) cv):
 dK φ (kill h [id]) w (.ip cs) cv:=by
 obtain⟨c,el,fz,g1,g2,g3,g4,g5,g6⟩:=hr.rows id cs hg;have hl:live h id:=⟨_,hg,fun e=>by cases e⟩
 obtain⟨k1,k2⟩:=EE [id] hr
 cases hv with
 | ptr _ _ hid=>
   refine .ip cs (φ id).eM ((φ id).base+0) (fun j=>if j < cs.length then c.getD ((φ id).base+j) default else default) ?_ hrf (fun j=>?_) (fun j hj=>?_) fun j hj=>?_
   ·exact Pr.zn (hr.dW hl) (fun i hi e=>(by rw[hr.inj i id hi hl e];simp)) fun hgh=>(hr.gh _ hgh).2 id hl rfl
   ·split
    ·exact g5 j (by omega)
    ·rfl
   ·have hjc:(φ id).base+0+j < c.size:=by omega
    unfold World.cell?;simp only[g1];rw[Array.getElem?_eq_getElem hjc];simp only[Nat.add_zero] at hjc ⊢;simp[hj,Array.getD,hjc]
   ·rw[if_pos hj];exact (g6 j hj).mono (fun i hi _=>by have:=AV.cA (List.getElem_mem hj);omega) fun b hb=>⟨(k2.pr b hb).1,rfl⟩
theorem Az {E:Env} (hE:bW P X E) {n f g:Nat} {args:List AV} {cs:List AV} {wl md:Nat} (he:au E n f args h0=some (.fn g [.ptr 0 0],⟨1,[.row cs],wl,md⟩)) (hcs:AV.ai cs=0) (ha:AV.ai args=0):
 fX P X f args (.fn g [.ip cs]):=by
 have conv:∀(φ:dp) (w:World) (φ':dp) (cv:Value) (w':World),dK φ' ⟨1,[.row cs],wl,md⟩ w' (.fn g [.ptr 0 0]) cv→HR φ' ⟨1,[.row cs],wl,md⟩ w'→Ext φ h0 w φ' ⟨1,[.row cs],wl,md⟩ w'→
  dK φ' (kill ⟨1,[.row cs],wl,md⟩ [0]) w' (.fn g [.ip cs]) cv∧HR φ' (kill ⟨1,[.row cs],wl,md⟩ [0]) w'∧Ext φ h0 w φ' (kill ⟨1,[.row cs],wl,md⟩ [0]) w':=fun φ w φ' cv w' g1 g2 g3=>by
  obtain⟨k1,k2⟩:=EE [0] g2;obtain⟨cvs,rfl,q2,q3⟩:=g1.w8;refine⟨.fn _ _ _ q2 fun j hj=>?_,k1,g3.trans k2⟩;have hj0:j=0:=by simp at hj;omega
  subst hj0;exact N7 g2 rfl hcs (q3 0 (by simp))
 refine oX (h':=kill ⟨1,[.row cs],wl,md⟩ [0]) (by simp[AV.refs,AV.ai]) ha fun φ w cargs hr hG hargs=>?_
 rcases (rS hE n).1 f args h0 _ _ he φ w cargs hr hG hargs with⟨e1,e2⟩ | ⟨cv,w',φ',e1,e2,e3,e4⟩
 ·refine .inl ⟨e1,e2.mono fun e w' he=>?_⟩;obtain⟨φ',cv,rfl,g1,g2,g3⟩:=he;obtain⟨r1,r2,r3⟩:=conv φ w φ' cv w' g1 g2 g3;exact⟨φ',cv,rfl,r1,r2,r3⟩
 ·obtain⟨r1,r2,r3⟩:=conv φ w φ' cv w' e2 e3 e4;exact .inr ⟨cv,w',φ',e1,r1,r2,r3⟩
theorem C5 {φ:dp} {h:aa} {w:World} {args:List AV} {cargs:Array Value} (ha:iv φ h w args cargs) (n:Nat) (hle:args.length≤n):
 FR φ h w (FM n (rI 0 args)) (cargs++Array.replicate (n - cargs.size) undef):=by
 rw[←Ag args hle];refine⟨by simp[ha.1],fun t=>?_⟩;by_cases ht:t < args.length
 ·have:=ha.2 t ht;rw[List.getD_eq_getElem?_getD,List.getElem?_append_left ht,List.getElem?_eq_getElem ht,Option.getD_some];have ht2:t < cargs.size:=by rw[ha.1];exact ht
  rw[Array.getD_eq_getD_getElem?] at this ⊢;rw[Array.getElem?_append_left ht2];rw[Array.getElem?_eq_getElem ht2] at this ⊢;exact this
 ·rw[List.getD_eq_getElem?_getD,List.getElem?_append_right (by omega)]
  have:((List.replicate (n - args.length) AV.undef)[t - args.length]?).getD .undef=.undef:=by
   rw[List.getElem?_replicate];split<;>rfl
  rw[this];exact .undef _
theorem Nq {F:Fence} {n:Nat} {φ0 φ:dp} {g0 h:aa} {w0 W:World} {fn:Func} {rs:List AT} {fr:List AV} {tm:Array Value} {v:AV} {D:Nat} (MD:HR φ0 g0 w0) (hres:dm (r8 P) fn.results.toList=some rs) (hf:FR φ h W fr tm) (hr:HR φ h W)
 (hx:Ext φ0 g0 w0 φ h W) (hD:W.heap[D]? =some (.deferred (some []))) (hDw:w0.heap.size≤D) (hsr:∀id cs,h.get id=some (.row cs)→∀v ∈ cs,v.dY=true) (hsm:∀id es,h.get id=some (.map es)→∀e ∈ es,e.1.dY=true∧e.2.dY=true)
 (hsf:∀t,(fr.getD t .undef).dY=true) (hvs:fO fr h rs=some [v]):
 LeavesInM F n P fn tm (iu φ0 g0 w0 v h) [{target:=.collected D,args:=#[]}] .returning W:=by
 have hDl:D < W.heap.size:=(Array.getElem?_eq_some_iff.1 hD).1;have hoth:∀b,b≠D→(W.putObj D (.deferred none)).heap[b]? =W.heap[b]?:=fun b hb=>World.putObj_heap_other hb
 have hsz:(W.putObj D (.deferred none)).heap.size=W.heap.size:=by simp[World.putObj]
 have hcl:∀b,je W b→b≠D:=fun b ⟨o,ho,hc⟩ e=>by
  subst e;rw[hD] at ho;cases ho;cases hc
 have up:∀{u:AV} {cu:Value},u.dY=true→dK φ h W u cu→dK φ h (W.putObj D (.deferred none)) u cu:=fun hs hv=>(RV.dY hv hs).mono (fun id _ hid=>⟨rfl,hid⟩) fun b hb=>⟨⟨by rw[hsz];exact hb.1.1,hb.1.2⟩,hoth b (hcl b hb.2)⟩
 have hlv:∀id,live h id→(φ id).eM≠D:=fun id hl e=>by
  obtain⟨o,hg,hd⟩:=hl
  cases o with
  | row cs=>
    obtain⟨c,el,fz,g1,_⟩:=hr.rows id cs hg;rw[e,hD] at g1;cases g1
  | map es=>
    obtain⟨ents,clk,g1,_⟩:=hr.maps id es hg;rw[e,hD] at g1;cases g1
  | dead=>exact hd rfl
 have hr':HR φ h (W.putObj D (.deferred none)):=by
  refine⟨hr.wf,fun id cs hg=>?_,fun id es hg=>?_,hr.inj,fun b hb=>⟨by rw[hsz];exact (hr.gh b hb).1,(hr.gh b hb).2⟩⟩
  ·obtain⟨c,el,fz,g1,g2,g3,g4,g5,g6⟩:=hr.rows id cs hg;exact⟨c,el,fz,(hoth _ (hlv id ⟨_,hg,fun e=>by cases e⟩)).trans g1,g2,g3,g4,g5,fun j hj=>up (hsr id cs hg _ (List.getElem_mem hj)) (g6 j hj)⟩
  ·obtain⟨ents,clk,g1,g2,g3⟩:=hr.maps id es hg;exact⟨ents,clk,(hoth _ (hlv id ⟨_,hg,fun e=>by cases e⟩)).trans g1,g2,fun j hj=>⟨up (hsm id es hg _ (List.getElem_mem hj)).1 (g3 j hj).1,up (hsm id es hg _ (List.getElem_mem hj)).2 (g3 j hj).2⟩⟩
 have hf':FR φ h (W.putObj D (.deferred none)) fr tm:=⟨hf.1,fun t=>up (hsf t) (hf.2 t)⟩
 have hx':Ext φ0 g0 w0 φ h (W.putObj D (.deferred none)):=by
  refine⟨hx.os,hx.tape,hx.output,by rw[hsz];exact hx.size,hx.next,hx.uJ,fun b hb=>?_,hx.gh.1,fun b hb=>?_⟩
  ·obtain⟨p1,p2⟩:=hx.pr b hb;exact⟨⟨by rw[hsz];exact p1.1,p1.2⟩,(hoth b (by have:=hb.1;omega)).trans p2⟩
  ·exact (hoth b (by have:=(MD.gh b hb).1;omega)).trans (hx.gh.2 b hb)
 obtain⟨cvs,g1,g2,g3⟩:=DH (P:=P) hf' hr' fn.results.toList rs [v] hres hvs;refine⟨by simp,.inl ⟨D,_,rfl,run_takeDeferred hD,?_⟩⟩
 have hm:(fn.results.mapM (B1 tm)).run P (W.putObj D (.deferred none))=.ok cvs.toArray (W.putObj D (.deferred none)):=by
  rw[Array.mapM_eq_mapM_toList];simp only[Sem.run_map,g1,Result.andThen_ok]
 match cvs,g2,g3,hm with
 | [c1],_,g3,hm=>
   refine⟨c1,?_,φ,c1,rfl,g3 0 (by simp) (by simp),hr',hx'⟩;rw[p8];simp only[Sem.run_bind,hm,Result.andThen_ok,Sem.run_pure];rfl
end Sz
