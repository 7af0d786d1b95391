import Derived.Test.YtjmeonoabiliiaaGreatDoorSz2
import Derived.OrdersIn
import Derived.LoopNIn
import Derived.TacticsIn
import Derived.RangeFuncCalls
import Derived.Tactics
set_option linter.all false
set_option maxHeartbeats 16000000
set_option maxRecDepth 100000
namespace Sz
open Go
section
def db(n:Nat):AV->Bool
 |.ptr id _=>decide (id<n)
 |.vec id _ _ _ _=>decide (id<n)
 |.map id=>decide (id<n)
 |v=>v.aK==0
def Cg(n:Nat):aS->Bool
 |.row cs=>cs.all (db n)
 |.map es=>es.all λe=>db n e.1&&db n e.2
 |.dead=>true
def C9(os:List aS):af:=⟨os.length,os.reverse,os.length,os.length⟩
theorem I8(os:List aS)(i:Nat):(C9 os).get i=os[i]?:=by
 unfold af.get C9;dsimp only;by_cases h:i<os.length
 .rw[if_pos h,List.getElem?_reverse (by omega),show os.length-1-(os.length-1-i)=i by omega]
 .rw[if_neg h,List.getElem?_eq_none (by omega)]
structure FU(h:af)(g:Nat->Nat)(os:List aS):Prop where
 obj:∀i o,os[i]? =some o->(∀_:o=.dead,False)->h.get (g i)=some (gu g o)/\Cg os.length o=true
 inj:∀i j o o',os[i]? =some o->os[j]? =some o'->(∀_:o=.dead,False)->(∀_:o'=.dead,False)->g i=g j->i=j
theorem Bb{g:Nat->Nat}{o:aS}(h:∀_:o=.dead,False):∀_:gu g o=.dead,False:=λe=>by
 cases o with
 |dead=>exact h rfl
 |row cs=>cases e
 |map es=>cases e
theorem RV.swap{φ φ':eh}{nx OX m:Nat}{pr An:Nat->Prop}{w:World}{a b:Nat->Nat}(hφ:∀i,i<m->φ' (b i)=φ (a i)/\b i<OX)(jI:∀x,pr x->An x){v:AV}{cv:Value}(hl:db m v=true)
 (h:RV φ nx pr w (sig a v) cv):RV φ' OX An w (sig b v) cv:=by
 have plain:sig a v=v->sig b v=v->v.aK=0->RV φ' OX An w (sig b v) cv:=λe1 e2 e3=>by rw[e1] at h;rw[e2];exact h.mono (λid bZ _=>by omega) λx hx=>⟨jI x hx,rfl⟩
 cases v with
 |ptr id off=>obtain⟨rfl,_⟩:=RV.vF h;obtain⟨e,hb⟩:=hφ id (of_decide_eq_true hl);rw[<-e];exact .ptr _ _ hb
 |vec id off len sz lb=>obtain⟨cap,ad,rfl,_,h1,h2,h3,h4⟩:=RV.kA h;obtain⟨e,hb⟩:=hφ id (of_decide_eq_true hl);rw[<-e] at h3 h4;exact .vec _ _ _ _ _ cap ad hb h1 h2 h3 h4
 |map id=>obtain⟨rfl,_⟩:=RV.tz h;obtain⟨e,hb⟩:=hφ id (of_decide_eq_true hl);rw[<-e];exact .map _ hb
 |_=>exact plain rfl rfl (by simpa[db] using hl)
theorem Ec{v:AV}:sig (λi=>i) v=v:=by cases v<;>rfl
section
variable {φ:eh}{h:af}{w:World}{g:Nat->Nat}{os:List aS}
def o5(φ:eh)(h:af)(g:Nat->Nat)(os:List aS):eh:=⟨λi=>φ (g i),λb=>φ.gh b\/∃id,live h id/\(∀i o,os[i]? =some o->(∀_:o=.dead,False)->g i≠id)/\(φ id).gm=b⟩
theorem CM{i:Nat}(hl:live (C9 os) i):∃o,os[i]? =some o/\∀_:o=.dead,False:=by obtain⟨o,h1,h2⟩:=hl;rw[I8] at h1;exact⟨o,h1,h2⟩
theorem FU.live(S:FU h g os){i:Nat}(hl:Sz.live (C9 os) i):Sz.live h (g i):=by obtain⟨o,h1,h2⟩:=CM hl;exact⟨_,(S.obj i o h1 h2).1,Bb h2⟩
theorem IG(hr:HR φ h w)(S:FU h g os){b:Nat}(hb:Pr φ h w b):Pr (o5 φ h g os) (C9 os) w b:=
 ⟨hb.1,λi hl=>hb.2.1 _ (S.live hl),λhc=>by
  rcases hc with hc|⟨id,hl,_,e⟩
  .exact hb.2.2 hc
  .exact hb.2.1 id hl e⟩
theorem ach(hr:HR φ h w)(S:FU h g os):HR (o5 φ h g os) (C9 os) w:=by
 have swap:∀(v:AV) (cv:Value),db os.length v=true->eZ φ h w (sig g v) cv->eZ (o5 φ h g os) (C9 os) w v cv:=λv cv hl hv=>by have:=RV.swap (φ':=o5 φ h g os) (OX:=os.length) (m:=os.length) (An:=Pr (o5 φ h g os) (C9 os) w) (a:=g) (b:=λi=>i) (λi hi=>⟨rfl,hi⟩) (λx hx=>IG hr S hx) hl hv;rw[Ec] at this;exact this
 refine⟨by simp[af.wf,C9],λi cs hg=>?_,λi es hg=>?_,λi j hi hj e=>?_,λb hb=>?_⟩
 .rw[I8] at hg;obtain⟨h1,h2⟩:=S.obj i _ hg λe=>by cases e
  obtain⟨c,el,fr,g1,g2,g3,g4,g5,g6⟩:=hr.rows (g i) _ h1;rw[List.length_map] at g3;refine⟨c,el,fr,g1,g2,g3,g4,g5,λj hj=>?_⟩;have:=g6 j (by simpa using hj);rw[List.getElem_map] at this;exact swap _ _ (List.all_eq_true.1 h2 _ (List.getElem_mem hj)) this
 .rw[I8] at hg;obtain⟨h1,h2⟩:=S.obj i _ hg λe=>by cases e
  obtain⟨fU,oW,g1,g2,g3⟩:=hr.maps (g i) _ h1;refine⟨fU,oW,g1,by simpa using g2,λj hj=>?_⟩;have:=g3 j (by simpa using hj);rw[List.getElem_map] at this;have h3:=List.all_eq_true.1 h2 _ (List.getElem_mem hj);rw[Bool.and_eq_true] at h3;exact⟨swap _ _ h3.1 this.1,swap _ _ h3.2 this.2⟩
 .have:=hr.inj _ _ (S.live hi) (S.live hj) e;obtain⟨o,h1,h2⟩:=CM hi;obtain⟨o',h3,h4⟩:=CM hj;exact S.inj i j o o' h1 h3 h2 h4 this
 .rcases hb with hb|⟨id,hl,hn,e⟩
  .exact⟨(hr.gh b hb).1,λi hi=>(hr.gh b hb).2 _ (S.live hi)⟩
  .refine⟨e▸hr.ft hl,λi hi e2=>?_⟩;obtain⟨o,h1,h2⟩:=CM hi;exact hn i o h1 h2 (hr.inj _ _ (S.live hi) hl (e2.trans e.symm))
theorem GO(h:af)(k:Nat)(o:aS):(AK h k o).next=h.next:=by unfold AK af.set;split<;>rfl
theorem xQ(h:af)(k:Nat)(o:aS){i:Nat}(fB:i≠k):(AK h k o).get i=h.get i:=by show ({h.set k o with wl:=_}:af).get i=_;exact af.get_set_other (Ne.symm fB)
theorem F7(h:af)(k:Nat)(o:aS){o':aS}(hg:h.get k=some o'):(AK h k o).get k=some o:=by show ({h.set k o with wl:=_}:af).get k=_;exact af.get_set_same hg
theorem rM(g:Nat->Nat):∀(ks:List Nat) (os:List aS) (h:af),(pz g ks os h).next=h.next
 |[],_,h=>by unfold pz;rfl
 |k::ks,[],h=>by unfold pz;rfl
 |k::ks,o::os,h=>by
   show (pz g ks os (AK h k (gu g o))).next=_
   rw[rM g ks os,GO]
theorem xy(g:Nat->Nat):∀(ks:List Nat) (os:List aS) (h:af) {i:Nat},i∉ks->(pz g ks os h).get i=h.get i
 |[],_,h,_,_=>by unfold pz;rfl
 |k::ks,[],h,_,_=>by unfold pz;rfl
 |k::ks,o::os,h,i,hi=>by simp only[List.mem_cons,not_or] at hi;show (pz g ks os (AK h k (gu g o))).get i=_;rw[xy g ks os _ hi.2,xQ _ _ _ hi.1]
theorem Pe(g:Nat->Nat):∀(ks:List Nat) (os:List aS) (h:af),ks.Nodup->(∀k∈ks,∃o,h.get k=some o)->∀(i k:Nat) (o:aS),ks[i]? =some k->os[i]? =some o->(pz g ks os h).get k=some (gu g o)
 |[],_,h,_,_,i,k,o,h1,_=>by simp at h1
 |k::ks,[],h,_,_,i,_,o,_,h2=>by simp at h2
 |k::ks,o::os,h,hn,hx,i,k',o',h1,h2=>by
   rw[List.nodup_cons] at hn;show (pz g ks os (AK h k (gu g o))).get k'=_
   cases i with
   |zero=>simp only[List.getElem?_cons_zero,Option.some.injEq] at h1 h2;subst h1 h2;obtain⟨q,hq⟩:=hx k (by simp);rw[xy g ks os _ hn.1];exact F7 _ _ _ hq
   |succ i=>
     simp only[List.getElem?_cons_succ] at h1 h2;refine Pe g ks os _ hn.2 (λj hj=>?_) i k' o' h1 h2;obtain⟨q,hq⟩:=hx j (by simp[hj]);have fB:j≠k:=λe=>hn.1 (by rw[<-e];exact hj)
     exact⟨q,(xQ _ _ _ fB).trans hq⟩
theorem F1(g:Nat->Nat):∀(os:List aS) (h:af),(yh g os h).next=h.next+os.length
 |[],h=>rfl
 |o::os,h=>by
   show (yh g os (h.alloc (gu g o))).next=_
   rw[F1 g os];show h.next+1+os.length=_
   simp only[List.length_cons];omega
theorem zQ(g:Nat->Nat):∀(os:List aS) (h:af) {i:Nat},i<h.next->(yh g os h).get i=h.get i
 |[],h,_,_=>rfl
 |o::os,h,i,hi=>by show (yh g os (h.alloc (gu g o))).get i=_;rw[zQ g os _ (show i<h.next+1 by omega),af.dm hi]
theorem Ky(g:Nat->Nat):∀(os:List aS) (h:af) {j:Nat} {o:aS},os[j]? =some o->(yh g os h).get (h.next+j)=some (gu g o)
 |[],h,j,o,hj=>by simp at hj
 |o::os,h,j,o',hj=>by
   show (yh g os (h.alloc (gu g o))).get (h.next+j)=_
   cases j with
   |zero=>simp only[List.getElem?_cons_zero,Option.some.injEq] at hj;subst hj;rw[zQ g os _ (show h.next+0<h.next+1 by omega)];exact af.eY
   |succ j=>have:=Ky g os (h.alloc (gu g o)) (j:=j) (o:=o') (by simpa using hj);rw[<-this];show _=(yh g os (h.alloc (gu g o))).get (h.next+1+j);congr 1;omega
theorem Qv(g:Nat->Nat):∀(os:List aS) {h:af},h.wf->(yh g os h).wf
 |[],_,hw=>hw
 |o::os,h,hw=>Qv g os (af.nN _ hw)
theorem Yu{h:af}(k:Nat)(o:aS)(hw:h.wf):(AK h k o).wf:=af.wf_set k o hw
theorem Pu(g:Nat->Nat):∀(ks:List Nat) (os:List aS) {h:af},h.wf->(pz g ks os h).wf
 |[],_,_,hw=>by unfold pz;exact hw
 |k::ks,[],_,hw=>by unfold pz;exact hw
 |k::ks,o::os,h,hw=>Pu g ks os (Yu k _ hw)
theorem PG{τ:List Nat}{mW:List aS}(hw:h.wf):(join h τ mW).wf:=Qv _ _ (Pu _ _ _ hw)
theorem G5{τ:List Nat}{mW:List aS}:(join h τ mW).next=h.next+(mW.length-τ.length):=by unfold join;rw[F1,rM,List.length_drop]
theorem Et{τ:List Nat}{mW:List aS}{i:Nat}(hi:i<h.next)(hn:i∉τ):(join h τ mW).get i=h.get i:=by unfold join;rw[zQ _ _ _ (by rw[rM];exact hi),xy _ _ _ _ hn]
theorem I2{τ:List Nat}{mW:List aS}(hn:τ.Nodup)(hx:∀k∈τ,∃o,h.get k=some o){i:Nat}{o:aS}(ho:mW[i]? =some o):(join h τ mW).get (nR h τ i)=some (gu (nR h τ) o):=by
 unfold join;by_cases hi:i<τ.length
 .have e:nR h τ i=τ[i]:=by unfold nR;rw[if_pos hi];simp[List.getD,hi]
  rw[e];obtain⟨q,hq⟩:=hx τ[i] (List.getElem_mem hi);rw[zQ _ _ _ (by rw[rM];exact af.dO hq)];exact Pe _ _ _ _ hn hx i _ o (by simp[hi]) (by rw[List.getElem?_take_of_lt hi];exact ho)
 .have e:nR h τ i=h.next+(i-τ.length):=by unfold nR;rw[if_neg hi]
  rw[e];have:=Ky (nR h τ) (mW.drop τ.length) (pz (nR h τ) τ (mW.take τ.length) h) (j:=i-τ.length) (o:=o) (by rw[List.getElem?_drop,show τ.length+(i-τ.length)=i by omega];exact ho);rw[rM] at this;exact this
def ub(m:Nat)(qs:List Nat)(i:Nat):Nat:=if i<m then i else qs.getD (i-m) 0
def pN(φ φ1:eh)(n:Nat)(qs:List Nat):eh:=⟨λid=>if id<n then φ id else φ1 (qs.getD (id-n) 0),φ.gh⟩
section
variable {φ1:eh}{h1:af}{w':World}{τ qs:List Nat}{mW:List aS}
theorem Z2(hr:HR φ h w)(S:FU h (λi=>τ.getD i 0) os)(hτ:τ.length=os.length)(im:∀o∈os,∀_:o=.dead,False)(hle:os.length<=mW.length)
 (hx:Ext (o5 φ h (λi=>τ.getD i 0) os) (C9 os) w φ1 h1 w') (mc:HR φ1 h1 w') (S1:FU h1 (ub os.length qs) mW):
 HR (pN φ φ1 h.next qs) (join h τ mW) w'/\Ext φ h w (pN φ φ1 h.next qs) (join h τ mW) w'/\(∀b,Pr φ1 h1 w' b->Pr (pN φ φ1 h.next qs) (join h τ mW) w' b):=by
 -- the objects of the small heap,in the great one
 have ug:∀k∈τ,∃o,h.get k=some o/\∀_:o=.dead,False:=λk hk=>by
  obtain⟨i,hi,rfl⟩:=List.getElem_of_mem hk;have iB:i<os.length:=by omega
  have ho:os[i]? =some os[i]:=List.getElem?_eq_getElem iB;have hn:=im _ (List.getElem_mem iB);have:=(S.obj i _ ho hn).1;have e:τ.getD i 0=τ[i]:=by simp[List.getD,hi]
  rw[e] at this;exact⟨_,this,Bb hn⟩
 have My:τ.Nodup:=by
  rw[List.nodup_iff_pairwise_ne,List.pairwise_iff_getElem];intro i j hi hj tK e;have iB:i<os.length:=by omega
  have jk:j<os.length:=by omega
  have e1:τ.getD i 0=τ[i]:=by simp[List.getD,hi]
  have e2:τ.getD j 0=τ[j]:=by simp[List.getD,hj]
  have:=S.inj i j _ _ (List.getElem?_eq_getElem iB) (List.getElem?_eq_getElem jk) (im _ (List.getElem_mem iB)) (im _ (List.getElem_mem jk)) (by rw[e1,e2];exact e);omega
 have de:∀k∈τ,k<h.next:=λk hk=>by obtain⟨o,h1,_⟩:=ug k hk;exact af.dO h1
 have hgx:∀k∈τ,∃o,h.get k=some o:=λk hk=>by obtain⟨o,h1,_⟩:=ug k hk;exact⟨o,h1⟩
 have CZ:(join h τ mW).next=h.next+(mW.length-os.length):=by rw[G5,hτ]
 have nq:∀i,i<mW.length->nR h τ i<(join h τ mW).next:=λi hi=>by
  rw[CZ];unfold nR;split
  .rename_i hl;have e:τ.getD i 0=τ[i]:=by simp[List.getD,hl]
   rw[e];have:=de _ (List.getElem_mem hl);omega
  .omega
 have Jj:∀i,i<mW.length->(pN φ φ1 h.next qs) (nR h τ i)=φ1 (ub os.length qs i):=λi hi=>by
  unfold nR ub;by_cases hl:i<τ.length
  .rw[if_pos hl,if_pos (by omega)];have e:τ.getD i 0=τ[i]:=by simp[List.getD,hl]
   have hk:=de _ (List.getElem_mem hl);show (if τ.getD i 0<h.next then φ (τ.getD i 0) else _)=_;rw[if_pos (by rw[e];exact hk)];have:=hx.B9 i (show i<os.length by omega);exact this.symm
  .rw[if_neg hl,if_neg (by omega)];show (if h.next+(i-τ.length)<h.next then _ else φ1 (qs.getD (h.next+(i-τ.length)-h.next) 0))=_;rw[if_neg (by omega),show h.next+(i-τ.length)-h.next=i-os.length by omega]
 -- what lies in the great heap after the call
 have O2:∀id o,(join h τ mW).get id=some o->(id<h.next/\id∉τ/\h.get id=some o)\/∃i o',mW[i]? =some o'/\id=nR h τ i/\o=gu (nR h τ) o':=λid o hg=>by
  have bZ:=af.dO hg;rw[CZ] at bZ;by_cases hm:id∈τ
  .obtain⟨i,hi,rfl⟩:=List.getElem_of_mem hm;have iB:i<mW.length:=by omega
   have e:nR h τ i=τ[i]:=by unfold nR;rw[if_pos hi];simp[List.getD,hi]
   have:=I2 (mW:=mW) My hgx (List.getElem?_eq_getElem iB);rw[e,hg] at this;cases this;exact .inr ⟨i,_,List.getElem?_eq_getElem iB,e.symm,rfl⟩
  .by_cases hl:id<h.next
   .rw[Et hl hm] at hg;exact .inl ⟨hl,hm,hg⟩
   .have iB:id-h.next+τ.length<mW.length:=by omega
    have e:nR h τ (id-h.next+τ.length)=id:=by unfold nR;rw[if_neg (by omega)];omega
    have:=I2 (mW:=mW) My hgx (List.getElem?_eq_getElem iB);rw[e,hg] at this;cases this;exact .inr ⟨_,_,List.getElem?_eq_getElem iB,e.symm,rfl⟩
 have lv:∀id,live (join h τ mW) id->(id<h.next/\id∉τ/\live h id)\/∃i o',mW[i]? =some o'/\(∀_:o'=.dead,False)/\id=nR h τ i:=λid ⟨o,hg,ho⟩=>by
  rcases O2 id o hg with⟨a1,a2,a3⟩|⟨i,o',a1,a2,a3⟩
  .exact .inl ⟨a1,a2,o,a3,ho⟩
  .refine .inr ⟨i,o',a1,λe=>?_,a2⟩;subst e;exact ho a3
 have lv1:∀i o',mW[i]? =some o'->(∀_:o'=.dead,False)->live h1 (ub os.length qs i):=λi o' a1 a2=>⟨_,(S1.obj i o' a1 a2).1,Bb a2⟩
 -- other objects' blocks are spoken of by none
 have gho:∀id,id∉τ->live h id->φ1.gh (φ id).gm:=λid hn hl=>by
  rw[hx.gh.1];refine .inr ⟨id,hl,λi o ho xX e=>hn ?_,rfl⟩;have hi:i<os.length:=(List.getElem?_eq_some_iff.1 ho).1;have iB:i<τ.length:=by omega
  have e1:τ.getD i 0=τ[i]:=by simp[List.getD,iB]
  have e2:τ[i]=id:=e1.symm.trans e;rw[<-e2];exact List.getElem_mem iB
 have pr1:∀b,Pr φ1 h1 w' b->Pr (pN φ φ1 h.next qs) (join h τ mW) w' b:=λb hb=>by
  refine⟨hb.1,λid hl=>?_,λhg=>hb.2.2 (by rw[hx.gh.1];exact .inl hg)⟩;rcases lv id hl with⟨a1,a2,a3⟩|⟨i,o',a1,a2,rfl⟩
  .show (if id<h.next then φ id else _).gm≠b;rw[if_pos a1];intro e;exact hb.2.2 (e▸gho id a2 a3)
  .rw[Jj i (List.getElem?_eq_some_iff.1 a1).1];exact hb.2.1 _ (lv1 i o' a1 a2)
 have ext:Ext φ h w (pN φ φ1 h.next qs) (join h τ mW) w':=by refine⟨hx.os,hx.tape,hx.output,hx.size,by rw[CZ];omega,λid bZ=>if_pos bZ,λb hb=>?_,rfl,λb hb=>hx.gh.2 b (.inl hb)⟩;obtain⟨g1,g2⟩:=hx.pr b (IG hr S hb);exact⟨pr1 b g1,g2⟩
 have swap:∀(v:AV) (cv:Value),db mW.length v=true->eZ φ1 h1 w' (sig (ub os.length qs) v) cv->eZ (pN φ φ1 h.next qs) (join h τ mW) w' (sig (nR h τ) v) cv:=λv cv hl hv=>RV.swap (λi hi=>⟨Jj i hi,nq i hi⟩) pr1 hl hv
 refine⟨⟨PG hr.wf,λid cs hg=>?_,λid es hg=>?_,λi j hi hj e=>?_,λb hb=>?_⟩,ext,pr1⟩
 .rcases O2 id _ hg with⟨a1,a2,a3⟩|⟨i,o',a1,rfl,a3⟩
  .have hl:live h id:=⟨_,a3,λe=>by cases e⟩
   exact (hr.rows id cs a3).ext ext a1 (hx.gh.2 _ (by have:=gho id a2 hl;rw[hx.gh.1] at this;exact this))
  .cases o' with
   |dead=>cases a3
   |map es=>cases a3
   |row iA=>
     cases a3;have wy:=(List.getElem?_eq_some_iff.1 a1).1;obtain⟨b1,b2⟩:=S1.obj i _ a1 λe=>by cases e
     obtain⟨c,el,fr,g1,g2,g3,g4,g5,g6⟩:=mc.rows _ _ b1;have hp:=Jj i wy;rw[List.length_map] at g3;refine⟨c,el,fr,by rw[hp];exact g1,by rw[hp];exact g2,by rw[hp,List.length_map];exact g3,g4,by rw[hp];exact g5,λj hj=>?_⟩;have jk:j<iA.length:=by simpa using hj
     have:=g6 j (by simpa using jk);rw[List.getElem_map] at this|-;rw[hp];exact swap _ _ (List.all_eq_true.1 b2 _ (List.getElem_mem jk)) this
 .rcases O2 id _ hg with⟨a1,a2,a3⟩|⟨i,o',a1,rfl,a3⟩
  .have hl:live h id:=⟨_,a3,λe=>by cases e⟩
   exact (hr.maps id es a3).ext ext a1 (hx.gh.2 _ (by have:=gho id a2 hl;rw[hx.gh.1] at this;exact this))
  .cases o' with
   |dead=>cases a3
   |row cs=>cases a3
   |map um=>
     cases a3;have wy:=(List.getElem?_eq_some_iff.1 a1).1;obtain⟨b1,b2⟩:=S1.obj i _ a1 λe=>by cases e
     obtain⟨fU,oW,g1,g2,g3⟩:=mc.maps _ _ b1;have hp:=Jj i wy;rw[List.length_map] at g2;refine⟨fU,oW,by rw[hp];exact g1,by rw[List.length_map];exact g2,λj hj=>?_⟩;have jk:j<um.length:=by simpa using hj
     have:=g3 j (by simpa using jk);rw[List.getElem_map] at this|-;have b3:=List.all_eq_true.1 b2 _ (List.getElem_mem jk);rw[Bool.and_eq_true] at b3;exact⟨swap _ _ b3.1 this.1,swap _ _ b3.2 this.2⟩
 .rcases lv i hi with⟨a1,a2,a3⟩|⟨p,o,a1,a2,rfl⟩
  .have ei:(pN φ φ1 h.next qs) i=φ i:=if_pos a1;rcases lv j hj with⟨b1,b2,b3⟩|⟨q,o',b1,b2,rfl⟩
   .have ej:(pN φ φ1 h.next qs) j=φ j:=if_pos b1;rw[ei,ej] at e;exact hr.inj i j a3 b3 e
   .rw[ei,Jj q (List.getElem?_eq_some_iff.1 b1).1] at e;exact absurd e.symm ((mc.gh _ (gho i a2 a3)).2 _ (lv1 q o' b1 b2))
  .rcases lv j hj with⟨b1,b2,b3⟩|⟨q,o',b1,b2,rfl⟩
   .have ej:(pN φ φ1 h.next qs) j=φ j:=if_pos b1;rw[ej,Jj p (List.getElem?_eq_some_iff.1 a1).1] at e;exact absurd e ((mc.gh _ (gho j b2 b3)).2 _ (lv1 p o a1 a2))
   .rw[Jj p (List.getElem?_eq_some_iff.1 a1).1,Jj q (List.getElem?_eq_some_iff.1 b1).1] at e;have:=mc.inj _ _ (lv1 p o a1 a2) (lv1 q o' b1 b2) e;rw[S1.inj p q o o' a1 b1 a2 b2 this]
 .refine⟨Nat.lt_of_lt_of_le (hr.gh b hb).1 hx.size,λid hl=>?_⟩;rcases lv id hl with⟨a1,a2,a3⟩|⟨i,o',a1,a2,rfl⟩
  .have ei:(pN φ φ1 h.next qs) id=φ id:=if_pos a1;rw[ei];exact (hr.gh b hb).2 id a3
  .rw[Jj i (List.getElem?_eq_some_iff.1 a1).1];exact (mc.gh b (by rw[hx.gh.1];exact .inl hb)).2 _ (lv1 i o' a1 a2)
end
end
end
section
variable {X:World->Prop}{l0:Option Nat}{n0:Nat}
def FW:Option Nat->Fence
 |none=>Fence.wide
 |some l=>Fence.wide.inRound l
theorem PB:∀(l0:Option Nat) (f:FuncId),(FW l0).fn f
 |none,_=>trivial
 |some _,_=>trivial
theorem VS:∀(l0:Option Nat),(FW l0).depth.isSome=true->False
 |none,h=>by cases h
 |some _,h=>by cases h
theorem V3{n:Nat}{P:Program}{f:FuncId}{args:Array Value}{w:World}{R:Ending->World->Prop}:∀(l0:Option Nat),Calls P f args w R->CallsIn (FW l0) n P f args w R
 |none,h=>callsIn_wide.2 h
 |some l,h=>CallsIn.inRound l (callsIn_wide.2 h)
section
variable {P:Program}{C:Nat->List AV->af->Option (AV×af)}
theorem abE{ρ:Operand->Value}{o:Oper}(My:∀c,o.op≠.defer c):o.semAt (FW l0).round ρ=execOp ρ o:=by
 cases l0 with
 |none=>exact Oper.semAt_none ρ o
 |some l=>exact Oper.semAt_some l ρ o My
theorem aag{o:Oper}{Jy:ye}{fr:List AV}{h:af}{r:AV×af}{ops:Array Oper}(hs:uZ P o.op=some Jy\/ER P ops o=some Jy)(hv:bC fr h Jy=some r):∀c,o.op≠.defer c:=λc hc=>by
 rw[hc] at hs;rcases hs with hs|hs
 .simp[uZ,dn] at hs;subst hs;simp[bC] at hv
 .simp[ER,hc] at hs
theorem We{b:Prop}[Decidable b]{A:Prop}{G:FuncId->Prop}{B:Prop}(h:if b then A else B):if b then A else ((∀f,G f->(FW l0).fn f)/\B):=by
 split
 .rename_i hb;rwa[if_pos hb] at h
 .rename_i hb;rw[if_neg hb] at h;exact⟨λf _=>PB l0 f,h⟩
theorem NP{φ:eh}{h h':af}{w:World}{fr:List AV}{a:Act}{o:Oper}{v:AV}{f:Nat}{aU:Array Value}{args:List AV}(hC:qy P X C)(hc:C f args h=some (v,h'))(hr:HR φ h w)(hG:je P X φ h w)(ha:lu φ h w args aU)
 (hf:FR φ h w fr a.tmps) (My:∀c,o.op≠.defer c) (tM:(execOp a.eval o).run P w=(callFunc f aU).run P w) {K:Act->World->Prop} {Q:Exit->Act->World->Prop}
 (hK:∀φ' cv w',FR φ' h' w' (gx fr o.dst v) (a.put o.dst cv).tmps->HR φ' h' w'->Ext φ h w φ' h' w'->K (a.put o.dst cv) w'):o.wpIn (FW l0) n0 P a w K Q:=by
 refine⟨λf _=>PB l0 f,?_⟩;rw[abE My,tM];rcases hC f args h v h' hc φ w aU hr hG ha with⟨e1,e2⟩|⟨cv,w',φ',e1,e2,e3,e4⟩
 .rw[e1,Oper.uponIn_enter];refine⟨λh=>(VS l0 h).elim,CallsIn.mono (V3 l0 e2) λe w' he=>?_⟩;obtain⟨φ',cv,rfl,g1,g2,g3⟩:=he;obtain⟨p1,p2⟩:=DC (hf.ext g3) g1 o.dst;exact hK φ' _ w' p1 g2 g3
 .rw[e1,Oper.uponIn_value];obtain⟨p1,p2⟩:=DC (hf.ext e4) e2 o.dst;exact hK φ' _ w' p1 e3 e4
theorem uL(hC:qy P X C){ops:Array Oper}{o:Oper}{s:aO}(hs:ln P ops o=some s){φ:eh}{h h':af}{w:World}{fr dT:List AV}{a:Act}(he:cJ C s fr h=some (dT,h'))
 (hf:FR φ h w fr a.tmps) (hr:HR φ h w) (hG:je P X φ h w) {K:Act->World->Prop} {Q:Exit->Act->World->Prop}
 (hK:∀φ' cv w',FR φ' h' w' dT (a.put o.dst cv).tmps->HR φ' h' w'->Ext φ h w φ' h' w'->K (a.put o.dst cv) w'):
 if Region.wanted o (yielded ops a.tmps) then o.wpIn (FW l0) n0 P a w K Q else K (a.put o.dst undef) w:=by
 unfold ln at hs;split at hs
 .cases hs
 .rename_i C3 aaG
  -- the guard
  have aep:∃b,dA fr s.guard=some b/\Region.wanted o (yielded ops a.tmps)=!b:=by
   unfold cJ at he
   cases hu:dA fr s.guard with
   |none=>rw[hu] at he;cases he
   |some b=>
     refine⟨b,rfl,?_⟩;split at hs
     .rename_i hg;cases hs;simp only[dA,Option.some.injEq] at hu;subst hu;simp[Region.wanted,hg]
     .rename_i j want hg;obtain⟨t,ht,rfl⟩:=Option.map_eq_some_iff.1 hs;simp only[dA] at hu;split at hu
      .rename_i b' Fk;cases hu;obtain⟨de,e⟩:=List.getElem?_eq_some_iff.1 Fk;have XS:t<a.tmps.size:=by rw[hf.1];exact de
       have:=hf.2 t;rw[List.getD_eq_getElem?_getD,Fk,Option.getD_some] at this;have hv:=this.iI
       have ug:a.tmps[t]? =some (.bool b'):=by rw[Array.getD_eq_getD_getElem?,Array.getElem?_eq_getElem XS,Option.getD_some] at hv;rw[Array.getElem?_eq_getElem XS,hv]
       have hy:yielded ops a.tmps j=some b':=by unfold yielded;rw[ht];simp[ug]
       simp only[Region.wanted,hg,hy];cases b'<;>cases want<;>rfl
      .rename_i Fk;cases hu;obtain⟨de,e⟩:=List.getElem?_eq_some_iff.1 Fk;have XS:t<a.tmps.size:=by rw[hf.1];exact de
       have:=hf.2 t;rw[List.getD_eq_getElem?_getD,Fk,Option.getD_some] at this;obtain⟨eW,hv,hl,_⟩:=this.vX
       have ug:a.tmps[t]? =some (.tuple eW):=by rw[Array.getD_eq_getD_getElem?,Array.getElem?_eq_getElem XS,Option.getD_some] at hv;rw[Array.getElem?_eq_getElem XS,hv]
       have hy:yielded ops a.tmps j=none:=by unfold yielded;rw[ht];simp[ug]
       simp only[Region.wanted,hg,hy];rfl
      .cases hu
  obtain⟨b,hb,hw⟩:=aep
  have aeq:s.dst=o.dst/\s.op=C3:=by
   split at hs
   .cases hs;exact⟨rfl,rfl⟩
   .obtain⟨t,ht,rfl⟩:=Option.map_eq_some_iff.1 hs;exact⟨rfl,rfl⟩
  unfold cJ at he;rw[hb] at he;rw[hw]
  cases b with
  |true=>simp only[Option.some.injEq,Prod.mk.injEq] at he;obtain⟨rfl,rfl⟩:=he;rw[if_neg (by simp)];rw[aeq.1] at hK;obtain⟨p1,p2⟩:=DC hf (RV.tuple [] #[] rfl λj hj=>by simp at hj:eZ φ h w (.tuple []) undef) o.dst;exact hK φ _ w p1 hr (.refl _ _ _)
  |false=>
    rw[if_pos (by simp)];simp only[aeq.2] at he;rw[aeq.1] at he
    have aer:∀Jy,(uZ P o.op=some Jy\/ER P ops o=some Jy)->(bC fr h Jy).map (λp=>(gx fr o.dst p.1,p.2))=some (dT,h')->o.wpIn (FW l0) n0 P a w K Q:=λJy aaG he=>by
     obtain⟨⟨v,h1⟩,hv,e⟩:=Option.map_eq_some_iff.1 he;cases e;have My:=aag aaG hv;obtain⟨cv,w',φ',e1,e2,e3,e4⟩:=ab8 aaG hv hf hr;obtain⟨p1,p2⟩:=DC (hf.ext e4) e2 o.dst;have:=hK φ' _ w' p1 e3 e4;refine⟨λf _=>PB l0 f,?_⟩;rw[abE My];rcases e1 with e1|⟨e1,rfl⟩
     .rw[e1,Oper.uponIn_value];exact this
     .rw[e1,Oper.uponIn_skip];exact this
    have XT:∀(f0:Operand) (qp:Array Operand) (Jt:Array TypeId) (x':cX) (args:List cX) (f:Nat) (aN:List AV) (v:AV) (h1:af),o.op=.call {callee:=.value f0,args:=qp,argTypes:=Jt}->fS f0=some x'->
     pD qp=some args->x'.ev fr=.fn f aN->C f (args.map (·.ev fr)++aN) h=some (v,h1)->(gx fr o.dst v,h1)=(dT,h')->o.wpIn (FW l0) n0 P a w K Q:=λf0 qp Jt x' args f aN v h1 ee hx has C4 Mz e=>by
     cases e;have g:=cd hx hf;rw[C4] at g;obtain⟨eW,q1,q2,q3⟩:=g.HO;have ga:=Um has hf;refine NP (aU:=qp.map a.eval++eW) hC Mz hr hG ⟨by simp[ga.1,q2],λj hj=>?_⟩ hf ?_ ?_ hK
     .by_cases hj1:j<(args.map (·.ev fr)).length
      .have:=ga.2 j hj1;rw[List.getElem_append_left hj1];have Fw:j<(qp.map a.eval).size:=by rw[ga.1];exact hj1
       rw[Array.getD_eq_getD_getElem?] at this|-;rw[Array.getElem?_append_left Fw];exact this
      .have hj3:j-(args.map (·.ev fr)).length<aN.length:=by simp at hj hj1|-;omega
       have:=q3 _ hj3;rw[List.getElem_append_right (by omega)];rw[Array.getD_eq_getD_getElem?] at this|-;rw[Array.getElem?_append_right (by rw[ga.1];omega),ga.1];exact this
     .exact λc hc=>by rw[ee] at hc;cases hc
     .unfold execOp;simp[ee,resolve,q1,Deferred.ofValue,invoke]
    have hinv:∀s',E7 P ops o=some s'->(∃Jy,(uZ P o.op=some Jy\/ER P ops o=some Jy)/\s'=.op Jy)\/∃f0 qp Jt x' args,o.op=.call {callee:=.value f0,args:=qp,argTypes:=Jt}/\fS f0=some x'/\pD qp=some args/\
     ((∃g,x'=.const (.fn g [])/\s'=.call g args)\/s'=.lg x' args):=λs' Jk=>by
     unfold E7 at Jk;split at Jk
     .rename_i Jy h1;cases Jk;exact .inl ⟨Jy,.inr h1,rfl⟩
     unfold P9 at Jk;split at Jk
     .rename_i f0 qp Jt ee;split at Jk
      .rename_i g as1 h1 h2;cases Jk;exact .inr ⟨f0,qp,Jt,_,as1,ee,h1,h2,.inl ⟨g,rfl,rfl⟩⟩
      .rename_i f' as1 h1 h2 h3;cases Jk;exact .inr ⟨f0,qp,Jt,_,as1,ee,by assumption,by assumption,.inr rfl⟩
      .cases Jk;exact .inl ⟨.die,.inl (by rw[ee];rfl),rfl⟩
     .obtain⟨Jy,h1,rfl⟩:=Option.map_eq_some_iff.1 Jk;exact .inl ⟨Jy,.inl h1,rfl⟩
    rcases hinv C3 aaG with⟨Jy,h1,rfl⟩|⟨f0,qp,Jt,x',args,ee,hx,has,Jk⟩
    .exact aer Jy h1 he
    .rcases Jk with⟨g,rfl,rfl⟩|rfl
     .dsimp only at he;obtain⟨⟨v,h1⟩,hv,e⟩:=Option.map_eq_some_iff.1 he;exact XT f0 qp Jt _ args g [] v h1 ee hx has rfl (by simpa using hv) e
     .dsimp only at he;split at he
      .rename_i f aN C4;obtain⟨⟨v,h1⟩,hv,e⟩:=Option.map_eq_some_iff.1 he;exact XT f0 qp Jt _ args f aN v h1 ee hx has C4 hv e
      .cases he
theorem Gb(hC:qy P X C){ops:Array Oper}{Q:Exit->Act->World->Prop}:∀{l:List Oper} {ss:List aO},eL (ln P ops) l=some ss->∀{φ:eh} {h h':af} {w:World} {fr dT:List AV} {a:Act},
 c7 C ss fr h=some (dT,h')->FR φ h w fr a.tmps->HR φ h w->je P X φ h w->
 (∀φ' a' w',FR φ' h' w' dT a'.tmps->HR φ' h' w'->Ext φ h w φ' h' w'->a'.defers=a.defers->Q .normal a' w')->wpListIn (FW l0) n0 P ops Q l a w
 |[],ss,hs,φ,h,h',w,fr,dT,a,he,hf,hr,hG,hQ=>by simp only[eL,Option.some.injEq] at hs;subst hs;simp only[c7,Option.some.injEq,Prod.mk.injEq] at he;obtain⟨rfl,rfl⟩:=he;exact wpListIn_nil (hQ φ a w hf hr (.refl _ _ _) rfl)
 |o::l,ss,hs,φ,h,h',w,fr,dT,a,he,hf,hr,hG,hQ=>by
   unfold eL at hs;split at hs
   .rename_i s ss' h1 h2;cases hs;simp only[c7] at he;split at he
    .rename_i x7 Mw XU;refine wpListIn_step λK hK=>We ?_
     refine uL hC h1 XU hf hr hG λφ1 cv w1 f1 r1 e1=>hK _ _ ?_
     have d1:(a.put o.dst cv).defers=a.defers:=by cases o.dst<;>rfl
     exact Gb hC h2 he f1 r1 (hG.ext e1) λφ2 a2 w2 f2 r2 e2 d2=>hQ φ2 a2 w2 f2 r2 (e1.trans e2) (d2.trans d1)
    .cases he
   .cases hs
end
section
variable {P:Program}{C:Nat->List AV->af->Option (AV×af)}{ops:Array Oper}{ss:List aO}{b:List Nat}{F:Nat->List AV}{H:Nat->af}{φ0:eh}{w0:World}{d0:List Deferred}
 {bf:Array Bool} {φ:eh} {pe:Nat->PE} {cu:List AV} {k:Nat} {a:Act} {w:World}
theorem aai(hC:qy P X C)(hG:je P X φ0 (H 0) w0)(T:Tr C ss b F H)(st:Ah P ops ss b){Q:Exit->Act->World->Prop}
 (hQ:∀φ' a' w',FR φ' (H ss.length) w' (F ss.length) a'.tmps->HR φ' (H ss.length) w'->Ext φ0 (H 0) w0 φ' (H ss.length) w'->a'.defers=d0->Q .normal a' w'):
 ∀(fuel:Nat) (bf:Array Bool) (φ:eh) (pe:Nat->PE) (cu:List AV) (k:Nat) (a:Act) (w:World),DI ops ss F H φ0 w0 d0 bf φ pe cu k a w->KX ss bf k->unl ss.length bf<=fuel->
   wpAnyIn (FW l0) n0 P .any ops Q fuel bf a w:=by
 have Fp:∀(bf:Array Bool) (φ:eh) (pe:Nat->PE) (cu:List AV) (k:Nat) (a:Act) (w:World),DI ops ss F H φ0 w0 d0 bf φ pe cu k a w->KX ss bf k->(∀i,i<ss.length->SS bf i)->Q .normal a w:=λbf φ pe cu k a w D kx im=>by
  have hk:k=ss.length:=by
   rcases Nat.lt_or_ge k ss.length with h|h
   .obtain⟨s,_,_,hn⟩:=kx h;exact absurd (im k h) hn
   .have:=D.kn;omega
  subst hk
  have hcu:∀t,cu.getD t .undef=(F ss.length).getD t .undef:=λt=>by
   by_cases hw:∃(j:Nat) (r:aO),ss[j]? =some r/\r.dst=some t
   .obtain⟨j,r,hj,hd⟩:=hw;have HI:j<ss.length:=(List.getElem?_eq_some_iff.1 hj).1;exact D.w1 j r t hj hd (im j HI) λ_=>HI
   .have xX:∀(j:Nat) (r:aO),ss[j]? =some r->r.dst≠some t:=λj r hj hd=>hw ⟨j,r,hj,hd⟩
    rw[D.w3 t xX];have:=T.gp (d:=t) (i:=0) ss.length (by omega) λj' s' _ _ h3=>xX j' s' h3
    simpa using this.symm
  refine hQ φ a w ⟨?_,λt=>?_⟩ D.hr ?_ D.df
  .rw[D.fr.1,D.ZB,T.len ss.length (Nat.le_refl _)]
  .rw[<-hcu t];exact D.fr.2 t
  .have x:=D.ex;refine⟨x.os,x.tape,x.output,x.size,x.next,x.B9,x.pr,?_,λy hy=>(D.YI y hy).2⟩;funext y;refine propext ⟨λhy=>?_,λhy=>(D.YI y hy).1⟩;rcases D.gh y hy with h|⟨i,s,h1,h2,_⟩
   .exact h
   .have:=(List.getElem?_eq_some_iff.1 h2).1;omega
 have hnl:∀(bf:Array Bool) (i:Nat),bf.size=ss.length->bf.getD i true=false->i<ss.length/\¬SS bf i:=λbf i iz h=>by
  have de:i<bf.size:=by
   rcases Nat.lt_or_ge i bf.size with h'|h'
   .exact h'
   .simp[Array.getElem?_eq_none h'] at h
  refine⟨by omega,λhS=>?_⟩;unfold SS at hS;simp[de] at h hS;rw[h] at hS;cases hS
 intro fuel
 induction fuel with
 |zero=>
   intro bf φ pe cu k a w D kx hu;have im:∀i,i<ss.length->SS bf i:=λi hi=>UK (by omega) hi
   refine⟨?_,Fp bf φ pe cu k a w D kx im⟩;apply List.eq_nil_iff_forall_not_mem.2;intro i hi;obtain⟨h1,h2⟩:=hnl bf i D.sz (mem_ready.1 hi).1;exact h2 (im i h1)
 |succ fuel ih=>
   intro bf φ pe cu k a w D kx hu;refine⟨λh0=>Fp bf φ pe cu k a w D kx λi hi=>?_,λi hi=>?_⟩
   .induction i using Nat.strongRecOn with
    |_ i ihi=>
      refine Classical.byContradiction λBr=>?_
      have akT:i<ops.size:=by rw[<-st.len];exact hi
      have hio:ops[i]? =some ops[i]:=Array.getElem?_eq_getElem akT
      have:i∈Region.ready .any ops bf:=by
       rw[mem_ready];refine⟨?_,_,hio,λe he hb=>?_⟩
       .have de:i<bf.size:=by rw[D.sz];exact hi
        unfold SS at Br;simp[de] at Br|-;exact Br
       .have:=st.back i _ hio e he hb;exact ihi e.on this (by omega)
      rw[h0] at this;cases this
   .obtain⟨hun,o,ho,ahB⟩:=mem_ready.1 hi;obtain⟨wy,Br⟩:=hnl bf i D.sz hun;have yd:∀e∈o.after,Region.binds .any e=true->SS bf e.on:=ahB;obtain⟨s,hs,QV⟩:=st.comp i o ho;have hd:=Vy QV;obtain⟨Bq,tJ,tO,a1,a2⟩:=T.st i s hs;have Yn:=D.reads T st kx ho hs yd Br;have FY:∀x∈s.op.pD,x.ev cu=x.ev (F i):=λx hxm=>zG λt ht=>Yn t (List.mem_append_right _ (List.mem_flatMap.2 ⟨x,hxm,ht⟩))
    have Ms:unl ss.length (bf.setIfInBounds i true)<=fuel:=by have:=YE wy (by rw[D.sz];exact wy) Br;omega
    unfold wpOpIn;rw[ho];dsimp only;refine We ?_;by_cases he:s.uf=true
    .rcases Nat.lt_trichotomy i k with TE|TE|TE
     .exact absurd (D.lo i s TE hs he) Br
     .subst TE;obtain⟨v,hF,XV⟩:=tv Yn tO;obtain⟨r1,r2⟩:=D.hr.alike a1;refine uL hC QV XV (D.fr.ext r2) r1 ((hG.Uv D).ext r2) λφ' cv w' f1 r3 e1=>?_
      obtain⟨r4,r5⟩:=r3.alike a2;have D1:=D.step T st (k':=i+1) ho hs hd yd Br (.inr ⟨rfl,rfl⟩) hF (f1.ext r5) r4 ((r2.trans e1).trans r5);obtain⟨φ2,cu2,k2,D2,kx2⟩:=D1.advance T st (ss.length) (by omega);exact ih _ φ2 pe cu2 k2 _ w' D2 kx2 Ms
     .have hp:s.mN=true:=by
       obtain⟨q,hq,TF,XR⟩:=kx (by omega);rcases st.ord k i q s TE hq hs TF he with h|h
       .exact absurd (lX st D.cl (i+1) i k (by omega) o ho yd h) XR
       .exact h
      obtain⟨cs,vf,hh,hF,hvf,im⟩:=KZ hp tO;obtain⟨XV,wI⟩:=im cu (H k) FY;subst hh;refine uL hC QV XV D.fr D.hr (hG.Uv D) λφ' cv w' f1 r3 e1=>?_
      have CZ:Bq.next=(H i).next:=a1.1
      rw[CZ] at hF;have D1:=D.early T st ho hs hd yd Br TE hp ((a1.alloc _).trans a2) hF hvf (wI _ _ _ D.fr) f1 r3 e1;refine ih _ _ _ _ k _ w' D1 (λh=>?_) Ms;obtain⟨q,hq,TF,XR⟩:=kx h;refine⟨q,hq,TF,λh'=>?_⟩;rcases (AP (by rw[D.sz];exact wy) k).1 h' with e|e
      .omega
      .exact XR e
    .have he:s.uf=false:=by simpa using he
     obtain⟨v,hF,XV⟩:=tv Yn tO
     obtain⟨_,akU⟩:=yx (h2:=H k) he XV λn x id off ee hx=>by
      have OY:x.ev (F i)=.ptr id off:=by rw[<-FY x (by rw[ee];simp[SX.pD,ye.pD])];exact hx
      rw[a1.get id];exact D.load T st kx ho hs yd Br ee OY
     refine uL hC QV akU D.fr D.hr (hG.Uv D) λφ' cv w' f1 r3 e1=>?_
     have D1:=D.step T st (k':=k) ho hs hd yd Br (.inl ⟨rfl,he⟩) hF f1 r3 e1;refine ih _ _ _ _ k _ w' D1 (λh=>?_) Ms;obtain⟨q,hq,TF,XR⟩:=kx h;refine⟨q,hq,TF,λh'=>?_⟩;rcases (AP (by rw[D.sz];exact wy) k).1 h' with e|e
     .subst e;rw[hs] at hq;rw[<-Option.some.inj hq,he] at TF;cases TF
     .exact XR e
theorem C7(hC:qy P X C)(hm:P.follows .mixedOrders=true)(hs:eL (ln P ops) ops.toList=some ss)(hd:Is ops ss b=true){F:Nat->List AV}{H:Nat->af}(T:Tr C ss b F H)
 {φ:eh} {w:World} {a:Act} {id:Nat} {Q:Exit->Act->World->Prop} (hf:FR φ (H 0) w (F 0) a.tmps) (hr:HR φ (H 0) w) (hG:je P X φ (H 0) w)
 (hQ:∀φ' a' w',FR φ' (H ss.length) w' (F ss.length) a'.tmps->HR φ' (H ss.length) w'->Ext φ (H 0) w φ' (H ss.length) w'->a'.defers=a.defers->Q .normal a' w'):(Code.region id ops true).wpIn (FW l0) n0 P Q a w:=by
 have st:=ZU hs hd;obtain⟨r1,x1⟩:=hr.world (w':={w with drawn:=w.drawn+1}) rfl rfl rfl rfl;refine wpIn_region_any hm ?_
 have MA:∀i,¬SS (Array.replicate ops.size false) i:=λi h=>by unfold SS at h;rw[Array.getD_eq_getD_getElem?,Array.getElem?_replicate] at h;split at h<;>cases h
 have D0:DI ops ss F H φ {w with drawn:=w.drawn+1} a.defers (Array.replicate ops.size false) φ (λ_=>default) (F 0) 0 a {w with drawn:=w.drawn+1}:=by
  refine⟨by simp[st.len],λj o _ h=>absurd h (MA j),Nat.zero_le _,λi s h=>by omega,λi s _ _ _ h=>absurd h (MA i),r1,hf.ext x1,.refl _ _ _,rfl,λi s d _ _ h=>absurd h (MA i),λ_ _ _ _ _ _=>rfl,λ_ _=>rfl,
   λi s _ _ _ h=>absurd h (MA i),λi j s r _ _ _ _ _ _ h=>absurd h (MA i),λy hy=>.inl hy,λy hy=>⟨hy,rfl⟩,rfl⟩
 obtain⟨φ1,cu1,k1,D1,kx⟩:=D0.advance T st ss.length (by omega);refine aai hC (hG.ext x1) T st (λφ' a' w' f1 r2 e1 d1=>hQ φ' a' w' f1 r2 (x1.trans e1) d1) ops.size _ φ1 _ cu1 k1 a _ D1 kx ?_;unfold unl;have:=List.countP_le_length (p:=λi=>!(Array.replicate ops.size false).getD i false) (l:=List.range ss.length);rw[List.length_range,st.len] at this;rw[st.len];exact this
end
section
variable {P:Program}{C:Nat->List AV->af->Option (AV×af)}
def P3(l0:Option Nat)(n0:Nat)(P:Program)(X:World->Prop)(C:Nat->List AV->af->Option (AV×af))(n:Nat)(ac:cw)(c:Code):Prop:=
 ∀⦃φ:eh⦄ ⦃h h':af⦄ ⦃w:World⦄ ⦃fr dT:List AV⦄ ⦃a:Act⦄ ⦃ex:Ex⦄,aF C n ac fr h=some (ex,dT,h')->FR φ h w fr a.tmps->HR φ h w->je P X φ h w->∀⦃Q:Exit->Act->World->Prop⦄,
   (∀φ' a' w',FR φ' h' w' dT a'.tmps->HR φ' h' w'->Ext φ h w φ' h' w'->a'.defers=a.defers->Q (ad3 ex) a' w')->c.wpIn (FW l0) n0 P Q a w
theorem Lr(B1:ph C){n:Nat}{ac:cw}{c:Code}{live:List Bool}(hb:P3 l0 n0 P X C n ac c){φe:eh}{he:af}{we:World}(yd:HR φe he we)(hG:je P X φe he we):
 ∀(m:Nat) {φ:eh} {h h':af} {w:World} {fr dT:List AV} {a:Act} {ex:Ex},wN (aF C n ac) live he.next m fr h=some (ex,dT,h')->
 FR φ h w fr a.tmps->HR φ h w->Ext φe he we φ h w->CW he h->∀{Q:Exit->Act->World->Prop},
 (∀φ' a' w',FR φ' h' w' dT a'.tmps->HR φ' h' w'->Ext φe he we φ' h' w'->a'.defers=a.defers->Q (ad3 ex) a' w')->Code.roundsIn (FW l0) n0 P c Q m a w
 |0,φ,h,h',w,fr,dT,a,ex,tO,hf,hr,hx,hc,Q,hQ=>by simp[wN] at tO
 |m+1,φ,h,h',w,fr,dT,a,ex,tO,hf,hr,hx,hc,Q,hQ=>by
   rw[roundsIn_succ];simp only[wN] at tO;obtain⟨φ0,r0,f0,x0⟩:=aa2 hr (Ep (live:=live) hf) hx yd (hc yd.wf).1;have c0:=W9 (fr:=clear live fr) hc;split at tO
   .rename_i x7 h1 h2;refine hb h2 f0 r0 (hG.ext x0) λφ1 a1 w1 f1 r1 e1 d1=>?_
    exact Lr B1 hb yd hG m tO f1 r1 (x0.trans e1) (c0.trans (zj B1 h2)) λφ2 a2 w2 f2 r2 e2 d2=>hQ φ2 a2 w2 f2 r2 e2 (d2.trans d1)
   .rename_i fB;refine hb tO f0 r0 (hG.ext x0) λφ1 a1 w1 f1 r1 e1 d1=>?_
    have:=hQ φ1 a1 w1 f1 r1 (x0.trans e1) d1
    cases ex with
    |normal=>exact (fB _ _ tO).elim
    |exit id=>exact this
    |ret=>exact this
theorem hZ(hC:qy P X C)(B1:ph C)(hm:P.follows .mixedOrders=true)(n:Nat):∀(c:Code) (ac:cw),dD P c=some ac.strip->P3 l0 n0 P X C n ac c
 |.skip,ac,hc=>by simp only[dD,Option.some.injEq] at hc;cases ac<;>simp[cw.strip] at hc;intro φ h h' w fr dT a ex he hf hr hG Q hQ;simp only[aF,Option.some.injEq,Prod.mk.injEq] at he;obtain⟨rfl,rfl,rfl⟩:=he;exact wpIn_skip (hQ φ a w hf hr (.refl _ _ _) rfl)
 |.exit id,ac,hc=>by simp only[dD,Option.some.injEq] at hc;cases ac<;>simp[cw.strip] at hc;subst hc;intro φ h h' w fr dT a ex he hf hr hG Q hQ;simp only[aF,Option.some.injEq,Prod.mk.injEq] at he;obtain⟨rfl,rfl,rfl⟩:=he;exact wpIn_exit (hQ φ a w (Ep hf) hr (.refl _ _ _) rfl)
 |.ret,ac,hc=>by simp only[dD,Option.some.injEq] at hc;cases ac<;>simp[cw.strip] at hc;intro φ h h' w fr dT a ex he hf hr hG Q hQ;simp only[aF,Option.some.injEq,Prod.mk.injEq] at he;obtain⟨rfl,rfl,rfl⟩:=he;exact wpIn_ret (hQ φ a w (Ep hf) hr (.refl _ _ _) rfl)
 |.region id ops draw,ac,hc=>by
   simp only[dD] at hc;split at hc
   .rename_i as1 has;split at hc
    .rename_i hd;subst hd;split at hc
     .rename_i cK;simp only[Option.some.injEq] at hc;intro φ h h' w fr dT a ex he hf hr hG Q hQ;unfold Wx at hc;split at hc
      .rename_i hp;cases ac<;>simp[cw.strip] at hc;subst hc;simp only[aF,Option.map_eq_some_iff] at he;obtain⟨⟨x7,h1⟩,he,e⟩:=he;cases e;obtain⟨F,H,rfl,rfl,rfl,rfl,qS⟩:=HA he;exact C7 hC hm has cK (Tr.of_steps qS hp) hf hr hG hQ
      .cases ac<;>simp[cw.strip] at hc;obtain⟨rfl,rfl⟩:=hc;simp only[aF] at he;split at he
       .rename_i x7 h1 tr htr;split at he
        .rename_i akV;cases he;obtain⟨F,H,rfl,rfl,rfl,rfl,qS⟩:=T6 htr;exact C7 hC hm has cK (Tr.agP B1 qS hr.wf akV) hf hr hG hQ
        .cases he
       .cases he
     .simp only[Option.some.injEq] at hc;intro φ h h' w fr dT a ex he;exact (pf hc he).elim
    .rename_i hd;have hd':draw=false:=by simpa using hd
     subst hd';simp only[Option.some.injEq] at hc;cases ac<;>simp[cw.strip] at hc;subst hc;intro φ h h' w fr dT a ex he hf hr hG Q hQ;simp only[aF,Option.map_eq_some_iff] at he;obtain⟨⟨x7,h1⟩,he,e⟩:=he;cases e;exact wpIn_region_list (Gb hC has he hf hr hG hQ)
   .simp only[Option.some.injEq] at hc;intro φ h h' w fr dT a ex he;exact (pf hc he).elim
 |.seq x y,ac,hc=>by
   simp only[dD] at hc;split at hc
   .rename_i x' y' hx hy;simp only[Option.some.injEq] at hc;cases ac<;>simp[cw.strip] at hc;rename_i p q;obtain⟨rfl,rfl⟩:=hc;have ihx:=hZ hC B1 hm n x p hx;have ihy:=hZ hC B1 hm n y q hy;intro φ h h' w fr dT a ex he hf hr hG Q hQ;refine wpIn_seq ?_;simp only[aF] at he;split at he
    .rename_i x7 h1 h2;refine ihx h2 hf hr hG λφ1 a1 w1 f1 r1 e1 d1=>?_
     exact ihy he f1 r1 (hG.ext e1) λφ2 a2 w2 f2 r2 e2 d2=>hQ φ2 a2 w2 f2 r2 (e1.trans e2) (d2.trans d1)
    .rename_i fB;refine ihx he hf hr hG λφ1 a1 w1 f1 r1 e1 d1=>?_
     have:=hQ φ1 a1 w1 f1 r1 e1 d1
     cases ex with
     |normal=>exact (fB _ _ he).elim
     |exit id=>exact this
     |ret=>exact this
   .cases hc
 |.cond c x y,ac,hc=>by
   simp only[dD] at hc;split at hc
   .rename_i c' x' y' h1 hx hy;simp only[Option.some.injEq] at hc;cases ac<;>simp[cw.strip] at hc;rename_i c2 p q;obtain⟨rfl,rfl,rfl⟩:=hc;have ihx:=hZ hC B1 hm n x p hx;have ihy:=hZ hC B1 hm n y q hy;intro φ h h' w fr dT a ex he hf hr hG Q hQ;simp only[aF] at he;split at he
    .rename_i t ht;have g:=cd h1 hf;rw[ht] at g;refine wpIn_cond g.iI ?_
     cases t with
     |true=>simp only[if_true] at he|-;exact ihx he hf hr hG hQ
     |false=>simp only[Bool.false_eq_true,if_false] at he|-;exact ihy he hf hr hG hQ
    .cases he
   .cases hc
 |.block id x,ac,hc=>by
   simp only[dD,Option.map_eq_some_iff] at hc;obtain⟨x',hx,hc⟩:=hc;cases ac<;>simp[cw.strip] at hc;rename_i XI p;obtain⟨rfl,rfl⟩:=hc;have ihx:=hZ hC B1 hm n x p hx;intro φ h h' w fr dT a ex he hf hr hG Q hQ;refine wpIn_block ?_;simp only[aF] at he;split at he
   .rename_i i x7 h1 h2;cases he;refine ihx h2 hf hr hG λφ1 a1 w1 f1 r1 e1 d1=>?_
    have:=hQ φ1 a1 w1 f1 r1 e1 d1;show Exit.inBlock id Q (.exit i) a1 w1;unfold Exit.inBlock;dsimp only;by_cases hi:i=id
    .rw[if_pos hi] at this|-;exact this
    .rw[if_neg hi] at this|-;exact this
   .rename_i fB;refine ihx he hf hr hG λφ1 a1 w1 f1 r1 e1 d1=>?_
    have:=hQ φ1 a1 w1 f1 r1 e1 d1
    cases ex with
    |normal=>exact this
    |exit i=>exact (fB _ _ _ he).elim
    |ret=>exact this
 |.loop x,ac,hc=>by
   simp only[dD,Option.map_eq_some_iff] at hc;obtain⟨x',hx,hc⟩:=hc;cases ac<;>simp[cw.strip] at hc;rename_i live p;subst hc;have ihx:=hZ hC B1 hm n x p hx;intro φ h h' w fr dT a ex he hf hr hG Q hQ;simp only[aF] at he;obtain⟨⟨ex1,x7,h1⟩,h2,e⟩:=Option.map_eq_some_iff.1 he;cases e;obtain⟨s1,s2⟩:=hr.w5 h.next h.md
   have hcw:=IS (he:={h with wl:=h.next}) (λfr h ex dT h' he=>zj B1 he) h2 (.refl _);refine wpIn_loop_rounds n (Lr B1 ihx (he:={h with wl:=h.next}) s1 (hG.ext s2) n h2 (hf.ext s2) s1 (.refl _ _ _) (.refl _) λφ1 a1 w1 f1 r1 e1 d1=>?_);obtain⟨φ2,r2,f2,e2⟩:=aa2 r1 f1 e1 s1 (hcw s1.wf).1;obtain⟨t1,t2⟩:=r2.w5 (min h.wl (gc h.next x7 h1).2.wl) (gc h.next x7 h1).2.md;exact hQ φ2 a1 w1 (f2.ext t2) t1 ((s2.trans e2).trans t2) d1
 |.rangeFunc ..,ac,hc=>by simp only[dD,Option.some.injEq] at hc;intro φ h h' w fr dT a ex he;exact (pf hc he).elim
 |.scope ..,ac,hc=>by simp only[dD,Option.some.injEq] at hc;intro φ h h' w fr dT a ex he;exact (pf hc he).elim
 |.label ..,ac,hc=>by simp only[dD,Option.some.injEq] at hc;intro φ h h' w fr dT a ex he;exact (pf hc he).elim
 |.goto ..,ac,hc=>by simp only[dD,Option.some.injEq] at hc;intro φ h h' w fr dT a ex he;exact (pf hc he).elim
 |.refuse ..,ac,hc=>by simp only[dD,Option.some.injEq] at hc;intro φ h h' w fr dT a ex he;exact (pf hc he).elim
theorem Vg(hC:qy P X C)(B1:ph C)(hm:P.follows .mixedOrders=true)(n:Nat)(c:Code)(ac:cw)(h:dD P c=some ac.strip):abC P X C n ac c:=λ_ _ _ _ _ _ _ _ he hf hr hG _ hQ=>wpIn_wide.1 (hZ (l0:=none) (n0:=0) hC B1 hm n c ac h he hf hr hG hQ)
end
end
section
variable {X:World->Prop}
def cZ(P:Program)(f:Nat)(F:cN):Prop:=∃fn c,P.funcs[f]? =some fn/\(fn.name== "runtime.NumGoroutine")=false/\fn.body=some c/\fn.ntmps=F.ntmps/\dD P c=some F.code.strip/\eL (vM P) fn.results.toList=some F.results
theorem cZ.of{P:Program}{f:Nat}{F:cN}{fn:Func}{c:Code}(h:P.funcs[f]? =some fn)(hb:fn.body=some c)(e:(fn.name== "runtime.NumGoroutine",fn.ntmps,dD P c,eL (vM P) fn.results.toList)=(false,F.ntmps,some F.code.strip,some F.results)):cZ P f F:=by simp only[Prod.mk.injEq] at e;exact⟨fn,c,h,e.1,hb,e.2.1,e.2.2.1,e.2.2.2⟩
def adi(w w':World):Prop:=∀b,b<w.heap.size->w'.heap[b]? =w.heap[b]?
def vi(φ:eh)(h:af)(w:World)(v:AV)(cv:Value)(w':World):Prop:=eZ φ h w' v cv/\HR φ h w'/\Ext φ h w φ h w'/\adi w w'
def gY(P:Program)(X:World->Prop)(f:Nat)(args:List AV)(v:AV):Prop:=∀φ h w aU,HR φ h w->je P X φ h w->lu φ h w args aU->
    ((callFunc f aU).run P w=.ok (.enter f aU) w/\Calls P f aU w λe w'=>∃cv,e=.returned cv/\vi φ h w v cv w')\/
    ∃cv w',(callFunc f aU).run P w=.ok (.value cv) w'/\vi φ h w v cv w'
abbrev TW(P:Program)(f:Nat)(args:List AV)(v:AV):Prop:=gY P (λ_=>True) f args v
def ck(P:Program)(X:World->Prop)(f:Nat)(args:List AV)(os:List aS)(v:AV)(r:Option (List aS)):Prop:=
 ∀φ h w τ aU,HR φ h w->je P X φ h w->FU h (λi=>τ.getD i 0) os->τ.length=os.length->(∀o∈os,∀_:o=.dead,False)->lu φ h w (args.map (sig λi=>τ.getD i 0)) aU->
   ((callFunc f aU).run P w=.ok (.enter f aU) w/\Calls P f aU w (lf φ h w v (mV h τ r)))\/
   ∃cv w' φ',(callFunc f aU).run P w=.ok (.value cv) w'/\eZ φ' (mV h τ r) w' v cv/\HR φ' (mV h τ r) w'/\Ext φ h w φ' (mV h τ r) w'
structure bY(P:Program)(X:World->Prop)(E:Env):Prop where
 mixed:P.follows .mixedOrders=true
 fn:∀f F,E.fn f=some F->cZ P f F
 FC:∀f args v,E.FC f args=some v->gY P X f args v
 It:∀f args os v r,E.It f args os=some (v,r)->ck P X f args os v r
theorem H2{φ:eh}{h:af}{w w':World}(hr:HR φ h w)(ho:w'.os=w.os)(ht:w'.tape=w.tape)(hu:w'.output=w.output)(hs:w.heap.size<=w'.heap.size)(Fq:adi w w'):HR φ h w'/\Ext φ h w φ h w':=by
 have x:Ext φ h w φ h w':=⟨ho,ht,hu,hs,Nat.le_refl _,λ_ _=>rfl,λb hb=>⟨⟨Nat.lt_of_lt_of_le hb.1 hs,hb.2⟩,Fq b hb.1⟩,rfl,λb hb=>Fq b (hr.gh b hb).1⟩
 exact⟨⟨hr.wf,λi cs hi=>(hr.rows i cs hi).ext x (af.dO hi) (Fq _ (hr.ft ⟨_,hi,λe=>by cases e⟩)),
  λi es hi=>(hr.maps i es hi).ext x (af.dO hi) (Fq _ (hr.ft ⟨_,hi,λe=>by cases e⟩)),hr.inj,λb hb=>⟨Nat.lt_of_lt_of_le (hr.gh b hb).1 hs,(hr.gh b hb).2⟩⟩,x⟩
theorem DM{φ φ':eh}{nx OX:Nat}{pr An:Nat->Prop}{w w':World}{v:AV}{cv:Value}(hs:rR v=true)(h:RV φ nx pr w v cv):RV φ' OX An w' v cv:=by
 cases h<;>first|cases hs|skip
 .exact .bool _
 .exact .int _ _
 .exact .str _
 .exact .mO
 .exact .aD _
 .exact .jV
 .exact .iU
 .exact .mM
theorem Z4{φ φ':eh}{nx OX:Nat}{pr An:Nat->Prop}{w w':World}{v:AV}{cv:Value}(hs:rz v=true)(h:RV φ nx pr w v cv):RV φ' OX An w' v cv:=by
 cases v with
 |tuple vs=>obtain⟨eW,rfl,h1,h2⟩:=h.vX;exact .tuple _ _ h1 λj hj=>DM (List.all_eq_true.1 hs _ (List.getElem_mem hj)) (h2 j hj)
 |agg vs=>obtain⟨eW,rfl,h1,h2,h3⟩:=h.pH;exact .agg _ _ h1 h2 λj hj=>DM (List.all_eq_true.1 hs _ (List.getElem_mem hj)) (h3 j hj)
 |_=>exact DM hs h
theorem Y6(eB:List Nat):∀h:af,CL h (kill h eB):=by
 induction eB with
 |nil=>exact λh=>.refl _
 |cons i r ih=>exact λh=>(CL.kill h i).trans (ih _)
section
variable {P:Program}{φ:eh}{h:af}{w:World}
def KL(tm:Array Value):ResultVar->Sem Value
 |.tmp t=>Pure.pure (tm.getD t undef)
 |.cell a t=>do loadVar t (<-asAddr (tm.getD a undef))
theorem xU(fn:Func)(tm:Array Value):results fn tm=(fn.results.mapM (KL tm) >>=λvs=>Pure.pure (if h:vs.size=1 then vs[0] else .tuple vs)):=by unfold results;congr 1
theorem No{fr:List AV}{tm:Array Value}(hf:FR φ h w fr tm)(hr:HR φ h w):∀(rs:List ResultVar) (rs':List Lq) (vs:List AV),eL (vM P) rs=some rs'->iR fr h rs'=some vs->
 ∃eW:List Value,(rs.mapM (KL tm)).run P w=.ok eW w/\eW.length=vs.length/\∀j (h1:j<vs.length) (h2:j<eW.length),eZ φ h w vs[j] eW[j]
 |[],rs',vs,hc,he=>by simp only[eL,Option.some.injEq] at hc;subst hc;simp only[iR,Option.some.injEq] at he;subst he;exact⟨[],by simp,rfl,λj h1=>by simp at h1⟩
 |r::rs,rs',vs,hc,he=>by
   unfold eL at hc;split at hc
   .rename_i r' akY h1 h2;cases hc;simp only[iR] at he;split at he
    .rename_i v vs' h3 h4;cases he;obtain⟨eW,g1,g2,g3⟩:=No hf hr rs akY vs' h2 h4
     have key:∃cv,(KL tm r).run P w=.ok cv w/\eZ φ h w v cv:=by
      cases r with
      |tmp t=>simp only[vM,Option.some.injEq] at h1;subst h1;simp only[wC,Option.some.injEq] at h3;subst h3;exact⟨_,by simp[KL],hf.2 t⟩
      |cell a t=>simp only[vM,Option.map_eq_some_iff] at h1;obtain⟨n,hn,rfl⟩:=h1;simp only[wC] at h3;obtain⟨ad,cv,e1,e2,e3⟩:=TY hn (hf.2 a) hr h3;exact⟨cv,by simp[KL,e1,asAddr,e2],e3⟩
     obtain⟨cv,k1,k2⟩:=key;refine⟨cv::eW,?_,by simp[g2],λj j1 j2=>?_⟩
     .rw[List.mapM_cons];simp only[Sem.run_bind,k1,Result.andThen_ok,g1,Sem.run_pure]
     .cases j with
      |zero=>exact k2
      |succ j=>exact g3 j (Nat.lt_of_succ_lt_succ j1) (Nat.lt_of_succ_lt_succ j2)
    .cases he
   .cases hc
end
theorem G4{h0 h:af}(eR:CL {h0 with wl:=h0.next,md:=h0.next} h){gp:Bool}{v:AV}:CL h0 (finish gp h0 v h).2:=by
 have plain:CL h0 {h with wl:=min h0.wl h.wl,md:=min h0.md h.md}:=⟨eR.next,Nat.min_le_left _ _,λn hn hw k id bZ=>by have:=eR.le n hn (by dsimp only at hw;omega) (λi hi=>k i hi) id bZ;exact this,Nat.min_le_left _ _,λid h1 h2=>eR.same id (by dsimp only at h1;omega) h2⟩
 unfold finish
 cases gp with
 |true=>simpa using plain
 |false=>
   simp only[Bool.false_eq_true,if_false];split
   .exact plain
   .rename_i v' eB QQ;split
    .rename_i hc;have CZ:min h.next h0.next=h0.next:=Nat.min_eq_right eR.next
     refine⟨?_,Nat.le_refl _,λn hn hw k id bZ=>?_,?_,λid h1 h2=>?_⟩
     .show h0.next<=min h.next h0.next
      omega
     .have hn':n<=h0.next:=hn
      have:=eR.le n hn (by omega) (λi hi=>k i hi) id bZ;unfold oZ at this|-;have e:({h.jT h0.next with wl:=h0.wl,md:=(if h.md<h0.next then min h0.md h.md else h0.md)}:af).get id=h.get id:=af.rH (by omega);rw[e];exact this
     .dsimp only;split<;>omega
     .have e:({h.jT h0.next with wl:=h0.wl,md:=(if h.md<h0.next then min h0.md h.md else h0.md)}:af).get id=h.get id:=af.rH h2;rw[e];refine eR.same id ?_ h2;dsimp only at h1;split at h1<;>omega
    .have hnk:∀(eB:List Nat) (h:af),(kill h eB).wl=h.wl/\CL h (kill h eB):=by
      intro eB
      induction eB with
      |nil=>exact λh=>⟨rfl,.refl _⟩
      |cons i r ih=>intro h;obtain⟨a1,a2⟩:=ih (h.set i .dead);exact⟨by simp only[kill];rw[a1];simp,(CL.kill h i).trans a2⟩
     have hko:∀(eB:List Nat) (h:af) (i:Nat),i∉eB->(kill h eB).get i=h.get i:=by
      intro eB
      induction eB with
      |nil=>exact λh i _=>rfl
      |cons j r ih=>intro h i hi;simp only[List.mem_cons,not_or] at hi;simp only[kill];rw[ih _ i hi.2,af.get_set_other (Ne.symm hi.1)]
     obtain⟨n1,n2⟩:=hnk eB h;have Ji:=eR.trans n2;refine⟨Ji.next,Nat.min_le_left _ _,λn hn hw k id bZ=>?_,Nat.min_le_left _ _,λid h1 h2=>?_⟩
     .have:=Ji.le n hn (by rw[n1];dsimp only at hw;omega) (λi hi=>k i hi) id bZ;exact this
     .have tP:=wa 8 v v' eB QQ;have e:(kill h eB).get id=h.get id:=hko eB h id λhm=>by have:=(tP id hm).1;omega
      show (kill h eB).get id=h0.get id;rw[e];exact eR.same id (by dsimp only at h1;omega) h2
theorem IY:∀(eB:List Nat) {h:af},h.wf->(kill h eB).wf
 |[],_,hw=>hw
 |i::r,_,hw=>IY r (af.wf_set i .dead hw)
theorem GS{h0 h:af}{gp:Bool}{v:AV}(hw:h.wf):(finish gp h0 v h).2.wf:=by
 unfold finish
 cases gp with
 |true=>exact hw
 |false=>
   simp only[Bool.false_eq_true,if_false];split
   .exact hw
   .split
    .exact af.JK _ hw
    .exact IY _ hw
theorem uY:∀{τ:List Nat} {id:Nat},xh τ id=true↔id∈τ
 |[],id=>by simp[xh]
 |k::r,id=>by
   unfold xh;by_cases e:k=id
   .rw[if_pos e];simp[e]
   .rw[if_neg e,uY];simp[Ne.symm e]
theorem Cv:∀{τ:List Nat} {id:Nat},id∈τ->xd τ id<τ.length/\τ.getD (xd τ id) 0=id
 |k::r,id,h=>by
   unfold xd;by_cases e:k=id
   .rw[if_pos e];simp[e]
   .rw[if_neg e]
    have h':id∈r:=by
     rcases List.mem_cons.1 h with h|h
     .exact absurd h.symm e
     .exact h
    obtain⟨a,b⟩:=Cv h';exact⟨by simp;omega,by simpa[List.getD] using b⟩
theorem wk:∀(cs:List AV) (aJ:List Nat),aJ.Nodup->(gF cs aJ).Nodup/\∃r,gF cs aJ=aJ++r
 |[],aJ,h=>⟨h,[],by simp[gF]⟩
 |v::cs,aJ,h=>by
   unfold gF
   cases hv:v.top with
   |none=>exact wk cs aJ h
   |some j=>
     dsimp only;split
     .exact wk cs aJ h
     .rename_i hn;have hj:j∉aJ:=λhm=>hn (uY.2 hm)
      have h2:(aJ++[j]).Nodup:=by rw[List.nodup_append];refine⟨h,by simp,λa ha b hb e=>?_⟩;simp at hb;exact hj (hb▸e▸ha)
      obtain⟨a,r,e⟩:=wk cs (aJ++[j]) h2;exact⟨a,j::r,by rw[e];simp⟩
theorem wb{τ:List Nat}{v:AV}(h:okV τ v=true):sig (λi=>τ.getD i 0) (sig (xd τ) v)=v/\db τ.length (sig (xd τ) v)=true:=by
 unfold okV at h
 cases v with
 |ptr id off=>obtain⟨a,b⟩:=Cv (uY.1 h);exact⟨by simp only[sig,b],by simpa[sig,db] using a⟩
 |vec id off len sz lb=>obtain⟨a,b⟩:=Cv (uY.1 h);exact⟨by simp only[sig,b],by simpa[sig,db] using a⟩
 |map id=>obtain⟨a,b⟩:=Cv (uY.1 h);exact⟨by simp only[sig,b],by simpa[sig,db] using a⟩
 |_=>exact⟨rfl,h⟩
theorem Pn{τ:List Nat}{o:aS}(h:okO τ o=true):gu (λi=>τ.getD i 0) (gu (xd τ) o)=o/\Cg τ.length (gu (xd τ) o)=true/\∀_:gu (xd τ) o=.dead,False:=by
 cases o with
 |dead=>cases h
 |row cs=>
   have hc:∀v∈cs,okV τ v=true:=List.all_eq_true.1 h;refine⟨?_,?_,λe=>by cases e⟩
   .simp only[gu,List.map_map];congr 1;conv=>rhs;rw[<-List.map_id cs]
    exact List.map_congr_left λv hv=>(wb (hc v hv)).1
   .simp only[gu,Cg,List.all_map];exact List.all_eq_true.2 λv hv=>(wb (hc v hv)).2
 |map es=>
   have hc:∀e∈es,(okV τ e.1&&okV τ e.2)=true:=List.all_eq_true.1 h;refine⟨?_,?_,λe=>by cases e⟩
   .simp only[gu,List.map_map];congr 1;conv=>rhs;rw[<-List.map_id es]
    refine List.map_congr_left λe he=>?_
    have:=hc e he;rw[Bool.and_eq_true] at this;show (sig _ (sig _ e.1),sig _ (sig _ e.2))=e;rw[(wb this.1).1,(wb this.2).1]
   .simp only[gu,Cg,List.all_map];refine List.all_eq_true.2 λe he=>?_
    have:=hc e he;rw[Bool.and_eq_true] at this;show (db _ (sig _ e.1)&&db _ (sig _ e.2))=true;rw[(wb this.1).2,(wb this.2).2];rfl
theorem ES{h:af}{τ:List Nat}:∀{ks:List Nat} {os:List aS},tV h τ ks=some os->os.length=ks.length/\∀(i:Nat) (o:aS),os[i]? =some o->∃id o0,ks[i]? =some id/\h.get id=some o0/\okO τ o0=true/\o=gu (xd τ) o0
 |[],os,h1=>by simp only[tV,Option.some.injEq] at h1;subst h1;exact⟨rfl,λi o ho=>by simp at ho⟩
 |k::ks,os,h1=>by
   simp only[tV] at h1;split at h1
   .rename_i o0 os0 h2 h3;split at h1
    .rename_i cK;cases h1;obtain⟨a,b⟩:=ES h3;refine⟨by simp[a],λi o ho=>?_⟩
     cases i with
     |zero=>simp only[List.getElem?_cons_zero,Option.some.injEq] at ho;exact⟨k,o0,rfl,h2,cK,ho.symm⟩
     |succ i=>exact b i o (by simpa using ho)
    .cases h1
   .cases h1
theorem Hx{g:Nat->Nat}{v:AV}(h:v.aK=0):sig g v=v:=by
 cases v with
 |ptr id off=>simp[AV.aK] at h
 |vec id off len sz lb=>simp[AV.aK] at h
 |map id=>simp[AV.aK] at h
 |_=>rfl
theorem Z8(h:af)(k:Nat)(o:aS):CL h (AK h k o):=by
 refine⟨by rw[GO];exact Nat.le_refl _,?_,λn hn hw hk id bZ=>?_,af.wj h k o,λid h1 _=>af.sr h k o id h1⟩
 .show (if o.aK<=k+1 then h.wl else min h.wl k)<=h.wl;split
  .exact Nat.le_refl _
  .exact Nat.min_le_left _ _
 .have hw':n<=(if o.aK<=k+1 then h.wl else min h.wl k):=hw;by_cases e:id=k
  .subst e
   have hr:o.aK<=id+1:=by
    by_cases hc:o.aK<=id+1
    .exact hc
    .rw[if_neg hc] at hw';have:=Nat.le_trans hw' (Nat.min_le_right _ _);omega
   cases hg:h.get id with
   |none=>
     have:(AK h id o).get id=none:=by
      show (h.set id o).get id=none;unfold af.set;split
      .rename_i de;unfold af.get at hg|-;simp only[de,if_true] at hg|-;rw[List.getElem?_eq_none_iff] at hg;exact List.getElem?_eq_none (by simpa using hg)
      .exact hg
     unfold oZ;rw[this];exact⟨λ_ e=>(by cases e),λ_ e=>(by cases e)⟩
   |some o'=>
     unfold oZ;rw[F7 h id o hg];refine⟨λcs e=>?_,λes e p hp=>?_⟩
     .cases e;have:AV.aj cs<=id+1:=hr;omega
     .cases e;have h3:AV.aj (es.flatMap λe=>[e.1,e.2])<=id+1:=hr;have m1:p.1∈es.flatMap λe=>[e.1,e.2]:=List.mem_flatMap.2 ⟨p,hp,by simp⟩
      have m2:p.2∈es.flatMap λe=>[e.1,e.2]:=List.mem_flatMap.2 ⟨p,hp,by simp⟩
      have:=AV.cM m1;have:=AV.cM m2;omega
  .have:=hk id bZ;unfold oZ at this|-;rw[xQ h k o e];exact this
theorem O9(g:Nat->Nat):∀(ks:List Nat) (os:List aS) (h:af),CL h (pz g ks os h)
 |[],_,h=>by unfold pz;exact .refl _
 |k::ks,[],h=>by unfold pz;exact .refl _
 |k::ks,o::os,h=>(Z8 h k (gu g o)).trans (O9 g ks os _)
theorem Pj(g:Nat->Nat):∀(os:List aS) (h:af),CL h (yh g os h)
 |[],h=>.refl _
 |o::os,h=>(CL.alloc h (gu g o)).trans (Pj g os _)
theorem WA(h:af)(τ:List Nat):∀r,CL h (mV h τ r)
 |none=>.refl _
 |some mW=>(O9 _ _ _ h).trans (Pj _ _ _)
theorem Xg{h:af}(hw:h.wf)(τ:List Nat):∀r,(mV h τ r).wf
 |none=>hw
 |some mW=>PG hw
theorem Gq{M:List AV->List aS->Option (AV×Option (List aS))}{args:List AV}{h h':af}{v:AV}(he:pd M args h=some (v,h')):
 ∃k rest cs os r,args=.ptr k 0::rest/\h.get k=some (.row cs)/\tV h (gF cs [k]) (gF cs [k])=some os/\AV.aj rest=0/\M (.ptr 0 0::rest) os=some (v,r)/\h'=mV h (gF cs [k]) r:=by
 unfold pd at he;split at he
 .rename_i k rest;split at he
  .rename_i cs hg;split at he
   .rename_i os hs;split at he
    .rename_i hr;obtain⟨⟨v',r⟩,h1,e⟩:=Option.map_eq_some_iff.1 he;cases e;exact⟨k,rest,cs,os,r,rfl,hg,hs,hr,h1,rfl⟩
    .cases he
   .cases he
  .cases he
 .cases he
theorem Xv{P:Program}{E:Env}(hE:bY P X E){f:Nat}{args:List AV}{h h':af}{v:AV}(he:pd (E.It f) args h=some (v,h')){φ:eh}{w:World}{aU:Array Value}(hr:HR φ h w)(hG:je P X φ h w)
 (ha:lu φ h w args aU):((callFunc f aU).run P w=.ok (.enter f aU) w/\Calls P f aU w (lf φ h w v h'))\/
  ∃cv w' φ',(callFunc f aU).run P w=.ok (.value cv) w'/\eZ φ' h' w' v cv/\HR φ' h' w'/\Ext φ h w φ' h' w':=by
 obtain⟨k,rest,cs,os,r,rfl,hg,hs,XN,hm,rfl⟩:=Gq he;obtain⟨hn,q,hq⟩:=wk cs [k] (by simp);obtain⟨hl,hso⟩:=ES hs;have hg0:∀i,i<(gF cs [k]).length->∀id,(gF cs [k])[i]? =some id->(gF cs [k]).getD i 0=id:=λi hi id bZ=>by simp[List.getD,bZ]
 refine hE.It f _ os v r hm φ h w (gF cs [k]) aU hr hG ⟨λi o ho xX=>?_,λi j o o' ho Fm _ _ e=>?_⟩ hl.symm (λo ho e=>?_) ?_
 .obtain⟨id,o0,a1,a2,a3,rfl⟩:=hso i o ho;obtain⟨b1,b2,_⟩:=Pn a3;refine⟨?_,by rw[hl];exact b2⟩;show h.get ((gF cs [k]).getD i 0)=_;rw[hg0 i (List.getElem?_eq_some_iff.1 a1).1 id a1,b1];exact a2
 .have hi:i<(gF cs [k]).length:=by have:=(List.getElem?_eq_some_iff.1 ho).1;omega
  have hj:j<(gF cs [k]).length:=by have:=(List.getElem?_eq_some_iff.1 Fm).1;omega
  have e':(gF cs [k])[i]=(gF cs [k])[j]:=by have e:(gF cs [k]).getD i 0=(gF cs [k]).getD j 0:=e;simpa[List.getD,hi,hj] using e
  exact (List.getElem_inj hn).1 e'
 .obtain⟨i,hi,rfl⟩:=List.getElem_of_mem ho;obtain⟨id,o0,a1,a2,a3,a4⟩:=hso i _ (List.getElem?_eq_getElem hi);rw[a4] at e;exact (Pn a3).2.2 e
 .have e0:(AV.ptr 0 0::rest).map (sig λi=>(gF cs [k]).getD i 0)=.ptr k 0::rest:=by
   rw[List.map_cons]
   have h1:sig (λi=>(gF cs [k]).getD i 0) (.ptr 0 0)=.ptr k 0:=by show AV.ptr ((gF cs [k]).getD 0 0) 0=_;rw[hq];rfl
   have h2:rest.map (sig λi=>(gF cs [k]).getD i 0)=rest:=by
    conv=>rhs;rw[<-List.map_id rest]
    exact List.map_congr_left λv hv=>Hx (by have:=AV.cM hv;omega)
   rw[h1,h2]
  rw[e0];exact ha
theorem zd{P:Program}{E:Env}(hE:bY P X E):∀n,qy P X (aH E n)/\ph (aH E n)
 |0=>⟨λf args h v h' he=>by simp[aH] at he,λf args h v h' he=>by simp[aH] at he⟩
 |n+1=>by
   obtain⟨ih1,ih2⟩:=zd hE n
   have both:∀f args h v h',aH E (n+1) f args h=some (v,h')->(∀φ w aU,HR φ h w->je P X φ h w->lu φ h w args aU->
    ((callFunc f aU).run P w=.ok (.enter f aU) w/\Calls P f aU w (lf φ h w v h'))\/
    ∃cv w' φ',(callFunc f aU).run P w=.ok (.value cv) w'/\eZ φ' h' w' v cv/\HR φ' h' w'/\Ext φ h w φ' h' w'):=by
    intro f args h v h' he φ w aU hr hG ha;simp only[aH] at he;split at he
    .rename_i r hp;cases he;obtain⟨⟨rT,eB⟩,h1,h2⟩:=Option.bind_eq_some_iff.1 hp;obtain⟨v,hpv,e⟩:=Option.map_eq_some_iff.1 h2;simp only[Prod.mk.injEq] at e;obtain⟨rfl,rfl⟩:=e;obtain⟨k1,k2⟩:=Qp eB hr;have tP:∀id∈eB,live h id:=λid bZ=>(vk (p:=λid=>0<=id/\live h id) (λv v' eB he=>wa 8 v v' eB he) args rT eB h1 id bZ).2
     have hnk:(kill h eB).next=h.next:=by
      have:∀(eB:List Nat) (h:af),(kill h eB).next=h.next:=by
       intro eB
       induction eB with
       |nil=>exact λh=>rfl
       |cons i r ih=>intro h;simp only[kill];rw[ih];simp
      exact this eB h
     obtain⟨q1,q2⟩:=z8 (φ:=φ) (nx:=h.next) (pr:=Pr φ h w) (An:=Pr φ (kill h eB) w) (w:=w) (λv cv v' O1 he hv hi=>IM hr (n0:=0) (An:=Pr φ (kill h eB) w) (λb hb=>(k2.pr b hb).1) 8 v cv v' O1 he hv hi) args rT eB (λj=>aU.getD j default) h1 ha.2
      λid bZ=>Pr.Ia (hr.ft (tP id bZ)) (λi hi e=>(by rw[hr.inj i id hi (tP id bZ) e];exact bZ)) λhg=>(hr.gh _ hg).2 id (tP id bZ) rfl
     have ha':lu φ (kill h eB) w rT aU:=⟨ha.1.trans q1.symm,λj hj=>(q2 j hj).mono (λid _ bZ=>⟨rfl,by rw[hnk];exact bZ⟩) λb hb=>⟨hb,rfl⟩⟩
     have fin:∀cv w',vi φ (kill h eB) w v cv w'->eZ φ (if rz v then h else kill h eB) w' v cv/\HR φ (if rz v then h else kill h eB) w'/\Ext φ h w φ (if rz v then h else kill h eB) w':=λcv w' ⟨g1,g2,g3,g4⟩=>by
      by_cases hs:rz v=true
      .obtain⟨s1,s2⟩:=H2 hr g3.os g3.tape g3.output g3.size g4;rw[if_pos hs];exact⟨Z4 hs g1,s1,s2⟩
      .rw[if_neg hs];exact⟨g1,g2,k2.trans g3⟩
     rcases hE.FC f rT v hpv φ (kill h eB) w aU k1 (hG.ext k2) ha' with⟨e1,e2⟩|⟨cv,w',e1,e2⟩
     .exact .inl ⟨e1,e2.mono λe w' ⟨cv,he,hp⟩=>⟨φ,cv,he,fin cv w' hp⟩⟩
     .exact .inr ⟨cv,w',φ,e1,fin cv w' e2⟩
    .split at he
     .rename_i r hm;cases he;exact Xv hE hm hr hG ha
     split at he
     .cases he
     .rename_i F hF;obtain⟨fn,c,C4,Ak,vt,hnt,ahE,Fs⟩:=hE.fn f F hF;left
      have Mz:(callFunc f aU).run P w=.ok (.enter f aU) w:=by
       have fB:¬fn.name= "runtime.NumGoroutine" :=by simpa using Ak
       simp[callFunc,C4,fB,vt]
      refine⟨Mz,?_⟩
      have aet:∃ex fr hh vs,aF (aH E n) n F.code (args++List.replicate (F.ntmps-args.length) .undef) {h with wl:=h.next,md:=h.next}=some (ex,fr,hh)/\(ex=.normal\/ex=.ret)/\iR fr hh F.results=some vs/\
       (v,h')=finish F.gp h (oneOf vs) hh:=by
       cases tO:aF (aH E n) n F.code (args++List.replicate (F.ntmps-args.length) .undef) {h with wl:=h.next,md:=h.next} with
       |none=>rw[tO] at he;cases he
       |some r=>
         obtain⟨ex,fr,hh⟩:=r;rw[tO] at he
         cases ex with
         |exit id=>cases he
         |normal=>obtain⟨vs,Fx,e⟩:=Option.map_eq_some_iff.1 he;exact⟨.normal,fr,hh,vs,rfl,.inl rfl,Fx,e.symm⟩
         |ret=>obtain⟨vs,Fx,e⟩:=Option.map_eq_some_iff.1 he;exact⟨.ret,fr,hh,vs,rfl,.inr rfl,Fx,e.symm⟩
      obtain⟨ex,fr,hh,vs,tO,hex,Fx,aeu⟩:=aet;obtain⟨s1,s2⟩:=hr.w5 h.next h.next
      have tN:FR φ {h with wl:=h.next,md:=h.next} w (args++List.replicate (F.ntmps-args.length) .undef) (aU++Array.replicate (fn.ntmps-aU.size) undef):=by
       refine⟨by simp[ha.1,hnt],λt=>?_⟩;by_cases ht:t<args.length
       .have:=(ha.2 t ht).ext s2;rw[List.getD_eq_getElem?_getD,List.getElem?_append_left ht,List.getElem?_eq_getElem ht,Option.getD_some];have ht2:t<aU.size:=by rw[ha.1];exact ht
        rw[Array.getD_eq_getD_getElem?] at this|-;rw[Array.getElem?_append_left ht2,Array.getElem?_eq_getElem ht2,Option.getD_some];rw[Array.getElem?_eq_getElem ht2,Option.getD_some] at this;exact this
       .have hu:(args++List.replicate (F.ntmps-args.length) AV.undef).getD t .undef=.undef:=by
         rw[List.getD_eq_getElem?_getD,List.getElem?_append_right (by omega),List.getElem?_replicate];split<;>rfl
        rw[hu];exact .undef _
      refine calls_of_wp C4 vt ?_;refine Vg ih1 ih2 hE.mixed n c F.code ahE tO tN s1 (hG.ext s2) λφ' a' w' f1 r1 e1 d1=>?_
      have eR:=(zj ih2 tO s1.wf).1;obtain⟨eW,g1,g2,g3⟩:=No (P:=P) f1 r1 fn.results.toList F.results vs Fs Fx
      have aaJ:∃cv,(results fn a'.tmps).run P w'=.ok cv w'/\eZ φ' hh w' (oneOf vs) cv:=by
       have hm:(fn.results.mapM (KL a'.tmps)).run P w'=.ok eW.toArray w':=by rw[Array.mapM_eq_mapM_toList];simp only[Sem.run_map,g1,Result.andThen_ok]
       refine⟨if h:eW.toArray.size=1 then eW.toArray[0] else .tuple eW.toArray,?_,?_⟩
       .rw[xU];simp only[Sem.run_bind,hm,Result.andThen_ok,Sem.run_pure]
       .match vs,eW,g2,g3 with
        |[v1],[c1],_,g3=>exact g3 0 (by simp) (by simp)
        |[],[],_,_=>exact .tuple _ _ rfl λj hj=>by simp at hj
        |v1::v2::vr,eW,g2,g3=>
          have iz:¬(eW.toArray.size=1):=by simp at g2|-;omega
          rw[dif_neg iz];refine .tuple _ _ (by simpa using g2) λj hj=>?_
          have Fw:j<eW.length:=by omega
          have:=g3 j hj Fw;simpa[Array.getD,Fw] using this
      obtain⟨cv,q1,q2⟩:=aaJ;obtain⟨t1,t2,t3⟩:=Sq (gp:=F.gp) (h0:=h) (φ0:=φ) (w0:=w) r1 (s2.trans e1) eR hr q2;rw[<-aeu] at t1 t2 t3;have post:lf φ h w v h' (.returned cv) w':=⟨φ',cv,rfl,t1,t2,t3⟩
      have hd:a'.defers=[]:=d1;rcases hex with rfl|rfl
      .exact⟨hd,cv,q1,post⟩
      .exact⟨hd,cv,q1,post⟩
   refine⟨both,λf args h v h' he Fo=>?_⟩;simp only[aH] at he;split at he
   .rename_i r hp;cases he;obtain⟨⟨rT,eB⟩,h1,h2⟩:=Option.bind_eq_some_iff.1 hp;obtain⟨v,hpv,e⟩:=Option.map_eq_some_iff.1 h2;simp only[Prod.mk.injEq] at e;obtain⟨rfl,rfl⟩:=e;by_cases hs:rz v=true
    .rw[if_pos hs];exact⟨.refl _,Fo⟩
    .rw[if_neg hs];exact⟨Y6 eB h,IY eB Fo⟩
   .split at he
    .rename_i r hm;cases he;obtain⟨k,rest,cs,os,r,rfl,hg,hs,XN,hm,rfl⟩:=Gq hm;exact⟨WA h _ r,Xg Fo _ r⟩
    split at he
    .cases he
    .rename_i F hF
     cases tO:aF (aH E n) n F.code (args++List.replicate (F.ntmps-args.length) .undef) {h with wl:=h.next,md:=h.next} with
     |none=>rw[tO] at he;cases he
     |some r=>
       obtain⟨ex,fr,hh⟩:=r;rw[tO] at he;obtain⟨eR,hw'⟩:=zj ih2 tO Fo
       cases ex with
       |exit id=>cases he
       |normal=>obtain⟨vs,Fx,e⟩:=Option.map_eq_some_iff.1 he;have:=G4 (gp:=F.gp) (v:=oneOf vs) eR;have w2:=GS (gp:=F.gp) (v:=oneOf vs) (h0:=h) hw';rw[e] at this w2;exact⟨this,w2⟩
       |ret=>obtain⟨vs,Fx,e⟩:=Option.map_eq_some_iff.1 he;have:=G4 (gp:=F.gp) (v:=oneOf vs) eR;have w2:=GS (gp:=F.gp) (v:=oneOf vs) (h0:=h) hw';rw[e] at this w2;exact⟨this,w2⟩
abbrev aba(P:Program)(E:Env):Prop:=bY P (λ_=>True) E
end
section
variable {X:World->Prop}
def C0:Nat->List AV->af->Option (AV×af):=λ_ _ _=>none
structure H7(P:Program)(f:Nat):Prop where
 mk::ok:∃(fn:Func) (r0 r2 r3:Code) (i1:Nat) (o1 o2:Oper) (t e ty:TypeId) (a0 a2 a3:cw),P.funcs[f]? =some fn/\(fn.name== "runtime.NumGoroutine")=false/\fn.body=some (.seq r0 (.seq (.seq (.region i1 #[o1,o2] false) (.cond (.tmp 4) r2 .skip)) r3))/\fn.ntmps=8/\fn.results=#[.tmp 2]/\ln P #[o1,o2] o1=some ⟨some 3,.op (.Gs (.tmp 0)),none⟩/\o2.op=.binOp .eql t (.tmp 3) (.const (.slice none 0 0)) ty/\o2.dst=some 4/\o2.guard=none/\P.underlying t=some (.slice e)/\dD P r0=some a0.strip/\dD P r2=some a2.strip/\dD P r3=some a3.strip/\(∀v h,aF C0 1 a0 [v,.undef,.undef,.undef,.undef,.undef,.undef,.undef] h=some (.normal,[v,.undef,.aD,.undef,.undef,.undef,.undef,.undef],h))/\(∀v h,aF C0 1 a2 [v,.undef,.aD,v,.bool true,.undef,.undef,.undef] h=some (.ret,[v,.undef,.aD,v,.bool true,.undef,.undef,.undef],h))/\(∀v,v=.aD\/v=.sl []->∀h,aF C0 1 a3 [v,.undef,.aD,v,.bool false,.undef,.undef,.undef] h=some (.ret,[v,.undef,.aD,v,.bool false,.aD,v,.aD],h))
theorem MZ{P:Program}(hm:P.follows .mixedOrders=true){f:Nat}(hc:H7 P f){v:AV}(hv:v=.aD\/v=.sl []){φ:eh}{h:af}{w:World}{aU:Array Value}(hr:HR φ h w)(hG:je P X φ h w)(ha:lu φ h w [v] aU):
 (callFunc f aU).run P w=.ok (.enter f aU) w/\Calls P f aU w (lf φ h w .aD h):=by
 obtain⟨fn,r0,r2,r3,i1,o1,o2,t,e,ty,a0,a2,a3,C4,Ak,vt,hnt,Fs,hs1,ee,hd2,hg2,ht,c0,c2,c3,e0,e2,e3⟩:=hc.ok;have hC:qy P X C0:=λf args h v h' he=>by cases he
 have B1:ph C0:=λf args h v h' he=>by cases he
 have Mz:(callFunc f aU).run P w=.ok (.enter f aU) w:=by
  have fB:¬fn.name= "runtime.NumGoroutine" :=by simpa using Ak
  simp[callFunc,C4,fB,vt]
 refine⟨Mz,?_⟩;have kJ:aU.size=1:=ha.1;have hv0:eZ φ h w v (aU.getD 0 default):=ha.2 0 (by simp)
 have tN:FR φ h w [v,.undef,.undef,.undef,.undef,.undef,.undef,.undef] (aU++Array.replicate (fn.ntmps-aU.size) undef):=by
  refine⟨by simp[kJ,hnt],λt=>?_⟩
  cases t with
  |zero=>rw[Array.getD_eq_getD_getElem?] at hv0|-;rw[Array.getElem?_append_left (by omega)];rw[Array.getElem?_eq_getElem (by omega:0<aU.size)] at hv0|-;exact hv0
  |succ t=>
    have:([v,.undef,.undef,.undef,.undef,.undef,.undef,.undef]:List AV).getD (t+1) .undef=.undef:=by
     match t with
     |0|1|2|3|4|5|6=>rfl
     |n+7=>rfl
    rw[this];exact .undef _
 refine calls_of_wp C4 vt (wpIn_wide (n:=0).1 ?_);refine wpIn_seq ?_;refine hZ (l0:=none) (n0:=0) hC B1 hm 1 r0 a0 c0 (e0 v h) tN hr hG λφ1 a1 w1 f1 r1 x1 d1=>?_
 refine wpIn_seq ?_;refine wpIn_seq ?_;refine wpIn_region_list ?_;refine wpListIn_step λK hK=>We (l0:=none) ?_
 have h1:cJ C0 ⟨some 3,.op (.Gs (.tmp 0)),none⟩ [v,.undef,.aD,.undef,.undef,.undef,.undef,.undef] h=some ([v,.undef,.aD,v,.undef,.undef,.undef,.undef],h):=rfl;refine uL (l0:=none) (n0:=0) hC hs1 h1 f1 r1 (hG.ext x1) λφ2 cv w2 f2 r2' x2=>hK _ _ ?_
 refine wpListIn_step λK2 hK2=>?_
 have hw:Region.wanted o2 (yielded #[o1,o2] (a1.put o1.dst cv).tmps)=true:=by simp[Region.wanted,hg2]
 rw[if_pos hw];have x12:=x1.trans x2
 -- what is tested
 have hx:∃ad n c,(a1.put o1.dst cv).eval (.tmp 3)=.slice ad n c:=by
  have q:=cd (x:=.tmp 3) (x':=.tmp 3) rfl f2;have q':eZ φ2 h w2 v ((a1.put o1.dst cv).eval (.tmp 3)):=q;rcases hv with rfl|rfl
  .obtain⟨ad,e⟩:=q'.mE;exact⟨ad,0,0,e⟩
  .rcases q'.sB with⟨ad,c,_,e⟩|⟨b,o',c,sz,vs,e,_⟩
   .exact⟨ad,0,c,e⟩
   .exact⟨_,_,c,e⟩
 obtain⟨ad,n,c,hx⟩:=hx;have tM:=K4 (neg:=false) ee ht hx w2;refine⟨λf _=>PB none f,?_⟩;have hs:=abE (l0:=none) (ρ:=(a1.put o1.dst cv).eval) (o:=o2) (λc h=>by rw[ee] at h;cases h);change Oper.semAt Fence.wide.round _ _=_ at hs;rw[hs,tM,Oper.uponIn_value];refine hK2 _ _ (wpListIn_nil ?_)
 have f3:FR φ2 h w2 [v,.undef,.aD,v,.bool ad.isNone,.undef,.undef,.undef] ((a1.put o1.dst cv).put o2.dst (.bool ad.isNone)).tmps:=by rw[hd2];exact f2.put (RV.bool _) 4
 have d3:((a1.put o1.dst cv).put o2.dst (.bool ad.isNone)).defers=[]:=by rw[put_defers,put_defers];exact d1
 have fin:∀(fr:List AV) (φ':eh) (a':Act) (w':World),fr.getD 2 .undef=.aD->FR φ' h w' fr a'.tmps->HR φ' h w'->Ext φ h w φ' h w'->a'.defers=[]->
  a'.defers=[]/\∃v,(results fn a'.tmps).run P w'=.ok v w'/\lf φ h w .aD h (.returned v) w':=λfr φ' a' w' ak1 hf' Mt OY hd'=>by
  refine⟨hd',a'.tmps.getD 2 undef,?_,φ',_,rfl,?_,Mt,OY⟩
  .rw[xU,Fs];simp[KL]
  .have:=hf'.2 2;rw[ak1] at this;exact this
 cases hn:ad.isNone with
 |true=>
   rw[hn] at f3 d3;refine wpIn_cond (RV.iI (cd (x:=.tmp 4) (x':=.tmp 4) rfl f3:eZ φ2 h w2 (.bool true) _)) ?_;refine hZ (l0:=none) (n0:=0) hC B1 hm 1 r2 a2 c2 (e2 v h) f3 r2' (hG.ext x12) λφ4 a4 w4 f4 r4 x4 d4=>?_
   exact fin _ φ4 a4 w4 rfl f4 r4 (x12.trans x4) (d4.trans d3)
 |false=>
   rw[hn] at f3 d3;refine wpIn_cond (RV.iI (cd (x:=.tmp 4) (x':=.tmp 4) rfl f3:eZ φ2 h w2 (.bool false) _)) ?_;refine wpIn_skip ?_;refine hZ (l0:=none) (n0:=0) hC B1 hm 1 r3 a3 c3 (e3 v hv h) f3 r2' (hG.ext x12) λφ4 a4 w4 f4 r4 x4 d4=>?_
   exact fin _ φ4 a4 w4 rfl f4 r4 (x12.trans x4) (d4.trans d3)
end
section
variable {X:World->Prop}
def h0:af:=⟨0,[],0,0⟩
theorem vV{P:Program}{f:Nat}{args:List AV}{v:AV}{h':af}(hv:v.aK=0)(ha:AV.aj args=0)
 (he:∀φ w aU,HR φ h0 w->je P X φ h0 w->lu φ h0 w args aU->((callFunc f aU).run P w=.ok (.enter f aU) w/\Calls P f aU w (lf φ h0 w v h'))\/
     ∃cv w' φ',(callFunc f aU).run P w=.ok (.value cv) w'/\eZ φ' h' w' v cv/\HR φ' h' w'/\Ext φ h0 w φ' h' w'):gY P X f args v:=by
 intro φ h w aU hr hG kJ
 let φ0:eh:=⟨φ.at_,λb=>φ.gh b\/∃id,live h id/\(φ id).gm=b⟩
 have nol:∀id,¬live h0 id:=λid ⟨o,hg,_⟩=>by simp[af.get,h0] at hg
 have Cd:HR φ0 h0 w:=by
  refine⟨rfl,λid cs hg=>by simp[af.get,h0] at hg,λid es hg=>by simp[af.get,h0] at hg,λi j hi=>absurd hi (nol i),λb hb=>⟨?_,λid hl=>absurd hl (nol id)⟩⟩;rcases hb with hb|⟨id,hl,rfl⟩
  .exact (hr.gh b hb).1
  .exact hr.ft hl
 have Ye:∀b,Pr φ h w b->Pr φ0 h0 w b:=λb hb=>⟨hb.1,λid hl=>absurd hl (nol id),λhc=>by
  rcases hc with hc|⟨id,hl,e⟩
  .exact hb.2.2 hc
  .exact hb.2.1 id hl e⟩
 have ha0:lu φ0 h0 w args aU:=⟨kJ.1,λj hj=>(kJ.2 j hj).mono (λid bZ _=>by have:=AV.cM (List.getElem_mem hj);omega) λb hb=>⟨Ye b hb,rfl⟩⟩
 have back:∀(φ':eh) (cv:Value) (w':World),eZ φ' h' w' v cv->Ext φ0 h0 w φ' h' w'->vi φ h w v cv w':=λφ' cv w' g1 g3=>by
  have Fq:adi w w':=λb hb=>by
   by_cases hg:φ0.gh b
   .exact g3.gh.2 b hg
   .exact (g3.pr b ⟨hb,λid hl=>absurd hl (nol id),hg⟩).2
  obtain⟨s1,s2⟩:=H2 hr g3.os g3.tape g3.output g3.size Fq;refine⟨g1.mono (λid bZ _=>by omega) λb hb=>⟨⟨hb.1,λid hl e=>?_,λhg=>?_⟩,rfl⟩,s1,s2,Fq⟩
  .exact hb.2.2 (by rw[g3.gh.1];exact .inr ⟨id,hl,e⟩)
  .exact hb.2.2 (by rw[g3.gh.1];exact .inl hg)
 have hG0:je P X φ0 h0 w:=by
  obtain⟨w1,g1,g2⟩:=hG;refine⟨w1,g1,λb hb=>?_⟩;obtain⟨a1,a2,a3⟩:=g2 b hb;refine⟨a1,?_,a3⟩;rcases a2 with a2|a2
  .exact .inl (.inl a2)
  .exact .inr (Ye b a2)
 rcases he φ0 w aU Cd hG0 ha0 with⟨e1,e2⟩|⟨cv,w',φ',e1,e2,e3,e4⟩
 .refine .inl ⟨e1,e2.mono λe w' he=>?_⟩;obtain⟨φ',cv,rfl,g1,g2,g3⟩:=he;exact⟨cv,rfl,back φ' cv w' g1 g3⟩
 .exact .inr ⟨cv,w',e1,back φ' cv w' e2 e4⟩
theorem cf{P:Program}{E:Env}(hE:bY P X E){n f:Nat}{args:List AV}{v:AV}{h':af}(he:aH E n f args h0=some (v,h'))(hv:v.aK=0)(ha:AV.aj args=0):gY P X f args v:=vV (h':=h') hv ha λφ w aU hr hG kJ=>(zd hE n).1 f args h0 v h' he φ w aU hr hG kJ
theorem LC{φ:eh}{h h':af}{w:World}(hg:∀id,h'.get id=h.get id):Pr φ h' w=Pr φ h w:=by funext b;unfold Pr live;simp only[hg]
theorem HR.congr{φ:eh}{h h':af}{w:World}(hg:∀id,h'.get id=h.get id)(hn:h'.next=h.next)(hw:h.wf)(hr:HR φ h' w):HR φ h w:=by
 have hp:=LC (φ:=φ) (w:=w) hg;refine⟨hw,λid cs hi=>?_,λid es hi=>?_,λi j hi hj e=>hr.inj i j ?_ ?_ e,λb hb=>⟨(hr.gh b hb).1,λid hl=>(hr.gh b hb).2 id ?_⟩⟩
 .have:=hr.rows id cs (by rw[hg];exact hi);unfold uw eZ at this|-;rw[hp,hn] at this;exact this
 .have:=hr.maps id es (by rw[hg];exact hi);unfold zg eZ at this|-;rw[hp,hn] at this;exact this
 .unfold live at hi|-;rw[hg];exact hi
 .unfold live at hj|-;rw[hg];exact hj
 .unfold live at hl|-;rw[hg];exact hl
theorem DS{m:Nat}{g g':Nat->Nat}(hg:∀i,i<m->g i=g' i){v:AV}(h:db m v=true):sig g v=sig g' v:=by
 cases v with
 |ptr id off=>simp only[sig];rw[hg id (of_decide_eq_true h)]
 |vec id off len sz lb=>simp only[sig];rw[hg id (of_decide_eq_true h)]
 |map id=>simp only[sig];rw[hg id (of_decide_eq_true h)]
 |_=>rfl
theorem Mi{m:Nat}{g g':Nat->Nat}(hg:∀i,i<m->g i=g' i){o:aS}(h:Cg m o=true):gu g o=gu g' o:=by
 cases o with
 |dead=>rfl
 |row cs=>simp only[gu];congr 1;exact List.map_congr_left λv hv=>DS hg (List.all_eq_true.1 h v hv)
 |map es=>
   simp only[gu];congr 1;refine List.map_congr_left λe he=>?_
   have:=List.all_eq_true.1 h e he;rw[Bool.and_eq_true] at this;rw[DS hg this.1,DS hg this.2]
theorem CK{P:Program}{E:Env}(hE:bY P X E){n f:Nat}{args:List AV}{os:List aS}{v:AV}{h1:af}{r:Option (List aS)}{qs:List Nat}(he:aH E n f args (C9 os)=some (v,h1))(hv:v.aK=0)
 (ha:∀a∈args,db os.length a=true) (hle:os.length<=(r.getD os).length) (hs:FU h1 (ub os.length qs) (r.getD os)):ck P X f args os v r:=by
 intro φ h w τ aU hr hG S hτ im kJ;have Cd:=ach hr S
 have hG0:je P X (o5 φ h (λi=>τ.getD i 0) os) (C9 os) w:=by
  obtain⟨w1,g1,g2⟩:=hG;refine⟨w1,g1,λb hb=>?_⟩;obtain⟨a1,a2,a3⟩:=g2 b hb;refine⟨a1,?_,a3⟩;rcases a2 with a2|a2
  .exact .inl (.inl a2)
  .exact .inr (IG hr S a2)
 have ha0:lu (o5 φ h (λi=>τ.getD i 0) os) (C9 os) w args aU:=by
  refine⟨by rw[kJ.1,List.length_map],λj hj=>?_⟩;have h2:=kJ.2 j (by simpa using hj);rw[List.getElem_map] at h2
  have:=RV.swap (φ':=o5 φ h (λi=>τ.getD i 0) os) (OX:=os.length) (m:=os.length) (An:=Pr (o5 φ h (λi=>τ.getD i 0) os) (C9 os) w) (a:=λi=>τ.getD i 0) (b:=λi=>i) (λi hi=>⟨rfl,hi⟩)
   (λx hx=>IG hr S hx) (ha _ (List.getElem_mem hj)) h2
  rw[Ec] at this;exact this
 have back:∀(φ1:eh) (cv:Value) (w':World),eZ φ1 h1 w' v cv->HR φ1 h1 w'->Ext (o5 φ h (λi=>τ.getD i 0) os) (C9 os) w φ1 h1 w'->
  ∃φ',eZ φ' (mV h τ r) w' v cv/\HR φ' (mV h τ r) w'/\Ext φ h w φ' (mV h τ r) w':=λφ1 cv w' g1 g2 g3=>by
  obtain⟨u1,u2,u3⟩:=Z2 hr S hτ im hle g3 g2 hs;have hvv:eZ (pN φ φ1 h.next qs) (join h τ (r.getD os)) w' v cv:=g1.mono (λid bZ _=>by omega) λb hb=>⟨u3 b hb,rfl⟩
  cases r with
  |some mW=>exact⟨_,hvv,u1,u2⟩
  |none=>
    have CZ:(join h τ os).next=h.next:=by rw[G5];omega
    have ug:∀k∈τ,∃o,h.get k=some o:=λk hk=>by
     obtain⟨i,hi,rfl⟩:=List.getElem_of_mem hk;have iB:i<os.length:=by omega
     have:=(S.obj i _ (List.getElem?_eq_getElem iB) (im _ (List.getElem_mem iB))).1;have e:τ.getD i 0=τ[i]:=by simp[List.getD,hi]
     rw[e] at this;exact⟨_,this⟩
    have My:τ.Nodup:=by
     rw[List.nodup_iff_pairwise_ne,List.pairwise_iff_getElem];intro i j hi hj tK e;have iB:i<os.length:=by omega
     have jk:j<os.length:=by omega
     have e1:τ.getD i 0=τ[i]:=by simp[List.getD,hi]
     have e2:τ.getD j 0=τ[j]:=by simp[List.getD,hj]
     have:=S.inj i j _ _ (List.getElem?_eq_getElem iB) (List.getElem?_eq_getElem jk) (im _ (List.getElem_mem iB)) (im _ (List.getElem_mem jk)) (by rw[e1,e2];exact e);omega
    have hgt:∀id,(join h τ os).get id=h.get id:=λid=>by
     by_cases hm:id∈τ
     .obtain⟨i,hi,rfl⟩:=List.getElem_of_mem hm;have iB:i<os.length:=by omega
      have e:nR h τ i=τ[i]:=by unfold nR;rw[if_pos hi];simp[List.getD,hi]
      have e1:τ.getD i 0=τ[i]:=by simp[List.getD,hi]
      have j1:=I2 (mW:=os) My ug (List.getElem?_eq_getElem iB);obtain⟨s1,s2⟩:=S.obj i _ (List.getElem?_eq_getElem iB) (im _ (List.getElem_mem iB));rw[e] at j1;rw[e1] at s1;rw[j1,s1,Mi (g':=λi=>τ.getD i 0) (λp hp=>?_) s2];unfold nR;rw[if_pos (by omega)]
     .by_cases hl:id<h.next
      .exact Et hl hm
      .have n1:h.get id=none:=by unfold af.get;rw[if_neg hl]
       have n2:(join h τ os).get id=none:=by unfold af.get;rw[if_neg (by rw[CZ];exact hl)]
       rw[n1,n2]
    have hp:=LC (φ:=pN φ φ1 h.next qs) (w:=w') hgt;refine⟨pN φ φ1 h.next qs,?_,HR.congr hgt CZ hr.wf u1,?_⟩
    .have:=hvv;unfold eZ at this|-;dsimp only[Option.getD] at this;rw[hp,CZ] at this;exact this
    .refine⟨u2.os,u2.tape,u2.output,u2.size,Nat.le_refl _,u2.B9,λb hb=>?_,u2.gh⟩;obtain⟨p1,p2⟩:=u2.pr b hb;dsimp only[Option.getD] at p1;rw[hp] at p1;exact⟨p1,p2⟩
 rcases (zd hE n).1 f args (C9 os) v h1 he _ w aU Cd hG0 ha0 with⟨e1,e2⟩|⟨cv,w',φ1,e1,e2,e3,e4⟩
 .refine .inl ⟨e1,e2.mono λe w' he=>?_⟩;obtain⟨φ1,cv,rfl,g1,g2,g3⟩:=he;obtain⟨φ',b1,b2,b3⟩:=back φ1 cv w' g1 g2 g3;exact⟨φ',cv,rfl,b1,b2,b3⟩
 .obtain⟨φ',b1,b2,b3⟩:=back φ1 cv w' e2 e3 e4;exact .inr ⟨cv,w',φ',e1,b1,b2,b3⟩
theorem CX{h1:af}{m:Nat}{qs:List Nat}{mW:List aS}(hq:qs.Nodup)(hm:∀q∈qs,m<=q)(hl:mW.length<=m+qs.length)
 (ho:∀i o,mW[i]? =some o->(∀_:o=.dead,False)->h1.get (ub m qs i)=some (gu (ub m qs) o)/\Cg mW.length o=true):FU h1 (ub m qs) mW:=by
 refine⟨ho,λi j o o' h2 h3 _ _ e=>?_⟩;have hi:=(List.getElem?_eq_some_iff.1 h2).1;have hj:=(List.getElem?_eq_some_iff.1 h3).1;unfold ub at e;have at':∀p,p<mW.length->¬p<m->∃hp:p-m<qs.length,qs.getD (p-m) 0=qs[p-m]:=λp hp hn=>⟨by omega,by simp[List.getD,show p-m<qs.length by omega]⟩
 split at e
 .rename_i a;split at e
  .exact e
  .rename_i b;obtain⟨hp,e1⟩:=at' j hj b;rw[e1] at e;have:=hm _ (List.getElem_mem hp);omega
 .rename_i a;obtain⟨hp,e1⟩:=at' i hi a;split at e
  .rename_i b;rw[e1] at e;have:=hm _ (List.getElem_mem hp);omega
  .rename_i b;obtain⟨OZ,e2⟩:=at' j hj b;rw[e1,e2] at e;have:=(List.getElem_inj hq).1 e;omega
def mrK(M:List AV->List aS->Option (AV×Option (List aS)))(k:Nat)(rest:List AV)(h:af):Option aS->Option (AV×af)
 |some (.row cs)=>(match tV h (gF cs [k]) (gF cs [k]) with
   |some os=>if AV.aj rest=0 then (M (.ptr 0 0::rest) os).map λr=>(r.1,mV h (gF cs [k]) r.2) else none
   |none=>none)
 |_=>none
def msK(M:List AV->List aS->Option (AV×Option (List aS)))(rest:List AV)(h:af)(τ:List Nat):Option (List aS)->Option (AV×af)
 |some os=>if AV.aj rest=0 then (M (.ptr 0 0::rest) os).map λr=>(r.1,mV h τ r.2) else none
 |none=>none
def meK(h:af)(τ:List Nat):Option (AV×Option (List aS))->Option (AV×af)
 |some r=>some (r.1,mV h τ r.2)
 |none=>none
theorem Q6(M:List AV->List aS->Option (AV×Option (List aS)))(k:Nat)(rest:List AV)(h:af):pd M (.ptr k 0::rest) h=mrK M k rest h (h.get k):=by
 cases hg:h.get k with
 |none=>simp only[pd,hg,mrK]
 |some o=>
   cases o with
   |row cs=>simp only[pd,hg,mrK];cases tV h (gF cs [k]) (gF cs [k])<;>rfl
   |_=>simp only[pd,hg,mrK]
theorem Y7(M:List AV->List aS->Option (AV×Option (List aS)))(k:Nat)(rest:List AV)(h:af)(cs:List AV):mrK M k rest h (some (.row cs))=msK M rest h (gF cs [k]) (tV h (gF cs [k]) (gF cs [k])):=by rfl
theorem Mf(M:List AV->List aS->Option (AV×Option (List aS)))(rest:List AV)(h:af)(τ:List Nat)(os:List aS)(hr:AV.aj rest=0):msK M rest h τ (some os)=meK h τ (M (.ptr 0 0::rest) os):=by show (if AV.aj rest=0 then (M (.ptr 0 0::rest) os).map λr=>(r.1,mV h τ r.2) else none)=_;rw[if_pos hr];cases M (.ptr 0 0::rest) os<;>rfl
theorem Yy(M:List AV->List aS->Option (AV×Option (List aS)))(h:af)(τ:List Nat)(os:List aS):msK M [] h τ (some os)=meK h τ (M [.ptr 0 0] os):=Mf M [] h τ os (by simp[AV.aj])
theorem afE(h:af)(τ:List Nat)(r:AV×Option (List aS)):meK h τ (some r)=some (r.1,mV h τ r.2):=rfl
theorem og(h:af)(τ:List Nat):meK h τ none=none:=rfl
theorem aae(h:af)(τ:List Nat):mV h τ none=h:=rfl
theorem YY(h:af)(τ:List Nat)(os:List aS):mV h τ (some os)=join h τ os:=rfl
theorem Xy(aJ:List Nat):gF [] aJ=aJ:=rfl
theorem an(v:AV)(r:List AV)(aJ:List Nat):gF (v::r) aJ=match v.top with|some j=>if xh aJ j then gF r aJ else gF r (aJ++[j])|none=>gF r aJ:=rfl
theorem Wv(id:Nat):xh [] id=false:=rfl
theorem RW(k:Nat)(r:List Nat)(id:Nat):xh (k::r) id=if k=id then true else xh r id:=rfl
theorem T3(id:Nat):xd [] id=0:=rfl
theorem Q3(k:Nat)(r:List Nat)(id:Nat):xd (k::r) id=if k=id then 0 else xd r id+1:=rfl
theorem RX(h:af)(τ:List Nat):tV h τ []=some []:=rfl
theorem OS(h:af)(τ:List Nat)(id:Nat)(r:List Nat):tV h τ (id::r)=match h.get id,tV h τ r with|some o,some os=>if okO τ o then some (gu (xd τ) o::os) else none|_,_=>none:=rfl
theorem aL(τ:List Nat)(cs:List AV):okO τ (.row cs)=cs.all (okV τ):=rfl
theorem dp(τ:List Nat)(es:List (AV×AV)):okO τ (.map es)=es.all λe=>okV τ e.1&&okV τ e.2:=rfl
theorem ZP(τ:List Nat)(v:AV):okV τ v=match v.top with|some id=>xh τ id|none=>v.aK==0:=rfl
theorem az(g:Nat->Nat)(cs:List AV):gu g (.row cs)=.row (cs.map (sig g)):=rfl
theorem cF(g:Nat->Nat)(es:List (AV×AV)):gu g (.map es)=.map (es.map λe=>(sig g e.1,sig g e.2)):=rfl
theorem acU(g:Nat->Nat):gu g .dead=.dead:=rfl
theorem V6(g:Nat->Nat)(os:List aS)(h:af):pz g [] os h=h:=by unfold pz;rfl
theorem R2(g:Nat->Nat)(k:Nat)(ks:List Nat)(o:aS)(os:List aS)(h:af):pz g (k::ks) (o::os) h=pz g ks os (AK h k (gu g o)):=rfl
theorem W6(g:Nat->Nat)(h:af):yh g [] h=h:=rfl
theorem QW(g:Nat->Nat)(o:aS)(os:List aS)(h:af):yh g (o::os) h=yh g os (h.alloc (gu g o)):=rfl
theorem vP(o:aS):C9 [o]=⟨1,[o],1,1⟩:=rfl
theorem lK{v:AV}(n:Nat)(h:v.aK=0):db n v=true:=by
 cases v with
 |ptr id off=>simp[AV.aK] at h
 |vec id off len sz lb=>simp[AV.aK] at h
 |map id=>simp[AV.aK] at h
 |_=>simpa[db] using h
theorem qT{cs:List AV}(g:Nat->Nat)(h:AV.aj cs=0):gu g (.row cs)=.row cs:=by
 have e:cs.map (sig g)=cs:=by
  conv=>rhs;rw[<-List.map_id cs]
  exact List.map_congr_left λv hv=>(Hx (v:=v) (by have h2:=AV.cM (v:=v) (l:=cs) hv;omega):sig g v=v)
 show aS.row (cs.map (sig g))=_;rw[e]
theorem oV{cs:List AV}(n:Nat)(h:AV.aj cs=0):Cg n (.row cs)=true:=List.all_eq_true.2 λv hv=>lK n (by have:=AV.cM hv;omega)
theorem Lz{rest:List AV}(hr:AV.aj rest=0):∀a∈AV.ptr 0 0::rest,db 1 a=true:=λa ha=>by
 rcases List.mem_cons.1 ha with rfl|ha
 .rfl
 .exact lK 1 (by have:=AV.cM ha;omega)
theorem zU{P:Program}{E:Env}(hE:bY P X E){n f:Nat}{rest cs iA:List AV}{v:AV}{h1:af}(he:aH E n f (.ptr 0 0::rest) (C9 [.row cs])=some (v,h1))(hg:h1.get 0=some (.row iA))
 (hv:v.aK=0) (hr:AV.aj rest=0) (hc:AV.aj iA=0):ck P X f (.ptr 0 0::rest) [.row cs] v (some [.row iA]):=
 CK (qs:=[]) hE he hv (Lz hr) (Nat.le_refl _) (CX (by simp) (by simp) (by simp) λi o ho _=>by
  cases i with
  |succ i=>simp at ho
  |zero=>simp only[Option.getD,List.getElem?_cons_zero,Option.some.injEq] at ho;subst ho;refine⟨?_,oV _ hc⟩;rw[qT _ hc];exact hg)
theorem G8{P:Program}{E:Env}(hE:bY P X E){n f:Nat}{rest cs:List AV}{v:AV}{h1:af}(he:aH E n f (.ptr 0 0::rest) (C9 [.row cs])=some (v,h1))(hg:h1.get 0=some (.row cs))
 (hv:v.aK=0) (hr:AV.aj rest=0) (hc:AV.aj cs=0):ck P X f (.ptr 0 0::rest) [.row cs] v none:=
 CK (qs:=[]) hE he hv (Lz hr) (Nat.le_refl _) (CX (by simp) (by simp) (by simp) λi o ho _=>by
  cases i with
  |succ i=>simp at ho
  |zero=>simp only[Option.getD,List.getElem?_cons_zero,Option.some.injEq] at ho;subst ho;refine⟨?_,oV _ hc⟩;rw[qT _ hc];exact hg)
end
end Sz
namespace Sz
open Go
end Sz
namespace Sz
open Go
section
variable {X:World->Prop}
def cb(B:List AV->af->Option (Ex×List AV×af))(live:List Bool)(n0:Nat):Nat->List AV->af->Option (Ex×List AV×af)
 |0,_,_=>none
 |n+1,fr,h=>
   match B fr h with
   |some (.normal,dT,h')=>cb B live n0 n (gc n0 (clear live dT) h').1 (gc n0 (clear live dT) h').2
   |r=>r
theorem Bu(B:List AV->af->Option (Ex×List AV×af))(live:List Bool)(n0:Nat):∀n fr h,wN B live n0 n fr h=cb B live n0 n (gc n0 (clear live fr) h).1 (gc n0 (clear live fr) h).2
 |0,_,_=>rfl
 |n+1,fr,h=>by
   unfold wN cb
   cases hb:B (gc n0 (clear live fr) h).1 (gc n0 (clear live fr) h).2 with
   |none=>rfl
   |some r=>
     obtain⟨ex,x7,h1⟩:=r
     cases ex with
     |normal=>exact Bu B live n0 n x7 h1
     |exit id=>rfl
     |ret=>rfl
def iV(n0 wl:Nat):Option (Ex×List AV×af)->Option (Ex×List AV×af)
 |none=>none
 |some (ex,fr,h)=>some (ex,(gc n0 fr h).1,⟨(gc n0 fr h).2.next,(gc n0 fr h).2.gS,min wl (gc n0 fr h).2.wl,(gc n0 fr h).2.md⟩)
def bgn(B:List AV->af->Option (Ex×List AV×af))(live:List Bool)(n0 n:Nat)(s:List AV×af):Option (Ex×List AV×af):=cb B live n0 n s.1 s.2
theorem adT(B:List AV->af->Option (Ex×List AV×af))(live:List Bool)(n0 n:Nat)(fr:List AV)(h:af):bgn B live n0 n (fr,h)=cb B live n0 n fr h:=rfl
theorem JZ(C:Nat->List AV->af->Option (AV×af))(n:Nat)(live:List Bool)(a:cw)(fr:List AV)(h:af):
 aF C n (.loop live a) fr h=iV h.next h.wl (bgn (aF C n a) live h.next n (gc h.next (clear live fr) ⟨h.next,h.gS,h.next,h.md⟩)):=by
 conv=>lhs;unfold aF
 rw[Bu];unfold bgn iV;split
 .rename_i e;rw[e];rfl
 .rename_i e;rw[e];rfl
theorem acG(n0 wl:Nat)(ex:Ex)(fr:List AV)(h:af):iV n0 wl (some (ex,fr,h))=
 match gc n0 fr h with
 |(dT,⟨nx,os,w,md⟩)=>some (ex,dT,⟨nx,os,min wl w,md⟩):=rfl
theorem ai(B:List AV->af->Option (Ex×List AV×af))(live:List Bool)(n0 n:Nat)(fr:List AV)(h:af):cb B live n0 (n+1) fr h=
 match B fr h with
 |some (.normal,dT,h')=>bgn B live n0 n (gc n0 (clear live dT) h')
 |r=>r:=rfl
structure aZ where
 f:Nat
 S:List AV->Option AV
def dX(P:Program)(X:World->Prop)(s:aZ):Prop:=∀args v,s.S args=some v->gY P X s.f args v
abbrev bB(P:Program)(s:aZ):Prop:=dX P (λ_=>True) s
open Classical in
noncomputable def aZ.of{α:Type}(f:Nat)(enc:α->List AV)(pre:α->Prop)(val:α->AV):aZ:=⟨f,λargs=>if h:∃a,args=enc a/\pre a then some (val h.choose) else none⟩
def mT:List aZ->Nat->List AV->Option AV
 |[],_,_=>none
 |s::r,f,args=>if s.f=f then (match s.S args with|some v=>some v|none=>mT r f args) else mT r f args
def u6:List aZ->Nat->List aZ
 |[],_=>[]
 |s::r,f=>if s.f==f then s::u6 r f else u6 r f
theorem Td(f:Nat):u6 [] f=[]:=rfl
theorem EN(s:aZ)(r:List aZ)(f:Nat):u6 (s::r) f=if s.f==f then s::u6 r f else u6 r f:=rfl
theorem Ab(f:Nat)(args:List AV):∀ss:List aZ,mT (u6 ss f) f args=mT ss f args
 |[]=>rfl
 |s::r=>by
   rw[EN];by_cases h:s.f=f
   .rw[if_pos (by simpa using h)];simp only[mT,h,if_true,Ab f args r]
   .rw[if_neg (by simpa using h),Ab f args r];simp only[mT,h,if_false]
def PV(fn:Nat->Option cN)(ss:List aZ):Env:=⟨fn,mT ss,λ_ _ _=>none⟩
theorem KU{P:Program}{fn:Nat->Option cN}(hm:P.follows .mixedOrders=true)(C4:∀f F,fn f=some F->cZ P f F){ss:List aZ}(hs:∀s∈ss,dX P X s):bY P X (PV fn ss):=by
 refine⟨hm,C4,λf args v hp=>?_,λf args os v r h=>by cases h⟩
 have key:∀ss:List aZ,(∀s∈ss,dX P X s)->mT ss f args=some v->gY P X f args v:=by
  intro ss
  induction ss with
  |nil=>intro _ h;cases h
  |cons s r ih=>
    intro hs hl;unfold mT at hl;split at hl
    .rename_i hf;split at hl
     .rename_i v' Mo;cases hl;rw[<-hf];exact hs s (by simp) args v Mo
     .exact ih (λt ht=>hs t (by simp[ht])) hl
    .exact ih (λt ht=>hs t (by simp[ht])) hl
 exact key ss hs hp
structure cq where
 f:Nat
 S:List AV->List aS->Option (AV×Option (List aS))
def pU:List cq->Nat->List AV->List aS->Option (AV×Option (List aS))
 |[],_,_,_=>none
 |m::r,f,args,os=>if m.f=f then (match m.S args os with|some v=>some v|none=>pU r f args os) else pU r f args os
def qH:List cq->Nat->List cq
 |[],_=>[]
 |m::r,f=>if m.f==f then m::qH r f else qH r f
theorem NH(f:Nat):qH [] f=[]:=rfl
theorem BT(m:cq)(r:List cq)(f:Nat):qH (m::r) f=if m.f==f then m::qH r f else qH r f:=rfl
theorem AJ(f:Nat)(args:List AV)(os:List aS):∀ms:List cq,pU (qH ms f) f args os=pU ms f args os
 |[]=>rfl
 |m::r=>by
   rw[BT];by_cases h:m.f=f
   .rw[if_pos (by simpa using h)];simp only[pU,h,if_true,AJ f args os r]
   .rw[if_neg (by simpa using h),AJ f args os r];simp only[pU,h,if_false]
def cr(P:Program)(X:World->Prop)(m:cq):Prop:=∀args os v r,m.S args os=some (v,r)->ck P X m.f args os v r
abbrev ml(P:Program)(m:cq):Prop:=cr P (λ_=>True) m
def UX(fn:Nat->Option cN)(ss:List aZ)(ms:List cq):Env:=⟨fn,mT ss,pU ms⟩
theorem Te{P:Program}{fn:Nat->Option cN}(hm:P.follows .mixedOrders=true)(C4:∀f F,fn f=some F->cZ P f F){ss:List aZ}(hs:∀s∈ss,dX P X s){ms:List cq}(hms:∀m∈ms,cr P X m):
 bY P X (UX fn ss ms):=by
 refine⟨hm,C4,(KU hm C4 hs).FC,λf args os v r hp=>?_⟩
 have key:∀ms:List cq,(∀m∈ms,cr P X m)->pU ms f args os=some (v,r)->ck P X f args os v r:=by
  intro ms
  induction ms with
  |nil=>intro _ h;cases h
  |cons s q ih=>
    intro hs hl;unfold pU at hl;split at hl
    .rename_i hf;split at hl
     .rename_i v' Mo;cases hl;rw[<-hf];exact hs s (by simp) args os v r Mo
     .exact ih (λt ht=>hs t (by simp[ht])) hl
    .exact ih (λt ht=>hs t (by simp[ht])) hl
 exact key ms hms hp
theorem Fi(args:List AV)(h:af):pd (λ_ _=>none) args h=none:=by
 unfold pd;split
 .split
  .split
   .split<;>rfl
   .rfl
  .rfl
 .rfl
@[simp] theorem agB(fn:Nat->Option cN)(ss:List aZ)(f:Nat):(PV fn ss).fn f=fn f:=rfl
@[simp] theorem adR(fn:Nat->Option cN)(ss:List aZ):(PV fn ss).FC=mT ss:=rfl
theorem je.mono{P:Program}{Y:World->Prop}(hXY:∀w,X w->Y w){φ:eh}{h:af}{w:World}(g:je P X φ h w):je P Y φ h w:=by obtain⟨w1,h1,h2⟩:=g;exact⟨w1,⟨h1.1,hXY _ h1.2⟩,h2⟩
theorem bB.lift{P:Program}{s:aZ}(h:bB P s):dX P X s:=λargs v hv φ hh w aU hr hG ha=>h args v hv φ hh w aU hr (hG.mono λ_ _=>trivial) ha
theorem ml.lift{P:Program}{m:cq}(h:ml P m):cr P X m:=λargs os v r hv φ hh w τ aU hr hG S h1 h2 ha=>h args os v r hv φ hh w τ aU hr (hG.mono λ_ _=>trivial) S h1 h2 ha
end
section
section
variable (C:Nat->List AV->af->Option (AV×af))(n:Nat)(fr:List AV)(h:af)
theorem Kd:aF C n .skip fr h=some (.normal,fr,h):=rfl
theorem OK(ops:List aO):aF C n (.mK ops) fr h=match c7 C ops fr h with|some (dT,h')=>some (.normal,dT,h')|none=>none:=by simp only[aF];cases c7 C ops fr h<;>rfl
theorem JV(ops:List aO)(Yi:List (Nat×Nat)):aF C n (.nG ops Yi) fr h=match ue C ops fr h with|some (dT,h',tr)=>if LN tr Yi then some (.normal,dT,h') else none|none=>none:=rfl
theorem N1(a b:cw):aF C n (.seq a b) fr h=match aF C n a fr h with|some (.normal,dT,h')=>aF C n b dT h'|r=>r:=rfl
theorem Mb(c:cX)(a b:cw):aF C n (.cond c a b) fr h=match c.ev fr with|.bool t=>if t then aF C n a fr h else aF C n b fr h|_=>none:=rfl
theorem IJ(id:Nat)(a:cw):aF C n (.block id a) fr h=match aF C n a fr h with|some (.exit i,dT,h')=>some (if i=id then .normal else .exit i,dT,h')|r=>r:=rfl
theorem Kw(id:Nat)(live:List Bool):aF C n (.exit id live) fr h=some (.exit id,clear live fr,h):=rfl
theorem NA(live:List Bool):aF C n (.ret live) fr h=some (.ret,clear live fr,h):=rfl
theorem J7:c7 C [] fr h=some (fr,h):=rfl
theorem Ob(d:Option Nat)(o:ye)(r:List aO):c7 C (⟨d,.op o,none⟩::r) fr h=match bC fr h o with|some (v,h')=>c7 C r (gx fr d v) h'|none=>none:=by simp only[c7,cJ,dA];cases bC fr h o<;>rfl
theorem IT(d:Option Nat)(f:Nat)(args:List cX)(r:List aO):c7 C (⟨d,.call f args,none⟩::r) fr h=match C f (args.map (·.ev fr)) h with|some (v,h')=>c7 C r (gx fr d v) h'|none=>none:=by simp only[c7,cJ,dA];cases C f (args.map (·.ev fr)) h<;>rfl
theorem FV(d:Option Nat)(x:cX)(args:List cX)(r:List aO):c7 C (⟨d,.lg x args,none⟩::r) fr h=match x.ev fr with
 |.fn f aN=>(match C f (args.map (·.ev fr)++aN) h with|some (v,h')=>c7 C r (gx fr d v) h'|none=>none)
 |_=>none:=by
 simp only[c7,cJ,dA]
 cases x.ev fr with
 |fn f aN=>dsimp only;cases C f (args.map (·.ev fr)++aN) h<;>rfl
 |_=>rfl
theorem XD:ue C [] fr h=some (fr,h,[]):=rfl
theorem Ts(s:aO)(r:List aO):ue C (s::r) fr h=match cJ C s fr ⟨h.next,h.gS,h.wl,h.next⟩ with
 |some (dT,h')=>(match ue C r dT ⟨h'.next,h'.gS,h'.wl,min h.md h'.md⟩ with|some (fr2,h2,tr)=>some (fr2,h2,(B7 s fr,h,h')::tr)|none=>none)
 |none=>none:=by
 simp only[ue]
 cases cJ C s fr ⟨h.next,h.gS,h.wl,h.next⟩ with
 |none=>rfl
 |some p=>dsimp only;cases ue C r p.1 ⟨p.2.next,p.2.gS,p.2.wl,min h.md p.2.md⟩<;>rfl
theorem Sm(d:Option Nat)(o:ye):cJ C ⟨d,.op o,none⟩ fr h=match bC fr h o with|some (v,h')=>some (gx fr d v,h')|none=>none:=by simp only[cJ,dA];cases bC fr h o<;>rfl
theorem JG(d:Option Nat)(f:Nat)(args:List cX):cJ C ⟨d,.call f args,none⟩ fr h=match C f (args.map (·.ev fr)) h with|some (v,h')=>some (gx fr d v,h')|none=>none:=by simp only[cJ,dA];cases C f (args.map (·.ev fr)) h<;>rfl
theorem Iv(d:Option Nat)(x:cX)(args:List cX):cJ C ⟨d,.lg x args,none⟩ fr h=match x.ev fr with
 |.fn f aN=>(match C f (args.map (·.ev fr)++aN) h with|some (v,h')=>some (gx fr d v,h')|none=>none)
 |_=>none:=by
 simp only[cJ,dA]
 cases x.ev fr with
 |fn f aN=>dsimp only;cases C f (args.map (·.ev fr)++aN) h<;>rfl
 |_=>rfl
theorem VI(x:cX):bC fr h (.Gs x)=some (x.ev fr,h):=rfl
theorem QY(c x y:cX):bC fr h (.pick c x y)=match c.ev fr with|.bool b=>some (if b then x.ev fr else y.ev fr,h)|_=>none:=rfl
theorem Xl(x:cX):bC fr h (.box x)=match (x.ev fr).cells? with|some cs=>some (.ptr h.next 0,⟨h.next+1,.row cs::h.gS,h.wl,h.md⟩)|none=>none:=rfl
theorem Va(z:List AV)(ps:List (Nat×Nat×cX)):bC fr h (.S2 z ps)=match mC z (ps.map λp=>(p.1,p.2.1,p.2.2.ev fr)) with|some cs=>some (.agg cs,h)|none=>none:=by simp only[bC];cases mC z (ps.map λp=>(p.1,p.2.1,p.2.2.ev fr))<;>rfl
theorem T2(sz len:Nat)(z:List AV)(ps:List (Nat×cX)):bC fr h (.A3 sz len z ps)=match mC z (ps.map λp=>(p.1*sz,sz,p.2.ev fr)) with|some cs=>some (.vec h.next 0 len sz len,⟨h.next+1,.row cs::h.gS,h.wl,h.md⟩)|none=>none:=by simp only[bC];cases mC z (ps.map λp=>(p.1*sz,sz,p.2.ev fr))<;>rfl
theorem Yv(m:Option Nat)(x:cX):bC fr h (.ld m x)=match QB h m (x.ev fr) with|some v=>some (v,h)|none=>none:=by simp only[bC];cases QB h m (x.ev fr)<;>rfl
theorem ZE(m:Nat)(x v:cX):bC fr h (.st m x v)=match x.ev fr,(v.ev fr).cells? with
 |.ptr id off,some vs=>match h.row id with
   |some cs=>if vs.length=m/\off+m<=cs.length then some (.undef,(h.set id (.row (putAt cs off vs))).mark id (v.ev fr)) else none
   |none=>none
 |_,_=>none:=rfl
theorem XE(x:cX):bC fr h (.nck x)=match RB (x.ev fr) with|some false=>some (x.ev fr,h)|_=>none:=rfl
theorem Vq(op:BinOp)(x y:cX):bC fr h (.bin op x y)=match xA op (x.ev fr) (y.ev fr) with|some v=>some (v,h)|none=>none:=by simp only[bC];cases xA op (x.ev fr) (y.ev fr)<;>rfl
theorem XF(neg:Bool)(x y:cX):bC fr h (.beq neg x y)=match x.ev fr,y.ev fr with|.bool a,.bool b=>some (.bool (if neg then !(a==b) else a==b),h)|_,_=>none:=rfl
theorem VO(ks:List Nat)(neg:Bool)(x y:cX):bC fr h (.ceq ks neg x y)=match x.ev fr,y.ev fr with
 |.agg a,.agg b=>(match ny ks a b with|some r=>some (.bool (if neg then !r else r),h)|none=>none)
 |_,_=>none:=by
 simp only[bC];cases x.ev fr<;>try rfl
 cases y.ev fr<;>try rfl
 rename_i a b;dsimp only;cases ny ks a b<;>rfl
theorem Vi(k:Nat)(neg:Bool)(x y:cX):bC fr h (.peq k neg x y)=match xi k (x.ev fr),xi k (y.ev fr) with|some p,some true=>some (.bool (if neg then !p else p),h)|_,_=>none:=rfl
theorem Wm(x:cX):bC fr h (.un .not x)=match x.ev fr with|.bool b=>some (.bool (!b),h)|_=>none:=by simp only[bC];cases x.ev fr<;>rfl
theorem UH(x:cX):bC fr h (.un .neg x)=match x.ev fr with|.int k n=>some (.int k (k.wrap (0-n)),h)|_=>none:=by simp only[bC];cases x.ev fr<;>rfl
theorem VU(x:cX):bC fr h (.un .xor x)=match x.ev fr with|.int k n=>some (.int k (GQ .xor k (if k.signed then -1 else k.max) n),h)|_=>none:=by simp only[bC];cases x.ev fr<;>rfl
theorem Xe(k:IntKind)(x:cX):bC fr h (.cvi k x)=match x.ev fr with|.int _ n=>some (.int k (k.wrap n),h)|_=>none:=rfl
theorem R3(x:cX):bC fr h (.Uw x)=match x.ev fr with|.str s=>some (.str s,h)|_=>none:=rfl
theorem So(x:cX):bC fr h (.NS x)=match x.ev fr with|.int _ n=>if 0<=n/\n<128 then some (.str [UInt8.ofNat n.toNat],h) else none|_=>none:=rfl
theorem Sn(x:cX):bC fr h (.RF x)=match x.ev fr with|.str s=>some (.sl (s.map λb=>.int .u8 b.toNat),h)|_=>none:=rfl
theorem RZ(x:cX):bC fr h (.Ra x)=match aI h 1 (x.ev fr),x.ev fr with
 |_,.str _=>none
 |some (_,cs),_=>(bytesOf cs).map λs=>(.str s,h)
 |none,_=>none:=rfl
theorem Vn(kd:Nat)(zero:AV)(ok:Bool)(m k:cX):bC fr h (.lkp kd zero ok m k)=match (match m.ev fr with|.jV=>some []|.map id=>h.hP id|_=>none) with
 |some es=>(oj kd (k.ev fr) es).map λr=>(match r with
   |some v=>(if ok then .tuple [v,.bool true] else v,h)
   |none=>(if ok then .tuple [zero,.bool false] else zero,h))
 |none=>none:=rfl
theorem VJ(t:Nat)(x:cX):bC fr h (.mki t x)=some (.iface t (x.ev fr),h):=rfl
theorem VW(f:Nat)(aN:List cX):bC fr h (.TL f aN)=some (.fn f (aN.map (·.ev fr)),h):=rfl
theorem T8:bC fr h .mkm=some (.map h.next,⟨h.next+1,.map []::h.gS,h.wl,h.md⟩):=rfl
theorem Uq(bytes:Nat)(z:List AV)(l c:cX):bC fr h (.mks bytes z l c)=match l.ev fr,c.ev fr with
 |.int .i64 l,.int .i64 c=>if 0<=l/\l<=c/\c*bytes<=140737488355328/\c<2^63 then
  some (.vec h.next 0 l.toNat z.length c.toNat,⟨h.next+1,.row (List.replicate c.toNat z).flatten::h.gS,h.wl,h.md⟩) else none
 |_,_=>none:=rfl
theorem V8(x:cX)(lo hi:Option cX):bC fr h (.WN x lo hi)=match x.ev fr with
 |.str s=>(match sliceB s.length (lo.map (·.ev fr)) (hi.map (·.ev fr)) with|some (l,u)=>some (.str ((s.take u).drop l),h)|none=>none)
 |_=>none:=by
 simp only[bC];cases x.ev fr<;>try rfl
 dsimp only;rename_i s;cases sliceB s.length (lo.map (·.ev fr)) (hi.map (·.ev fr))<;>rfl
theorem UB(sz:Nat)(x:cX)(lo hi mx:Option cX):bC fr h (.slv sz x lo hi mx)=match x.ev fr with
 |.aD=>(match gV 0 0 (lo.map (·.ev fr)) (hi.map (·.ev fr)) (mx.map (·.ev fr)) with|some _=>some (.aD,h)|none=>none)
 |.sl xs=>if (xs.all λx=>(x.cells?.map List.length)==some sz) then
  (match gV xs.length xs.length (lo.map (·.ev fr)) (hi.map (·.ev fr)) (mx.map (·.ev fr)) with|some (l,u,m)=>some (if m=some l then .aD else .sl ((xs.take u).drop l),h)|none=>none) else none
 |.vec id off len s lb=>if s=sz then
  (match gV len lb (lo.map (·.ev fr)) (hi.map (·.ev fr)) (mx.map (·.ev fr)) with|some (l,u,m)=>some (if m=some l then .aD else .vec id (off+l*sz) (u-l) sz (m.getD lb-l),h)|none=>none) else none
 |_=>none:=by
 simp only[bC];cases x.ev fr<;>try rfl
 .dsimp only;cases gV 0 0 (lo.map (·.ev fr)) (hi.map (·.ev fr)) (mx.map (·.ev fr))<;>rfl
 .dsimp only;split
  .rename_i xs _;cases gV xs.length xs.length (lo.map (·.ev fr)) (hi.map (·.ev fr)) (mx.map (·.ev fr))<;>rfl
  .rfl
 .dsimp only;rename_i len _ lb;split
  .cases gV len lb (lo.map (·.ev fr)) (hi.map (·.ev fr)) (mx.map (·.ev fr))<;>rfl
  .rfl
theorem UZ(off:Nat)(x:cX):bC fr h (.fad off x)=match x.ev fr with|.ptr id o=>some (.ptr id (o+off),h)|.ip cs=>some (.ip (cs.drop off),h)|_=>none:=rfl
theorem Rz(off:Nat)(x:cX):bC fr h (.fld off none x)=match x.ev fr with
 |.agg cs=>(match cs[off]? with|some v=>some (v,h)|none=>none)
 |_=>none:=by
 simp only[bC];cases x.ev fr<;>try rfl
 dsimp only;rename_i cs;cases cs[off]?<;>rfl
theorem Tn(off n:Nat)(x:cX):bC fr h (.fld off (some n) x)=match x.ev fr with
 |.agg cs=>if off+n<=cs.length then some (.agg ((cs.drop off).take n),h) else none
 |_=>none:=rfl
theorem V9(sz:Nat)(x i:cX):bC fr h (.iad sz x i)=match x.ev fr,i.ev fr with
 |.sl xs,.int _ i=>if 0<=i then (match xs[i.toNat]? with
  |some v=>(match v.cells? with
    |some cs=>if cs.length=sz then some (.ip cs,h) else none
    |none=>none)
  |none=>none) else none
 |.vec id off len s _,.int _ i=>if 0<=i/\i<len/\s=sz then some (.ptr id (off+i.toNat*sz),h) else none
 |_,_=>none:=rfl
theorem WM(x i:cX):bC fr h (.ixs x i)=match x.ev fr,i.ev fr with
 |.str s,.int _ i=>if 0<=i then (match s[i.toNat]? with|some b=>some (.int .u8 b.toNat,h)|none=>none) else none
 |_,_=>none:=by
 simp only[bC];cases x.ev fr<;>try rfl
 cases i.ev fr<;>try rfl
 rename_i s k i;dsimp only;cases s[i.toNat]?<;>rfl
theorem Wa(x:cX)(i:Nat):bC fr h (.ext x i)=match x.ev fr with
 |.tuple vs=>(match vs[i]? with|some v=>some (v,h)|none=>none)
 |_=>none:=by
 simp only[bC];cases x.ev fr<;>try rfl
 rename_i vs;dsimp only;cases vs[i]?<;>rfl
theorem R6(x:cX):bC fr h (.lens x)=match x.ev fr with|.str s=>some (.int .i64 s.length,h)|_=>none:=rfl
theorem lW(x:cX):bC fr h (.xn x)=match x.ev fr with
 |.aD=>some (.int .i64 0,h)
 |.sl xs=>some (.int .i64 xs.length,h)
 |.vec _ _ n _ _=>some (.int .i64 n,h)
 |_=>none:=rfl
theorem vC(x y:cX):bC fr h (.mx x y)=match x.ev fr,y.ev fr with|.int k a,.int _ b=>some (.int k (if a<b then b else a),h)|_,_=>none:=rfl
theorem aal(x y:cX):bC fr h (.mn x y)=match x.ev fr,y.ev fr with|.int k a,.int _ b=>some (.int k (if b<a then b else a),h)|_,_=>none:=rfl
theorem Vj(sz bytes:Nat)(x y:cX):bC fr h (.app sz bytes x y)=match aI h sz (y.ev fr) with
 |none=>none
 |some (n,news)=>
   match x.ev fr with
   |.aD=>if n=0 then some (.aD,h) else
     if n*bytes<=140737488355328/\n<2^63 then some (.vec h.next 0 n sz n,⟨h.next+1,.row news::h.gS,h.wl,h.md⟩) else none
   |.vec id off len s lb=>match h.row id with
     |some cs=>if s=sz/\off+len*sz<=cs.length then
      if n=0 then some (.vec id off len s lb,h) else
      if len+n<=lb/\off+(len+n)*sz<=cs.length then some (.vec id off (len+n) sz lb,(h.set id (.row (putAt cs (off+len*sz) news))).mark id (.agg news)) else
      if (len+n)*bytes<=140737488355328/\len+n<2^63 then
       some (.vec h.next 0 (len+n) sz (len+n),(h.set id .dead).alloc (.row ((cs.drop off).take (len*sz)++news))) else none
       else none
     |none=>none
   |_=>none:=rfl
theorem UC(len:Nat)(z:List AV)(ps:List (Nat×cX)):bC fr h (.fsl len z ps)=match mC z (ps.map λp=>(p.1*1,1,p.2.ev fr)) with|some cs=>if (bytesOf cs).isSome then some (.sl cs,h) else none|none=>none:=rfl
theorem RP(x:cX):bC fr h (.VG x)=match x.ev fr with|.sl cs=>(bytesOf cs).map λs=>(.str s,h)|_=>none:=rfl
theorem Wd:bC fr h .bs0=some (.aD,h):=rfl
theorem Ry(neg:Bool)(x:cX):bC fr h (.Nk neg x)=match x.ev fr with
 |.sl (_::_)=>some (.bool neg,h)
 |.vec _ _ (_+1) _ _=>some (.bool neg,h)
 |_=>none:=rfl
theorem Vl(z:List AV)(x:cX):bC fr h (.clr z x)=match x.ev fr with
 |.aD=>some (.tuple [],h)
 |.vec id off len s _=>match h.row id with
   |some cs=>if s=z.length/\off+len*s<=cs.length then some (.tuple [],(h.set id (.row (putAt cs off (List.replicate len z).flatten))).mark id (.agg z)) else none
   |none=>none
 |_=>none:=rfl
theorem Uu(h:af)(id:Nat):h.row id=match h.get id with|some (.row cs)=>some cs|_=>none:=rfl
theorem adl(nx:Nat)(os:List aS)(wl md id:Nat):af.get ⟨nx,os,wl,md⟩ id=if id<nx then os[nx-1-id]? else none:=rfl
theorem set_mk(nx:Nat)(os:List aS)(wl md id:Nat)(o:aS):af.set ⟨nx,os,wl,md⟩ id o=if id<nx then⟨nx,os.set (nx-1-id) o,wl,min md id⟩ else⟨nx,os,wl,md⟩:=by unfold af.set;split<;>rfl
theorem aah(nx:Nat)(os:List aS)(wl md id:Nat)(v:AV):af.mark ⟨nx,os,wl,md⟩ id v=if id+1<v.aK then⟨nx,os,min wl id,md⟩ else⟨nx,os,wl,md⟩:=by unfold af.mark;split<;>rfl
theorem SY(nx:Nat)(os:List aS)(wl md:Nat)(o:aS):af.alloc ⟨nx,os,wl,md⟩ o=⟨nx+1,o::os,wl,md⟩:=rfl
theorem Xi(nx:Nat)(os:List aS)(wl md n:Nat):af.jT ⟨nx,os,wl,md⟩ n=⟨min nx n,os.drop (nx-n),wl,md⟩:=rfl
theorem Nr:iR fr h []=some []:=rfl
theorem Ki(r:Lq)(rs:List Lq):iR fr h (r::rs)=match wC fr h r with
 |some v=>(match iR fr h rs with|some vs=>some (v::vs)|none=>none)
 |none=>none:=by
 simp only[iR]
 cases wC fr h r with
 |none=>rfl
 |some v=>cases iR fr h rs<;>rfl
theorem S9(a b c:Nat)(os0 os:List aS)(nx wl md:Nat)(v:AV):finish false ⟨a,os0,b,c⟩ v ⟨nx,os,wl,md⟩=
 match jH ⟨nx,os,wl,md⟩ a 8 v with
 |none=>(v,⟨nx,os,min b wl,min c md⟩)
 |some (v',eB)=>
   if a<=wl/\v'.aK<=a then (v',⟨min nx a,os.drop (nx-a),b,if md<a then min c md else c⟩)
   else match kill ⟨nx,os,wl,md⟩ eB with|⟨OX,mW,_,_⟩=>(v',⟨OX,mW,min b wl,min c md⟩):=by
 simp only[finish,Bool.false_eq_true,if_false]
 cases jH ⟨nx,os,wl,md⟩ a 8 v with
 |none=>rfl
 |some p=>obtain⟨v',eB⟩:=p;dsimp only;split<;>rfl
theorem Sg(cs:List AV):(AV.agg cs).cells? =some cs:=rfl
theorem NR(b:Bool):(AV.bool b).cells? =some [.bool b]:=rfl
theorem Tf(k:IntKind)(n:Int):(AV.int k n).cells? =some [.int k n]:=rfl
theorem Sr(s:List UInt8):(AV.str s).cells? =some [.str s]:=rfl
theorem Nj:AV.mO.cells? =some [.mO]:=rfl
theorem Tp(i o:Nat):(AV.ptr i o).cells? =some [.ptr i o]:=rfl
theorem Vo(cs:List AV):(AV.ip cs).cells? =some [.ip cs]:=rfl
theorem Np:AV.aD.cells? =some [.aD]:=rfl
theorem Wq(xs:List AV):(AV.sl xs).cells? =some [.sl xs]:=rfl
theorem Ro(a b c d e:Nat):(AV.vec a b c d e).cells? =some [.vec a b c d e]:=rfl
theorem NB:AV.jV.cells? =some [.jV]:=rfl
theorem Rp(i:Nat):(AV.map i).cells? =some [.map i]:=rfl
theorem Kk:AV.iU.cells? =some [.iU]:=rfl
theorem XH(f:Nat)(cs:List AV):(AV.fn f cs).cells? =some [.fn f cs]:=rfl
theorem Nz:AV.mM.cells? =some [.mM]:=rfl
theorem Kb(t:Nat)(v:AV):(AV.iface t v).cells? =some [.iface t v]:=rfl
section
variable (n0 d:Nat)
theorem Se:jH h n0 (d+1) .undef=some (.undef,[]):=rfl
theorem VE(b:Bool):jH h n0 (d+1) (.bool b)=some (.bool b,[]):=rfl
theorem Zy(k:IntKind)(n:Int):jH h n0 (d+1) (.int k n)=some (.int k n,[]):=rfl
theorem YS(s:List UInt8):jH h n0 (d+1) (.str s)=some (.str s,[]):=rfl
theorem Vv:jH h n0 (d+1) .mO=some (.mO,[]):=rfl
theorem Zg(i o:Nat):jH h n0 (d+1) (.ptr i o)=some (.ptr i o,[]):=rfl
theorem adP(cs:List AV):jH h n0 (d+1) (.ip cs)=some (.ip cs,[]):=rfl
theorem VC:jH h n0 (d+1) .aD=some (.aD,[]):=rfl
theorem acY(xs:List AV):jH h n0 (d+1) (.sl xs)=some (.sl xs,[]):=rfl
theorem Wy:jH h n0 (d+1) .jV=some (.jV,[]):=rfl
theorem Z5(i:Nat):jH h n0 (d+1) (.map i)=some (.map i,[]):=rfl
theorem RN:jH h n0 (d+1) .iU=some (.iU,[]):=rfl
theorem acn(f:Nat)(cs:List AV):jH h n0 (d+1) (.fn f cs)=some (.fn f cs,[]):=rfl
theorem Uj:jH h n0 (d+1) .mM=some (.mM,[]):=rfl
theorem Sa(t:Nat)(v:AV):jH h n0 (d+1) (.iface t v)=some (.iface t v,[]):=rfl
theorem Zn{id:Nat}(off len sz lb:Nat)(bZ:id<n0):jH h n0 (d+1) (.vec id off len sz lb)=some (.vec id off len sz lb,[]):=by simp only[jH,bZ,if_true]
theorem mj(id off len sz lb:Nat):jH h n0 (d+1) (.vec id off len sz lb)=if id<n0 then some (.vec id off len sz lb,[]) else
 match h.row id with
 |some cs=>if off+len*sz<=cs.length/\sz≠0 then
  (match kM (jH h n0 d) ((cs.drop off).take (len*sz)) with
  |some (iA,eB)=>if AV.aj iA=0/\(iA.all λc=>c.cells?.map List.length==some 1) then some (.sl (chunk sz len iA),id::eB) else none
  |none=>none) else none
 |none=>none:=rfl
theorem ZG(cs:List AV):jH h n0 (d+1) (.agg cs)=match kM (jH h n0 d) cs with|some (iA,eB)=>some (.agg iA,eB)|none=>none:=by simp only[jH];cases kM (jH h n0 d) cs<;>rfl
theorem Rr(cs:List AV):jH h n0 (d+1) (.tuple cs)=match kM (jH h n0 d) cs with|some (iA,eB)=>some (.tuple iA,eB)|none=>none:=by simp only[jH];cases kM (jH h n0 d) cs<;>rfl
theorem WY(F:AV->Option (AV×List Nat)):kM F []=some ([],[]):=rfl
theorem SB(F:AV->Option (AV×List Nat))(v:AV)(r:List AV):kM F (v::r)=match F v with
 |some (v',i)=>(match kM F r with|some (r',j)=>some (v'::r',i++j)|none=>none)
 |none=>none:=by
 simp only[kM]
 cases F v with
 |none=>rfl
 |some p=>obtain⟨v',i⟩:=p;cases kM F r<;>rfl
end
theorem KY(sz:Nat):aI h sz .aD=some (0,[]):=rfl
theorem Ny(sz id off len s lb:Nat):aI h sz (.vec id off len s lb)=match h.row id with
 |some cs=>if s=sz/\off+len*sz<=cs.length then some (len,(cs.drop off).take (len*sz)) else none
 |none=>none:=rfl
theorem Od(sz:Nat)(s:List UInt8):aI h sz (.str s)=if sz=1 then some (s.length,s.map λb=>.int .u8 b.toNat) else none:=rfl
theorem Wj:kill h []=h:=rfl
theorem Rk(id:Nat)(r:List Nat):kill h (id::r)=kill (h.set id .dead) r:=rfl
theorem MW(sz:Nat)(cs:List AV):chunk sz 0 cs=[]:=rfl
theorem OC(sz n:Nat)(cs:List AV):chunk sz (n+1) cs=(if sz=1 then (cs.headD .undef) else .agg (cs.take sz))::chunk sz n (cs.drop sz):=rfl
theorem Rs(b:Bool):rz (.bool b)=true:=rfl
theorem WX(k:IntKind)(n:Int):rz (.int k n)=true:=rfl
theorem UL(s:List UInt8):rz (.str s)=true:=rfl
theorem Su:rz .aD=true:=rfl
theorem ZY(xs:List AV):rz (.sl xs)=false:=rfl
theorem Ox(vs:List AV):rz (.tuple vs)=vs.all rR:=rfl
theorem W8(vs:List AV):rz (.agg vs)=vs.all rR:=rfl
theorem Nc(b:Bool):rR (.bool b)=true:=rfl
theorem SZ(k:IntKind)(n:Int):rR (.int k n)=true:=rfl
theorem Tq(s:List UInt8):rR (.str s)=true:=rfl
theorem NV:rR .aD=true:=rfl
theorem WO(xs:List AV):rR (.sl xs)=false:=rfl
theorem Rm(vs:List AV):rR (.agg vs)=false:=rfl
theorem VF:bC fr h .die=none:=rfl
theorem SH(cs:List AV)(k:Nat):putAt cs k []=cs:=rfl
theorem eC(x:AV)(cs:List AV)(k:Nat)(v:AV)(vs:List AV):putAt (x::cs) k (v::vs)=putAt ((x::cs).set k v) (k+1) vs:=rfl
end
end
section
theorem wrap_i64{n:Int}(h1:-9223372036854775808<=n)(h2:n<9223372036854775808):IntKind.i64.wrap n=n:=by rw[IntKind.wrap_i64];omega
theorem A5{k:Nat}(h:k<4611686018427387904):IntKind.i64.wrap ((k:Int)+1)=((k+1:Nat):Int):=by rw[wrap_i64 (by omega) (by omega)];rfl
def lZ{α:Type}(p:α->Bool):List α->Option Nat
 |[]=>none
 |x::r=>if p x then some 0 else (lZ p r).map (·+1)
def basic:AV->Bool
 |.bool _|.int .. |.str _|.mO|.aD|.sl _|.ip _|.jV|.iU|.mM=>true
 |_=>false
theorem Az{h:af}{n0 d:Nat}{v:AV}(hv:basic v=true):jH h n0 (d+1) v=some (v,[]):=by cases v<;>first|rfl|cases hv
theorem M9{v:AV}(hv:basic v=true):v.aK=0:=by cases v<;>first|rfl|cases hv
theorem pL{v:AV}(hv:basic v=true):v.cells? =some [v]:=by cases v<;>first|rfl|cases hv
theorem DA{h:af}{n0 d:Nat}:∀{cs:List AV},cs.all basic=true->kM (jH h n0 (d+1)) cs=some (cs,[])
 |[],_=>rfl
 |v::r,hb=>by simp only[List.all_cons,Bool.and_eq_true] at hb;simp only[kM,Az hb.1,DA hb.2,List.append_nil]
theorem p7:∀{cs:List AV},cs.all basic=true->AV.aj cs=0
 |[],_=>rfl
 |v::r,hb=>by simp only[List.all_cons,Bool.and_eq_true] at hb;simp only[AV.aj,M9 hb.1,p7 hb.2];rfl
theorem EO:∀{cs:List AV},cs.all basic=true->(cs.all λc=>c.cells?.map List.length==some 1)=true
 |[],_=>rfl
 |v::r,hb=>by simp only[List.all_cons,Bool.and_eq_true] at hb|-;exact⟨by rw[pL hb.1];rfl,EO hb.2⟩
def Ce(sz:Nat)(v:AV):Prop:=v.cells.length=sz/\v.cells.all basic=true/\(sz=1->v.cells=[v])/\(sz≠1->v=.agg v.cells)/\v.cells? =some v.cells
theorem Dx{sz:Nat}{xs:List AV}(h:∀x∈xs,Ce sz x):(xs.flatMap AV.cells).all basic=true:=by rw[List.all_eq_true];intro v hv;obtain⟨x,hx,hv⟩:=List.mem_flatMap.1 hv;exact List.all_eq_true.1 (h x hx).2.1 v hv
theorem Dt{sz:Nat}:∀{xs:List AV},(∀x∈xs,Ce sz x)->(xs.flatMap AV.cells).length=xs.length*sz
 |[],_=>by simp
 |x::r,h=>by
   have:=Dt (xs:=r) λy hy=>h y (by simp[hy])
   simp only[List.flatMap_cons,List.length_append,List.length_cons,this,(h x (by simp)).1,Nat.add_mul];omega
theorem DP{sz:Nat}:∀{xs:List AV},(∀x∈xs,Ce sz x)->chunk sz xs.length (xs.flatMap AV.cells)=xs
 |[],_=>rfl
 |x::r,h=>by
   have hx:=h x (by simp);have ih:=DP (xs:=r) λy hy=>h y (by simp[hy])
   simp only[List.length_cons,List.flatMap_cons,chunk];have hd:(x.cells++r.flatMap AV.cells).drop sz=r.flatMap AV.cells:=by rw[<-hx.1];simp
   rw[hd,ih];congr 1;split
   .rename_i h1;rw[hx.2.2.1 h1];rfl
   .rename_i h1;have ht:(x.cells++r.flatMap AV.cells).take sz=x.cells:=by rw[<-hx.1];simp
    rw[ht];exact (hx.2.2.2.1 h1).symm
theorem KN{sz:Nat}{xs:List AV}(h:∀x∈xs,Ce sz x):(xs.all λx=>(x.cells?.map List.length)==some sz)=true:=by rw[List.all_eq_true];intro x hx;have:=h x hx;rw[this.2.2.2.2];simp[this.1]
theorem nM(vs:List AV):∀(cs:List AV) (k:Nat),k+vs.length<=cs.length->putAt cs k vs=cs.take k++vs++cs.drop (k+vs.length):=by
 induction vs with
 |nil=>intro cs k _;simp[putAt]
 |cons v r ih=>
   intro cs k h;simp only[List.length_cons] at h;rw[putAt,ih _ _ (by simp;omega)];have hk:k<cs.length:=by omega
   have e1:(cs.set k v).take (k+1)=cs.take k++[v]:=by rw[List.take_set,List.take_succ_eq_append_getElem hk,List.set_append_right _ _ (by simp;omega)];simp[Nat.min_eq_left (Nat.le_of_lt hk)]
   have e2:(cs.set k v).drop (k+1+r.length)=cs.drop (k+(r.length+1)):=by rw[List.drop_set_of_lt (by omega)];congr 1;omega
   rw[e1,e2];simp
theorem vN{h:af}{n0 d id len sz lb:Nat}{xs:List AV}{cs:List AV}(bZ:n0<=id)(hg:h.get id=some (.row cs))(iz:sz≠0)(hx:∀x∈xs,Ce sz x)(hl:xs.length=len)(hle:len*sz<=cs.length)(hc:cs.take (len*sz)=xs.flatMap AV.cells):
 jH h n0 (d+2) (.vec id 0 len sz lb)=some (.sl xs,[id]):=by
 subst hl;have hb:=Dx hx
 have e:jH h n0 (d+2) (.vec id 0 xs.length sz lb)=if id<n0 then some (.vec id 0 xs.length sz lb,[]) else match h.row id with
  |some cs=>if 0+xs.length*sz<=cs.length/\sz≠0 then
   (match kM (jH h n0 (d+1)) ((cs.drop 0).take (xs.length*sz)) with
   |some (iA,eB)=>if AV.aj iA=0/\(iA.all λc=>c.cells?.map List.length==some 1) then some (.sl (chunk sz xs.length iA),id::eB) else none
   |none=>none) else none
  |none=>none:=rfl
 rw[e,if_neg (by omega),Uu,hg];dsimp only;rw[if_pos ⟨by omega,iz⟩,List.drop_zero,hc,DA hb];dsimp only;rw[if_pos ⟨p7 hb,EO hb⟩,DP hx]
theorem ku(vs:List AV){cs:List AV}{k:Nat}(h:k+vs.length<=cs.length):(putAt cs k vs).take (k+vs.length)=cs.take k++vs:=by rw[nM vs cs k h];exact List.take_left' (by simp;omega)
theorem RJ(n:Nat):(n+1<=n)=False:=eq_false (by omega)
end
section
def lk:List (Nat×AV)->Nat->AV
 |[],_=>.undef
 |(k,v)::m,t=>if k=t then v else lk m t
def FM(n:Nat)(m:List (Nat×AV)):List AV:=(List.range n).map (lk m)
def mk(n:Nat)(ks:List Nat):List Bool:=(List.range n).map λt=>ks.contains t
def pick(m:List (Nat×AV)):List Nat->List (Nat×AV)
 |[]=>[]
 |k::ks=>(k,lk m k)::pick m ks
def yO:Nat->List AV->List (Nat×AV)
 |_,[]=>[]
 |k,a::r=>(k,a)::yO (k+1) r
def wD(n:Nat):Nat->List (Nat×AV)->Bool
 |_,[]=>true
 |lo,(k,_)::r=>decide (lo<=k)&&decide (k<n)&&wD n (k+1) r
def DJ:List (Nat×AV)->List AV
 |[]=>[]
 |(_,v)::r=>v::DJ r
def L9(n0:Nat)(ks:List Nat):List (Nat×AV)->List (Nat×AV)
 |[]=>[]
 |(k,v)::r=>(k,fA n0 ks v)::L9 n0 ks r
theorem acW(t:Nat)(v:AV)(m:List (Nat×AV)):lk ((t,v)::m) t=v:=if_pos rfl
theorem Zv{k t:Nat}(v:AV)(m:List (Nat×AV))(h:(k==t)=false):lk ((k,v)::m) t=lk m t:=if_neg (by simpa using h)
theorem adx(t:Nat):lk [] t=.undef:=rfl
theorem ni(n:Nat)(m:List (Nat×AV)):(FM n m).length=n:=by simp[FM]
theorem xm{n t:Nat}(m:List (Nat×AV))(h:t<n):(FM n m)[t]? =some (lk m t):=by simp[FM,h]
theorem Cw{n t:Nat}(m:List (Nat×AV))(h:t<n):(FM n m).getD t .undef=lk m t:=by rw[List.getD_eq_getElem?_getD,xm m h];rfl
theorem Wf(n:Nat)(m:List (Nat×AV))(t:Nat)(v:AV):(FM n m).set t v=FM n ((t,v)::m):=by
 apply List.ext_getElem?;intro i;rw[List.getElem?_set,ni];by_cases hi:i<n
 .rw[xm _ hi,xm _ hi];by_cases e:t=i
  .subst e;simp[hi,lk]
  .simp[e,lk]
 .have h1:(FM n m)[i]? =none:=List.getElem?_eq_none (by rw[ni];omega);have h2:(FM n ((t,v)::m))[i]? =none:=List.getElem?_eq_none (by rw[ni];omega);rw[h1,h2];split
  .split
   .omega
   .rfl
  .rfl
theorem ag6{n t:Nat}(m:List (Nat×AV))(h:t<n):cX.ev (FM n m) (.tmp t)=lk m t:=Cw m h
theorem VB(fr:List AV)(v:AV):cX.ev fr (.const v)=v:=rfl
theorem adV(n:Nat)(m:List (Nat×AV))(d:Nat)(v:AV):gx (FM n m) (some d) v=FM n ((d,v)::m):=Wf n m d v
theorem VD(fr:List AV)(v:AV):gx fr none v=fr:=rfl
theorem JQ{n t:Nat}(m:List (Nat×AV))(want:Bool)(h:t<n):dA (FM n m) (some (t,want))=match lk m t with
 |.bool b=>some (b !=want)
 |.tuple []=>some true
 |_=>none:=by
 simp only[dA,xm m h]
 cases lk m t with
 |tuple vs=>cases vs<;>rfl
 |_=>rfl
theorem Zj{n t:Nat}(m:List (Nat×AV))(hp:af)(h:t<n):wC (FM n m) hp (.tmp t)=some (lk m t):=by simp only[wC,Cw m h]
theorem YW{n t:Nat}(m:List (Nat×AV))(hp:af)(k:Option Nat)(h:t<n):wC (FM n m) hp (.cell t k)=QB hp k (lk m t):=by simp only[wC,Cw m h]
theorem Qz(m:List (Nat×AV))(t:Nat):∀ks:List Nat,lk (pick m ks) t=if ks.contains t then lk m t else .undef
 |[]=>by simp[pick,lk]
 |k::ks=>by
   simp only[pick,lk,Qz m t ks,List.contains_cons];by_cases e:k=t
   .subst e;simp
   .have e':¬t=k:=λh=>e h.symm
    simp[e,e']
theorem Gz:∀(bs:List Bool) (fr:List AV) (t:Nat),bs.length=fr.length->(clear bs fr)[t]? =(fr[t]?).map λv=>if bs.getD t false then v else .undef
 |[],[],t,_=>by simp[clear]
 |b::bs,v::fr,0,_=>by simp[clear]
 |b::bs,v::fr,t+1,h=>by simp only[clear,List.getElem?_cons_succ,List.getD_cons_succ];exact Gz bs fr t (by simpa using h)
theorem L6(n:Nat)(m:List (Nat×AV))(ks:List Nat):clear (mk n ks) (FM n m)=FM n (pick m ks):=by
 apply List.ext_getElem?;intro t;rw[Gz _ _ _ (by simp[mk,FM])];by_cases ht:t<n
 .rw[xm _ ht,xm _ ht,Qz]
  have:(mk n ks).getD t false=ks.contains t:=by rw[List.getD_eq_getElem?_getD];simp[mk,ht]
  simp only[this,Option.map_some]
 .have h1:(FM n m)[t]? =none:=List.getElem?_eq_none (by rw[ni];omega);have h2:(FM n (pick m ks))[t]? =none:=List.getElem?_eq_none (by rw[ni];omega);rw[h1,h2];rfl
def BK:Nat->List Bool->List Nat
 |_,[]=>[]
 |k,true::r=>k::BK (k+1) r
 |k,false::r=>BK (k+1) r
theorem A6:∀(bs:List Bool) (k t:Nat),(BK k bs).contains t=(decide (k<=t)&&bs.getD (t-k) false)
 |[],k,t=>by simp[BK]
 |true::r,k,t=>by
   rw[BK,List.contains_cons,A6 r (k+1) t];by_cases e:t=k
   .subst e;simp
   .by_cases hl:k<=t
    .have:t-k=(t-(k+1))+1:=by omega
     have h2:k+1<=t:=by omega
     simp[e,hl,this,h2]
    .have h2:¬k+1<=t:=by omega
     simp[e,hl,h2]
 |false::r,k,t=>by
   rw[BK,A6 r (k+1) t];by_cases e:t=k
   .subst e;have h2:¬t+1<=t:=by omega
    simp only[h2,decide_false,Bool.false_and,Nat.sub_self,List.getD_cons_zero,Bool.and_false]
   .by_cases hl:k<=t
    .have:t-k=(t-(k+1))+1:=by omega
     have h2:k+1<=t:=by omega
     simp[hl,this,h2]
    .have h2:¬k+1<=t:=by omega
     simp[hl,h2]
theorem Rb{n:Nat}(m:List (Nat×AV))(bs:List Bool)(h:bs.length=n):clear bs (FM n m)=FM n (pick m (BK 0 bs)):=by
 rw[<-L6];congr 1;apply List.ext_getElem?;intro t;by_cases ht:t<n
 .have:t<bs.length:=by omega
  simp only[mk,List.getElem?_map,List.getElem?_range ht,Option.map_some,A6];simp[List.getD_eq_getElem?_getD,this]
 .rw[List.getElem?_eq_none (by omega),List.getElem?_eq_none (by simp[mk];omega)]
theorem L0:∀(as:List AV) (k t:Nat),lk (yO k as) t=if k<=t then as.getD (t-k) .undef else .undef
 |[],k,t=>by simp[yO,lk]
 |a::r,k,t=>by
   simp only[yO,lk,L0 r (k+1) t];by_cases e:k=t
   .subst e;simp
   .by_cases hl:k<=t
    .have:t-k=(t-(k+1))+1:=by omega
     have h2:k+1<=t:=by omega
     simp[e,hl,this,h2]
    .have h2:¬k+1<=t:=by omega
     simp[e,hl,h2]
theorem IV{n:Nat}(as:List AV)(h:as.length<=n):as++List.replicate (n-as.length) .undef=FM n (yO 0 as):=by
 apply List.ext_getElem?;intro t;by_cases ht:t<n
 .rw[xm _ ht,L0];simp only[Nat.zero_le,if_true,Nat.sub_zero];by_cases h2:t<as.length
  .rw[List.getElem?_append_left h2,List.getD_eq_getElem?_getD,List.getElem?_eq_getElem h2];rfl
  .rw[List.getElem?_append_right (by omega),List.getElem?_replicate,if_pos (by omega),List.getD_eq_getElem?_getD,List.getElem?_eq_none (by omega)];rfl
 .rw[List.getElem?_eq_none (by simp;omega),List.getElem?_eq_none (by rw[ni];omega)]
theorem yQ(n0:Nat):∀(len lo:Nat) (m:List (Nat×AV)) (aJ:List Nat),wD (lo+len) lo m=true->aQ n0 ((List.range' lo len).map (lk m)) aJ=aQ n0 (DJ m) aJ
 |0,lo,[],aJ,_=>rfl
 |0,lo,(k,v)::m,aJ,h=>by simp only[wD,Bool.and_eq_true,decide_eq_true_eq] at h;omega
 |len+1,lo,m,aJ,h=>by
   rw[List.range'_succ,List.map_cons]
   cases m with
   |nil=>have:=yQ n0 len (lo+1) [] aJ rfl;simp only[lk,aQ,AV.top];exact this
   |cons p r=>
     obtain⟨k,v⟩:=p;simp only[wD,Bool.and_eq_true,decide_eq_true_eq] at h;obtain⟨⟨h1,h2⟩,h3⟩:=h;by_cases e:k=lo
     .subst e
      have tl:(List.range' (k+1) len).map (lk ((k,v)::r))=(List.range' (k+1) len).map (lk r):=by apply List.map_congr_left;intro t ht;have:=List.mem_range'_1.1 ht;simp only[lk];rw[if_neg (by omega)]
      have ih:=λaJ=>yQ n0 len (k+1) r aJ (by rw[show k+1+len=k+(len+1) by omega];exact h3)
      rw[tl];have e0:lk ((k,v)::r) k=v:=if_pos rfl;rw[e0];simp only[DJ];unfold aQ
      cases v.top with
      |none=>dsimp only;exact ih aJ
      |some id=>dsimp only;split<;>exact ih _
     .have ih:=yQ n0 len (lo+1) ((k,v)::r) aJ (by
       simp only[wD,Bool.and_eq_true,decide_eq_true_eq];rw[show lo+1+len=lo+(len+1) by omega];exact⟨⟨by omega,h2⟩,h3⟩)
      have hz:lk ((k,v)::r) lo=.undef:=by
       have:∀(m:List (Nat×AV)) (a t:Nat),wD (lo+(len+1)) a m=true->t<a->lk m t=.undef:=by
        intro m
        induction m with
        |nil=>intro a t _ _;rfl
        |cons p r ih=>obtain⟨k,v⟩:=p;intro a t h ht;simp only[wD,Bool.and_eq_true,decide_eq_true_eq] at h;simp only[lk];rw[if_neg (by omega)];exact ih (k+1) t h.2 (by omega)
       simp only[lk];rw[if_neg e];exact this r (k+1) lo h3 (by omega)
      rw[hz];simp only[aQ,AV.top];exact ih
theorem Qg(n0:Nat)(ks:List Nat)(t:Nat):∀m:List (Nat×AV),lk (L9 n0 ks m) t=fA n0 ks (lk m t)
 |[]=>rfl
 |(k,v)::m=>by
   simp only[L9,lk];split
   .rfl
   .exact Qg n0 ks t m
theorem Xh(n n0:Nat)(ks:List Nat)(m:List (Nat×AV)):(FM n m).map (fA n0 ks)=FM n (L9 n0 ks m):=by unfold FM;rw[List.map_map];apply List.map_congr_left;intro t _;exact (Qg n0 ks t m).symm
def allM(n0:Nat):List (Nat×AV)->Bool
 |[]=>true
 |(_,v)::r=>(v.top.isSome||decide (v.aK<=n0))&&allM n0 r
theorem aci{m:List (Nat×AV)}{n lo t:Nat}:wD n lo m=true->lk m t=.undef\/∃p∈m,p.2=lk m t:=by
 induction m generalizing lo with
 |nil=>exact λ_=>.inl rfl
 |cons p r ih=>
   obtain⟨k,v⟩:=p;intro h;simp only[wD,Bool.and_eq_true,decide_eq_true_eq] at h;simp only[lk];split
   .exact .inr ⟨_,List.mem_cons_self,rfl⟩
   .rcases ih h.2 with h|⟨p,hp,e⟩
    .exact .inl h
    .exact .inr ⟨p,List.mem_cons_of_mem _ hp,e⟩
theorem SK{m:List (Nat×AV)}{n lo:Nat}:wD n lo m=true->∀p∈m,p.1<n/\lk m p.1=p.2:=by
 induction m generalizing lo with
 |nil=>intro _ p hp;cases hp
 |cons q r ih=>
   obtain⟨k,v⟩:=q;intro h p hp;simp only[wD,Bool.and_eq_true,decide_eq_true_eq] at h
   have low:∀(r:List (Nat×AV)) (a:Nat),wD n a r=true->∀p∈r,a<=p.1:=by
    intro r
    induction r with
    |nil=>intro a _ p hp;cases hp
    |cons q r ih=>
      obtain⟨k,v⟩:=q;intro a h p hp;simp only[wD,Bool.and_eq_true,decide_eq_true_eq] at h
      cases hp with
      |head=>exact h.1.1
      |tail _ hp=>have:=ih (k+1) h.2 p hp;omega
   cases hp with
   |head=>exact⟨h.1.2,if_pos rfl⟩
   |tail _ hp=>obtain⟨g1,g2⟩:=ih h.2 p hp;have:=low r (k+1) h.2 p hp;refine⟨g1,?_⟩;simp only[lk];rw[if_neg (by omega)];exact g2
theorem Ul{n:Nat}{m:List (Nat×AV)}(n0:Nat)(h:wD n 0 m=true):((FM n m).all λv=>v.top.isSome||decide (v.aK<=n0))=allM n0 m:=by
 have e:allM n0 m=m.all λp=>p.2.top.isSome||decide (p.2.aK<=n0):=by
  clear h
  induction m with
  |nil=>rfl
  |cons p r ih=>obtain⟨k,v⟩:=p;simp[allM,ih]
 rw[e,Bool.eq_iff_iff,List.all_eq_true,List.all_eq_true];constructor
 .intro H p hp;obtain⟨h1,h2⟩:=SK h p hp;rw[<-h2];exact H _ (List.mem_map.2 ⟨p.1,by simpa using h1,rfl⟩)
 .intro H v hv;obtain⟨t,_,rfl⟩:=List.mem_map.1 hv;rcases aci (t:=t) h with e|⟨p,hp,e⟩
  .rw[e];simp[AV.aK]
  .rw[<-e];exact H p hp
def KR(n0:Nat):List aS->List Nat->List Nat
 |[],aJ=>aJ
 |o::r,aJ=>if dB n0 o=true then KR n0 r aJ else KR n0 r (aQ n0 (jd o) aJ)
def Dz(n0:Nat):List aS->Bool
 |[]=>true
 |o::r=>(dB n0 o||(jd o).all (th n0))&&Dz n0 r
def E2(n0:Nat):List aS->Bool
 |[]=>true
 |o::r=>dB n0 o&&E2 n0 r
def Dy(n0:Nat)(ks:List Nat):List aS->List aS
 |[]=>[]
 |o::r=>(if dB n0 o=true then o else qC n0 ks o)::Dy n0 ks r
theorem AX{n0:Nat}:∀{l:List AV} {aJ:List Nat},(l.all λv=>decide (v.aK<=n0))=true->aQ n0 l aJ=aJ
 |[],aJ,_=>rfl
 |v::r,aJ,h=>by
   rw[List.all_cons,Bool.and_eq_true] at h;simp only[aQ];split
   .rename_i id ht
    have de:id+1<=n0:=by have:=of_decide_eq_true h.1;cases v<;>simp only[AV.top,Option.some.injEq,reduceCtorEq] at ht<;>subst ht<;>exact this
    rw[if_neg (by omega)];exact AX h.2
   .exact AX h.2
theorem AO(n0:Nat):∀(os:List aS) (aJ:List Nat),aQ n0 (ji os) aJ=KR n0 os aJ
 |[],aJ=>rfl
 |o::r,aJ=>by
   rw[ji,my,KR];split
   .rename_i h;rw[AX h];exact AO n0 r aJ
   .exact AO n0 r _
theorem Qb(n0:Nat):∀os:List aS,(ji os).all (th n0)=Dz n0 os
 |[]=>rfl
 |o::r=>by
   rw[ji,List.all_append,Qb n0 r,Dz];congr 1;by_cases h:dB n0 o=true
   .rw[h,Bool.true_or,List.all_eq_true];intro v hv;unfold dB at h;have:=List.all_eq_true.1 h v hv;unfold th;rw[this,Bool.or_true]
   .rw[Bool.not_eq_true] at h;rw[h,Bool.false_or]
theorem Ql(n0:Nat):∀os:List aS,os.all (dB n0)=E2 n0 os
 |[]=>rfl
 |o::r=>by rw[List.all_cons,Ql n0 r,E2]
theorem PY(n0:Nat)(ks:List Nat):∀os:List aS,os.map (qC n0 ks)=Dy n0 ks os
 |[]=>rfl
 |o::r=>by
   rw[List.map_cons,PY n0 ks r,Dy];congr 1;split
   .rename_i h;exact E6 h
   .rfl
theorem yZ(n0:Nat)(cs:List AV):dB n0 (.row cs)=decide (AV.aj cs<=n0):=by
 show (cs.all λv=>decide (v.aK<=n0))=_;rw[Bool.eq_iff_iff,List.all_eq_true,decide_eq_true_eq];constructor
 .intro h;exact AV.j5 λv hv=>by simpa using h v hv
 .intro h v hv;have:=AV.cM hv;simp only[decide_eq_true_eq];omega
theorem dx(n0:Nat)(es:List (AV×AV)):dB n0 (.map es)=es.all λe=>decide (e.1.aK<=n0)&&decide (e.2.aK<=n0):=by
 show ((es.flatMap λe=>[e.1,e.2]).all λv=>decide (v.aK<=n0))=_
 induction es with
 |nil=>rfl
 |cons e r ih=>rw[List.flatMap_cons,List.all_append,ih];simp
theorem FP(n0:Nat):dB n0 .dead=true:=rfl
theorem W4(n0:Nat){n:Nat}{m:List (Nat×AV)}(nx:Nat)(os:List aS)(wl md:Nat)(hs:wD n 0 m=true):gc n0 (FM n m) ⟨nx,os,wl,md⟩=
 if n0<=wl then
  match nW ⟨nx,os,wl,md⟩ n0 (aQ n0 (DJ m) []) with
  |some ks=>if n0<=wl/\n0<=nx/\allM n0 m=true then
   (FM n (L9 n0 (aQ n0 (DJ m) []) m),⟨n0+ks.length,ks.reverse++os.drop (nx-n0),wl,md⟩) else (FM n m,⟨nx,os,wl,md⟩)
  |none=>(FM n m,⟨nx,os,wl,md⟩)
 else
  match nW ⟨nx,os,wl,md⟩ n0 (KR n0 (os.drop (nx-n0)) (aQ n0 (DJ m) [])) with
  |some ks=>if n0<=nx/\allM n0 m=true/\Dz n0 (os.drop (nx-n0))=true/\E2 n0 ((os.drop (nx-n0)).drop (n0-wl))=true then
   (FM n (L9 n0 (KR n0 (os.drop (nx-n0)) (aQ n0 (DJ m) [])) m),
    ⟨n0+ks.length,ks.reverse++Dy n0 (KR n0 (os.drop (nx-n0)) (aQ n0 (DJ m) [])) (os.drop (nx-n0)),wl,min md wl⟩) else (FM n m,⟨nx,os,wl,md⟩)
  |none=>(FM n m,⟨nx,os,wl,md⟩):=by
 have hk:aQ n0 (FM n m) []=aQ n0 (DJ m) []:=by have:=yQ n0 n 0 m [] (by rw[Nat.zero_add];exact hs);rw[<-List.range_eq_range'] at this;exact this
 have ha:(FM n m).all (th n0)=allM n0 m:=Ul n0 hs;unfold gc;split
 .unfold KB;rw[hk,Ul n0 hs,Xh];rfl
 .unfold Js;dsimp only;rw[hk,ha,Xh,Qb,Ql,PY,AO];rfl
theorem ac0(n0 n nx:Nat)(os:List aS)(wl md:Nat)(hw:n0<=wl):gc n0 (FM n []) ⟨nx,os,wl,md⟩=if n0<=wl/\n0<=nx then (FM n [],⟨n0,os.drop (nx-n0),wl,md⟩) else (FM n [],⟨nx,os,wl,md⟩):=by rw[W4 (m:=[]) n0 nx os wl md rfl];simp[aQ,DJ,nW,allM,L9,hw]
end
end Sz
