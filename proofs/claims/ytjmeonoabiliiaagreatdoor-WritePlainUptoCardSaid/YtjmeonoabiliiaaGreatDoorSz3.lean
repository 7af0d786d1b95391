import Derived.Test.YtjmeonoabiliiaaGreatDoorSz2
import Derived.Tactics
set_option linter.all false
set_option maxHeartbeats 16000000
set_option maxRecDepth 100000
namespace Sz
open Go
section
theorem y6(sz:Nat):∀(n:Nat) (cs:List AV),(chunk sz n cs).length=n
 |0,_=>rfl
 |n+1,cs=>by simp[chunk,y6 sz n]
theorem By{sz:Nat}:∀(n:Nat) (cs:List AV) (i:Nat) (hi:i<(chunk sz n cs).length),(chunk sz n cs)[i]=if sz=1 then (cs.drop (i*sz)).headD .undef else .agg ((cs.drop (i*sz)).take sz)
 |0,cs,i,hi=>by simp[chunk] at hi
 |n+1,cs,0,hi=>by simp[chunk]
 |n+1,cs,i+1,hi=>by simp only[chunk,List.getElem_cons_succ];rw[By n (cs.drop sz) i (by simpa[chunk] using hi),List.drop_drop];rw[show sz+i*sz=(i+1)*sz by rw[Nat.add_mul];omega]
theorem CM(sz:Nat):∀(n:Nat) (cs:List AV),AV.ah (chunk sz n cs)<=AV.ah cs
 |0,_=>by simp[chunk,AV.ah]
 |n+1,cs=>by
   have h1:=CM sz n (cs.drop sz);have h2:AV.ah (cs.drop sz)<=AV.ah cs:=AV.kB λv hv=>AV.cR (List.mem_of_mem_drop hv)
   simp only[chunk,AV.ah]
   have h3:(if sz=1 then cs.headD .undef else AV.agg (cs.take sz)).aJ<=AV.ah cs:=by
    split
    .cases cs with
     |nil=>simp[AV.aJ]
     |cons x r=>simp only[List.headD_cons,AV.ah];omega
    .simp only[AV.aJ];exact AV.kB λv hv=>AV.cR (List.mem_of_mem_take hv)
   omega
section
variable {φ:eJ}{h:af}{w:World}
theorem AB{F:AV->Option (AV×List Nat)}{nx:Nat}{pr AT:Nat->Prop}(hF:∀v cv v' eG,F v=some (v',eG)->RV φ nx pr w v cv->(∀id∈eG,AT (φ id).gA)->RV φ nx AT w v' cv):
 ∀(cs:List AV) (iN:List AV) (eG:List Nat) (f:Nat->Value),lg F cs=some (iN,eG)->(∀j (hj:j<cs.length),RV φ nx pr w cs[j] (f j))->(∀id∈eG,AT (φ id).gA)->
   iN.length=cs.length/\∀j (hj:j<iN.length),RV φ nx AT w iN[j] (f j)
 |[],iN,eG,f,he,_,_=>by simp only[lg,Option.some.injEq,Prod.mk.injEq] at he;obtain⟨rfl,rfl⟩:=he;exact⟨rfl,λj hj=>by simp at hj⟩
 |v::r,iN,eG,f,he,hv,uC=>by
   simp only[lg] at he;split at he
   .rename_i v' i r' j h1 h2;cases he;obtain⟨g1,g2⟩:=AB hF r r' j (λk=>f (k+1)) h2 (λk hk=>hv (k+1) (Nat.succ_lt_succ hk)) (λid bX=>uC id (by simp[bX]));refine⟨by simp[g1],λk hk=>?_⟩
    cases k with
    |zero=>exact hF _ _ _ _ h1 (hv 0 (by simp)) (λid bX=>uC id (by simp[bX]))
    |succ k=>exact g2 k (by simpa using hk)
   .cases he
theorem wb{F:AV->Option (AV×List Nat)}{p:Nat->Prop}(hF:∀v v' eG,F v=some (v',eG)->∀id∈eG,p id):∀(cs iN:List AV) (eG:List Nat),lg F cs=some (iN,eG)->∀id∈eG,p id
 |[],iN,eG,he=>by simp only[lg,Option.some.injEq,Prod.mk.injEq] at he;obtain⟨rfl,rfl⟩:=he;intro id bX;cases bX
 |v::r,iN,eG,he=>by
   simp only[lg] at he;split at he
   .rename_i v' i r' j h1 h2;cases he;intro id bX;rcases List.mem_append.1 bX with bX|bX
    .exact hF _ _ _ h1 id bX
    .exact wb hF r r' j h2 id bX
   .cases he
theorem xc{n0:Nat}:∀(d:Nat) (v v':AV) (eG:List Nat),jL h n0 d v=some (v',eG)->∀id∈eG,n0<=id/\live h id
 |0,v,v',eG,he=>by simp[jL] at he
 |d+1,v,v',eG,he=>by
   unfold jL at he;split at he
   .split at he
    .cases he;intro id bX;cases bX
    .rename_i cY;split at he
     .rename_i cs rF;split at he
      .split at he
       .rename_i iN QQ h1;split at he
        .cases he;intro id bX
         cases bX with
         |head=>exact⟨by omega,_,Ag rF,λe=>by cases e⟩
         |tail _ bX=>exact wb (λv v' eG he=>xc d v v' eG he) _ _ _ h1 id bX
        .cases he
       .cases he
      .cases he
     .cases he
   .obtain⟨⟨iN,QQ⟩,h1,e⟩:=Option.map_eq_some_iff.1 he;cases e;exact wb (λv v' eG he=>xc d v v' eG he) _ _ _ h1
   .obtain⟨⟨iN,QQ⟩,h1,e⟩:=Option.map_eq_some_iff.1 he;cases e;exact wb (λv v' eG he=>xc d v v' eG he) _ _ _ h1
   .cases he;intro id bX;cases bX
theorem J5(hr:HR φ h w){n0:Nat}{AT:Nat->Prop}(mF:∀b,Pr φ h w b->AT b):∀(d:Nat) (v:AV) (cv:Value) (v':AV) (eG:List Nat),jL h n0 d v=some (v',eG)->fe φ h w v cv->(∀id∈eG,AT (φ id).gA)->RV φ h.next AT w v' cv
 |0,v,cv,v',eG,he,_,_=>by simp[jL] at he
 |d+1,v,cv,v',eG,he,hv,uC=>by
   have gB:RV φ h.next AT w v cv:=hv.mono (λ_ _ bX=>⟨rfl,bX⟩) λb hb=>⟨mF b hb,rfl⟩
   have ih:=λv cv v' eG=>J5 hr (n0:=n0) mF d v cv v' eG
   unfold jL at he;split at he
   .rename_i id off len sz lb;split at he
    .cases he;exact gB
    .split at he
     .rename_i cs rF;have hg:=Ag rF;split at he
      .rename_i hc;split at he
       .rename_i iN QQ h1;split at he
        .rename_i N0;cases he;obtain⟨c,el,fz,k1,k2,k3,k4,k5,k6⟩:=hr.rows id cs hg;obtain⟨cap,ad,rfl,bX,hl,p8,xV,ha⟩:=hv.kO;have dI:((cs.drop off).take (len*sz)).length=len*sz:=by simp;omega
         obtain⟨g1,g2⟩:=AB ih _ _ _ (λj=>c.getD ((φ id).base+off+j) default) h1 (λj hj=>by
          have jC:off+j<cs.length:=by omega
          have:=k6 (off+j) jC;rw[Nat.add_assoc];simpa using this) (λi hi=>uC i (by simp[hi]))
         rw[dI] at g1;rcases Nat.eq_zero_or_pos len with h0|h0
         .subst h0;exact .slnil _ _
         .rw[ha (by omega)];have dq:=y6 sz len iN
          have one:∀j (hj:j<iN.length),iN[j].cells=[iN[j]]:=λj hj=>by
           have q1:=g2 j hj;have q2:=k5 (off+j) (by omega);rw[<-Nat.add_assoc] at q2;generalize iN[j]=y at q1|-;cases y<;>try rfl
           obtain⟨eY,q3,_⟩:=q1.qu;rw[q3] at q2;cases q2
          have mG:∀i j (hi:i<(chunk sz len iN).length) (hj:j<sz),∃hk:i*sz+j<iN.length,((chunk sz len iN)[i]).cells[j]? =some iN[i*sz+j]:=λi j hi hj=>by
           rw[dq] at hi;have h2:(i+1)*sz<=len*sz:=Nat.mul_le_mul_right _ hi;rw[Nat.add_mul] at h2;refine⟨by omega,?_⟩;rw[By];split
           .rename_i h1;subst h1;obtain rfl:j=0:=by omega
            have hk:i*1<iN.length:=by omega
            have e:(iN.drop (i*1)).headD .undef=iN[i*1]:=by rw[List.drop_eq_getElem_cons hk];rfl
            rw[e,one];simp
           .simp only[AV.cells];rw[List.getElem?_take,if_pos hj,List.getElem?_drop,List.getElem?_eq_getElem]
          have ajU:∀i (hi:i<(chunk sz len iN).length),((chunk sz len iN)[i]).cells?.map List.length=some sz:=λi hi=>by
           have iO:i<len:=by omega
           have h2:(i+1)*sz<=len*sz:=Nat.mul_le_mul_right _ iO;rw[Nat.add_mul] at h2;rw[By];split
           .rename_i h1;subst h1;have hk:i*1<iN.length:=by omega
            have e:(iN.drop (i*1)).headD .undef=iN[i*1]:=by rw[List.drop_eq_getElem_cons hk];rfl
            rw[e];have:=List.all_eq_true.1 N0.2 _ (List.getElem_mem hk);simpa using this
           .simp only[AV.cells?,Option.map_some,Option.some.injEq];simp;omega
          have key:=RV.sl (φ:=φ) (nx:=h.next) (pr:=AT) (w:=w) (chunk sz len iN) (φ id).gA ((φ id).base+off) cap sz (λi j=>if i*sz+j<len*sz then c.getD ((φ id).base+off+(i*sz+j)) default else default) (uC id (by simp)) (by omega)
           (by have:=CM sz len iN;omega) (λi j=>?_) ajU (λi j hi hj=>?_) λi hi j hj=>?_
          .rw[dq] at key;exact key
          .split
           .have:=k5 (off+(i*sz+j)) (by omega);rw[<-Nat.add_assoc] at this;exact this
           .rfl
          .obtain⟨hk,_⟩:=mG i j hi hj;have cY:(φ id).base+off+(i*sz+j)<c.size:=by omega
           have AM:i*sz+j<len*sz:=by omega
           rw[if_pos AM,Nat.add_assoc ((φ id).base+off)];unfold World.cell?;simp only[k1];simp[Array.getD,cY]
          .have hjs:j<sz:=by
            have q:=ajU i hi
            have:(chunk sz len iN)[i].cells.length=sz:=by generalize (chunk sz len iN)[i]=y at q|-;cases y<;>simp[AV.cells?] at q<;>simp[AV.cells,q]
            omega
           obtain⟨hk,e⟩:=mG i j hi hjs;rw[List.getElem?_eq_getElem hj] at e;have e:=Option.some.inj e;have AM:i*sz+j<len*sz:=by omega
           rw[e,if_pos AM];exact g2 _ hk
        .cases he
       .cases he
      .cases he
     .cases he
   .rename_i cs;obtain⟨⟨iN,QQ⟩,h1,e⟩:=Option.map_eq_some_iff.1 he;cases e;obtain⟨eY,rfl,g1,g2,g3⟩:=hv.qu;obtain⟨q1,q2⟩:=AB ih _ _ _ (λj=>eY.getD j default) h1 g3 uC;exact .agg _ _ (by dsimp only;omega) g2 q2
   .rename_i cs;obtain⟨⟨iN,QQ⟩,h1,e⟩:=Option.map_eq_some_iff.1 he;cases e;obtain⟨eY,rfl,g1,g2⟩:=hv.sa;obtain⟨q1,q2⟩:=AB ih _ _ _ (λj=>eY.getD j default) h1 g2 uC;exact .tuple _ _ (by dsimp only;omega) q2
   .cases he;exact gB
theorem Pr.Jq{eG:List Nat}{b:Nat}(hb:b<w.heap.size)(fW:∀id,live h id->(φ id).gA=b->id∈eG)(DR:¬φ.gh b):Pr φ (kill h eG) w b:=
 ⟨hb,λi hi e=>by obtain⟨h1,h2⟩:=Tx eG hi;exact h2 (fW i h1 e),DR⟩
theorem Na(hr:HR φ h w){n:Nat}(hn:n<=h.next)(hle:∀id,id<n->pD h id n):
 HR φ (h.kj n) w/\(∀b,Pr φ h w b->Pr φ (h.kj n) w b)/\(∀id,n<=id->live h id->Pr φ (h.kj n) w (φ id).gA):=by
 have lv:∀i,live (h.kj n) i->i<n/\live h i:=λi ⟨o,hg,ho⟩=>by
  have cY:=af.dR hg;simp only[af.yw] at cY;have hi:i<n:=by omega
  rw[af.sr hi] at hg;exact⟨hi,o,hg,ho⟩
 have pr:∀b,Pr φ h w b->Pr φ (h.kj n) w b:=λb hb=>⟨hb.1,λi hi=>hb.2.1 i (lv i hi).2,hb.2.2⟩
 have mv:∀v cv,v.aJ<=n->fe φ h w v cv->fe φ (h.kj n) w v cv:=λv cv hv N5=>N5.mono (λid h1 h2=>⟨rfl,by simp only[af.yw];omega⟩) λb hb=>⟨pr b hb,rfl⟩
 refine⟨⟨af.KW n hr.wf,λi cs hg=>?_,λi es hg=>?_,λi j hi hj e=>hr.inj i j (lv i hi).2 (lv j hj).2 e,λb hb=>⟨(hr.gh b hb).1,λi hi=>(hr.gh b hb).2 i (lv i hi).2⟩⟩,pr,λid bX hl=>⟨hr.fA hl,λi hi e=>?_,λhg=>(hr.gh _ hg).2 id hl rfl⟩⟩
 .have hi:=(lv i ⟨_,hg,λe=>by cases e⟩).1;rw[af.sr hi] at hg;obtain⟨c,el,fz,k1,k2,k3,k4,k5,k6⟩:=hr.rows i cs hg;refine⟨c,el,fz,k1,k2,k3,k4,k5,λj hj=>mv _ _ ?_ (k6 j hj)⟩;have h1:=(hle i hi).1 cs hg;have h2:=AV.cR (List.getElem_mem hj);omega
 .have hi:=(lv i ⟨_,hg,λe=>by cases e⟩).1;rw[af.sr hi] at hg;obtain⟨gn,pB,k1,k2,k3⟩:=hr.maps i es hg;refine⟨gn,pB,k1,k2,λj hj=>?_⟩;have h1:=(hle i hi).2 es hg es[j] (List.getElem_mem hj);exact⟨mv _ _ h1.1 (k3 j hj).1,mv _ _ h1.2 (k3 j hj).2⟩
 .have cY:=(lv i hi).1;have:=hr.inj i id (lv i hi).2 hl e;omega
theorem Uv{φ0:eJ}{h0:af}{w0:World}(hr:HR φ h w)(hx:Ext φ0 h0 w0 φ h w)(dq:CL {h0 with wl:=h0.next,md:=h0.next} h)(C5:HR φ0 h0 w0){gB:Bool}{v:AV}{cv:Value}(hv:fe φ h w v cv):
 fe φ (finish gB h0 v h).2 w (finish gB h0 v h).1 cv/\HR φ (finish gB h0 v h).2 w/\Ext φ0 h0 w0 φ (finish gB h0 v h).2 w:=by
 have plain:fe φ {h with wl:=min h0.wl h.wl,md:=min h0.md h.md} w v cv/\HR φ {h with wl:=min h0.wl h.wl,md:=min h0.md h.md} w/\Ext φ0 h0 w0 φ {h with wl:=min h0.wl h.wl,md:=min h0.md h.md} w:=by obtain⟨a1,a2⟩:=hr.uK (min h0.wl h.wl) (min h0.md h.md);exact⟨hv.ext a2,a1,hx.trans a2⟩
 unfold finish
 cases gB with
 |true=>simpa using plain
 |false=>
   simp only[Bool.false_eq_true,if_false];split
   .exact plain
   .rename_i v' eG ZE;have uC:=xc 8 v v' eG ZE;split
    .rename_i hc;obtain⟨t1,t2,t3⟩:=Na hr dq.next (dq.le h0.next (Nat.le_refl _) hc.1 C5.R7)
     obtain⟨s1,s2⟩:=t1.uK h0.wl (if h.md<h0.next then min h0.md h.md else h0.md);have q:=J5 hr (AT:=Pr φ (h.kj h0.next) w) t2 8 v cv v' eG ZE hv λid bX=>t3 id (uC id bX).1 (uC id bX).2
     have CQ:min h.next h0.next=h0.next:=Nat.min_eq_right dq.next
     have anr:Ext φ0 h0 w0 φ (h.kj h0.next) w:=by refine⟨hx.os,hx.tape,hx.output,hx.size,?_,hx.CD,λb hb=>⟨t2 b (hx.pr b hb).1,(hx.pr b hb).2⟩,hx.gh⟩;simp only[af.yw];omega
     refine⟨?_,s1,anr.trans s2⟩;refine (q.mono (λid h1 h2=>⟨rfl,?_⟩) λb hb=>⟨hb,rfl⟩:fe φ {h.kj h0.next with wl:=h0.wl,md:=(if h.md<h0.next then min h0.md h.md else h0.md)} w v' cv);show id<min h.next h0.next
     omega
    .obtain⟨k1,k2⟩:=Sc eG hr;obtain⟨s1,s2⟩:=k1.uK (min h0.wl h.wl) (min h0.md h.md)
     have q:=J5 hr (AT:=Pr φ (kill h eG) w) (λb hb=>(k2.pr b hb).1) 8 v cv v' eG ZE hv λid bX=>Pr.Jq (hr.fA (uC id bX).2) (λi hi e=>(by rw[hr.inj i id hi (uC id bX).2 e];exact bX)) λhg=>(hr.gh _ hg).2 id (uC id bX).2 rfl
     have hnk:∀(eG:List Nat) (h:af),(kill h eG).next=h.next:=by
      intro eG
      induction eG with
      |nil=>exact λh=>rfl
      |cons i r ih=>intro h;simp only[kill];rw[ih];simp
     refine⟨?_,s1,hx.trans (k2.trans s2)⟩;have q2:fe φ (kill h eG) w v' cv:=q.mono (λid _ h2=>⟨rfl,by rw[hnk];exact h2⟩) λb hb=>⟨hb,rfl⟩
     exact q2.ext s2
end
end
section
def dk(n:Nat):AV->Bool
 |.ptr id _=>decide (id<n)
 |.vec id _ _ _ _=>decide (id<n)
 |.map id=>decide (id<n)
 |v=>v.aJ==0
def C7(n:Nat):aT->Bool
 |.row cs=>cs.all (dk n)
 |.map es=>es.all λe=>dk n e.1&&dk n e.2
 |.dead=>true
def D3(os:List aT):af:=⟨os.length,os.reverse,os.length,os.length⟩
theorem Ko(os:List aT)(i:Nat):(D3 os).get i=os[i]?:=by
 unfold af.get D3;dsimp only;by_cases h:i<os.length
 .rw[if_pos h,List.getElem?_reverse (by omega),show os.length-1-(os.length-1-i)=i by omega]
 .rw[if_neg h,List.getElem?_eq_none (by omega)]
structure GX(h:af)(g:Nat->Nat)(os:List aT):Prop where
 obj:∀i o,os[i]? =some o->(∀_:o=.dead,False)->h.get (g i)=some (gE g o)/\C7 os.length o=true
 inj:∀i j o o',os[i]? =some o->os[j]? =some o'->(∀_:o=.dead,False)->(∀_:o'=.dead,False)->g i=g j->i=j
theorem BL{g:Nat->Nat}{o:aT}(h:∀_:o=.dead,False):∀_:gE g o=.dead,False:=λe=>by
 cases o with
 |dead=>exact h rfl
 |row cs=>cases e
 |map es=>cases e
theorem RV.swap{φ φ':eJ}{nx SI m:Nat}{pr AT:Nat->Prop}{w:World}{a b:Nat->Nat}(hφ:∀i,i<m->φ' (b i)=φ (a i)/\b i<SI)(mF:∀x,pr x->AT x){v:AV}{cv:Value}(hl:dk m v=true)
 (h:RV φ nx pr w (sig a v) cv):RV φ' SI AT w (sig b v) cv:=by
 have plain:sig a v=v->sig b v=v->v.aJ=0->RV φ' SI AT w (sig b v) cv:=λe1 e2 e3=>by rw[e1] at h;rw[e2];exact h.mono (λid bX _=>by omega) λx hx=>⟨mF x hx,rfl⟩
 cases v with
 |ptr id off=>obtain⟨rfl,_⟩:=RV.wH h;obtain⟨e,hb⟩:=hφ id (of_decide_eq_true hl);rw[<-e];exact .ptr _ _ hb
 |vec id off len sz lb=>obtain⟨cap,ad,rfl,_,h1,h2,h3,h4⟩:=RV.kO h;obtain⟨e,hb⟩:=hφ id (of_decide_eq_true hl);rw[<-e] at h3 h4;exact .vec _ _ _ _ _ cap ad hb h1 h2 h3 h4
 |map id=>obtain⟨rfl,_⟩:=RV.uo h;obtain⟨e,hb⟩:=hφ id (of_decide_eq_true hl);rw[<-e];exact .map _ hb
 |_=>exact plain rfl rfl (by simpa[dk] using hl)
theorem E1{v:AV}:sig (λi=>i) v=v:=by cases v<;>rfl
section
variable {φ:eJ}{h:af}{w:World}{g:Nat->Nat}{os:List aT}
def pH(φ:eJ)(h:af)(g:Nat->Nat)(os:List aT):eJ:=⟨λi=>φ (g i),λb=>φ.gh b\/∃id,live h id/\(∀i o,os[i]? =some o->(∀_:o=.dead,False)->g i≠id)/\(φ id).gA=b⟩
theorem DC{i:Nat}(hl:live (D3 os) i):∃o,os[i]? =some o/\∀_:o=.dead,False:=by obtain⟨o,h1,h2⟩:=hl;rw[Ko] at h1;exact⟨o,h1,h2⟩
theorem GX.live(S:GX h g os){i:Nat}(hl:Sz.live (D3 os) i):Sz.live h (g i):=by obtain⟨o,h1,h2⟩:=DC hl;exact⟨_,(S.obj i o h1 h2).1,BL h2⟩
theorem JX(hr:HR φ h w)(S:GX h g os){b:Nat}(hb:Pr φ h w b):Pr (pH φ h g os) (D3 os) w b:=
 ⟨hb.1,λi hl=>hb.2.1 _ (S.live hl),λhc=>by
  rcases hc with hc|⟨id,hl,_,e⟩
  .exact hb.2.2 hc
  .exact hb.2.1 id hl e⟩
theorem aet(hr:HR φ h w)(S:GX h g os):HR (pH φ h g os) (D3 os) w:=by
 have swap:∀(v:AV) (cv:Value),dk os.length v=true->fe φ h w (sig g v) cv->fe (pH φ h g os) (D3 os) w v cv:=λv cv hl hv=>by have:=RV.swap (φ':=pH φ h g os) (SI:=os.length) (m:=os.length) (AT:=Pr (pH φ h g os) (D3 os) w) (a:=g) (b:=λi=>i) (λi hi=>⟨rfl,hi⟩) (λx hx=>JX hr S hx) hl hv;rw[E1] at this;exact this
 refine⟨by simp[af.wf,D3],λi cs hg=>?_,λi es hg=>?_,λi j hi hj e=>?_,λb hb=>?_⟩
 .rw[Ko] at hg;obtain⟨h1,h2⟩:=S.obj i _ hg λe=>by cases e
  obtain⟨c,el,fr,g1,g2,g3,g4,g5,g6⟩:=hr.rows (g i) _ h1;rw[List.length_map] at g3;refine⟨c,el,fr,g1,g2,g3,g4,g5,λj hj=>?_⟩;have:=g6 j (by simpa using hj);rw[List.getElem_map] at this;exact swap _ _ (List.all_eq_true.1 h2 _ (List.getElem_mem hj)) this
 .rw[Ko] at hg;obtain⟨h1,h2⟩:=S.obj i _ hg λe=>by cases e
  obtain⟨gn,pB,g1,g2,g3⟩:=hr.maps (g i) _ h1;refine⟨gn,pB,g1,by simpa using g2,λj hj=>?_⟩;have:=g3 j (by simpa using hj);rw[List.getElem_map] at this;have h3:=List.all_eq_true.1 h2 _ (List.getElem_mem hj);rw[Bool.and_eq_true] at h3;exact⟨swap _ _ h3.1 this.1,swap _ _ h3.2 this.2⟩
 .have:=hr.inj _ _ (S.live hi) (S.live hj) e;obtain⟨o,h1,h2⟩:=DC hi;obtain⟨o',h3,h4⟩:=DC hj;exact S.inj i j o o' h1 h3 h2 h4 this
 .rcases hb with hb|⟨id,hl,hn,e⟩
  .exact⟨(hr.gh b hb).1,λi hi=>(hr.gh b hb).2 _ (S.live hi)⟩
  .refine⟨e▸hr.fA hl,λi hi e2=>?_⟩;obtain⟨o,h1,h2⟩:=DC hi;exact hn i o h1 h2 (hr.inj _ _ (S.live hi) hl (e2.trans e.symm))
theorem HX(h:af)(k:Nat)(o:aT):(Bj h k o).next=h.next:=by unfold Bj af.set;split<;>rfl
theorem yz(h:af)(k:Nat)(o:aT){i:Nat}(eR:i≠k):(Bj h k o).get i=h.get i:=by show ({h.set k o with wl:=_}:af).get i=_;exact af.get_set_other (Ne.symm eR)
theorem He(h:af)(k:Nat)(o:aT){o':aT}(hg:h.get k=some o'):(Bj h k o).get k=some o:=by show ({h.set k o with wl:=_}:af).get k=_;exact af.get_set_same hg
theorem sR(g:Nat->Nat):∀(ks:List Nat) (os:List aT) (h:af),(p7 g ks os h).next=h.next
 |[],_,h=>by unfold p7;rfl
 |k::ks,[],h=>by unfold p7;rfl
 |k::ks,o::os,h=>by
   show (p7 g ks os (Bj h k (gE g o))).next=_
   rw[sR g ks os,HX]
theorem yd(g:Nat->Nat):∀(ks:List Nat) (os:List aT) (h:af) {i:Nat},i∉ks->(p7 g ks os h).get i=h.get i
 |[],_,h,_,_=>by unfold p7;rfl
 |k::ks,[],h,_,_=>by unfold p7;rfl
 |k::ks,o::os,h,i,hi=>by simp only[List.mem_cons,not_or] at hi;show (p7 g ks os (Bj h k (gE g o))).get i=_;rw[yd g ks os _ hi.2,yz _ _ _ hi.1]
theorem Q7(g:Nat->Nat):∀(ks:List Nat) (os:List aT) (h:af),ks.Nodup->(∀k∈ks,∃o,h.get k=some o)->∀(i k:Nat) (o:aT),ks[i]? =some k->os[i]? =some o->(p7 g ks os h).get k=some (gE g o)
 |[],_,h,_,_,i,k,o,h1,_=>by simp at h1
 |k::ks,[],h,_,_,i,_,o,_,h2=>by simp at h2
 |k::ks,o::os,h,hn,hx,i,k',o',h1,h2=>by
   rw[List.nodup_cons] at hn;show (p7 g ks os (Bj h k (gE g o))).get k'=_
   cases i with
   |zero=>simp only[List.getElem?_cons_zero,Option.some.injEq] at h1 h2;subst h1 h2;obtain⟨q,hq⟩:=hx k (by simp);rw[yd g ks os _ hn.1];exact He _ _ _ hq
   |succ i=>
     simp only[List.getElem?_cons_succ] at h1 h2;refine Q7 g ks os _ hn.2 (λj hj=>?_) i k' o' h1 h2;obtain⟨q,hq⟩:=hx j (by simp[hj]);have eR:j≠k:=λe=>hn.1 (by rw[<-e];exact hj)
     exact⟨q,(yz _ _ _ eR).trans hq⟩
theorem G5(g:Nat->Nat):∀(os:List aT) (h:af),(yR g os h).next=h.next+os.length
 |[],h=>rfl
 |o::os,h=>by
   show (yR g os (h.alloc (gE g o))).next=_
   rw[G5 g os];show h.next+1+os.length=_
   simp only[List.length_cons];omega
theorem Aq(g:Nat->Nat):∀(os:List aT) (h:af) {i:Nat},i<h.next->(yR g os h).get i=h.get i
 |[],h,_,_=>rfl
 |o::os,h,i,hi=>by show (yR g os (h.alloc (gE g o))).get i=_;rw[Aq g os _ (show i<h.next+1 by omega),af.dd hi]
theorem LZ(g:Nat->Nat):∀(os:List aT) (h:af) {j:Nat} {o:aT},os[j]? =some o->(yR g os h).get (h.next+j)=some (gE g o)
 |[],h,j,o,hj=>by simp at hj
 |o::os,h,j,o',hj=>by
   show (yR g os (h.alloc (gE g o))).get (h.next+j)=_
   cases j with
   |zero=>simp only[List.getElem?_cons_zero,Option.some.injEq] at hj;subst hj;rw[Aq g os _ (show h.next+0<h.next+1 by omega)];exact af.fg
   |succ j=>have:=LZ g os (h.alloc (gE g o)) (j:=j) (o:=o') (by simpa using hj);rw[<-this];show _=(yR g os (h.alloc (gE g o))).get (h.next+1+j);congr 1;omega
theorem Sl(g:Nat->Nat):∀(os:List aT) {h:af},h.wf->(yR g os h).wf
 |[],_,hw=>hw
 |o::os,h,hw=>Sl g os (af.oz _ hw)
theorem aam{h:af}(k:Nat)(o:aT)(hw:h.wf):(Bj h k o).wf:=af.wf_set k o hw
theorem Rj(g:Nat->Nat):∀(ks:List Nat) (os:List aT) {h:af},h.wf->(p7 g ks os h).wf
 |[],_,_,hw=>by unfold p7;exact hw
 |k::ks,[],_,hw=>by unfold p7;exact hw
 |k::ks,o::os,h,hw=>Rj g ks os (aam k _ hw)
theorem Rq{τ:List Nat}{nC:List aT}(hw:h.wf):(join h τ nC).wf:=Sl _ _ (Rj _ _ _ hw)
theorem Ic{τ:List Nat}{nC:List aT}:(join h τ nC).next=h.next+(nC.length-τ.length):=by unfold join;rw[G5,sR,List.length_drop]
theorem Ff{τ:List Nat}{nC:List aT}{i:Nat}(hi:i<h.next)(hn:i∉τ):(join h τ nC).get i=h.get i:=by unfold join;rw[Aq _ _ _ (by rw[sR];exact hi),yd _ _ _ _ hn]
theorem Ki{τ:List Nat}{nC:List aT}(hn:τ.Nodup)(hx:∀k∈τ,∃o,h.get k=some o){i:Nat}{o:aT}(ho:nC[i]? =some o):(join h τ nC).get (oE h τ i)=some (gE (oE h τ) o):=by
 unfold join;by_cases hi:i<τ.length
 .have e:oE h τ i=τ[i]:=by unfold oE;rw[if_pos hi];simp[List.getD,hi]
  rw[e];obtain⟨q,hq⟩:=hx τ[i] (List.getElem_mem hi);rw[Aq _ _ _ (by rw[sR];exact af.dR hq)];exact Q7 _ _ _ _ hn hx i _ o (by simp[hi]) (by rw[List.getElem?_take_of_lt hi];exact ho)
 .have e:oE h τ i=h.next+(i-τ.length):=by unfold oE;rw[if_neg hi]
  rw[e];have:=LZ (oE h τ) (nC.drop τ.length) (p7 (oE h τ) τ (nC.take τ.length) h) (j:=i-τ.length) (o:=o) (by rw[List.getElem?_drop,show τ.length+(i-τ.length)=i by omega];exact ho);rw[sR] at this;exact this
def uO(m:Nat)(qs:List Nat)(i:Nat):Nat:=if i<m then i else qs.getD (i-m) 0
def qB(φ φ1:eJ)(n:Nat)(qs:List Nat):eJ:=⟨λid=>if id<n then φ id else φ1 (qs.getD (id-n) 0),φ.gh⟩
section
variable {φ1:eJ}{h1:af}{w':World}{τ qs:List Nat}{nC:List aT}
theorem ab1(hr:HR φ h w)(S:GX h (λi=>τ.getD i 0) os)(hτ:τ.length=os.length)(iF:∀o∈os,∀_:o=.dead,False)(hle:os.length<=nC.length)
 (hx:Ext (pH φ h (λi=>τ.getD i 0) os) (D3 os) w φ1 h1 w') (mH:HR φ1 h1 w') (S1:GX h1 (uO os.length qs) nC):
 HR (qB φ φ1 h.next qs) (join h τ nC) w'/\Ext φ h w (qB φ φ1 h.next qs) (join h τ nC) w'/\(∀b,Pr φ1 h1 w' b->Pr (qB φ φ1 h.next qs) (join h τ nC) w' b):=by
 -- the objects of the small heap,in the great one
 have mg:∀k∈τ,∃o,h.get k=some o/\∀_:o=.dead,False:=λk hk=>by
  obtain⟨i,hi,rfl⟩:=List.getElem_of_mem hk;have iO:i<os.length:=by omega
  have ho:os[i]? =some os[i]:=List.getElem?_eq_getElem iO;have hn:=iF _ (List.getElem_mem iO);have:=(S.obj i _ ho hn).1;have e:τ.getD i 0=τ[i]:=by simp[List.getD,hi]
  rw[e] at this;exact⟨_,this,BL hn⟩
 have N9:τ.Nodup:=by
  rw[List.nodup_iff_pairwise_ne,List.pairwise_iff_getElem];intro i j hi hj uA e;have iO:i<os.length:=by omega
  have jC:j<os.length:=by omega
  have e1:τ.getD i 0=τ[i]:=by simp[List.getD,hi]
  have e2:τ.getD j 0=τ[j]:=by simp[List.getD,hj]
  have:=S.inj i j _ _ (List.getElem?_eq_getElem iO) (List.getElem?_eq_getElem jC) (iF _ (List.getElem_mem iO)) (iF _ (List.getElem_mem jC)) (by rw[e1,e2];exact e);omega
 have cY:∀k∈τ,k<h.next:=λk hk=>by obtain⟨o,h1,_⟩:=mg k hk;exact af.dR h1
 have hgx:∀k∈τ,∃o,h.get k=some o:=λk hk=>by obtain⟨o,h1,_⟩:=mg k hk;exact⟨o,h1⟩
 have CQ:(join h τ nC).next=h.next+(nC.length-os.length):=by rw[Ic,hτ]
 have nR:∀i,i<nC.length->oE h τ i<(join h τ nC).next:=λi hi=>by
  rw[CQ];unfold oE;split
  .rename_i hl;have e:τ.getD i 0=τ[i]:=by simp[List.getD,hl]
   rw[e];have:=cY _ (List.getElem_mem hl);omega
  .omega
 have KA:∀i,i<nC.length->(qB φ φ1 h.next qs) (oE h τ i)=φ1 (uO os.length qs i):=λi hi=>by
  unfold oE uO;by_cases hl:i<τ.length
  .rw[if_pos hl,if_pos (by omega)];have e:τ.getD i 0=τ[i]:=by simp[List.getD,hl]
   have hk:=cY _ (List.getElem_mem hl);show (if τ.getD i 0<h.next then φ (τ.getD i 0) else _)=_;rw[if_pos (by rw[e];exact hk)];have:=hx.CD i (show i<os.length by omega);exact this.symm
  .rw[if_neg hl,if_neg (by omega)];show (if h.next+(i-τ.length)<h.next then _ else φ1 (qs.getD (h.next+(i-τ.length)-h.next) 0))=_;rw[if_neg (by omega),show h.next+(i-τ.length)-h.next=i-os.length by omega]
 -- what lies in the great heap after the call
 have QR:∀id o,(join h τ nC).get id=some o->(id<h.next/\id∉τ/\h.get id=some o)\/∃i o',nC[i]? =some o'/\id=oE h τ i/\o=gE (oE h τ) o':=λid o hg=>by
  have bX:=af.dR hg;rw[CQ] at bX;by_cases hm:id∈τ
  .obtain⟨i,hi,rfl⟩:=List.getElem_of_mem hm;have iO:i<nC.length:=by omega
   have e:oE h τ i=τ[i]:=by unfold oE;rw[if_pos hi];simp[List.getD,hi]
   have:=Ki (nC:=nC) N9 hgx (List.getElem?_eq_getElem iO);rw[e,hg] at this;cases this;exact .inr ⟨i,_,List.getElem?_eq_getElem iO,e.symm,rfl⟩
  .by_cases hl:id<h.next
   .rw[Ff hl hm] at hg;exact .inl ⟨hl,hm,hg⟩
   .have iO:id-h.next+τ.length<nC.length:=by omega
    have e:oE h τ (id-h.next+τ.length)=id:=by unfold oE;rw[if_neg (by omega)];omega
    have:=Ki (nC:=nC) N9 hgx (List.getElem?_eq_getElem iO);rw[e,hg] at this;cases this;exact .inr ⟨_,_,List.getElem?_eq_getElem iO,e.symm,rfl⟩
 have lv:∀id,live (join h τ nC) id->(id<h.next/\id∉τ/\live h id)\/∃i o',nC[i]? =some o'/\(∀_:o'=.dead,False)/\id=oE h τ i:=λid ⟨o,hg,ho⟩=>by
  rcases QR id o hg with⟨a1,a2,a3⟩|⟨i,o',a1,a2,a3⟩
  .exact .inl ⟨a1,a2,o,a3,ho⟩
  .refine .inr ⟨i,o',a1,λe=>?_,a2⟩;subst e;exact ho a3
 have lv1:∀i o',nC[i]? =some o'->(∀_:o'=.dead,False)->live h1 (uO os.length qs i):=λi o' a1 a2=>⟨_,(S1.obj i o' a1 a2).1,BL a2⟩
 -- other objects' blocks are spoken of by none
 have gho:∀id,id∉τ->live h id->φ1.gh (φ id).gA:=λid hn hl=>by
  rw[hx.gh.1];refine .inr ⟨id,hl,λi o ho fW e=>hn ?_,rfl⟩;have hi:i<os.length:=(List.getElem?_eq_some_iff.1 ho).1;have iO:i<τ.length:=by omega
  have e1:τ.getD i 0=τ[i]:=by simp[List.getD,iO]
  have e2:τ[i]=id:=e1.symm.trans e;rw[<-e2];exact List.getElem_mem iO
 have pr1:∀b,Pr φ1 h1 w' b->Pr (qB φ φ1 h.next qs) (join h τ nC) w' b:=λb hb=>by
  refine⟨hb.1,λid hl=>?_,λhg=>hb.2.2 (by rw[hx.gh.1];exact .inl hg)⟩;rcases lv id hl with⟨a1,a2,a3⟩|⟨i,o',a1,a2,rfl⟩
  .show (if id<h.next then φ id else _).gA≠b;rw[if_pos a1];intro e;exact hb.2.2 (e▸gho id a2 a3)
  .rw[KA i (List.getElem?_eq_some_iff.1 a1).1];exact hb.2.1 _ (lv1 i o' a1 a2)
 have ext:Ext φ h w (qB φ φ1 h.next qs) (join h τ nC) w':=by refine⟨hx.os,hx.tape,hx.output,hx.size,by rw[CQ];omega,λid bX=>if_pos bX,λb hb=>?_,rfl,λb hb=>hx.gh.2 b (.inl hb)⟩;obtain⟨g1,g2⟩:=hx.pr b (JX hr S hb);exact⟨pr1 b g1,g2⟩
 have swap:∀(v:AV) (cv:Value),dk nC.length v=true->fe φ1 h1 w' (sig (uO os.length qs) v) cv->fe (qB φ φ1 h.next qs) (join h τ nC) w' (sig (oE h τ) v) cv:=λv cv hl hv=>RV.swap (λi hi=>⟨KA i hi,nR i hi⟩) pr1 hl hv
 refine⟨⟨Rq hr.wf,λid cs hg=>?_,λid es hg=>?_,λi j hi hj e=>?_,λb hb=>?_⟩,ext,pr1⟩
 .rcases QR id _ hg with⟨a1,a2,a3⟩|⟨i,o',a1,rfl,a3⟩
  .have hl:live h id:=⟨_,a3,λe=>by cases e⟩
   exact (hr.rows id cs a3).ext ext a1 (hx.gh.2 _ (by have:=gho id a2 hl;rw[hx.gh.1] at this;exact this))
  .cases o' with
   |dead=>cases a3
   |map es=>cases a3
   |row iN=>
     cases a3;have qo:=(List.getElem?_eq_some_iff.1 a1).1;obtain⟨b1,b2⟩:=S1.obj i _ a1 λe=>by cases e
     obtain⟨c,el,fr,g1,g2,g3,g4,g5,g6⟩:=mH.rows _ _ b1;have hp:=KA i qo;rw[List.length_map] at g3;refine⟨c,el,fr,by rw[hp];exact g1,by rw[hp];exact g2,by rw[hp,List.length_map];exact g3,g4,by rw[hp];exact g5,λj hj=>?_⟩;have jC:j<iN.length:=by simpa using hj
     have:=g6 j (by simpa using jC);rw[List.getElem_map] at this|-;rw[hp];exact swap _ _ (List.all_eq_true.1 b2 _ (List.getElem_mem jC)) this
 .rcases QR id _ hg with⟨a1,a2,a3⟩|⟨i,o',a1,rfl,a3⟩
  .have hl:live h id:=⟨_,a3,λe=>by cases e⟩
   exact (hr.maps id es a3).ext ext a1 (hx.gh.2 _ (by have:=gho id a2 hl;rw[hx.gh.1] at this;exact this))
  .cases o' with
   |dead=>cases a3
   |row cs=>cases a3
   |map uW=>
     cases a3;have qo:=(List.getElem?_eq_some_iff.1 a1).1;obtain⟨b1,b2⟩:=S1.obj i _ a1 λe=>by cases e
     obtain⟨gn,pB,g1,g2,g3⟩:=mH.maps _ _ b1;have hp:=KA i qo;rw[List.length_map] at g2;refine⟨gn,pB,by rw[hp];exact g1,by rw[List.length_map];exact g2,λj hj=>?_⟩;have jC:j<uW.length:=by simpa using hj
     have:=g3 j (by simpa using jC);rw[List.getElem_map] at this|-;have b3:=List.all_eq_true.1 b2 _ (List.getElem_mem jC);rw[Bool.and_eq_true] at b3;exact⟨swap _ _ b3.1 this.1,swap _ _ b3.2 this.2⟩
 .rcases lv i hi with⟨a1,a2,a3⟩|⟨p,o,a1,a2,rfl⟩
  .have ei:(qB φ φ1 h.next qs) i=φ i:=if_pos a1;rcases lv j hj with⟨b1,b2,b3⟩|⟨q,o',b1,b2,rfl⟩
   .have ej:(qB φ φ1 h.next qs) j=φ j:=if_pos b1;rw[ei,ej] at e;exact hr.inj i j a3 b3 e
   .rw[ei,KA q (List.getElem?_eq_some_iff.1 b1).1] at e;exact absurd e.symm ((mH.gh _ (gho i a2 a3)).2 _ (lv1 q o' b1 b2))
  .rcases lv j hj with⟨b1,b2,b3⟩|⟨q,o',b1,b2,rfl⟩
   .have ej:(qB φ φ1 h.next qs) j=φ j:=if_pos b1;rw[ej,KA p (List.getElem?_eq_some_iff.1 a1).1] at e;exact absurd e ((mH.gh _ (gho j b2 b3)).2 _ (lv1 p o a1 a2))
   .rw[KA p (List.getElem?_eq_some_iff.1 a1).1,KA q (List.getElem?_eq_some_iff.1 b1).1] at e;have:=mH.inj _ _ (lv1 p o a1 a2) (lv1 q o' b1 b2) e;rw[S1.inj p q o o' a1 b1 a2 b2 this]
 .refine⟨Nat.lt_of_lt_of_le (hr.gh b hb).1 hx.size,λid hl=>?_⟩;rcases lv id hl with⟨a1,a2,a3⟩|⟨i,o',a1,a2,rfl⟩
  .have ei:(qB φ φ1 h.next qs) id=φ id:=if_pos a1;rw[ei];exact (hr.gh b hb).2 id a3
  .rw[KA i (List.getElem?_eq_some_iff.1 a1).1];exact (mH.gh b (by rw[hx.gh.1];exact .inl hb)).2 _ (lv1 i o' a1 a2)
end
end
end
section
variable {X:World->Prop}
def cQ(P:Program)(f:Nat)(F:cL):Prop:=∃fn c,P.funcs[f]? =some fn/\(fn.name== "runtime.NumGoroutine")=false/\fn.body=some c/\fn.ntmps=F.ntmps/\ck P c=some F.code.strip/\dP (wQ P) fn.results.toList=some F.results
theorem cQ.of{P:Program}{f:Nat}{F:cL}{fn:Func}{c:Code}(h:P.funcs[f]? =some fn)(hb:fn.body=some c)(e:(fn.name== "runtime.NumGoroutine",fn.ntmps,ck P c,dP (wQ P) fn.results.toList)=(false,F.ntmps,some F.code.strip,some F.results)):cQ P f F:=by simp only[Prod.mk.injEq] at e;exact⟨fn,c,h,e.1,hb,e.2.1,e.2.2.1,e.2.2.2⟩
def afv(w w':World):Prop:=∀b,b<w.heap.size->w'.heap[b]? =w.heap[b]?
def vX(φ:eJ)(h:af)(w:World)(v:AV)(cv:Value)(w':World):Prop:=fe φ h w' v cv/\HR φ h w'/\Ext φ h w φ h w'/\afv w w'
def gD(P:Program)(X:World->Prop)(f:Nat)(args:List AV)(v:AV):Prop:=∀φ h w aV,HR φ h w->ir P X φ h w->kU φ h w args aV->
    ((callFunc f aV).run P w=.ok (.enter f aV) w/\Calls P f aV w λe w'=>∃cv,e=.returned cv/\vX φ h w v cv w')\/
    ∃cv w',(callFunc f aV).run P w=.ok (.value cv) w'/\vX φ h w v cv w'
abbrev VZ(P:Program)(f:Nat)(args:List AV)(v:AV):Prop:=gD P (λ_=>True) f args v
def cp(P:Program)(X:World->Prop)(f:Nat)(args:List AV)(os:List aT)(v:AV)(r:Option (List aT)):Prop:=
 ∀φ h w τ aV,HR φ h w->ir P X φ h w->GX h (λi=>τ.getD i 0) os->τ.length=os.length->(∀o∈os,∀_:o=.dead,False)->kU φ h w (args.map (sig λi=>τ.getD i 0)) aV->
   ((callFunc f aV).run P w=.ok (.enter f aV) w/\Calls P f aV w (lL φ h w v (nB h τ r)))\/
   ∃cv w' φ',(callFunc f aV).run P w=.ok (.value cv) w'/\fe φ' (nB h τ r) w' v cv/\HR φ' (nB h τ r) w'/\Ext φ h w φ' (nB h τ r) w'
structure cb(P:Program)(X:World->Prop)(E:Env):Prop where
 mixed:P.follows .mixedOrders=true
 fn:∀f F,E.fn f=some F->cQ P f F
 GD:∀f args v,E.GD f args=some v->gD P X f args v
 JJ:∀f args os v r,E.JJ f args os=some (v,r)->cp P X f args os v r
theorem Jf{φ:eJ}{h:af}{w w':World}(hr:HR φ h w)(ho:w'.os=w.os)(ht:w'.tape=w.tape)(hu:w'.output=w.output)(hs:w.heap.size<=w'.heap.size)(Gr:afv w w'):HR φ h w'/\Ext φ h w φ h w':=by
 have x:Ext φ h w φ h w':=⟨ho,ht,hu,hs,Nat.le_refl _,λ_ _=>rfl,λb hb=>⟨⟨Nat.lt_of_lt_of_le hb.1 hs,hb.2⟩,Gr b hb.1⟩,rfl,λb hb=>Gr b (hr.gh b hb).1⟩
 exact⟨⟨hr.wf,λi cs hi=>(hr.rows i cs hi).ext x (af.dR hi) (Gr _ (hr.fA ⟨_,hi,λe=>by cases e⟩)),
  λi es hi=>(hr.maps i es hi).ext x (af.dR hi) (Gr _ (hr.fA ⟨_,hi,λe=>by cases e⟩)),hr.inj,λb hb=>⟨Nat.lt_of_lt_of_le (hr.gh b hb).1 hs,(hr.gh b hb).2⟩⟩,x⟩
variable {nx SI:Nat}{v:AV}{cv:Value}
theorem EA{φ φ':eJ}{pr AT:Nat->Prop}{w w':World}(hs:uL v=true)(h:RV φ nx pr w v cv):RV φ' SI AT w' v cv:=by
 cases h<;>first|cases hs|skip
 .exact .bool _
 .exact .int _ _
 .exact .str _
 .exact .nw
 .exact .aF _
 .exact .kq
 .exact .ji
 .exact .nu
theorem ab3{φ φ':eJ}{pr AT:Nat->Prop}{w w':World}(hs:sc v=true)(h:RV φ nx pr w v cv):RV φ' SI AT w' v cv:=by
 cases v with
 |tuple vs=>obtain⟨eY,rfl,h1,h2⟩:=h.sa;exact .tuple _ _ h1 λj hj=>EA (List.all_eq_true.1 hs _ (List.getElem_mem hj)) (h2 j hj)
 |agg vs=>obtain⟨eY,rfl,h1,h2,h3⟩:=h.qu;exact .agg _ _ h1 h2 λj hj=>EA (List.all_eq_true.1 hs _ (List.getElem_mem hj)) (h3 j hj)
 |_=>exact EA hs h
theorem aa0(eG:List Nat):∀h:af,CL h (kill h eG):=by
 induction eG with
 |nil=>exact λh=>.refl _
 |cons i r ih=>exact λh=>(CL.kill h i).trans (ih _)
section
variable {P:Program}{φ:eJ}{h:af}{w:World}
def Mc(tm:Array Value):ResultVar->Sem Value
 |.tmp t=>Pure.pure (tm.getD t undef)
 |.cell a t=>do loadVar t (<-asAddr (tm.getD a undef))
theorem yG(fn:Func)(tm:Array Value):results fn tm=(fn.results.mapM (Mc tm) >>=λvs=>Pure.pure (if h:vs.size=1 then vs[0] else .tuple vs)):=by unfold results;congr 1
theorem OX{fr:List AV}{tm:Array Value}(hf:FR φ h w fr tm)(hr:HR φ h w):∀(rs:List ResultVar) (rs':List MS) (vs:List AV),dP (wQ P) rs=some rs'->jf fr h rs'=some vs->
 ∃eY:List Value,(rs.mapM (Mc tm)).run P w=.ok eY w/\eY.length=vs.length/\∀j (h1:j<vs.length) (h2:j<eY.length),fe φ h w vs[j] eY[j]
 |[],rs',vs,hc,he=>by simp only[dP,Option.some.injEq] at hc;subst hc;simp only[jf,Option.some.injEq] at he;subst he;exact⟨[],by simp,rfl,λj h1=>by simp at h1⟩
 |r::rs,rs',vs,hc,he=>by
   unfold dP at hc;split at hc
   .rename_i r' ant h1 h2;cases hc;simp only[jf] at he;split at he
    .rename_i v vs' h3 h4;cases he;obtain⟨eY,g1,g2,g3⟩:=OX hf hr rs ant vs' h2 h4
     have key:∃cv,(Mc tm r).run P w=.ok cv w/\fe φ h w v cv:=by
      cases r with
      |tmp t=>simp only[wQ,Option.some.injEq] at h1;subst h1;simp only[xy,Option.some.injEq] at h3;subst h3;exact⟨_,by simp[Mc],hf.2 t⟩
      |cell a t=>simp only[wQ,Option.map_eq_some_iff] at h1;obtain⟨n,hn,rfl⟩:=h1;simp only[xy] at h3;obtain⟨ad,cv,e1,e2,e3⟩:=V2 hn (hf.2 a) hr h3;exact⟨cv,by simp[Mc,e1,asAddr,e2],e3⟩
     obtain⟨cv,k1,k2⟩:=key;refine⟨cv::eY,?_,by simp[g2],λj j1 j2=>?_⟩
     .rw[List.mapM_cons];simp only[Sem.run_bind,k1,Result.andThen_ok,g1,Sem.run_pure]
     .cases j with
      |zero=>exact k2
      |succ j=>exact g3 j (Nat.lt_of_succ_lt_succ j1) (Nat.lt_of_succ_lt_succ j2)
    .cases he
   .cases hc
end
variable {gB:Bool}
theorem Ib{h0 h:af}(dq:CL {h0 with wl:=h0.next,md:=h0.next} h):CL h0 (finish gB h0 v h).2:=by
 have plain:CL h0 {h with wl:=min h0.wl h.wl,md:=min h0.md h.md}:=⟨dq.next,Nat.min_le_left _ _,λn hn hw k id bX=>by have:=dq.le n hn (by dsimp only at hw;omega) (λi hi=>k i hi) id bX;exact this,Nat.min_le_left _ _,λid h1 h2=>dq.same id (by dsimp only at h1;omega) h2⟩
 unfold finish
 cases gB with
 |true=>simpa using plain
 |false=>
   simp only[Bool.false_eq_true,if_false];split
   .exact plain
   .rename_i v' eG ZE;split
    .rename_i hc;have CQ:min h.next h0.next=h0.next:=Nat.min_eq_right dq.next
     refine⟨?_,Nat.le_refl _,λn hn hw k id bX=>?_,?_,λid h1 h2=>?_⟩
     .show h0.next<=min h.next h0.next
      omega
     .have hn':n<=h0.next:=hn
      have:=dq.le n hn (by omega) (λi hi=>k i hi) id bX;unfold pD at this|-;have e:({h.kj h0.next with wl:=h0.wl,md:=(if h.md<h0.next then min h0.md h.md else h0.md)}:af).get id=h.get id:=af.sr (by omega);rw[e];exact this
     .dsimp only;split<;>omega
     .have e:({h.kj h0.next with wl:=h0.wl,md:=(if h.md<h0.next then min h0.md h.md else h0.md)}:af).get id=h.get id:=af.sr h2;rw[e];refine dq.same id ?_ h2;dsimp only at h1;split at h1<;>omega
    .have hnk:∀(eG:List Nat) (h:af),(kill h eG).wl=h.wl/\CL h (kill h eG):=by
      intro eG
      induction eG with
      |nil=>exact λh=>⟨rfl,.refl _⟩
      |cons i r ih=>intro h;obtain⟨a1,a2⟩:=ih (h.set i .dead);exact⟨by simp only[kill];rw[a1];simp,(CL.kill h i).trans a2⟩
     have hko:∀(eG:List Nat) (h:af) (i:Nat),i∉eG->(kill h eG).get i=h.get i:=by
      intro eG
      induction eG with
      |nil=>exact λh i _=>rfl
      |cons j r ih=>intro h i hi;simp only[List.mem_cons,not_or] at hi;simp only[kill];rw[ih _ i hi.2,af.get_set_other (Ne.symm hi.1)]
     obtain⟨n1,n2⟩:=hnk eG h;have N0:=dq.trans n2;refine⟨N0.next,Nat.min_le_left _ _,λn hn hw k id bX=>?_,Nat.min_le_left _ _,λid h1 h2=>?_⟩
     .have:=N0.le n hn (by rw[n1];dsimp only at hw;omega) (λi hi=>k i hi) id bX;exact this
     .have uC:=xc 8 v v' eG ZE;have e:(kill h eG).get id=h.get id:=hko eG h id λhm=>by have:=(uC id hm).1;omega
      show (kill h eG).get id=h0.get id;rw[e];exact dq.same id (by dsimp only at h1;omega) h2
theorem Kf:∀(eG:List Nat) {h:af},h.wf->(kill h eG).wf
 |[],_,hw=>hw
 |i::r,_,hw=>Kf r (af.wf_set i .dead hw)
theorem H2{h0 h:af}(hw:h.wf):(finish gB h0 v h).2.wf:=by
 unfold finish
 cases gB with
 |true=>exact hw
 |false=>
   simp only[Bool.false_eq_true,if_false];split
   .exact hw
   .split
    .exact af.KW _ hw
    .exact Kf _ hw
theorem vF:∀{τ:List Nat} {id:Nat},xZ τ id=true↔id∈τ
 |[],id=>by simp[xZ]
 |k::r,id=>by
   unfold xZ;by_cases e:k=id
   .rw[if_pos e];simp[e]
   .rw[if_neg e,vF];simp[Ne.symm e]
theorem Dl:∀{τ:List Nat} {id:Nat},id∈τ->xX τ id<τ.length/\τ.getD (xX τ id) 0=id
 |k::r,id,h=>by
   unfold xX;by_cases e:k=id
   .rw[if_pos e];simp[e]
   .rw[if_neg e]
    have h':id∈r:=by
     rcases List.mem_cons.1 h with h|h
     .exact absurd h.symm e
     .exact h
    obtain⟨a,b⟩:=Dl h';exact⟨by simp;omega,by simpa[List.getD] using b⟩
theorem xk:∀(cs:List AV) (aM:List Nat),aM.Nodup->(gN cs aM).Nodup/\∃r,gN cs aM=aM++r
 |[],aM,h=>⟨h,[],by simp[gN]⟩
 |v::cs,aM,h=>by
   unfold gN
   cases hv:v.top with
   |none=>exact xk cs aM h
   |some j=>
     dsimp only;split
     .exact xk cs aM h
     .rename_i hn;have hj:j∉aM:=λhm=>hn (vF.2 hm)
      have h2:(aM++[j]).Nodup:=by rw[List.nodup_append];refine⟨h,by simp,λa ha b hb e=>?_⟩;simp at hb;exact hj (hb▸e▸ha)
      obtain⟨a,r,e⟩:=xk cs (aM++[j]) h2;exact⟨a,j::r,by rw[e];simp⟩
variable {τ:List Nat}
theorem xe(h:okV τ v=true):sig (λi=>τ.getD i 0) (sig (xX τ) v)=v/\dk τ.length (sig (xX τ) v)=true:=by
 unfold okV at h
 cases v with
 |ptr id off=>obtain⟨a,b⟩:=Dl (vF.1 h);exact⟨by simp only[sig,b],by simpa[sig,dk] using a⟩
 |vec id off len sz lb=>obtain⟨a,b⟩:=Dl (vF.1 h);exact⟨by simp only[sig,b],by simpa[sig,dk] using a⟩
 |map id=>obtain⟨a,b⟩:=Dl (vF.1 h);exact⟨by simp only[sig,b],by simpa[sig,dk] using a⟩
 |_=>exact⟨rfl,h⟩
theorem Re{o:aT}(h:okO τ o=true):gE (λi=>τ.getD i 0) (gE (xX τ) o)=o/\C7 τ.length (gE (xX τ) o)=true/\∀_:gE (xX τ) o=.dead,False:=by
 cases o with
 |dead=>cases h
 |row cs=>
   have hc:∀v∈cs,okV τ v=true:=List.all_eq_true.1 h;refine⟨?_,?_,λe=>by cases e⟩
   .simp only[gE,List.map_map];congr 1;conv=>rhs;rw[<-List.map_id cs]
    exact List.map_congr_left λv hv=>(xe (hc v hv)).1
   .simp only[gE,C7,List.all_map];exact List.all_eq_true.2 λv hv=>(xe (hc v hv)).2
 |map es=>
   have hc:∀e∈es,(okV τ e.1&&okV τ e.2)=true:=List.all_eq_true.1 h;refine⟨?_,?_,λe=>by cases e⟩
   .simp only[gE,List.map_map];congr 1;conv=>rhs;rw[<-List.map_id es]
    refine List.map_congr_left λe he=>?_
    have:=hc e he;rw[Bool.and_eq_true] at this;show (sig _ (sig _ e.1),sig _ (sig _ e.2))=e;rw[(xe this.1).1,(xe this.2).1]
   .simp only[gE,C7,List.all_map];refine List.all_eq_true.2 λe he=>?_
    have:=hc e he;rw[Bool.and_eq_true] at this;show (dk _ (sig _ e.1)&&dk _ (sig _ e.2))=true;rw[(xe this.1).2,(xe this.2).2];rfl
theorem FI{h:af}{τ:List Nat}:∀{ks:List Nat} {os:List aT},uI h τ ks=some os->os.length=ks.length/\∀(i:Nat) (o:aT),os[i]? =some o->∃id o0,ks[i]? =some id/\h.get id=some o0/\okO τ o0=true/\o=gE (xX τ) o0
 |[],os,h1=>by simp only[uI,Option.some.injEq] at h1;subst h1;exact⟨rfl,λi o ho=>by simp at ho⟩
 |k::ks,os,h1=>by
   simp only[uI] at h1;split at h1
   .rename_i o0 os0 h2 h3;split at h1
    .rename_i cT;cases h1;obtain⟨a,b⟩:=FI h3;refine⟨by simp[a],λi o ho=>?_⟩
     cases i with
     |zero=>simp only[List.getElem?_cons_zero,Option.some.injEq] at ho;exact⟨k,o0,rfl,h2,cT,ho.symm⟩
     |succ i=>exact b i o (by simpa using ho)
    .cases h1
   .cases h1
theorem IJ{g:Nat->Nat}(h:v.aJ=0):sig g v=v:=by
 cases v with
 |ptr id off=>simp[AV.aJ] at h
 |vec id off len sz lb=>simp[AV.aJ] at h
 |map id=>simp[AV.aJ] at h
 |_=>rfl
theorem ab7(h:af)(k:Nat)(o:aT):CL h (Bj h k o):=by
 refine⟨by rw[HX];exact Nat.le_refl _,?_,λn hn hw hk id bX=>?_,af.xj h k o,λid h1 _=>af.tP h k o id h1⟩
 .show (if o.aJ<=k+1 then h.wl else min h.wl k)<=h.wl;split
  .exact Nat.le_refl _
  .exact Nat.min_le_left _ _
 .have hw':n<=(if o.aJ<=k+1 then h.wl else min h.wl k):=hw;by_cases e:id=k
  .subst e
   have hr:o.aJ<=id+1:=by
    by_cases hc:o.aJ<=id+1
    .exact hc
    .rw[if_neg hc] at hw';have:=Nat.le_trans hw' (Nat.min_le_right _ _);omega
   cases hg:h.get id with
   |none=>
     have:(Bj h id o).get id=none:=by
      show (h.set id o).get id=none;unfold af.set;split
      .rename_i cY;unfold af.get at hg|-;simp only[cY,if_true] at hg|-;rw[List.getElem?_eq_none_iff] at hg;exact List.getElem?_eq_none (by simpa using hg)
      .exact hg
     unfold pD;rw[this];exact⟨λ_ e=>(by cases e),λ_ e=>(by cases e)⟩
   |some o'=>
     unfold pD;rw[He h id o hg];refine⟨λcs e=>?_,λes e p hp=>?_⟩
     .cases e;have:AV.ah cs<=id+1:=hr;omega
     .cases e;have h3:AV.ah (es.flatMap λe=>[e.1,e.2])<=id+1:=hr;have m1:p.1∈es.flatMap λe=>[e.1,e.2]:=List.mem_flatMap.2 ⟨p,hp,by simp⟩
      have m2:p.2∈es.flatMap λe=>[e.1,e.2]:=List.mem_flatMap.2 ⟨p,hp,by simp⟩
      have:=AV.cR m1;have:=AV.cR m2;omega
  .have:=hk id bX;unfold pD at this|-;rw[yz h k o e];exact this
theorem QZ(g:Nat->Nat):∀(ks:List Nat) (os:List aT) (h:af),CL h (p7 g ks os h)
 |[],_,h=>by unfold p7;exact .refl _
 |k::ks,[],h=>by unfold p7;exact .refl _
 |k::ks,o::os,h=>(ab7 h k (gE g o)).trans (QZ g ks os _)
theorem Ra(g:Nat->Nat):∀(os:List aT) (h:af),CL h (yR g os h)
 |[],h=>.refl _
 |o::os,h=>(CL.alloc h (gE g o)).trans (Ra g os _)
theorem YE(h:af)(τ:List Nat):∀r,CL h (nB h τ r)
 |none=>.refl _
 |some nC=>(QZ _ _ _ h).trans (Ra _ _ _)
theorem Za{h:af}(hw:h.wf)(τ:List Nat):∀r,(nB h τ r).wf
 |none=>hw
 |some nC=>Rq hw
variable {args:List AV}
theorem Hw{M:List AV->List aT->Option (AV×Option (List aT))}{h h':af}(he:pP M args h=some (v,h')):
 ∃k rest cs os r,args=.ptr k 0::rest/\h.get k=some (.row cs)/\uI h (gN cs [k]) (gN cs [k])=some os/\AV.ah rest=0/\M (.ptr 0 0::rest) os=some (v,r)/\h'=nB h (gN cs [k]) r:=by
 unfold pP at he;split at he
 .rename_i k rest;split at he
  .rename_i cs hg;split at he
   .rename_i os hs;split at he
    .rename_i hr;obtain⟨⟨v',r⟩,h1,e⟩:=Option.map_eq_some_iff.1 he;cases e;exact⟨k,rest,cs,os,r,rfl,hg,hs,hr,h1,rfl⟩
    .cases he
   .cases he
  .cases he
 .cases he
theorem Zo{P:Program}{E:Env}(hE:cb P X E){f:Nat}{h h':af}(he:pP (E.JJ f) args h=some (v,h')){φ:eJ}{w:World}{aV:Array Value}(hr:HR φ h w)(hG:ir P X φ h w)
 (ha:kU φ h w args aV):((callFunc f aV).run P w=.ok (.enter f aV) w/\Calls P f aV w (lL φ h w v h'))\/
  ∃cv w' φ',(callFunc f aV).run P w=.ok (.value cv) w'/\fe φ' h' w' v cv/\HR φ' h' w'/\Ext φ h w φ' h' w':=by
 obtain⟨k,rest,cs,os,r,rfl,hg,hs,ZJ,hm,rfl⟩:=Hw he;obtain⟨hn,q,hq⟩:=xk cs [k] (by simp);obtain⟨hl,hso⟩:=FI hs;have hg0:∀i,i<(gN cs [k]).length->∀id,(gN cs [k])[i]? =some id->(gN cs [k]).getD i 0=id:=λi hi id bX=>by simp[List.getD,bX]
 refine hE.JJ f _ os v r hm φ h w (gN cs [k]) aV hr hG ⟨λi o ho fW=>?_,λi j o o' ho IX _ _ e=>?_⟩ hl.symm (λo ho e=>?_) ?_
 .obtain⟨id,o0,a1,a2,a3,rfl⟩:=hso i o ho;obtain⟨b1,b2,_⟩:=Re a3;refine⟨?_,by rw[hl];exact b2⟩;show h.get ((gN cs [k]).getD i 0)=_;rw[hg0 i (List.getElem?_eq_some_iff.1 a1).1 id a1,b1];exact a2
 .have hi:i<(gN cs [k]).length:=by have:=(List.getElem?_eq_some_iff.1 ho).1;omega
  have hj:j<(gN cs [k]).length:=by have:=(List.getElem?_eq_some_iff.1 IX).1;omega
  have e':(gN cs [k])[i]=(gN cs [k])[j]:=by have e:(gN cs [k]).getD i 0=(gN cs [k]).getD j 0:=e;simpa[List.getD,hi,hj] using e
  exact (List.getElem_inj hn).1 e'
 .obtain⟨i,hi,rfl⟩:=List.getElem_of_mem ho;obtain⟨id,o0,a1,a2,a3,a4⟩:=hso i _ (List.getElem?_eq_getElem hi);rw[a4] at e;exact (Re a3).2.2 e
 .have e0:(AV.ptr 0 0::rest).map (sig λi=>(gN cs [k]).getD i 0)=.ptr k 0::rest:=by
   rw[List.map_cons]
   have h1:sig (λi=>(gN cs [k]).getD i 0) (.ptr 0 0)=.ptr k 0:=by show AV.ptr ((gN cs [k]).getD 0 0) 0=_;rw[hq];rfl
   have h2:rest.map (sig λi=>(gN cs [k]).getD i 0)=rest:=by
    conv=>rhs;rw[<-List.map_id rest]
    exact List.map_congr_left λv hv=>IJ (by have:=AV.cR hv;omega)
   rw[h1,h2]
  rw[e0];exact ha
theorem zO{P:Program}{E:Env}(hE:cb P X E):∀n,lY P X (aH E n)/\oQ (aH E n)
 |0=>⟨λf args h v h' he=>by simp[aH] at he,λf args h v h' he=>by simp[aH] at he⟩
 |n+1=>by
   obtain⟨ih1,ih2⟩:=zO hE n
   have both:∀f args h v h',aH E (n+1) f args h=some (v,h')->(∀φ w aV,HR φ h w->ir P X φ h w->kU φ h w args aV->
    ((callFunc f aV).run P w=.ok (.enter f aV) w/\Calls P f aV w (lL φ h w v h'))\/
    ∃cv w' φ',(callFunc f aV).run P w=.ok (.value cv) w'/\fe φ' h' w' v cv/\HR φ' h' w'/\Ext φ h w φ' h' w'):=by
    intro f args h v h' he φ w aV hr hG ha;simp only[aH] at he;split at he
    .rename_i r hp;cases he;obtain⟨⟨tj,eG⟩,h1,h2⟩:=Option.bind_eq_some_iff.1 hp;obtain⟨v,hpv,e⟩:=Option.map_eq_some_iff.1 h2;simp only[Prod.mk.injEq] at e;obtain⟨rfl,rfl⟩:=e;obtain⟨k1,k2⟩:=Sc eG hr;have uC:∀id∈eG,live h id:=λid bX=>(wb (p:=λid=>0<=id/\live h id) (λv v' eG he=>xc 8 v v' eG he) args tj eG h1 id bX).2
     have hnk:(kill h eG).next=h.next:=by
      have:∀(eG:List Nat) (h:af),(kill h eG).next=h.next:=by
       intro eG
       induction eG with
       |nil=>exact λh=>rfl
       |cons i r ih=>intro h;simp only[kill];rw[ih];simp
      exact this eG h
     obtain⟨q1,q2⟩:=AB (φ:=φ) (nx:=h.next) (pr:=Pr φ h w) (AT:=Pr φ (kill h eG) w) (w:=w) (λv cv v' QQ he hv hi=>J5 hr (n0:=0) (AT:=Pr φ (kill h eG) w) (λb hb=>(k2.pr b hb).1) 8 v cv v' QQ he hv hi) args tj eG (λj=>aV.getD j default) h1 ha.2
      λid bX=>Pr.Jq (hr.fA (uC id bX)) (λi hi e=>(by rw[hr.inj i id hi (uC id bX) e];exact bX)) λhg=>(hr.gh _ hg).2 id (uC id bX) rfl
     have ha':kU φ (kill h eG) w tj aV:=⟨ha.1.trans q1.symm,λj hj=>(q2 j hj).mono (λid _ bX=>⟨rfl,by rw[hnk];exact bX⟩) λb hb=>⟨hb,rfl⟩⟩
     have fin:∀cv w',vX φ (kill h eG) w v cv w'->fe φ (if sc v then h else kill h eG) w' v cv/\HR φ (if sc v then h else kill h eG) w'/\Ext φ h w φ (if sc v then h else kill h eG) w':=λcv w' ⟨g1,g2,g3,g4⟩=>by
      by_cases hs:sc v=true
      .obtain⟨s1,s2⟩:=Jf hr g3.os g3.tape g3.output g3.size g4;rw[if_pos hs];exact⟨ab3 hs g1,s1,s2⟩
      .rw[if_neg hs];exact⟨g1,g2,k2.trans g3⟩
     rcases hE.GD f tj v hpv φ (kill h eG) w aV k1 (hG.ext k2) ha' with⟨e1,e2⟩|⟨cv,w',e1,e2⟩
     .exact .inl ⟨e1,e2.mono λe w' ⟨cv,he,hp⟩=>⟨φ,cv,he,fin cv w' hp⟩⟩
     .exact .inr ⟨cv,w',φ,e1,fin cv w' e2⟩
    .split at he
     .rename_i r hm;cases he;exact Zo hE hm hr hG ha
     split at he
     .cases he
     .rename_i F hF;obtain⟨fn,c,AU,AQ,wq,hnt,ajY,Gs⟩:=hE.fn f F hF;left
      have Gn:(callFunc f aV).run P w=.ok (.enter f aV) w:=by
       have eR:¬fn.name= "runtime.NumGoroutine" :=by simpa using AQ
       simp[callFunc,AU,eR,wq]
      refine⟨Gn,?_⟩
      have agN:∃ex fr hh vs,aC (aH E n) n F.code (args++List.replicate (F.ntmps-args.length) .undef) {h with wl:=h.next,md:=h.next}=some (ex,fr,hh)/\(ex=.normal\/ex=.ret)/\jf fr hh F.results=some vs/\
       (v,h')=finish F.gB h (oneOf vs) hh:=by
       cases oV:aC (aH E n) n F.code (args++List.replicate (F.ntmps-args.length) .undef) {h with wl:=h.next,md:=h.next} with
       |none=>rw[oV] at he;cases he
       |some r=>
         obtain⟨ex,fr,hh⟩:=r;rw[oV] at he
         cases ex with
         |exit id=>cases he
         |normal=>obtain⟨vs,Gz,e⟩:=Option.map_eq_some_iff.1 he;exact⟨.normal,fr,hh,vs,rfl,.inl rfl,Gz,e.symm⟩
         |ret=>obtain⟨vs,Gz,e⟩:=Option.map_eq_some_iff.1 he;exact⟨.ret,fr,hh,vs,rfl,.inr rfl,Gz,e.symm⟩
      obtain⟨ex,fr,hh,vs,oV,hex,Gz,agO⟩:=agN;obtain⟨s1,s2⟩:=hr.uK h.next h.next
      have uB:FR φ {h with wl:=h.next,md:=h.next} w (args++List.replicate (F.ntmps-args.length) .undef) (aV++Array.replicate (fn.ntmps-aV.size) undef):=by
       refine⟨by simp[ha.1,hnt],λt=>?_⟩;by_cases ht:t<args.length
       .have:=(ha.2 t ht).ext s2;rw[List.getD_eq_getElem?_getD,List.getElem?_append_left ht,List.getElem?_eq_getElem ht,Option.getD_some];have ht2:t<aV.size:=by rw[ha.1];exact ht
        rw[Array.getD_eq_getD_getElem?] at this|-;rw[Array.getElem?_append_left ht2,Array.getElem?_eq_getElem ht2,Option.getD_some];rw[Array.getElem?_eq_getElem ht2,Option.getD_some] at this;exact this
       .have hu:(args++List.replicate (F.ntmps-args.length) AV.undef).getD t .undef=.undef:=by
         rw[List.getD_eq_getElem?_getD,List.getElem?_append_right (by omega),List.getElem?_replicate];split<;>rfl
        rw[hu];exact .undef _
      refine calls_of_wp AU wq ?_;refine nX ih1 ih2 hE.mixed n c F.code ajY oV uB s1 (hG.ext s2) λφ' a' w' f1 r1 e1 d1=>?_
      have dq:=(tV ih2 oV s1.wf).1;obtain⟨eY,g1,g2,g3⟩:=OX (P:=P) f1 r1 fn.results.toList F.results vs Gs Gz
      have acO:∃cv,(results fn a'.tmps).run P w'=.ok cv w'/\fe φ' hh w' (oneOf vs) cv:=by
       have hm:(fn.results.mapM (Mc a'.tmps)).run P w'=.ok eY.toArray w':=by rw[Array.mapM_eq_mapM_toList];simp only[Sem.run_map,g1,Result.andThen_ok]
       refine⟨if h:eY.toArray.size=1 then eY.toArray[0] else .tuple eY.toArray,?_,?_⟩
       .rw[yG];simp only[Sem.run_bind,hm,Result.andThen_ok,Sem.run_pure]
       .match vs,eY,g2,g3 with
        |[v1],[c1],_,g3=>exact g3 0 (by simp) (by simp)
        |[],[],_,_=>exact .tuple _ _ rfl λj hj=>by simp at hj
        |v1::v2::vr,eY,g2,g3=>
          have iE:¬(eY.toArray.size=1):=by simp at g2|-;omega
          rw[dif_neg iE];refine .tuple _ _ (by simpa using g2) λj hj=>?_
          have DO:j<eY.length:=by omega
          have:=g3 j hj DO;simpa[Array.getD,DO] using this
      obtain⟨cv,q1,q2⟩:=acO;obtain⟨t1,t2,t3⟩:=Uv (gB:=F.gB) (h0:=h) (φ0:=φ) (w0:=w) r1 (s2.trans e1) dq hr q2;rw[<-agO] at t1 t2 t3;have post:lL φ h w v h' (.returned cv) w':=⟨φ',cv,rfl,t1,t2,t3⟩
      have hd:a'.defers=[]:=d1;rcases hex with rfl|rfl
      .exact⟨hd,cv,q1,post⟩
      .exact⟨hd,cv,q1,post⟩
   refine⟨both,λf args h v h' he Gq=>?_⟩;simp only[aH] at he;split at he
   .rename_i r hp;cases he;obtain⟨⟨tj,eG⟩,h1,h2⟩:=Option.bind_eq_some_iff.1 hp;obtain⟨v,hpv,e⟩:=Option.map_eq_some_iff.1 h2;simp only[Prod.mk.injEq] at e;obtain⟨rfl,rfl⟩:=e;by_cases hs:sc v=true
    .rw[if_pos hs];exact⟨.refl _,Gq⟩
    .rw[if_neg hs];exact⟨aa0 eG h,Kf eG Gq⟩
   .split at he
    .rename_i r hm;cases he;obtain⟨k,rest,cs,os,r,rfl,hg,hs,ZJ,hm,rfl⟩:=Hw hm;exact⟨YE h _ r,Za Gq _ r⟩
    split at he
    .cases he
    .rename_i F hF
     cases oV:aC (aH E n) n F.code (args++List.replicate (F.ntmps-args.length) .undef) {h with wl:=h.next,md:=h.next} with
     |none=>rw[oV] at he;cases he
     |some r=>
       obtain⟨ex,fr,hh⟩:=r;rw[oV] at he;obtain⟨dq,hw'⟩:=tV ih2 oV Gq
       cases ex with
       |exit id=>cases he
       |normal=>obtain⟨vs,Gz,e⟩:=Option.map_eq_some_iff.1 he;have:=Ib (gB:=F.gB) (v:=oneOf vs) dq;have w2:=H2 (gB:=F.gB) (v:=oneOf vs) (h0:=h) hw';rw[e] at this w2;exact⟨this,w2⟩
       |ret=>obtain⟨vs,Gz,e⟩:=Option.map_eq_some_iff.1 he;have:=Ib (gB:=F.gB) (v:=oneOf vs) dq;have w2:=H2 (gB:=F.gB) (v:=oneOf vs) (h0:=h) hw';rw[e] at this w2;exact⟨this,w2⟩
abbrev adn(P:Program)(E:Env):Prop:=cb P (λ_=>True) E
end
section
variable {X:World->Prop}
def C0:Nat->List AV->af->Option (AV×af):=λ_ _ _=>none
structure Jj(P:Program)(f:Nat):Prop where
 mk::ok:∃(fn:Func) (r0 r2 r3:Code) (i1:Nat) (o1 o2:Oper) (t e ty:TypeId) (a0 a2 a3:bZ),P.funcs[f]? =some fn/\(fn.name== "runtime.NumGoroutine")=false/\fn.body=some (.seq r0 (.seq (.seq (.region i1 #[o1,o2] false) (.cond (.tmp 4) r2 .skip)) r3))/\fn.ntmps=8/\fn.results=#[.tmp 2]/\im P #[o1,o2] o1=some ⟨some 3,.op (.Hy (.tmp 0)),none⟩/\o2.op=.binOp .eql t (.tmp 3) (.const (.slice none 0 0)) ty/\o2.dst=some 4/\o2.guard=none/\P.underlying t=some (.slice e)/\ck P r0=some a0.strip/\ck P r2=some a2.strip/\ck P r3=some a3.strip/\(∀v h,aC C0 1 a0 [v,.undef,.undef,.undef,.undef,.undef,.undef,.undef] h=some (.normal,[v,.undef,.aF,.undef,.undef,.undef,.undef,.undef],h))/\(∀v h,aC C0 1 a2 [v,.undef,.aF,v,.bool true,.undef,.undef,.undef] h=some (.ret,[v,.undef,.aF,v,.bool true,.undef,.undef,.undef],h))/\(∀v,v=.aF\/v=.sl []->∀h,aC C0 1 a3 [v,.undef,.aF,v,.bool false,.undef,.undef,.undef] h=some (.ret,[v,.undef,.aF,v,.bool false,.aF,v,.aF],h))
theorem OA{P:Program}(hm:P.follows .mixedOrders=true){f:Nat}(hc:Jj P f){v:AV}(hv:v=.aF\/v=.sl []){φ:eJ}{h:af}{w:World}{aV:Array Value}(hr:HR φ h w)(hG:ir P X φ h w)(ha:kU φ h w [v] aV):
 (callFunc f aV).run P w=.ok (.enter f aV) w/\Calls P f aV w (lL φ h w .aF h):=by
 obtain⟨fn,r0,r2,r3,i1,o1,o2,t,e,ty,a0,a2,a3,AU,AQ,wq,hnt,Gs,hs1,dT,hd2,hg2,ht,c0,c2,c3,e0,e2,e3⟩:=hc.ok;have hC:lY P X C0:=λf args h v h' he=>by cases he
 have uT:oQ C0:=λf args h v h' he=>by cases he
 have Gn:(callFunc f aV).run P w=.ok (.enter f aV) w:=by
  have eR:¬fn.name= "runtime.NumGoroutine" :=by simpa using AQ
  simp[callFunc,AU,eR,wq]
 refine⟨Gn,?_⟩;have kV:aV.size=1:=ha.1;have hv0:fe φ h w v (aV.getD 0 default):=ha.2 0 (by simp)
 have uB:FR φ h w [v,.undef,.undef,.undef,.undef,.undef,.undef,.undef] (aV++Array.replicate (fn.ntmps-aV.size) undef):=by
  refine⟨by simp[kV,hnt],λt=>?_⟩
  cases t with
  |zero=>rw[Array.getD_eq_getD_getElem?] at hv0|-;rw[Array.getElem?_append_left (by omega)];rw[Array.getElem?_eq_getElem (by omega:0<aV.size)] at hv0|-;exact hv0
  |succ t=>
    have:([v,.undef,.undef,.undef,.undef,.undef,.undef,.undef]:List AV).getD (t+1) .undef=.undef:=by
     match t with
     |0|1|2|3|4|5|6=>rfl
     |n+7=>rfl
    rw[this];exact .undef _
 refine calls_of_wp AU wq ?_;refine wp_seq ?_;refine nX hC uT hm 1 r0 a0 c0 (e0 v h) uB hr hG λφ1 a1 w1 f1 r1 x1 d1=>?_
 refine wp_seq ?_;refine wp_seq ?_;refine wp_region_list ?_;refine wpList_step λK hK=>?_
 have h1:cK C0 ⟨some 3,.op (.Hy (.tmp 0)),none⟩ [v,.undef,.aF,.undef,.undef,.undef,.undef,.undef] h=some ([v,.undef,.aF,v,.undef,.undef,.undef,.undef],h):=rfl;refine As hC hs1 h1 f1 r1 (hG.ext x1) λφ2 cv w2 f2 r2' x2=>hK _ _ ?_
 refine wpList_step λK2 hK2=>?_
 have hw:Region.wanted o2 (yielded #[o1,o2] (a1.put o1.dst cv).tmps)=true:=by simp[Region.wanted,hg2]
 rw[if_pos hw];have x12:=x1.trans x2
 -- what is tested
 have hx:∃ad n c,(a1.put o1.dst cv).eval (.tmp 3)=.slice ad n c:=by
  have q:=ch (x:=.tmp 3) (x':=.tmp 3) rfl f2;have q':fe φ2 h w2 v ((a1.put o1.dst cv).eval (.tmp 3)):=q;rcases hv with rfl|rfl
  .obtain⟨ad,e⟩:=q'.nh;exact⟨ad,0,0,e⟩
  .rcases q'.tU with⟨ad,c,_,e⟩|⟨b,o',c,sz,vs,e,_⟩
   .exact⟨ad,0,c,e⟩
   .exact⟨_,_,c,e⟩
 obtain⟨ad,n,c,hx⟩:=hx;have rG:=Mz (neg:=false) dT ht hx w2;unfold Oper.wp;rw[rG,Oper.upon_value];refine hK2 _ _ (wpList_nil ?_)
 have f3:FR φ2 h w2 [v,.undef,.aF,v,.bool ad.isNone,.undef,.undef,.undef] ((a1.put o1.dst cv).put o2.dst (.bool ad.isNone)).tmps:=by rw[hd2];exact f2.put (RV.bool _) 4
 have d3:((a1.put o1.dst cv).put o2.dst (.bool ad.isNone)).defers=[]:=by rw[put_defers,put_defers];exact d1
 have fin:∀(fr:List AV) (φ':eJ) (a':Act) (w':World),fr.getD 2 .undef=.aF->FR φ' h w' fr a'.tmps->HR φ' h w'->Ext φ h w φ' h w'->a'.defers=[]->
  a'.defers=[]/\∃v,(results fn a'.tmps).run P w'=.ok v w'/\lL φ h w .aF h (.returned v) w':=λfr φ' a' w' anx hf' N1 Ky hd'=>by
  refine⟨hd',a'.tmps.getD 2 undef,?_,φ',_,rfl,?_,N1,Ky⟩
  .rw[yG,Gs];simp[Mc]
  .have:=hf'.2 2;rw[anx] at this;exact this
 cases hn:ad.isNone with
 |true=>
   rw[hn] at f3 d3;refine wp_cond (RV.gM (ch (x:=.tmp 4) (x':=.tmp 4) rfl f3:fe φ2 h w2 (.bool true) _)) ?_;refine nX hC uT hm 1 r2 a2 c2 (e2 v h) f3 r2' (hG.ext x12) λφ4 a4 w4 f4 r4 x4 d4=>?_
   exact fin _ φ4 a4 w4 rfl f4 r4 (x12.trans x4) (d4.trans d3)
 |false=>
   rw[hn] at f3 d3;refine wp_cond (RV.gM (ch (x:=.tmp 4) (x':=.tmp 4) rfl f3:fe φ2 h w2 (.bool false) _)) ?_;refine wp_skip ?_;refine nX hC uT hm 1 r3 a3 c3 (e3 v hv h) f3 r2' (hG.ext x12) λφ4 a4 w4 f4 r4 x4 d4=>?_
   exact fin _ φ4 a4 w4 rfl f4 r4 (x12.trans x4) (d4.trans d3)
end
section
variable {X:World->Prop}
def h0:af:=⟨0,[],0,0⟩
variable {P:Program}{f:Nat}{args:List AV}{v:AV}{h':af}
theorem w6(hv:v.aJ=0)(ha:AV.ah args=0)
 (he:∀φ w aV,HR φ h0 w->ir P X φ h0 w->kU φ h0 w args aV->((callFunc f aV).run P w=.ok (.enter f aV) w/\Calls P f aV w (lL φ h0 w v h'))\/
     ∃cv w' φ',(callFunc f aV).run P w=.ok (.value cv) w'/\fe φ' h' w' v cv/\HR φ' h' w'/\Ext φ h0 w φ' h' w'):gD P X f args v:=by
 intro φ h w aV hr hG kV
 let φ0:eJ:=⟨φ.at_,λb=>φ.gh b\/∃id,live h id/\(φ id).gA=b⟩
 have nol:∀id,¬live h0 id:=λid ⟨o,hg,_⟩=>by simp[af.get,h0] at hg
 have C5:HR φ0 h0 w:=by
  refine⟨rfl,λid cs hg=>by simp[af.get,h0] at hg,λid es hg=>by simp[af.get,h0] at hg,λi j hi=>absurd hi (nol i),λb hb=>⟨?_,λid hl=>absurd hl (nol id)⟩⟩;rcases hb with hb|⟨id,hl,rfl⟩
  .exact (hr.gh b hb).1
  .exact hr.fA hl
 have Z8:∀b,Pr φ h w b->Pr φ0 h0 w b:=λb hb=>⟨hb.1,λid hl=>absurd hl (nol id),λhc=>by
  rcases hc with hc|⟨id,hl,e⟩
  .exact hb.2.2 hc
  .exact hb.2.1 id hl e⟩
 have ha0:kU φ0 h0 w args aV:=⟨kV.1,λj hj=>(kV.2 j hj).mono (λid bX _=>by have:=AV.cR (List.getElem_mem hj);omega) λb hb=>⟨Z8 b hb,rfl⟩⟩
 have back:∀(φ':eJ) (cv:Value) (w':World),fe φ' h' w' v cv->Ext φ0 h0 w φ' h' w'->vX φ h w v cv w':=λφ' cv w' g1 g3=>by
  have Gr:afv w w':=λb hb=>by
   by_cases hg:φ0.gh b
   .exact g3.gh.2 b hg
   .exact (g3.pr b ⟨hb,λid hl=>absurd hl (nol id),hg⟩).2
  obtain⟨s1,s2⟩:=Jf hr g3.os g3.tape g3.output g3.size Gr;refine⟨g1.mono (λid bX _=>by omega) λb hb=>⟨⟨hb.1,λid hl e=>?_,λhg=>?_⟩,rfl⟩,s1,s2,Gr⟩
  .exact hb.2.2 (by rw[g3.gh.1];exact .inr ⟨id,hl,e⟩)
  .exact hb.2.2 (by rw[g3.gh.1];exact .inl hg)
 have hG0:ir P X φ0 h0 w:=by
  obtain⟨w1,g1,g2⟩:=hG;refine⟨w1,g1,λb hb=>?_⟩;obtain⟨a1,a2,a3⟩:=g2 b hb;refine⟨a1,?_,a3⟩;rcases a2 with a2|a2
  .exact .inl (.inl a2)
  .exact .inr (Z8 b a2)
 rcases he φ0 w aV C5 hG0 ha0 with⟨e1,e2⟩|⟨cv,w',φ',e1,e2,e3,e4⟩
 .refine .inl ⟨e1,e2.mono λe w' he=>?_⟩;obtain⟨φ',cv,rfl,g1,g2,g3⟩:=he;exact⟨cv,rfl,back φ' cv w' g1 g3⟩
 .exact .inr ⟨cv,w',e1,back φ' cv w' e2 e4⟩
variable {E:Env}{n:Nat}
theorem bL(hE:cb P X E)(he:aH E n f args h0=some (v,h'))(hv:v.aJ=0)(ha:AV.ah args=0):gD P X f args v:=w6 (h':=h') hv ha λφ w aV hr hG kV=>(zO hE n).1 f args h0 v h' he φ w aV hr hG kV
variable {φ:eJ}
theorem M7{h:af}{w:World}(hg:∀id,h'.get id=h.get id):Pr φ h' w=Pr φ h w:=by funext b;unfold Pr live;simp only[hg]
theorem HR.congr{h:af}{w:World}(hg:∀id,h'.get id=h.get id)(hn:h'.next=h.next)(hw:h.wf)(hr:HR φ h' w):HR φ h w:=by
 have hp:=M7 (φ:=φ) (w:=w) hg;refine⟨hw,λid cs hi=>?_,λid es hi=>?_,λi j hi hj e=>hr.inj i j ?_ ?_ e,λb hb=>⟨(hr.gh b hb).1,λid hl=>(hr.gh b hb).2 id ?_⟩⟩
 .have:=hr.rows id cs (by rw[hg];exact hi);unfold u5 fe at this|-;rw[hp,hn] at this;exact this
 .have:=hr.maps id es (by rw[hg];exact hi);unfold zR fe at this|-;rw[hp,hn] at this;exact this
 .unfold live at hi|-;rw[hg];exact hi
 .unfold live at hj|-;rw[hg];exact hj
 .unfold live at hl|-;rw[hg];exact hl
variable {m:Nat}{g':Nat->Nat}
theorem EG{g:Nat->Nat}(hg:∀i,i<m->g i=g' i)(h:dk m v=true):sig g v=sig g' v:=by
 cases v with
 |ptr id off=>simp only[sig];rw[hg id (of_decide_eq_true h)]
 |vec id off len sz lb=>simp only[sig];rw[hg id (of_decide_eq_true h)]
 |map id=>simp only[sig];rw[hg id (of_decide_eq_true h)]
 |_=>rfl
theorem NT{g:Nat->Nat}(hg:∀i,i<m->g i=g' i){o:aT}(h:C7 m o=true):gE g o=gE g' o:=by
 cases o with
 |dead=>rfl
 |row cs=>simp only[gE];congr 1;exact List.map_congr_left λv hv=>EG hg (List.all_eq_true.1 h v hv)
 |map es=>
   simp only[gE];congr 1;refine List.map_congr_left λe he=>?_
   have:=List.all_eq_true.1 h e he;rw[Bool.and_eq_true] at this;rw[EG hg this.1,EG hg this.2]
variable {h1:af}{qs:List Nat}
theorem DB(hE:cb P X E){os:List aT}{r:Option (List aT)}(he:aH E n f args (D3 os)=some (v,h1))(hv:v.aJ=0)
 (ha:∀a∈args,dk os.length a=true) (hle:os.length<=(r.getD os).length) (hs:GX h1 (uO os.length qs) (r.getD os)):cp P X f args os v r:=by
 intro φ h w τ aV hr hG S hτ iF kV;have C5:=aet hr S
 have hG0:ir P X (pH φ h (λi=>τ.getD i 0) os) (D3 os) w:=by
  obtain⟨w1,g1,g2⟩:=hG;refine⟨w1,g1,λb hb=>?_⟩;obtain⟨a1,a2,a3⟩:=g2 b hb;refine⟨a1,?_,a3⟩;rcases a2 with a2|a2
  .exact .inl (.inl a2)
  .exact .inr (JX hr S a2)
 have ha0:kU (pH φ h (λi=>τ.getD i 0) os) (D3 os) w args aV:=by
  refine⟨by rw[kV.1,List.length_map],λj hj=>?_⟩;have h2:=kV.2 j (by simpa using hj);rw[List.getElem_map] at h2
  have:=RV.swap (φ':=pH φ h (λi=>τ.getD i 0) os) (SI:=os.length) (m:=os.length) (AT:=Pr (pH φ h (λi=>τ.getD i 0) os) (D3 os) w) (a:=λi=>τ.getD i 0) (b:=λi=>i) (λi hi=>⟨rfl,hi⟩)
   (λx hx=>JX hr S hx) (ha _ (List.getElem_mem hj)) h2
  rw[E1] at this;exact this
 have back:∀(φ1:eJ) (cv:Value) (w':World),fe φ1 h1 w' v cv->HR φ1 h1 w'->Ext (pH φ h (λi=>τ.getD i 0) os) (D3 os) w φ1 h1 w'->
  ∃φ',fe φ' (nB h τ r) w' v cv/\HR φ' (nB h τ r) w'/\Ext φ h w φ' (nB h τ r) w':=λφ1 cv w' g1 g2 g3=>by
  obtain⟨u1,u2,u3⟩:=ab1 hr S hτ iF hle g3 g2 hs;have hvv:fe (qB φ φ1 h.next qs) (join h τ (r.getD os)) w' v cv:=g1.mono (λid bX _=>by omega) λb hb=>⟨u3 b hb,rfl⟩
  cases r with
  |some nC=>exact⟨_,hvv,u1,u2⟩
  |none=>
    have CQ:(join h τ os).next=h.next:=by rw[Ic];omega
    have mg:∀k∈τ,∃o,h.get k=some o:=λk hk=>by
     obtain⟨i,hi,rfl⟩:=List.getElem_of_mem hk;have iO:i<os.length:=by omega
     have:=(S.obj i _ (List.getElem?_eq_getElem iO) (iF _ (List.getElem_mem iO))).1;have e:τ.getD i 0=τ[i]:=by simp[List.getD,hi]
     rw[e] at this;exact⟨_,this⟩
    have N9:τ.Nodup:=by
     rw[List.nodup_iff_pairwise_ne,List.pairwise_iff_getElem];intro i j hi hj uA e;have iO:i<os.length:=by omega
     have jC:j<os.length:=by omega
     have e1:τ.getD i 0=τ[i]:=by simp[List.getD,hi]
     have e2:τ.getD j 0=τ[j]:=by simp[List.getD,hj]
     have:=S.inj i j _ _ (List.getElem?_eq_getElem iO) (List.getElem?_eq_getElem jC) (iF _ (List.getElem_mem iO)) (iF _ (List.getElem_mem jC)) (by rw[e1,e2];exact e);omega
    have hgt:∀id,(join h τ os).get id=h.get id:=λid=>by
     by_cases hm:id∈τ
     .obtain⟨i,hi,rfl⟩:=List.getElem_of_mem hm;have iO:i<os.length:=by omega
      have e:oE h τ i=τ[i]:=by unfold oE;rw[if_pos hi];simp[List.getD,hi]
      have e1:τ.getD i 0=τ[i]:=by simp[List.getD,hi]
      have j1:=Ki (nC:=os) N9 mg (List.getElem?_eq_getElem iO);obtain⟨s1,s2⟩:=S.obj i _ (List.getElem?_eq_getElem iO) (iF _ (List.getElem_mem iO));rw[e] at j1;rw[e1] at s1;rw[j1,s1,NT (g':=λi=>τ.getD i 0) (λp hp=>?_) s2];unfold oE;rw[if_pos (by omega)]
     .by_cases hl:id<h.next
      .exact Ff hl hm
      .have n1:h.get id=none:=by unfold af.get;rw[if_neg hl]
       have n2:(join h τ os).get id=none:=by unfold af.get;rw[if_neg (by rw[CQ];exact hl)]
       rw[n1,n2]
    have hp:=M7 (φ:=qB φ φ1 h.next qs) (w:=w') hgt;refine⟨qB φ φ1 h.next qs,?_,HR.congr hgt CQ hr.wf u1,?_⟩
    .have:=hvv;unfold fe at this|-;dsimp only[Option.getD] at this;rw[hp,CQ] at this;exact this
    .refine⟨u2.os,u2.tape,u2.output,u2.size,Nat.le_refl _,u2.CD,λb hb=>?_,u2.gh⟩;obtain⟨p1,p2⟩:=u2.pr b hb;dsimp only[Option.getD] at p1;rw[hp] at p1;exact⟨p1,p2⟩
 rcases (zO hE n).1 f args (D3 os) v h1 he _ w aV C5 hG0 ha0 with⟨e1,e2⟩|⟨cv,w',φ1,e1,e2,e3,e4⟩
 .refine .inl ⟨e1,e2.mono λe w' he=>?_⟩;obtain⟨φ1,cv,rfl,g1,g2,g3⟩:=he;obtain⟨φ',b1,b2,b3⟩:=back φ1 cv w' g1 g2 g3;exact⟨φ',cv,rfl,b1,b2,b3⟩
 .obtain⟨φ',b1,b2,b3⟩:=back φ1 cv w' e2 e3 e4;exact .inr ⟨cv,w',φ',e1,b1,b2,b3⟩
theorem DL{nC:List aT}(hq:qs.Nodup)(hm:∀q∈qs,m<=q)(hl:nC.length<=m+qs.length)
 (ho:∀i o,nC[i]? =some o->(∀_:o=.dead,False)->h1.get (uO m qs i)=some (gE (uO m qs) o)/\C7 nC.length o=true):GX h1 (uO m qs) nC:=by
 refine⟨ho,λi j o o' h2 h3 _ _ e=>?_⟩;have hi:=(List.getElem?_eq_some_iff.1 h2).1;have hj:=(List.getElem?_eq_some_iff.1 h3).1;unfold uO at e;have at':∀p,p<nC.length->¬p<m->∃hp:p-m<qs.length,qs.getD (p-m) 0=qs[p-m]:=λp hp hn=>⟨by omega,by simp[List.getD,show p-m<qs.length by omega]⟩
 split at e
 .rename_i a;split at e
  .exact e
  .rename_i b;obtain⟨hp,e1⟩:=at' j hj b;rw[e1] at e;have:=hm _ (List.getElem_mem hp);omega
 .rename_i a;obtain⟨hp,e1⟩:=at' i hi a;split at e
  .rename_i b;rw[e1] at e;have:=hm _ (List.getElem_mem hp);omega
  .rename_i b;obtain⟨ZI,e2⟩:=at' j hj b;rw[e1,e2] at e;have:=(List.getElem_inj hq).1 e;omega
def mrK(M:List AV->List aT->Option (AV×Option (List aT)))(k:Nat)(rest:List AV)(h:af):Option aT->Option (AV×af)
 |some (.row cs)=>(match uI h (gN cs [k]) (gN cs [k]) with
   |some os=>if AV.ah rest=0 then (M (.ptr 0 0::rest) os).map λr=>(r.1,nB h (gN cs [k]) r.2) else none
   |none=>none)
 |_=>none
def msK(M:List AV->List aT->Option (AV×Option (List aT)))(rest:List AV)(h:af)(τ:List Nat):Option (List aT)->Option (AV×af)
 |some os=>if AV.ah rest=0 then (M (.ptr 0 0::rest) os).map λr=>(r.1,nB h τ r.2) else none
 |none=>none
def meK(h:af)(τ:List Nat):Option (AV×Option (List aT))->Option (AV×af)
 |some r=>some (r.1,nB h τ r.2)
 |none=>none
variable (M:List AV->List aT->Option (AV×Option (List aT)))(g:Nat->Nat)(k:Nat)(h:af)(τ r:List Nat)(o:aT)(rest:List AV)(os:List aT)(id:Nat)(es:List (AV×AV))(aM:List Nat)
theorem S4(h:af):pP M (.ptr k 0::rest) h=mrK M k rest h (h.get k):=by
 cases hg:h.get k with
 |none=>simp only[pP,hg,mrK]
 |some o=>
   cases o with
   |row cs=>simp only[pP,hg,mrK];cases uI h (gN cs [k]) (gN cs [k])<;>rfl
   |_=>simp only[pP,hg,mrK]
theorem aa1(h:af)(cs:List AV):mrK M k rest h (some (.row cs))=msK M rest h (gN cs [k]) (uI h (gN cs [k]) (gN cs [k])):=by rfl
theorem NP(h:af)(τ:List Nat)(os:List aT)(hr:AV.ah rest=0):msK M rest h τ (some os)=meK h τ (M (.ptr 0 0::rest) os):=by show (if AV.ah rest=0 then (M (.ptr 0 0::rest) os).map λr=>(r.1,nB h τ r.2) else none)=_;rw[if_pos hr];cases M (.ptr 0 0::rest) os<;>rfl
theorem aaq:msK M [] h τ (some os)=meK h τ (M [.ptr 0 0] os):=NP M [] h τ os (by simp[AV.ah])
theorem ah1(r:AV×Option (List aT)):meK h τ (some r)=some (r.1,nB h τ r.2):=rfl
theorem oh:meK h τ none=none:=rfl
theorem acf:nB h τ none=h:=rfl
theorem aaS:nB h τ (some os)=join h τ os:=rfl
theorem Zr:gN [] aM=aM:=rfl
theorem ak(v:AV)(r:List AV)(aM:List Nat):gN (v::r) aM=match v.top with|some j=>if xZ aM j then gN r aM else gN r (aM++[j])|none=>gN r aM:=rfl
theorem YA:xZ [] id=false:=rfl
theorem T1:xZ (k::r) id=if k=id then true else xZ r id:=rfl
theorem V5:xX [] id=0:=rfl
theorem SY:xX (k::r) id=if k=id then 0 else xX r id+1:=rfl
theorem T2:uI h τ []=some []:=rfl
theorem QF(r:List Nat):uI h τ (id::r)=match h.get id,uI h τ r with|some o,some os=>if okO τ o then some (gE (xX τ) o::os) else none|_,_=>none:=rfl
theorem au(cs:List AV):okO τ (.row cs)=cs.all (okV τ):=rfl
theorem cV:okO τ (.map es)=es.all λe=>okV τ e.1&&okV τ e.2:=rfl
theorem abM(v:AV):okV τ v=match v.top with|some id=>xZ τ id|none=>v.aJ==0:=rfl
theorem aq(cs:List AV):gE g (.row cs)=.row (cs.map (sig g)):=rfl
theorem cA:gE g (.map es)=.map (es.map λe=>(sig g e.1,sig g e.2)):=rfl
theorem ae6:gE g .dead=.dead:=rfl
theorem Yg(h:af):p7 g [] os h=h:=by unfold p7;rfl
theorem T7(ks:List Nat)(o:aT)(os:List aT)(h:af):p7 g (k::ks) (o::os) h=p7 g ks os (Bj h k (gE g o)):=rfl
theorem Y1:yR g [] h=h:=rfl
theorem SO(h:af):yR g (o::os) h=yR g os (h.alloc (gE g o)):=rfl
theorem wV:D3 [o]=⟨1,[o],1,1⟩:=rfl
theorem l9(n:Nat)(h:v.aJ=0):dk n v=true:=by
 cases v with
 |ptr id off=>simp[AV.aJ] at h
 |vec id off len sz lb=>simp[AV.aJ] at h
 |map id=>simp[AV.aJ] at h
 |_=>simpa[dk] using h
variable {cs:List AV}
theorem rJ(h:AV.ah cs=0):gE g (.row cs)=.row cs:=by
 have e:cs.map (sig g)=cs:=by
  conv=>rhs;rw[<-List.map_id cs]
  exact List.map_congr_left λv hv=>(IJ (v:=v) (by have h2:=AV.cR (v:=v) (l:=cs) hv;omega):sig g v=v)
 show aT.row (cs.map (sig g))=_;rw[e]
theorem pz(n:Nat)(h:AV.ah cs=0):C7 n (.row cs)=true:=List.all_eq_true.2 λv hv=>l9 n (by have:=AV.cR hv;omega)
theorem M4{rest:List AV}(hr:AV.ah rest=0):∀a∈AV.ptr 0 0::rest,dk 1 a=true:=λa ha=>by
 rcases List.mem_cons.1 ha with rfl|ha
 .rfl
 .exact l9 1 (by have:=AV.cR ha;omega)
theorem At(hE:cb P X E){rest iN:List AV}(he:aH E n f (.ptr 0 0::rest) (D3 [.row cs])=some (v,h1))(hg:h1.get 0=some (.row iN))
 (hv:v.aJ=0) (hr:AV.ah rest=0) (hc:AV.ah iN=0):cp P X f (.ptr 0 0::rest) [.row cs] v (some [.row iN]):=
 DB (qs:=[]) hE he hv (M4 hr) (Nat.le_refl _) (DL (by simp) (by simp) (by simp) λi o ho _=>by
  cases i with
  |succ i=>simp at ho
  |zero=>simp only[Option.getD,List.getElem?_cons_zero,Option.some.injEq] at ho;subst ho;refine⟨?_,pz _ hc⟩;rw[rJ _ hc];exact hg)
theorem Ih(hE:cb P X E){rest:List AV}(he:aH E n f (.ptr 0 0::rest) (D3 [.row cs])=some (v,h1))(hg:h1.get 0=some (.row cs))
 (hv:v.aJ=0) (hr:AV.ah rest=0) (hc:AV.ah cs=0):cp P X f (.ptr 0 0::rest) [.row cs] v none:=
 DB (qs:=[]) hE he hv (M4 hr) (Nat.le_refl _) (DL (by simp) (by simp) (by simp) λi o ho _=>by
  cases i with
  |succ i=>simp at ho
  |zero=>simp only[Option.getD,List.getElem?_cons_zero,Option.some.injEq] at ho;subst ho;refine⟨?_,pz _ hc⟩;rw[rJ _ hc];exact hg)
end
section
variable (n:Nat)(o:aT)(os:List aT)(o':aT)(a:Nat)(h:af)(b:Nat)
theorem fT:af.get ⟨n+1,o::os,a,b⟩ n=some o:=by simp[af.get]
variable {id:Nat}
theorem gF{n:Nat}(h:id<n):af.get ⟨n+1,o::os,a,b⟩ id=af.get ⟨n,os,a,b⟩ id:=af.dd (h:=⟨n,os,a,b⟩) h
theorem gY(os:List aT)(a b:Nat):af.set ⟨n+1,o::os,a,b⟩ n o'=⟨n+1,o'::os,a,min b n⟩:=by simp[af.set]
theorem gX{n:Nat}(os:List aT)(a b:Nat)(h:id<n):af.set ⟨n+1,o::os,a,b⟩ id o'=⟨n+1,o::(af.set ⟨n,os,a,b⟩ id o').gm,a,min b id⟩:=by
 have e:n-id=(n-1-id)+1:=by omega
 simp only[af.set,show id<n+1 by omega,h,if_true];rw[show n+1-1-id=(n-1-id)+1 by omega,List.set_cons_succ]
end
section
variable {X:World->Prop}
def bP(B:List AV->af->Option (Ex×List AV×af))(live:List Bool)(n0:Nat):Nat->List AV->af->Option (Ex×List AV×af)
 |0,_,_=>none
 |n+1,fr,h=>
   match B fr h with
   |some (.normal,de,h')=>bP B live n0 n (gc n0 (clear live de) h').1 (gc n0 (clear live de) h').2
   |r=>r
theorem B8(B:List AV->af->Option (Ex×List AV×af))(live:List Bool)(n0:Nat):∀n fr h,rL B live n0 n fr h=bP B live n0 n (gc n0 (clear live fr) h).1 (gc n0 (clear live fr) h).2
 |0,_,_=>rfl
 |n+1,fr,h=>by
   unfold rL bP
   cases hb:B (gc n0 (clear live fr) h).1 (gc n0 (clear live fr) h).2 with
   |none=>rfl
   |some r=>
     obtain⟨ex,th,h1⟩:=r
     cases ex with
     |normal=>exact B8 B live n0 n th h1
     |exit id=>rfl
     |ret=>rfl
def il(n0 wl:Nat):Option (Ex×List AV×af)->Option (Ex×List AV×af)
 |none=>none
 |some (ex,fr,h)=>some (ex,(gc n0 fr h).1,⟨(gc n0 fr h).2.next,(gc n0 fr h).2.gm,min wl (gc n0 fr h).2.wl,(gc n0 fr h).2.md⟩)
def bgn(B:List AV->af->Option (Ex×List AV×af))(live:List Bool)(n0 n:Nat)(s:List AV×af):Option (Ex×List AV×af):=bP B live n0 n s.1 s.2
variable (B:List AV->af->Option (Ex×List AV×af))(live:List Bool)(n0 n:Nat)(fr:List AV)(h:af)(f:Nat)
theorem agb:bgn B live n0 n (fr,h)=bP B live n0 n fr h:=rfl
theorem Li(C:Nat->List AV->af->Option (AV×af))(n:Nat)(live:List Bool)(a:bZ)(fr:List AV)(h:af):
 aC C n (.loop live a) fr h=il h.next h.wl (bgn (aC C n a) live h.next n (gc h.next (clear live fr) ⟨h.next,h.gm,h.next,h.md⟩)):=by
 conv=>lhs;unfold aC
 rw[B8];unfold bgn il;split
 .rename_i e;rw[e];rfl
 .rename_i e;rw[e];rfl
theorem aeQ(wl:Nat)(ex:Ex)(fr:List AV)(h:af):il n0 wl (some (ex,fr,h))=
 match gc n0 fr h with
 |(de,⟨nx,os,w,md⟩)=>some (ex,de,⟨nx,os,min wl w,md⟩):=rfl
theorem ag:bP B live n0 (n+1) fr h=
 match B fr h with
 |some (.normal,de,h')=>bgn B live n0 n (gc n0 (clear live de) h')
 |r=>r:=rfl
structure aW where
 f:Nat
 S:List AV->Option AV
def dU(P:Program)(X:World->Prop)(s:aW):Prop:=∀args v,s.S args=some v->gD P X s.f args v
abbrev aX(P:Program)(s:aW):Prop:=dU P (λ_=>True) s
open Classical in
noncomputable def aW.of{α:Type}(f:Nat)(enc:α->List AV)(pre:α->Prop)(val:α->AV):aW:=⟨f,λargs=>if h:∃a,args=enc a/\pre a then some (val h.choose) else none⟩
variable {P:Program}
def nA:List aW->Nat->List AV->Option AV
 |[],_,_=>none
 |s::r,f,args=>if s.f=f then (match s.S args with|some v=>some v|none=>nA r f args) else nA r f args
def vI:List aW->Nat->List aW
 |[],_=>[]
 |s::r,f=>if s.f==f then s::vI r f else vI r f
theorem Vj:vI [] f=[]:=rfl
theorem FF(s:aW)(r:List aW)(f:Nat):vI (s::r) f=if s.f==f then s::vI r f else vI r f:=rfl
theorem AG(f:Nat)(args:List AV):∀ss:List aW,nA (vI ss f) f args=nA ss f args
 |[]=>rfl
 |s::r=>by
   rw[FF];by_cases h:s.f=f
   .rw[if_pos (by simpa using h)];simp only[nA,h,if_true,AG f args r]
   .rw[if_neg (by simpa using h),AG f args r];simp only[nA,h,if_false]
def RF(fn:Nat->Option cL)(ss:List aW):Env:=⟨fn,nA ss,λ_ _ _=>none⟩
variable {fn:Nat->Option cL}{ss:List aW}
theorem Mo(hm:P.follows .mixedOrders=true)(AU:∀f F,fn f=some F->cQ P f F)(hs:∀s∈ss,dU P X s):cb P X (RF fn ss):=by
 refine⟨hm,AU,λf args v hp=>?_,λf args os v r h=>by cases h⟩
 have key:∀ss:List aW,(∀s∈ss,dU P X s)->nA ss f args=some v->gD P X f args v:=by
  intro ss
  induction ss with
  |nil=>intro _ h;cases h
  |cons s r ih=>
    intro hs hl;unfold nA at hl;split at hl
    .rename_i hf;split at hl
     .rename_i v' NX;cases hl;rw[<-hf];exact hs s (by simp) args v NX
     .exact ih (λt ht=>hs t (by simp[ht])) hl
    .exact ih (λt ht=>hs t (by simp[ht])) hl
 exact key ss hs hp
structure cw where
 f:Nat
 S:List AV->List aT->Option (AV×Option (List aT))
def qH:List cw->Nat->List AV->List aT->Option (AV×Option (List aT))
 |[],_,_,_=>none
 |m::r,f,args,os=>if m.f=f then (match m.S args os with|some v=>some v|none=>qH r f args os) else qH r f args os
def rn:List cw->Nat->List cw
 |[],_=>[]
 |m::r,f=>if m.f==f then m::rn r f else rn r f
theorem Po:rn [] f=[]:=rfl
theorem CG(m:cw)(r:List cw)(f:Nat):rn (m::r) f=if m.f==f then m::rn r f else rn r f:=rfl
theorem Bi(f:Nat)(args:List AV)(os:List aT):∀ms:List cw,qH (rn ms f) f args os=qH ms f args os
 |[]=>rfl
 |m::r=>by
   rw[CG];by_cases h:m.f=f
   .rw[if_pos (by simpa using h)];simp only[qH,h,if_true,Bi f args os r]
   .rw[if_neg (by simpa using h),Bi f args os r];simp only[qH,h,if_false]
def cB(P:Program)(X:World->Prop)(m:cw):Prop:=∀args os v r,m.S args os=some (v,r)->cp P X m.f args os v r
abbrev mP(P:Program)(m:cw):Prop:=cB P (λ_=>True) m
def WU(fn:Nat->Option cL)(ss:List aW)(ms:List cw):Env:=⟨fn,nA ss,qH ms⟩
theorem Vk(hm:P.follows .mixedOrders=true)(AU:∀f F,fn f=some F->cQ P f F)(hs:∀s∈ss,dU P X s){ms:List cw}(hms:∀m∈ms,cB P X m):
 cb P X (WU fn ss ms):=by
 refine⟨hm,AU,(Mo hm AU hs).GD,λf args os v r hp=>?_⟩
 have key:∀ms:List cw,(∀m∈ms,cB P X m)->qH ms f args os=some (v,r)->cp P X f args os v r:=by
  intro ms
  induction ms with
  |nil=>intro _ h;cases h
  |cons s q ih=>
    intro hs hl;unfold qH at hl;split at hl
    .rename_i hf;split at hl
     .rename_i v' NX;cases hl;rw[<-hf];exact hs s (by simp) args os v r NX
     .exact ih (λt ht=>hs t (by simp[ht])) hl
    .exact ih (λt ht=>hs t (by simp[ht])) hl
 exact key ms hms hp
theorem Gf(args:List AV)(h:af):pP (λ_ _=>none) args h=none:=by
 unfold pP;split
 .split
  .split
   .split<;>rfl
   .rfl
  .rfl
 .rfl
@[simp] theorem aiY(fn:Nat->Option cL)(ss:List aW)(f:Nat):(RF fn ss).fn f=fn f:=rfl
@[simp] theorem af9(fn:Nat->Option cL)(ss:List aW):(RF fn ss).GD=nA ss:=rfl
theorem ir.mono{Y:World->Prop}(hXY:∀w,X w->Y w){φ:eJ}{h:af}{w:World}(g:ir P X φ h w):ir P Y φ h w:=by obtain⟨w1,h1,h2⟩:=g;exact⟨w1,⟨h1.1,hXY _ h1.2⟩,h2⟩
theorem aX.lift{s:aW}(h:aX P s):dU P X s:=λargs v hv φ hh w aV hr hG ha=>h args v hv φ hh w aV hr (hG.mono λ_ _=>trivial) ha
theorem mP.lift{m:cw}(h:mP P m):cB P X m:=λargs os v r hv φ hh w τ aV hr hG S h1 h2 ha=>h args os v r hv φ hh w τ aV hr (hG.mono λ_ _=>trivial) S h1 h2 ha
end
section
variable (neg:Bool)(x:dY)(a:bZ)(k:IntKind)(b:Bool)(c y:dY)
section
variable (C:Nat->List AV->af->Option (AV×af))(n:Nat)(fr:List AV)(h:af)
theorem Lz:aC C n .skip fr h=some (.normal,fr,h):=rfl
theorem Qv(ops:List aQ):aC C n (.kT ops) fr h=match cS C ops fr h with|some (de,h')=>some (.normal,de,h')|none=>none:=by simp only[aC];cases cS C ops fr h<;>rfl
theorem Ld(ops:List aQ)(chk:List (Nat×Nat)):aC C n (.pJ ops chk) fr h=match uS C ops fr h with|some (de,h',tr)=>if Nl tr chk then some (.normal,de,h') else none|none=>none:=rfl
theorem PK(b:bZ):aC C n (.seq a b) fr h=match aC C n a fr h with|some (.normal,de,h')=>aC C n b de h'|r=>r:=rfl
theorem NJ(a b:bZ):aC C n (.cond c a b) fr h=match c.ev fr with|.bool t=>if t then aC C n a fr h else aC C n b fr h|_=>none:=rfl
theorem JZ(id:Nat)(a:bZ):aC C n (.block id a) fr h=match aC C n a fr h with|some (.exit i,de,h')=>some (if i=id then .normal else .exit i,de,h')|r=>r:=rfl
theorem LW(id:Nat)(live:List Bool):aC C n (.exit id live) fr h=some (.exit id,clear live fr,h):=rfl
theorem Ph(live:List Bool):aC C n (.ret live) fr h=some (.ret,clear live fr,h):=rfl
theorem Lr:cS C [] fr h=some (fr,h):=rfl
theorem PV(d:Option Nat)(o:B6)(r:List aQ):cS C (⟨d,.op o,none⟩::r) fr h=match bG fr h o with|some (v,h')=>cS C r (gw fr d v) h'|none=>none:=by simp only[cS,cK,cW];cases bG fr h o<;>rfl
theorem J8(d:Option Nat)(f:Nat)(args:List dY)(r:List aQ):cS C (⟨d,.call f args,none⟩::r) fr h=match C f (args.map (·.ev fr)) h with|some (v,h')=>cS C r (gw fr d v) h'|none=>none:=by simp only[cS,cK,cW];cases C f (args.map (·.ev fr)) h<;>rfl
theorem GZ(d:Option Nat)(x:dY)(args:List dY)(r:List aQ):cS C (⟨d,.lM x args,none⟩::r) fr h=match x.ev fr with
 |.fn f aO=>(match C f (args.map (·.ev fr)++aO) h with|some (v,h')=>cS C r (gw fr d v) h'|none=>none)
 |_=>none:=by
 simp only[cS,cK,cW]
 cases x.ev fr with
 |fn f aO=>dsimp only;cases C f (args.map (·.ev fr)++aO) h<;>rfl
 |_=>rfl
theorem Zx:uS C [] fr h=some (fr,h,[]):=rfl
theorem Vv(s:aQ)(r:List aQ):uS C (s::r) fr h=match cK C s fr ⟨h.next,h.gm,h.wl,h.next⟩ with
 |some (de,h')=>(match uS C r de ⟨h'.next,h'.gm,h'.wl,min h.md h'.md⟩ with|some (fr2,h2,tr)=>some (fr2,h2,(C1 s fr,h,h')::tr)|none=>none)
 |none=>none:=by
 simp only[uS]
 cases cK C s fr ⟨h.next,h.gm,h.wl,h.next⟩ with
 |none=>rfl
 |some p=>dsimp only;cases uS C r p.1 ⟨p.2.next,p.2.gm,p.2.wl,min h.md p.2.md⟩<;>rfl
theorem Ur(d:Option Nat)(o:B6):cK C ⟨d,.op o,none⟩ fr h=match bG fr h o with|some (v,h')=>some (gw fr d v,h')|none=>none:=by simp only[cK,cW];cases bG fr h o<;>rfl
theorem KR(d:Option Nat)(f:Nat)(args:List dY):cK C ⟨d,.call f args,none⟩ fr h=match C f (args.map (·.ev fr)) h with|some (v,h')=>some (gw fr d v,h')|none=>none:=by simp only[cK,cW];cases C f (args.map (·.ev fr)) h<;>rfl
theorem JL(d:Option Nat)(x:dY)(args:List dY):cK C ⟨d,.lM x args,none⟩ fr h=match x.ev fr with
 |.fn f aO=>(match C f (args.map (·.ev fr)++aO) h with|some (v,h')=>some (gw fr d v,h')|none=>none)
 |_=>none:=by
 simp only[cK,cW]
 cases x.ev fr with
 |fn f aO=>dsimp only;cases C f (args.map (·.ev fr)++aO) h<;>rfl
 |_=>rfl
theorem XO:bG fr h (.Hy x)=some (x.ev fr,h):=rfl
theorem SR(x y:dY):bG fr h (.pick c x y)=match c.ev fr with|.bool b=>some (if b then x.ev fr else y.ev fr,h)|_=>none:=rfl
theorem Zg:bG fr h (.box x)=match (x.ev fr).cells? with|some cs=>some (.ptr h.next 0,⟨h.next+1,.row cs::h.gm,h.wl,h.md⟩)|none=>none:=rfl
theorem Xa(z:List AV)(ps:List (Nat×Nat×dY)):bG fr h (.Sm z ps)=match nf z (ps.map λp=>(p.1,p.2.1,p.2.2.ev fr)) with|some cs=>some (.agg cs,h)|none=>none:=by simp only[bG];cases nf z (ps.map λp=>(p.1,p.2.1,p.2.2.ev fr))<;>rfl
theorem V4(sz len:Nat)(z:List AV)(ps:List (Nat×dY)):bG fr h (.AS sz len z ps)=match nf z (ps.map λp=>(p.1*sz,sz,p.2.ev fr)) with|some cs=>some (.vec h.next 0 len sz len,⟨h.next+1,.row cs::h.gm,h.wl,h.md⟩)|none=>none:=by simp only[bG];cases nf z (ps.map λp=>(p.1*sz,sz,p.2.ev fr))<;>rfl
theorem aan(m:Option Nat)(x:dY):bG fr h (.ld m x)=match Sv h m (x.ev fr) with|some v=>some (v,h)|none=>none:=by simp only[bG];cases Sv h m (x.ev fr)<;>rfl
theorem abC(m:Nat)(x v:dY):bG fr h (.st m x v)=match x.ev fr,(v.ev fr).cells? with
 |.ptr id off,some vs=>match h.row id with
   |some cs=>if vs.length=m/\off+m<=cs.length then some (.undef,(h.set id (.row (putAt cs off vs))).mark id (v.ev fr)) else none
   |none=>none
 |_,_=>none:=rfl
theorem Zy:bG fr h (.nck x)=match TF (x.ev fr) with|some false=>some (x.ev fr,h)|_=>none:=rfl
theorem Xs(op:BinOp)(x y:dY):bG fr h (.bin op x y)=match yf op (x.ev fr) (y.ev fr) with|some v=>some (v,h)|none=>none:=by simp only[bG];cases yf op (x.ev fr) (y.ev fr)<;>rfl
theorem ZA:bG fr h (.beq neg x y)=match x.ev fr,y.ev fr with|.bool a,.bool b=>some (.bool (if neg then !(a==b) else a==b),h)|_,_=>none:=rfl
theorem XW(ks:List Nat)(neg:Bool)(x y:dY):bG fr h (.ceq ks neg x y)=match x.ev fr,y.ev fr with
 |.agg a,.agg b=>(match nY ks a b with|some r=>some (.bool (if neg then !r else r),h)|none=>none)
 |_,_=>none:=by
 simp only[bG];cases x.ev fr<;>try rfl
 cases y.ev fr<;>try rfl
 rename_i a b;dsimp only;cases nY ks a b<;>rfl
theorem Xj(k:Nat)(neg:Bool)(x y:dY):bG fr h (.peq k neg x y)=match x5 k (x.ev fr),x5 k (y.ev fr) with|some p,some true=>some (.bool (if neg then !p else p),h)|_,_=>none:=rfl
theorem Yt:bG fr h (.un .not x)=match x.ev fr with|.bool b=>some (.bool (!b),h)|_=>none:=by simp only[bG];cases x.ev fr<;>rfl
theorem WI:bG fr h (.un .neg x)=match x.ev fr with|.int k n=>some (.int k (k.wrap (0-n)),h)|_=>none:=by simp only[bG];cases x.ev fr<;>rfl
theorem X2:bG fr h (.un .xor x)=match x.ev fr with|.int k n=>some (.int k (H0 .xor k (if k.signed then -1 else k.max) n),h)|_=>none:=by simp only[bG];cases x.ev fr<;>rfl
theorem Y8(x:dY):bG fr h (.cvi k x)=match x.ev fr with|.int _ n=>some (.int k (k.wrap n),h)|_=>none:=rfl
theorem T8:bG fr h (.Ws x)=match x.ev fr with|.str s=>some (.str s,h)|_=>none:=rfl
theorem Uu:bG fr h (.Py x)=match x.ev fr with|.int _ n=>if 0<=n/\n<128 then some (.str [UInt8.ofNat n.toNat],h) else none|_=>none:=rfl
theorem Us:bG fr h (.TJ x)=match x.ev fr with|.str s=>some (.sl (s.map λb=>.int .u8 b.toNat),h)|_=>none:=rfl
theorem T4:bG fr h (.S8 x)=match aG h 1 (x.ev fr),x.ev fr with
 |_,.str _=>none
 |some (_,cs),_=>(bytesOf cs).map λs=>(.str s,h)
 |none,_=>none:=rfl
theorem Xo(kd:Nat)(zero:AV)(ok:Bool)(m k:dY):bG fr h (.lkp kd zero ok m k)=match (match m.ev fr with|.kq=>some []|.map id=>h.iq id|_=>none) with
 |some es=>(oX kd (k.ev fr) es).map λr=>(match r with
   |some v=>(if ok then .tuple [v,.bool true] else v,h)
   |none=>(if ok then .tuple [zero,.bool false] else zero,h))
 |none=>none:=rfl
theorem XP(t:Nat)(x:dY):bG fr h (.mki t x)=some (.iface t (x.ev fr),h):=rfl
theorem X4(f:Nat)(aO:List dY):bG fr h (.VR f aO)=some (.fn f (aO.map (·.ev fr)),h):=rfl
theorem V9:bG fr h .mkm=some (.map h.next,⟨h.next+1,.map []::h.gm,h.wl,h.md⟩):=rfl
theorem Wn(bytes:Nat)(z:List AV)(l c:dY):bG fr h (.mks bytes z l c)=match l.ev fr,c.ev fr with
 |.int .i64 l,.int .i64 c=>if 0<=l/\l<=c/\c*bytes<=140737488355328/\c<2^63 then
  some (.vec h.next 0 l.toNat z.length c.toNat,⟨h.next+1,.row (List.replicate c.toNat z).flatten::h.gm,h.wl,h.md⟩) else none
 |_,_=>none:=rfl
theorem Yi(lo hi:Option dY):bG fr h (.YP x lo hi)=match x.ev fr with
 |.str s=>(match sliceB s.length (lo.map (·.ev fr)) (hi.map (·.ev fr)) with|some (l,u)=>some (.str ((s.take u).drop l),h)|none=>none)
 |_=>none:=by
 simp only[bG];cases x.ev fr<;>try rfl
 dsimp only;rename_i s;cases sliceB s.length (lo.map (·.ev fr)) (hi.map (·.ev fr))<;>rfl
theorem WA(sz:Nat)(x:dY)(lo hi mx:Option dY):bG fr h (.slv sz x lo hi mx)=match x.ev fr with
 |.aF=>(match ic 0 0 (lo.map (·.ev fr)) (hi.map (·.ev fr)) (mx.map (·.ev fr)) with|some _=>some (.aF,h)|none=>none)
 |.sl xs=>if (xs.all λx=>(x.cells?.map List.length)==some sz) then
  (match ic xs.length xs.length (lo.map (·.ev fr)) (hi.map (·.ev fr)) (mx.map (·.ev fr)) with|some (l,u,m)=>some (if m=some l then .aF else .sl ((xs.take u).drop l),h)|none=>none) else none
 |.vec id off len s lb=>if s=sz then
  (match ic len lb (lo.map (·.ev fr)) (hi.map (·.ev fr)) (mx.map (·.ev fr)) with|some (l,u,m)=>some (if m=some l then .aF else .vec id (off+l*sz) (u-l) sz (m.getD lb-l),h)|none=>none) else none
 |_=>none:=by
 simp only[bG];cases x.ev fr<;>try rfl
 .dsimp only;cases ic 0 0 (lo.map (·.ev fr)) (hi.map (·.ev fr)) (mx.map (·.ev fr))<;>rfl
 .dsimp only;split
  .rename_i xs _;cases ic xs.length xs.length (lo.map (·.ev fr)) (hi.map (·.ev fr)) (mx.map (·.ev fr))<;>rfl
  .rfl
 .dsimp only;rename_i len _ lb;split
  .cases ic len lb (lo.map (·.ev fr)) (hi.map (·.ev fr)) (mx.map (·.ev fr))<;>rfl
  .rfl
theorem WW(off:Nat)(x:dY):bG fr h (.fad off x)=match x.ev fr with|.ptr id o=>some (.ptr id (o+off),h)|.ip cs=>some (.ip (cs.drop off),h)|_=>none:=rfl
theorem TD(off:Nat)(x:dY):bG fr h (.fld off none x)=match x.ev fr with
 |.agg cs=>(match cs[off]? with|some v=>some (v,h)|none=>none)
 |_=>none:=by
 simp only[bG];cases x.ev fr<;>try rfl
 dsimp only;rename_i cs;cases cs[off]?<;>rfl
theorem Vr(off n:Nat)(x:dY):bG fr h (.fld off (some n) x)=match x.ev fr with
 |.agg cs=>if off+n<=cs.length then some (.agg ((cs.drop off).take n),h) else none
 |_=>none:=rfl
theorem Yj(sz:Nat)(x i:dY):bG fr h (.iad sz x i)=match x.ev fr,i.ev fr with
 |.sl xs,.int _ i=>if 0<=i then (match xs[i.toNat]? with
  |some v=>(match v.cells? with
    |some cs=>if cs.length=sz then some (.ip cs,h) else none
    |none=>none)
  |none=>none) else none
 |.vec id off len s _,.int _ i=>if 0<=i/\i<len/\s=sz then some (.ptr id (off+i.toNat*sz),h) else none
 |_,_=>none:=rfl
theorem YN(i:dY):bG fr h (.ixs x i)=match x.ev fr,i.ev fr with
 |.str s,.int _ i=>if 0<=i then (match s[i.toNat]? with|some b=>some (.int .u8 b.toNat,h)|none=>none) else none
 |_,_=>none:=by
 simp only[bG];cases x.ev fr<;>try rfl
 cases i.ev fr<;>try rfl
 rename_i s k i;dsimp only;cases s[i.toNat]?<;>rfl
theorem Yl(i:Nat):bG fr h (.ext x i)=match x.ev fr with
 |.tuple vs=>(match vs[i]? with|some v=>some (v,h)|none=>none)
 |_=>none:=by
 simp only[bG];cases x.ev fr<;>try rfl
 rename_i vs;dsimp only;cases vs[i]?<;>rfl
theorem Ub:bG fr h (.lens x)=match x.ev fr with|.str s=>some (.int .i64 s.length,h)|_=>none:=rfl
theorem dZ:bG fr h (.vj x)=match x.ev fr with
 |.aF=>some (.int .i64 0,h)
 |.sl xs=>some (.int .i64 xs.length,h)
 |.vec _ _ n _ _=>some (.int .i64 n,h)
 |_=>none:=rfl
theorem o7:bG fr h (.mx x y)=match x.ev fr,y.ev fr with|.int k a,.int _ b=>some (.int k (if a<b then b else a),h)|_,_=>none:=rfl
theorem acp:bG fr h (.mn x y)=match x.ev fr,y.ev fr with|.int k a,.int _ b=>some (.int k (if b<a then b else a),h)|_,_=>none:=rfl
theorem Xk(sz bytes:Nat)(x y:dY):bG fr h (.app sz bytes x y)=match aG h sz (y.ev fr) with
 |none=>none
 |some (n,news)=>
   match x.ev fr with
   |.aF=>if n=0 then some (.aF,h) else
     if n*bytes<=140737488355328/\n<2^63 then some (.vec h.next 0 n sz n,⟨h.next+1,.row news::h.gm,h.wl,h.md⟩) else none
   |.vec id off len s lb=>match h.row id with
     |some cs=>if s=sz/\off+len*sz<=cs.length then
      if n=0 then some (.vec id off len s lb,h) else
      if len+n<=lb/\off+(len+n)*sz<=cs.length then some (.vec id off (len+n) sz lb,(h.set id (.row (putAt cs (off+len*sz) news))).mark id (.agg news)) else
      if (len+n)*bytes<=140737488355328/\len+n<2^63 then
       some (.vec h.next 0 (len+n) sz (len+n),(h.set id .dead).alloc (.row ((cs.drop off).take (len*sz)++news))) else none
       else none
     |none=>none
   |_=>none:=rfl
theorem WC(len:Nat)(z:List AV)(ps:List (Nat×dY)):bG fr h (.fsl len z ps)=match nf z (ps.map λp=>(p.1*1,1,p.2.ev fr)) with|some cs=>if (bytesOf cs).isSome then some (.sl cs,h) else none|none=>none:=rfl
theorem TT:bG fr h (.XL x)=match x.ev fr with|.sl cs=>(bytesOf cs).map λs=>(.str s,h)|_=>none:=rfl
theorem Yo:bG fr h .bs0=some (.aF,h):=rfl
theorem TB:bG fr h (.OU neg x)=match x.ev fr with
 |.sl (_::_)=>some (.bool neg,h)
 |.vec _ _ (_+1) _ _=>some (.bool neg,h)
 |_=>none:=rfl
theorem Xm(z:List AV)(x:dY):bG fr h (.clr z x)=match x.ev fr with
 |.aF=>some (.tuple [],h)
 |.vec id off len s _=>match h.row id with
   |some cs=>if s=z.length/\off+len*s<=cs.length then some (.tuple [],(h.set id (.row (putAt cs off (List.replicate len z).flatten))).mark id (.agg z)) else none
   |none=>none
 |_=>none:=rfl
theorem Wq(h:af)(id:Nat):h.row id=match h.get id with|some (.row cs)=>some cs|_=>none:=rfl
theorem jo(nx:Nat)(os:List aT)(wl md id:Nat):af.get ⟨nx,os,wl,md⟩ id=if id<nx then os[nx-1-id]? else none:=rfl
theorem set_mk(nx:Nat)(os:List aT)(wl md id:Nat)(o:aT):af.set ⟨nx,os,wl,md⟩ id o=if id<nx then⟨nx,os.set (nx-1-id) o,wl,min md id⟩ else⟨nx,os,wl,md⟩:=by unfold af.set;split<;>rfl
theorem acj(nx:Nat)(os:List aT)(wl md id:Nat)(v:AV):af.mark ⟨nx,os,wl,md⟩ id v=if id+1<v.aJ then⟨nx,os,min wl id,md⟩ else⟨nx,os,wl,md⟩:=by unfold af.mark;split<;>rfl
theorem U5(nx:Nat)(os:List aT)(wl md:Nat)(o:aT):af.alloc ⟨nx,os,wl,md⟩ o=⟨nx+1,o::os,wl,md⟩:=rfl
theorem Zd(nx:Nat)(os:List aT)(wl md n:Nat):af.kj ⟨nx,os,wl,md⟩ n=⟨min nx n,os.drop (nx-n),wl,md⟩:=rfl
theorem O3:jf fr h []=some []:=rfl
theorem LG(r:MS)(rs:List MS):jf fr h (r::rs)=match xy fr h r with
 |some v=>(match jf fr h rs with|some vs=>some (v::vs)|none=>none)
 |none=>none:=by
 simp only[jf]
 cases xy fr h r with
 |none=>rfl
 |some v=>cases jf fr h rs<;>rfl
theorem Vf(a b c:Nat)(os0 os:List aT)(nx wl md:Nat)(v:AV):finish false ⟨a,os0,b,c⟩ v ⟨nx,os,wl,md⟩=
 match jL ⟨nx,os,wl,md⟩ a 8 v with
 |none=>(v,⟨nx,os,min b wl,min c md⟩)
 |some (v',eG)=>
   if a<=wl/\v'.aJ<=a then (v',⟨min nx a,os.drop (nx-a),b,if md<a then min c md else c⟩)
   else match kill ⟨nx,os,wl,md⟩ eG with|⟨SI,nC,_,_⟩=>(v',⟨SI,nC,min b wl,min c md⟩):=by
 simp only[finish,Bool.false_eq_true,if_false]
 cases jL ⟨nx,os,wl,md⟩ a 8 v with
 |none=>rfl
 |some p=>obtain⟨v',eG⟩:=p;dsimp only;split<;>rfl
theorem Um(cs:List AV):(AV.agg cs).cells? =some cs:=rfl
theorem Pw:(AV.bool b).cells? =some [.bool b]:=rfl
theorem Vl(n:Int):(AV.int k n).cells? =some [.int k n]:=rfl
theorem Uw(s:List UInt8):(AV.str s).cells? =some [.str s]:=rfl
theorem OT:AV.nw.cells? =some [.nw]:=rfl
theorem Vt(i o:Nat):(AV.ptr i o).cells? =some [.ptr i o]:=rfl
theorem Xp(cs:List AV):(AV.ip cs).cells? =some [.ip cs]:=rfl
theorem OY:AV.aF.cells? =some [.aF]:=rfl
theorem Yx(xs:List AV):(AV.sl xs).cells? =some [.sl xs]:=rfl
theorem To(a b c d e:Nat):(AV.vec a b c d e).cells? =some [.vec a b c d e]:=rfl
theorem Pj:AV.kq.cells? =some [.kq]:=rfl
theorem Tq(i:Nat):(AV.map i).cells? =some [.map i]:=rfl
theorem LI:AV.ji.cells? =some [.ji]:=rfl
theorem ZD(f:Nat)(cs:List AV):(AV.fn f cs).cells? =some [.fn f cs]:=rfl
theorem Pg:AV.nu.cells? =some [.nu]:=rfl
theorem Lx(t:Nat)(v:AV):(AV.iface t v).cells? =some [.iface t v]:=rfl
section
variable (n0 d:Nat)
theorem Ui:jL h n0 (d+1) .undef=some (.undef,[]):=rfl
theorem XJ:jL h n0 (d+1) (.bool b)=some (.bool b,[]):=rfl
theorem abw(n:Int):jL h n0 (d+1) (.int k n)=some (.int k n,[]):=rfl
theorem aaJ(s:List UInt8):jL h n0 (d+1) (.str s)=some (.str s,[]):=rfl
theorem Xx:jL h n0 (d+1) .nw=some (.nw,[]):=rfl
theorem aa9(i o:Nat):jL h n0 (d+1) (.ptr i o)=some (.ptr i o,[]):=rfl
theorem af5(cs:List AV):jL h n0 (d+1) (.ip cs)=some (.ip cs,[]):=rfl
theorem XH:jL h n0 (d+1) .aF=some (.aF,[]):=rfl
theorem afa(xs:List AV):jL h n0 (d+1) (.sl xs)=some (.sl xs,[]):=rfl
theorem YC:jL h n0 (d+1) .kq=some (.kq,[]):=rfl
theorem ab4(i:Nat):jL h n0 (d+1) (.map i)=some (.map i,[]):=rfl
theorem TQ:jL h n0 (d+1) .ji=some (.ji,[]):=rfl
theorem aey(f:Nat)(cs:List AV):jL h n0 (d+1) (.fn f cs)=some (.fn f cs,[]):=rfl
theorem Wh:jL h n0 (d+1) .nu=some (.nu,[]):=rfl
theorem Uf(t:Nat)(v:AV):jL h n0 (d+1) (.iface t v)=some (.iface t v,[]):=rfl
theorem abi{id:Nat}(off len sz lb:Nat)(bX:id<n0):jL h n0 (d+1) (.vec id off len sz lb)=some (.vec id off len sz lb,[]):=by simp only[jL,bX,if_true]
theorem kh(id off len sz lb:Nat):jL h n0 (d+1) (.vec id off len sz lb)=if id<n0 then some (.vec id off len sz lb,[]) else
 match h.row id with
 |some cs=>if off+len*sz<=cs.length/\sz≠0 then
  (match lg (jL h n0 d) ((cs.drop off).take (len*sz)) with
  |some (iN,eG)=>if AV.ah iN=0/\(iN.all λc=>c.cells?.map List.length==some 1) then some (.sl (chunk sz len iN),id::eG) else none
  |none=>none) else none
 |none=>none:=rfl
theorem abE(cs:List AV):jL h n0 (d+1) (.agg cs)=match lg (jL h n0 d) cs with|some (iN,eG)=>some (.agg iN,eG)|none=>none:=by simp only[jL];cases lg (jL h n0 d) cs<;>rfl
theorem Tu(cs:List AV):jL h n0 (d+1) (.tuple cs)=match lg (jL h n0 d) cs with|some (iN,eG)=>some (.tuple iN,eG)|none=>none:=by simp only[jL];cases lg (jL h n0 d) cs<;>rfl
theorem YY(F:AV->Option (AV×List Nat)):lg F []=some ([],[]):=rfl
theorem UD(F:AV->Option (AV×List Nat))(v:AV)(r:List AV):lg F (v::r)=match F v with
 |some (v',i)=>(match lg F r with|some (r',j)=>some (v'::r',i++j)|none=>none)
 |none=>none:=by
 simp only[lg]
 cases F v with
 |none=>rfl
 |some p=>obtain⟨v',i⟩:=p;cases lg F r<;>rfl
end
theorem Mr(sz:Nat):aG h sz .aF=some (0,[]):=rfl
theorem Pd(sz id off len s lb:Nat):aG h sz (.vec id off len s lb)=match h.row id with
 |some cs=>if s=sz/\off+len*sz<=cs.length then some (len,(cs.drop off).take (len*sz)) else none
 |none=>none:=rfl
theorem PW(sz:Nat)(s:List UInt8):aG h sz (.str s)=if sz=1 then some (s.length,s.map λb=>.int .u8 b.toNat) else none:=rfl
theorem Yq:kill h []=h:=rfl
theorem Tj(id:Nat)(r:List Nat):kill h (id::r)=kill (h.set id .dead) r:=rfl
theorem Ow(sz:Nat)(cs:List AV):chunk sz 0 cs=[]:=rfl
theorem Qk(sz n:Nat)(cs:List AV):chunk sz (n+1) cs=(if sz=1 then (cs.headD .undef) else .agg (cs.take sz))::chunk sz n (cs.drop sz):=rfl
theorem Tv:sc (.bool b)=true:=rfl
theorem YW(n:Int):sc (.int k n)=true:=rfl
theorem WL(s:List UInt8):sc (.str s)=true:=rfl
theorem Uy:sc .aF=true:=rfl
theorem abX(xs:List AV):sc (.sl xs)=false:=rfl
theorem Qe(vs:List AV):sc (.tuple vs)=vs.all uL:=rfl
theorem Y4(vs:List AV):sc (.agg vs)=vs.all uL:=rfl
theorem ON:uL (.bool b)=true:=rfl
theorem U7(n:Int):uL (.int k n)=true:=rfl
theorem Vu(s:List UInt8):uL (.str s)=true:=rfl
theorem PC:uL .aF=true:=rfl
theorem YQ(xs:List AV):uL (.sl xs)=false:=rfl
theorem Tl(vs:List AV):uL (.agg vs)=false:=rfl
theorem XK:bG fr h .die=none:=rfl
theorem UO(cs:List AV)(k:Nat):putAt cs k []=cs:=rfl
theorem eH(x:AV)(cs:List AV)(k:Nat)(v:AV)(vs:List AV):putAt (x::cs) k (v::vs)=putAt ((x::cs).set k v) (k+1) vs:=rfl
end
end
section
theorem wrap_i64{n:Int}(h1:-9223372036854775808<=n)(h2:n<9223372036854775808):IntKind.i64.wrap n=n:=by rw[IntKind.wrap_i64];omega
variable {k:Nat}
theorem w7(h:k<4611686018427387904):IntKind.i64.wrap ((k:Int)+1)=((k+1:Nat):Int):=by rw[wrap_i64 (by omega) (by omega)];rfl
def mw{α:Type}(p:α->Bool):List α->Option Nat
 |[]=>none
 |x::r=>if p x then some 0 else (mw p r).map (·+1)
def basic:AV->Bool
 |.bool _|.int .. |.str _|.nw|.aF|.sl _|.ip _|.kq|.ji|.nu=>true
 |_=>false
variable {h:af}{v:AV}
theorem A5{n0 d:Nat}(hv:basic v=true):jL h n0 (d+1) v=some (v,[]):=by cases v<;>first|rfl|cases hv
theorem OJ(hv:basic v=true):v.aJ=0:=by cases v<;>first|rfl|cases hv
theorem qz(hv:basic v=true):v.cells? =some [v]:=by cases v<;>first|rfl|cases hv
theorem Er{h:af}{n0 d:Nat}:∀{cs:List AV},cs.all basic=true->lg (jL h n0 (d+1)) cs=some (cs,[])
 |[],_=>rfl
 |v::r,hb=>by simp only[List.all_cons,Bool.and_eq_true] at hb;simp only[lg,A5 hb.1,Er hb.2,List.append_nil]
theorem qM:∀{cs:List AV},cs.all basic=true->AV.ah cs=0
 |[],_=>rfl
 |v::r,hb=>by simp only[List.all_cons,Bool.and_eq_true] at hb;simp only[AV.ah,OJ hb.1,qM hb.2];rfl
theorem FG:∀{cs:List AV},cs.all basic=true->(cs.all λc=>c.cells?.map List.length==some 1)=true
 |[],_=>rfl
 |v::r,hb=>by simp only[List.all_cons,Bool.and_eq_true] at hb|-;exact⟨by rw[qz hb.1];rfl,FG hb.2⟩
def C6(sz:Nat)(v:AV):Prop:=v.cells.length=sz/\v.cells.all basic=true/\(sz=1->v.cells=[v])/\(sz≠1->v=.agg v.cells)/\v.cells? =some v.cells
variable {sz:Nat}{xs:List AV}
theorem Em(h:∀x∈xs,C6 sz x):(xs.flatMap AV.cells).all basic=true:=by rw[List.all_eq_true];intro v hv;obtain⟨x,hx,hv⟩:=List.mem_flatMap.1 hv;exact List.all_eq_true.1 (h x hx).2.1 v hv
theorem Ej{sz:Nat}:∀{xs:List AV},(∀x∈xs,C6 sz x)->(xs.flatMap AV.cells).length=xs.length*sz
 |[],_=>by simp
 |x::r,h=>by
   have:=Ej (xs:=r) λy hy=>h y (by simp[hy])
   simp only[List.flatMap_cons,List.length_append,List.length_cons,this,(h x (by simp)).1,Nat.add_mul];omega
theorem ED{sz:Nat}:∀{xs:List AV},(∀x∈xs,C6 sz x)->chunk sz xs.length (xs.flatMap AV.cells)=xs
 |[],_=>rfl
 |x::r,h=>by
   have hx:=h x (by simp);have ih:=ED (xs:=r) λy hy=>h y (by simp[hy])
   simp only[List.length_cons,List.flatMap_cons,chunk];have hd:(x.cells++r.flatMap AV.cells).drop sz=r.flatMap AV.cells:=by rw[<-hx.1];simp
   rw[hd,ih];congr 1;split
   .rename_i h1;rw[hx.2.2.1 h1];rfl
   .rename_i h1;have ht:(x.cells++r.flatMap AV.cells).take sz=x.cells:=by rw[<-hx.1];simp
    rw[ht];exact (hx.2.2.2.1 h1).symm
theorem Md(h:∀x∈xs,C6 sz x):(xs.all λx=>(x.cells?.map List.length)==some sz)=true:=by rw[List.all_eq_true];intro x hx;have:=h x hx;rw[this.2.2.2.2];simp[this.1]
variable (vs:List AV)
theorem mT:∀(cs:List AV) (k:Nat),k+vs.length<=cs.length->putAt cs k vs=cs.take k++vs++cs.drop (k+vs.length):=by
 induction vs with
 |nil=>intro cs k _;simp[putAt]
 |cons v r ih=>
   intro cs k h;simp only[List.length_cons] at h;rw[putAt,ih _ _ (by simp;omega)];have hk:k<cs.length:=by omega
   have e1:(cs.set k v).take (k+1)=cs.take k++[v]:=by rw[List.take_set,List.take_succ_eq_append_getElem hk,List.set_append_right _ _ (by simp;omega)];simp[Nat.min_eq_left (Nat.le_of_lt hk)]
   have e2:(cs.set k v).drop (k+1+r.length)=cs.drop (k+(r.length+1)):=by rw[List.drop_set_of_lt (by omega)];congr 1;omega
   rw[e1,e2];simp
variable {cs:List AV}
theorem wR{n0 d id len lb:Nat}(bX:n0<=id)(hg:h.get id=some (.row cs))(iE:sz≠0)(hx:∀x∈xs,C6 sz x)(hl:xs.length=len)(hle:len*sz<=cs.length)(hc:cs.take (len*sz)=xs.flatMap AV.cells):
 jL h n0 (d+2) (.vec id 0 len sz lb)=some (.sl xs,[id]):=by
 subst hl;have hb:=Em hx
 have e:jL h n0 (d+2) (.vec id 0 xs.length sz lb)=if id<n0 then some (.vec id 0 xs.length sz lb,[]) else match h.row id with
  |some cs=>if 0+xs.length*sz<=cs.length/\sz≠0 then
   (match lg (jL h n0 (d+1)) ((cs.drop 0).take (xs.length*sz)) with
   |some (iN,eG)=>if AV.ah iN=0/\(iN.all λc=>c.cells?.map List.length==some 1) then some (.sl (chunk sz xs.length iN),id::eG) else none
   |none=>none) else none
  |none=>none:=rfl
 rw[e,if_neg (by omega),Wq,hg];dsimp only;rw[if_pos ⟨by omega,iE⟩,List.drop_zero,hc,Er hb];dsimp only;rw[if_pos ⟨qM hb,FG hb⟩,ED hx]
theorem kL(h:k+vs.length<=cs.length):(putAt cs k vs).take (k+vs.length)=cs.take k++vs:=by rw[mT vs cs k h];exact List.take_left' (by simp;omega)
theorem TM(n:Nat):(n+1<=n)=False:=eq_false (by omega)
end
section
def lk:List (Nat×AV)->Nat->AV
 |[],_=>.undef
 |(k,v)::m,t=>if k=t then v else lk m t
def FM(n:Nat)(m:List (Nat×AV)):List AV:=(List.range n).map (lk m)
def mk(n:Nat)(ks:List Nat):List Bool:=(List.range n).map λt=>ks.contains t
def pick(m:List (Nat×AV)):List Nat->List (Nat×AV)
 |[]=>[]
 |k::ks=>(k,lk m k)::pick m ks
def zw:Nat->List AV->List (Nat×AV)
 |_,[]=>[]
 |k,a::r=>(k,a)::zw (k+1) r
def xz(n:Nat):Nat->List (Nat×AV)->Bool
 |_,[]=>true
 |lo,(k,_)::r=>decide (lo<=k)&&decide (k<n)&&xz n (k+1) r
def zk:List (Nat×AV)->List AV
 |[]=>[]
 |(_,v)::r=>v::zk r
def F3(n0:Nat)(ks:List Nat):List (Nat×AV)->List (Nat×AV)
 |[]=>[]
 |(k,v)::r=>(k,dm n0 ks v)::F3 n0 ks r
theorem ae8(t:Nat)(v:AV)(m:List (Nat×AV)):lk ((t,v)::m) t=v:=if_pos rfl
variable {t:Nat}(n0 nx:Nat)(os:List aT)(wl:Nat)(m:List (Nat×AV))(fr:List AV)(v:AV)(md:Nat)(hp:af)
theorem abr{k:Nat}(m:List (Nat×AV))(h:(k==t)=false):lk ((k,v)::m) t=lk m t:=if_neg (by simpa using h)
theorem afH(t:Nat):lk [] t=.undef:=rfl
theorem nN(n:Nat)(m:List (Nat×AV)):(FM n m).length=n:=by simp[FM]
variable {n:Nat}
theorem x6(h:t<n):(FM n m)[t]? =some (lk m t):=by simp[FM,h]
theorem Dm(h:t<n):(FM n m).getD t .undef=lk m t:=by rw[List.getD_eq_getElem?_getD,x6 m h];rfl
theorem Yp(n:Nat)(m:List (Nat×AV))(t:Nat)(v:AV):(FM n m).set t v=FM n ((t,v)::m):=by
 apply List.ext_getElem?;intro i;rw[List.getElem?_set,nN];by_cases hi:i<n
 .rw[x6 _ hi,x6 _ hi];by_cases e:t=i
  .subst e;simp[hi,lk]
  .simp[e,lk]
 .have h1:(FM n m)[i]? =none:=List.getElem?_eq_none (by rw[nN];omega);have h2:(FM n ((t,v)::m))[i]? =none:=List.getElem?_eq_none (by rw[nN];omega);rw[h1,h2];split
  .split
   .omega
   .rfl
  .rfl
theorem ajs(h:t<n):dY.ev (FM n m) (.tmp t)=lk m t:=Dm m h
theorem XG:dY.ev fr (.const v)=v:=rfl
theorem agd(n:Nat)(m:List (Nat×AV))(d:Nat)(v:AV):gw (FM n m) (some d) v=FM n ((d,v)::m):=Yp n m d v
theorem XI:gw fr none v=fr:=rfl
theorem K5(want:Bool)(h:t<n):cW (FM n m) (some (t,want))=match lk m t with
 |.bool b=>some (b !=want)
 |.tuple []=>some true
 |_=>none:=by
 simp only[cW,x6 m h]
 cases lk m t with
 |tuple vs=>cases vs<;>rfl
 |_=>rfl
theorem abc(h:t<n):xy (FM n m) hp (.tmp t)=some (lk m t):=by simp only[xy,Dm m h]
theorem aaQ(k:Option Nat)(h:t<n):xy (FM n m) hp (.cell t k)=Sv hp k (lk m t):=by simp only[xy,Dm m h]
theorem Ss(m:List (Nat×AV))(t:Nat):∀ks:List Nat,lk (pick m ks) t=if ks.contains t then lk m t else .undef
 |[]=>by simp[pick,lk]
 |k::ks=>by
   simp only[pick,lk,Ss m t ks,List.contains_cons];by_cases e:k=t
   .subst e;simp
   .have e':¬t=k:=λh=>e h.symm
    simp[e,e']
theorem HF:∀(bs:List Bool) (fr:List AV) (t:Nat),bs.length=fr.length->(clear bs fr)[t]? =(fr[t]?).map λv=>if bs.getD t false then v else .undef
 |[],[],t,_=>by simp[clear]
 |b::bs,v::fr,0,_=>by simp[clear]
 |b::bs,v::fr,t+1,h=>by simp only[clear,List.getElem?_cons_succ,List.getD_cons_succ];exact HF bs fr t (by simpa using h)
theorem ND(n:Nat)(m:List (Nat×AV))(ks:List Nat):clear (mk n ks) (FM n m)=FM n (pick m ks):=by
 apply List.ext_getElem?;intro t;rw[HF _ _ _ (by simp[mk,FM])];by_cases ht:t<n
 .rw[x6 _ ht,x6 _ ht,Ss]
  have:(mk n ks).getD t false=ks.contains t:=by rw[List.getD_eq_getElem?_getD];simp[mk,ht]
  simp only[this,Option.map_some]
 .have h1:(FM n m)[t]? =none:=List.getElem?_eq_none (by rw[nN];omega);have h2:(FM n (pick m ks))[t]? =none:=List.getElem?_eq_none (by rw[nN];omega);rw[h1,h2];rfl
def Ct:Nat->List Bool->List Nat
 |_,[]=>[]
 |k,true::r=>k::Ct (k+1) r
 |k,false::r=>Ct (k+1) r
theorem BD:∀(bs:List Bool) (k t:Nat),(Ct k bs).contains t=(decide (k<=t)&&bs.getD (t-k) false)
 |[],k,t=>by simp[Ct]
 |true::r,k,t=>by
   rw[Ct,List.contains_cons,BD r (k+1) t];by_cases e:t=k
   .subst e;simp
   .by_cases hl:k<=t
    .have:t-k=(t-(k+1))+1:=by omega
     have h2:k+1<=t:=by omega
     simp[e,hl,this,h2]
    .have h2:¬k+1<=t:=by omega
     simp[e,hl,h2]
 |false::r,k,t=>by
   rw[Ct,BD r (k+1) t];by_cases e:t=k
   .subst e;have h2:¬t+1<=t:=by omega
    simp only[h2,decide_false,Bool.false_and,Nat.sub_self,List.getD_cons_zero,Bool.and_false]
   .by_cases hl:k<=t
    .have:t-k=(t-(k+1))+1:=by omega
     have h2:k+1<=t:=by omega
     simp[hl,this,h2]
    .have h2:¬k+1<=t:=by omega
     simp[hl,h2]
theorem S9(bs:List Bool)(h:bs.length=n):clear bs (FM n m)=FM n (pick m (Ct 0 bs)):=by
 rw[<-ND];congr 1;apply List.ext_getElem?;intro t;by_cases ht:t<n
 .have:t<bs.length:=by omega
  simp only[mk,List.getElem?_map,List.getElem?_range ht,Option.map_some,BD];simp[List.getD_eq_getElem?_getD,this]
 .rw[List.getElem?_eq_none (by omega),List.getElem?_eq_none (by simp[mk];omega)]
theorem NA:∀(as:List AV) (k t:Nat),lk (zw k as) t=if k<=t then as.getD (t-k) .undef else .undef
 |[],k,t=>by simp[zw,lk]
 |a::r,k,t=>by
   simp only[zw,lk,NA r (k+1) t];by_cases e:k=t
   .subst e;simp
   .by_cases hl:k<=t
    .have:t-k=(t-(k+1))+1:=by omega
     have h2:k+1<=t:=by omega
     simp[e,hl,this,h2]
    .have h2:¬k+1<=t:=by omega
     simp[e,hl,h2]
theorem Kb(as:List AV)(h:as.length<=n):as++List.replicate (n-as.length) .undef=FM n (zw 0 as):=by
 apply List.ext_getElem?;intro t;by_cases ht:t<n
 .rw[x6 _ ht,NA];simp only[Nat.zero_le,if_true,Nat.sub_zero];by_cases h2:t<as.length
  .rw[List.getElem?_append_left h2,List.getD_eq_getElem?_getD,List.getElem?_eq_getElem h2];rfl
  .rw[List.getElem?_append_right (by omega),List.getElem?_replicate,if_pos (by omega),List.getD_eq_getElem?_getD,List.getElem?_eq_none (by omega)];rfl
 .rw[List.getElem?_eq_none (by simp;omega),List.getElem?_eq_none (by rw[nN];omega)]
theorem zy(n0:Nat):∀(len lo:Nat) (m:List (Nat×AV)) (aM:List Nat),xz (lo+len) lo m=true->aE n0 ((List.range' lo len).map (lk m)) aM=aE n0 (zk m) aM
 |0,lo,[],aM,_=>rfl
 |0,lo,(k,v)::m,aM,h=>by simp only[xz,Bool.and_eq_true,decide_eq_true_eq] at h;omega
 |len+1,lo,m,aM,h=>by
   rw[List.range'_succ,List.map_cons]
   cases m with
   |nil=>have:=zy n0 len (lo+1) [] aM rfl;simp only[lk,aE,AV.top];exact this
   |cons p r=>
     obtain⟨k,v⟩:=p;simp only[xz,Bool.and_eq_true,decide_eq_true_eq] at h;obtain⟨⟨h1,h2⟩,h3⟩:=h;by_cases e:k=lo
     .subst e
      have tl:(List.range' (k+1) len).map (lk ((k,v)::r))=(List.range' (k+1) len).map (lk r):=by apply List.map_congr_left;intro t ht;have:=List.mem_range'_1.1 ht;simp only[lk];rw[if_neg (by omega)]
      have ih:=λaM=>zy n0 len (k+1) r aM (by rw[show k+1+len=k+(len+1) by omega];exact h3)
      rw[tl];have e0:lk ((k,v)::r) k=v:=if_pos rfl;rw[e0];simp only[zk];unfold aE
      cases v.top with
      |none=>dsimp only;exact ih aM
      |some id=>dsimp only;split<;>exact ih _
     .have ih:=zy n0 len (lo+1) ((k,v)::r) aM (by
       simp only[xz,Bool.and_eq_true,decide_eq_true_eq];rw[show lo+1+len=lo+(len+1) by omega];exact⟨⟨by omega,h2⟩,h3⟩)
      have hz:lk ((k,v)::r) lo=.undef:=by
       have:∀(m:List (Nat×AV)) (a t:Nat),xz (lo+(len+1)) a m=true->t<a->lk m t=.undef:=by
        intro m
        induction m with
        |nil=>intro a t _ _;rfl
        |cons p r ih=>obtain⟨k,v⟩:=p;intro a t h ht;simp only[xz,Bool.and_eq_true,decide_eq_true_eq] at h;simp only[lk];rw[if_neg (by omega)];exact ih (k+1) t h.2 (by omega)
       simp only[lk];rw[if_neg e];exact this r (k+1) lo h3 (by omega)
      rw[hz];simp only[aE,AV.top];exact ih
theorem R0(n0:Nat)(ks:List Nat)(t:Nat):∀m:List (Nat×AV),lk (F3 n0 ks m) t=dm n0 ks (lk m t)
 |[]=>rfl
 |(k,v)::m=>by
   simp only[F3,lk];split
   .rfl
   .exact R0 n0 ks t m
theorem Zc(n n0:Nat)(ks:List Nat)(m:List (Nat×AV)):(FM n m).map (dm n0 ks)=FM n (F3 n0 ks m):=by unfold FM;rw[List.map_map];apply List.map_congr_left;intro t _;exact (R0 n0 ks t m).symm
def allM(n0:Nat):List (Nat×AV)->Bool
 |[]=>true
 |(_,v)::r=>(v.top.isSome||decide (v.aJ<=n0))&&allM n0 r
theorem aeu{m:List (Nat×AV)}{lo:Nat}:xz n lo m=true->lk m t=.undef\/∃p∈m,p.2=lk m t:=by
 induction m generalizing lo with
 |nil=>exact λ_=>.inl rfl
 |cons p r ih=>
   obtain⟨k,v⟩:=p;intro h;simp only[xz,Bool.and_eq_true,decide_eq_true_eq] at h;simp only[lk];split
   .exact .inr ⟨_,List.mem_cons_self,rfl⟩
   .rcases ih h.2 with h|⟨p,hp,e⟩
    .exact .inl h
    .exact .inr ⟨p,List.mem_cons_of_mem _ hp,e⟩
theorem UR{m:List (Nat×AV)}{lo:Nat}:xz n lo m=true->∀p∈m,p.1<n/\lk m p.1=p.2:=by
 induction m generalizing lo with
 |nil=>intro _ p hp;cases hp
 |cons q r ih=>
   obtain⟨k,v⟩:=q;intro h p hp;simp only[xz,Bool.and_eq_true,decide_eq_true_eq] at h
   have low:∀(r:List (Nat×AV)) (a:Nat),xz n a r=true->∀p∈r,a<=p.1:=by
    intro r
    induction r with
    |nil=>intro a _ p hp;cases hp
    |cons q r ih=>
      obtain⟨k,v⟩:=q;intro a h p hp;simp only[xz,Bool.and_eq_true,decide_eq_true_eq] at h
      cases hp with
      |head=>exact h.1.1
      |tail _ hp=>have:=ih (k+1) h.2 p hp;omega
   cases hp with
   |head=>exact⟨h.1.2,if_pos rfl⟩
   |tail _ hp=>obtain⟨g1,g2⟩:=ih h.2 p hp;have:=low r (k+1) h.2 p hp;refine⟨g1,?_⟩;simp only[lk];rw[if_neg (by omega)];exact g2
theorem Wk{m:List (Nat×AV)}(h:xz n 0 m=true):((FM n m).all λv=>v.top.isSome||decide (v.aJ<=n0))=allM n0 m:=by
 have e:allM n0 m=m.all λp=>p.2.top.isSome||decide (p.2.aJ<=n0):=by
  clear h
  induction m with
  |nil=>rfl
  |cons p r ih=>obtain⟨k,v⟩:=p;simp[allM,ih]
 rw[e,Bool.eq_iff_iff,List.all_eq_true,List.all_eq_true];constructor
 .intro H p hp;obtain⟨h1,h2⟩:=UR h p hp;rw[<-h2];exact H _ (List.mem_map.2 ⟨p.1,by simpa using h1,rfl⟩)
 .intro H v hv;obtain⟨t,_,rfl⟩:=List.mem_map.1 hv;rcases aeu (t:=t) h with e|⟨p,hp,e⟩
  .rw[e];simp[AV.aJ]
  .rw[<-e];exact H p hp
def Mj(n0:Nat):List aT->List Nat->List Nat
 |[],aM=>aM
 |o::r,aM=>if dB n0 o=true then Mj n0 r aM else Mj n0 r (aE n0 (jw o) aM)
def Ep(n0:Nat):List aT->Bool
 |[]=>true
 |o::r=>(dB n0 o||(jw o).all (ug n0))&&Ep n0 r
def FV(n0:Nat):List aT->Bool
 |[]=>true
 |o::r=>dB n0 o&&FV n0 r
def Eo(n0:Nat)(ks:List Nat):List aT->List aT
 |[]=>[]
 |o::r=>(if dB n0 o=true then o else rh n0 ks o)::Eo n0 ks r
theorem Bv{n0:Nat}:∀{l:List AV} {aM:List Nat},(l.all λv=>decide (v.aJ<=n0))=true->aE n0 l aM=aM
 |[],aM,_=>rfl
 |v::r,aM,h=>by
   rw[List.all_cons,Bool.and_eq_true] at h;simp only[aE];split
   .rename_i id ht
    have cY:id+1<=n0:=by have:=of_decide_eq_true h.1;cases v<;>simp only[AV.top,Option.some.injEq,reduceCtorEq] at ht<;>subst ht<;>exact this
    rw[if_neg (by omega)];exact Bv h.2
   .exact Bv h.2
theorem Bn(n0:Nat):∀(os:List aT) (aM:List Nat),aE n0 (jB os) aM=Mj n0 os aM
 |[],aM=>rfl
 |o::r,aM=>by
   rw[jB,mV,Mj];split
   .rename_i h;rw[Bv h];exact Bn n0 r aM
   .exact Bn n0 r _
theorem RT(n0:Nat):∀os:List aT,(jB os).all (ug n0)=Ep n0 os
 |[]=>rfl
 |o::r=>by
   rw[jB,List.all_append,RT n0 r,Ep];congr 1;by_cases h:dB n0 o=true
   .rw[h,Bool.true_or,List.all_eq_true];intro v hv;unfold dB at h;have:=List.all_eq_true.1 h v hv;unfold ug;rw[this,Bool.or_true]
   .rw[Bool.not_eq_true] at h;rw[h,Bool.false_or]
theorem R8(n0:Nat):∀os:List aT,os.all (dB n0)=FV n0 os
 |[]=>rfl
 |o::r=>by rw[List.all_cons,R8 n0 r,FV]
theorem RH(n0:Nat)(ks:List Nat):∀os:List aT,os.map (rh n0 ks)=Eo n0 ks os
 |[]=>rfl
 |o::r=>by
   rw[List.map_cons,RH n0 ks r,Eo];congr 1;split
   .rename_i h;exact F0 h
   .rfl
theorem zI(cs:List AV):dB n0 (.row cs)=decide (AV.ah cs<=n0):=by
 show (cs.all λv=>decide (v.aJ<=n0))=_;rw[Bool.eq_iff_iff,List.all_eq_true,decide_eq_true_eq];constructor
 .intro h;exact AV.kB λv hv=>by simpa using h v hv
 .intro h v hv;have:=AV.cR hv;simp only[decide_eq_true_eq];omega
theorem dz(es:List (AV×AV)):dB n0 (.map es)=es.all λe=>decide (e.1.aJ<=n0)&&decide (e.2.aJ<=n0):=by
 show ((es.flatMap λe=>[e.1,e.2]).all λv=>decide (v.aJ<=n0))=_
 induction es with
 |nil=>rfl
 |cons e r ih=>rw[List.flatMap_cons,List.all_append,ih];simp
theorem GR:dB n0 .dead=true:=rfl
theorem Nv{m:List (Nat×AV)}(hs:xz n 0 m=true):gc n0 (FM n m) ⟨nx,os,wl,md⟩=
 if n0<=wl then
  match lT ⟨nx,os,wl,md⟩ n0 (aE n0 (zk m) []) with
  |some ks=>if n0<=wl/\n0<=nx/\allM n0 m=true then
   (FM n (F3 n0 (aE n0 (zk m) []) m),⟨n0+ks.length,ks.reverse++os.drop (nx-n0),wl,md⟩) else (FM n m,⟨nx,os,wl,md⟩)
  |none=>(FM n m,⟨nx,os,wl,md⟩)
 else
  match lT ⟨nx,os,wl,md⟩ n0 (Mj n0 (os.drop (nx-n0)) (aE n0 (zk m) [])) with
  |some ks=>if n0<=nx/\allM n0 m=true/\Ep n0 (os.drop (nx-n0))=true/\FV n0 ((os.drop (nx-n0)).drop (n0-wl))=true then
   (FM n (F3 n0 (Mj n0 (os.drop (nx-n0)) (aE n0 (zk m) [])) m),
    ⟨n0+ks.length,ks.reverse++Eo n0 (Mj n0 (os.drop (nx-n0)) (aE n0 (zk m) [])) (os.drop (nx-n0)),wl,min md wl⟩) else (FM n m,⟨nx,os,wl,md⟩)
  |none=>(FM n m,⟨nx,os,wl,md⟩):=by
 have hk:aE n0 (FM n m) []=aE n0 (zk m) []:=by have:=zy n0 n 0 m [] (by rw[Nat.zero_add];exact hs);rw[<-List.range_eq_range'] at this;exact this
 have ha:(FM n m).all (ug n0)=allM n0 m:=Wk n0 hs;unfold gc;split
 .unfold L3;rw[hk,Wk n0 hs,Zc];rfl
 .unfold KI;dsimp only;rw[hk,ha,Zc,RT,R8,RH,Bn];rfl
theorem afc(n nx:Nat)(os:List aT)(wl md:Nat)(hw:n0<=wl):gc n0 (FM n []) ⟨nx,os,wl,md⟩=if n0<=wl/\n0<=nx then (FM n [],⟨n0,os.drop (nx-n0),wl,md⟩) else (FM n [],⟨nx,os,wl,md⟩):=by rw[Nv (m:=[]) n0 nx os wl md rfl];simp[aE,zk,lT,allM,F3,hw]
end
end Sz
