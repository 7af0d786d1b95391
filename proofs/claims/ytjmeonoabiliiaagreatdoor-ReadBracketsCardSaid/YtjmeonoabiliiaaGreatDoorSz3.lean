import Derived.Test.YtjmeonoabiliiaaGreatDoorSz2
import Derived.Tactics
set_option linter.unusedVariables false
set_option linter.unusedSimpArgs false
set_option linter.unusedSectionVars false
set_option maxHeartbeats 16000000
set_option maxRecDepth 100000

/- The abstract run is sound: calls. No program is named here. -/
namespace Sz
open Go
theorem ru (sz:Nat):∀(n:Nat) (cs:List AV),(chunk sz n cs).length=n
 | 0,_=>rfl
 | n+1,cs=>by simp[chunk,ru sz n]
theorem ud {sz:Nat}:∀(n:Nat) (cs:List AV) (i:Nat) (hi:i < (chunk sz n cs).length),(chunk sz n cs)[i]=if sz=1 then (cs.drop (i*sz)).headD .undef else .agg ((cs.drop (i*sz)).take sz)
 | 0,cs,i,hi=>by simp[chunk] at hi
 | n+1,cs,0,hi=>by simp[chunk]
 | n+1,cs,i+1,hi=>by
   simp only[chunk,List.getElem_cons_succ];rw[ud n (cs.drop sz) i (by simpa[chunk] using hi),List.drop_drop];rw[show sz+i*sz=(i+1)*sz by rw[Nat.add_mul];omega]
theorem uv (sz:Nat):∀(n:Nat) (cs:List AV),AV.ai (chunk sz n cs)≤AV.ai cs
 | 0,_=>by simp[chunk,AV.ai]
 | n+1,cs=>by
   have h1:=uv sz n (cs.drop sz);have h2:AV.ai (cs.drop sz)≤AV.ai cs:=AV.gE fun v hv=>AV.cA (List.mem_of_mem_drop hv)
   simp only[chunk,AV.ai]
   have h3:(if sz=1 then cs.headD .undef else AV.agg (cs.take sz)).refs≤AV.ai cs:=by
    split
    ·cases cs with
     | nil=>simp[AV.refs]
     | cons x r=>simp only[List.headD_cons,AV.ai];omega
    ·simp only[AV.refs];exact AV.gE fun v hv=>AV.cA (List.mem_of_mem_take hv)
   omega
section
variable {φ:dp} {h:aa} {w:World}
theorem sD {F:AV→Option (AV×List Nat)} {nx:Nat} {pr pr':Nat→Prop} (hF:∀v cv v' ids,F v=some (v',ids)→RV φ nx pr w v cv→(∀id ∈ ids,pr' (φ id).eM)→RV φ nx pr' w v' cv):
 ∀(cs:List AV) (cs':List AV) (ids:List Nat) (f:Nat→Value),ik F cs=some (cs',ids)→(∀j (hj:j < cs.length),RV φ nx pr w cs[j] (f j))→(∀id ∈ ids,pr' (φ id).eM)→
   cs'.length=cs.length∧∀j (hj:j < cs'.length),RV φ nx pr' w cs'[j] (f j)
 | [],cs',ids,f,he,_,_=>by
   simp only[ik,Option.some.injEq,Prod.mk.injEq] at he;obtain⟨rfl,rfl⟩:=he;exact⟨rfl,fun j hj=>by simp at hj⟩
 | v::r,cs',ids,f,he,hv,hids=>by
   simp only[ik] at he;split at he
   ·rename_i v' i r' j h1 h2;cases he;obtain⟨g1,g2⟩:=sD hF r r' j (fun k=>f (k+1)) h2 (fun k hk=>hv (k+1) (Nat.succ_lt_succ hk)) (fun id hid=>hids id (by simp[hid]));refine⟨by simp[g1],fun k hk=>?_⟩
    cases k with
    | zero=>exact hF _ _ _ _ h1 (hv 0 (by simp)) (fun id hid=>hids id (by simp[hid]))
    | succ k=>exact g2 k (by simpa using hk)
   ·cases he
theorem oi {F:AV→Option (AV×List Nat)} {p:Nat→Prop} (hF:∀v v' ids,F v=some (v',ids)→∀id ∈ ids,p id):∀(cs cs':List AV) (ids:List Nat),ik F cs=some (cs',ids)→∀id ∈ ids,p id
 | [],cs',ids,he=>by
   simp only[ik,Option.some.injEq,Prod.mk.injEq] at he;obtain⟨rfl,rfl⟩:=he;intro id hid;cases hid
 | v::r,cs',ids,he=>by
   simp only[ik] at he;split at he
   ·rename_i v' i r' j h1 h2;cases he;intro id hid;rcases List.mem_append.1 hid with hid | hid
    ·exact hF _ _ _ h1 id hid
    ·exact oi hF r r' j h2 id hid
   ·cases he
theorem oS {n0:Nat}:∀(d:Nat) (v v':AV) (ids:List Nat),hO h n0 d v=some (v',ids)→∀id ∈ ids,n0≤id∧live h id
 | 0,v,v',ids,he=>by simp[hO] at he
 | d+1,v,v',ids,he=>by
   unfold hO at he;split at he
   ·split at he
    ·cases he;intro id hid;cases hid
    ·rename_i hlt;split at he
     ·rename_i cs hrow;split at he
      ·split at he
       ·rename_i cs' ids' h1;split at he
        ·cases he;intro id hid
         cases hid with
         | head=>exact⟨by omega,_,qS hrow,fun e=>by cases e⟩
         | tail _ hid=>exact oi (fun v v' ids he=>oS d v v' ids he) _ _ _ h1 id hid
        ·cases he
       ·cases he
      ·cases he
     ·cases he
   ·obtain⟨⟨cs',ids'⟩,h1,e⟩:=Option.map_eq_some_iff.1 he;cases e;exact oi (fun v v' ids he=>oS d v v' ids he) _ _ _ h1
   ·obtain⟨⟨cs',ids'⟩,h1,e⟩:=Option.map_eq_some_iff.1 he;cases e;exact oi (fun v v' ids he=>oS d v v' ids he) _ _ _ h1
   ·cases he;intro id hid;cases hid
theorem zN (hr:HR φ h w) {n0:Nat} {pr':Nat→Prop} (hpr:∀b,Pr φ h w b→pr' b):∀(d:Nat) (v:AV) (cv:Value) (v':AV) (ids:List Nat),hO h n0 d v=some (v',ids)→dK φ h w v cv→(∀id ∈ ids,pr' (φ id).eM)→RV φ h.next pr' w v' cv
 | 0,v,cv,v',ids,he,_,_=>by simp[hO] at he
 | d+1,v,cv,v',ids,he,hv,hids=>by
   have eI:RV φ h.next pr' w v cv:=hv.mono (fun _ _ hid=>⟨rfl,hid⟩) fun b hb=>⟨hpr b hb,rfl⟩
   have ih:=fun v cv v' ids=>zN hr (n0:=n0) hpr d v cv v' ids
   unfold hO at he;split at he
   ·rename_i id off len sz lb;split at he
    ·cases he;exact eI
    ·split at he
     ·rename_i cs hrow;have hg:=qS hrow;split at he
      ·rename_i hc;split at he
       ·rename_i cs' ids' h1;split at he
        ·rename_i hc2;cases he;obtain⟨c,el,fz,k1,k2,k3,k4,k5,k6⟩:=hr.rows id cs hg;obtain⟨cap,ad,rfl,hid,hl,hlb,hroom,ha⟩:=hv.gW;have hlen:((cs.drop off).take (len*sz)).length=len*sz:=by simp;omega
         obtain⟨g1,g2⟩:=sD ih _ _ _ (fun j=>c.getD ((φ id).base+off+j) default) h1 (fun j hj=>by
          have hj':off+j < cs.length:=by omega
          have:=k6 (off+j) hj';rw[Nat.add_assoc];simpa using this) (fun i hi=>hids i (by simp[hi]))
         rw[hlen] at g1;rcases Nat.eq_zero_or_pos len with h0 | h0
         ·subst h0;exact .slnil _ _
         ·rw[ha (by omega)];have hcl:=ru sz len cs'
          have one:∀j (hj:j < cs'.length),cs'[j].cells=[cs'[j]]:=fun j hj=>by
           have q1:=g2 j hj;have q2:=k5 (off+j) (by omega);rw[←Nat.add_assoc] at q2;generalize cs'[j]=y at q1 ⊢;cases y<;>try rfl
           obtain⟨cvs,q3,_⟩:=q1.lO;rw[q3] at q2;cases q2
          have hcell:∀i j (hi:i < (chunk sz len cs').length) (hj:j < sz),∃hk:i*sz+j < cs'.length,((chunk sz len cs')[i]).cells[j]? =some cs'[i*sz+j]:=fun i j hi hj=>by
           rw[hcl] at hi;have h2:(i+1)*sz≤len*sz:=Nat.mul_le_mul_right _ hi;rw[Nat.add_mul] at h2;refine⟨by omega,?_⟩;rw[ud];split
           ·rename_i h1;subst h1;obtain rfl:j=0:=by omega
            have hk:i*1 < cs'.length:=by omega
            have e:(cs'.drop (i*1)).headD .undef=cs'[i*1]:=by rw[List.drop_eq_getElem_cons hk];rfl
            rw[e,one];simp
           ·simp only[AV.cells];rw[List.getElem?_take,if_pos hj,List.getElem?_drop,List.getElem?_eq_getElem]
          have hszs:∀i (hi:i < (chunk sz len cs').length),((chunk sz len cs')[i]).cells?.map List.length=some sz:=fun i hi=>by
           have hi':i < len:=by omega
           have h2:(i+1)*sz≤len*sz:=Nat.mul_le_mul_right _ hi';rw[Nat.add_mul] at h2;rw[ud];split
           ·rename_i h1;subst h1;have hk:i*1 < cs'.length:=by omega
            have e:(cs'.drop (i*1)).headD .undef=cs'[i*1]:=by rw[List.drop_eq_getElem_cons hk];rfl
            rw[e];have:=List.all_eq_true.1 hc2.2 _ (List.getElem_mem hk);simpa using this
           ·simp only[AV.cells?,Option.map_some,Option.some.injEq];simp;omega
          have key:=RV.sl (φ:=φ) (nx:=h.next) (pr:=pr') (w:=w) (chunk sz len cs') (φ id).eM ((φ id).base+off) cap sz (fun i j=>if i*sz+j < len*sz then c.getD ((φ id).base+off+(i*sz+j)) default else default) (hids id (by simp)) (by omega)
           (by have:=uv sz len cs';omega) (fun i j=>?_) hszs (fun i j hi hj=>?_) fun i hi j hj=>?_
          ·rw[hcl] at key;exact key
          ·split
           ·have:=k5 (off+(i*sz+j)) (by omega);rw[←Nat.add_assoc] at this;exact this
           ·rfl
          ·obtain⟨hk,_⟩:=hcell i j hi hj;have hlt:(φ id).base+off+(i*sz+j) < c.size:=by omega
           have hin:i*sz+j < len*sz:=by omega
           rw[if_pos hin,Nat.add_assoc ((φ id).base+off)];unfold World.cell?;simp only[k1];simp[Array.getD,hlt]
          ·have hjs:j < sz:=by
            have q:=hszs i hi
            have:(chunk sz len cs')[i].cells.length=sz:=by
             generalize (chunk sz len cs')[i]=y at q ⊢;cases y<;>simp[AV.cells?] at q<;>simp[AV.cells,q]
            omega
           obtain⟨hk,e⟩:=hcell i j hi hjs;rw[List.getElem?_eq_getElem hj] at e;have e:=Option.some.inj e;have hin:i*sz+j < len*sz:=by omega
           rw[e,if_pos hin];exact g2 _ hk
        ·cases he
       ·cases he
      ·cases he
     ·cases he
   ·rename_i cs;obtain⟨⟨cs',ids'⟩,h1,e⟩:=Option.map_eq_some_iff.1 he;cases e;obtain⟨cvs,rfl,g1,g2,g3⟩:=hv.lO;obtain⟨q1,q2⟩:=sD ih _ _ _ (fun j=>cvs.getD j default) h1 g3 hids;exact .agg _ _ (by dsimp only;omega) g2 q2
   ·rename_i cs;obtain⟨⟨cs',ids'⟩,h1,e⟩:=Option.map_eq_some_iff.1 he;cases e;obtain⟨cvs,rfl,g1,g2⟩:=hv.l8;obtain⟨q1,q2⟩:=sD ih _ _ _ (fun j=>cvs.getD j default) h1 g2 hids;exact .tuple _ _ (by dsimp only;omega) q2
   ·cases he;exact eI
theorem Pr.zn {ids:List Nat} {b:Nat} (hb:b < w.heap.size) (hno:∀id,live h id→(φ id).eM=b→id ∈ ids) (hgh:¬ φ.gh b):Pr φ (kill h ids) w b:=
 ⟨hb,fun i hi e=>by
  obtain⟨h1,h2⟩:=GD ids hi;exact h2 (hno i h1 e),hgh⟩
theorem Bv (hr:HR φ h w) {n:Nat} (hn:n≤h.next) (hle:∀id,id < n→kU h id n):
 HR φ (h.gM n) w∧(∀b,Pr φ h w b→Pr φ (h.gM n) w b)∧(∀id,n≤id→live h id→Pr φ (h.gM n) w (φ id).eM):=by
 have lv:∀i,live (h.gM n) i→i < n∧live h i:=fun i ⟨o,hg,ho⟩=>by
  have hlt:=aa.di hg;simp only[aa.qx] at hlt;have hi:i < n:=by omega
  rw[aa.mA hi] at hg;exact⟨hi,o,hg,ho⟩
 have pr:∀b,Pr φ h w b→Pr φ (h.gM n) w b:=fun b hb=>⟨hb.1,fun i hi=>hb.2.1 i (lv i hi).2,hb.2.2⟩
 have mv:∀v cv,v.refs≤n→dK φ h w v cv→dK φ (h.gM n) w v cv:=fun v cv hv hrv=>hrv.mono (fun id h1 h2=>⟨rfl,by simp only[aa.qx];omega⟩) fun b hb=>⟨pr b hb,rfl⟩
 refine⟨⟨aa.BX n hr.wf,fun i cs hg=>?_,fun i es hg=>?_,fun i j hi hj e=>hr.inj i j (lv i hi).2 (lv j hj).2 e,fun b hb=>⟨(hr.gh b hb).1,fun i hi=>(hr.gh b hb).2 i (lv i hi).2⟩⟩,pr,fun id hid hl=>⟨hr.dW hl,fun i hi e=>?_,fun hg=>(hr.gh _ hg).2 id hl rfl⟩⟩
 ·have hi:=(lv i ⟨_,hg,fun e=>by cases e⟩).1;rw[aa.mA hi] at hg;obtain⟨c,el,fz,k1,k2,k3,k4,k5,k6⟩:=hr.rows i cs hg;refine⟨c,el,fz,k1,k2,k3,k4,k5,fun j hj=>mv _ _ ?_ (k6 j hj)⟩;have h1:=(hle i hi).1 cs hg;have h2:=AV.cA (List.getElem_mem hj);omega
 ·have hi:=(lv i ⟨_,hg,fun e=>by cases e⟩).1;rw[aa.mA hi] at hg;obtain⟨ents,clk,k1,k2,k3⟩:=hr.maps i es hg;refine⟨ents,clk,k1,k2,fun j hj=>?_⟩;have h1:=(hle i hi).2 es hg es[j] (List.getElem_mem hj);exact⟨mv _ _ h1.1 (k3 j hj).1,mv _ _ h1.2 (k3 j hj).2⟩
 ·have hlt:=(lv i hi).1;have:=hr.inj i id (lv i hi).2 hl e;omega
theorem GC {φ0:dp} {h0:aa} {w0:World} (hr:HR φ h w) (hx:Ext φ0 h0 w0 φ h w) (hcl:CL {h0 with wl:=h0.next,md:=h0.next} h) (MD:HR φ0 h0 w0) {eI:Bool} {v:AV} {cv:Value} (hv:dK φ h w v cv):
 dK φ (finish eI h0 v h).2 w (finish eI h0 v h).1 cv∧HR φ (finish eI h0 v h).2 w∧Ext φ0 h0 w0 φ (finish eI h0 v h).2 w:=by
 have plain:dK φ {h with wl:=min h0.wl h.wl,md:=min h0.md h.md} w v cv∧HR φ {h with wl:=min h0.wl h.wl,md:=min h0.md h.md} w∧Ext φ0 h0 w0 φ {h with wl:=min h0.wl h.wl,md:=min h0.md h.md} w:=by
  obtain⟨a1,a2⟩:=hr.nD (min h0.wl h.wl) (min h0.md h.md);exact⟨hv.ext a2,a1,hx.trans a2⟩
 unfold finish
 cases eI with
 | true=>simpa using plain
 | false=>
   simp only[Bool.false_eq_true,if_false];split
   ·exact plain
   ·rename_i v' ids hfz;have hids:=oS 8 v v' ids hfz;split
    ·rename_i hc;obtain⟨t1,t2,t3⟩:=Bv hr hcl.next (hcl.le h0.next (Nat.le_refl _) hc.1 MD.EG)
     obtain⟨s1,s2⟩:=t1.nD h0.wl (if h.md < h0.next then min h0.md h.md else h0.md);have q:=zN hr (pr':=Pr φ (h.gM h0.next) w) t2 8 v cv v' ids hfz hv fun id hid=>t3 id (hids id hid).1 (hids id hid).2
     have hnx:min h.next h0.next=h0.next:=Nat.min_eq_right hcl.next
     have hext:Ext φ0 h0 w0 φ (h.gM h0.next) w:=by
      refine⟨hx.os,hx.tape,hx.output,hx.size,?_,hx.uJ,fun b hb=>⟨t2 b (hx.pr b hb).1,(hx.pr b hb).2⟩,hx.gh⟩;simp only[aa.qx];omega
     refine⟨?_,s1,hext.trans s2⟩;refine (q.mono (fun id h1 h2=>⟨rfl,?_⟩) fun b hb=>⟨hb,rfl⟩:dK φ {h.gM h0.next with wl:=h0.wl,md:=(if h.md < h0.next then min h0.md h.md else h0.md)} w v' cv);show id < min h.next h0.next
     omega
    ·obtain⟨k1,k2⟩:=EE ids hr;obtain⟨s1,s2⟩:=k1.nD (min h0.wl h.wl) (min h0.md h.md)
     have q:=zN hr (pr':=Pr φ (kill h ids) w) (fun b hb=>(k2.pr b hb).1) 8 v cv v' ids hfz hv fun id hid=>
      Pr.zn (hr.dW (hids id hid).2) (fun i hi e=>(by rw[hr.inj i id hi (hids id hid).2 e];exact hid)) fun hg=>(hr.gh _ hg).2 id (hids id hid).2 rfl
     have hnk:∀(ids:List Nat) (h:aa),(kill h ids).next=h.next:=by
      intro ids
      induction ids with
      | nil=>exact fun h=>rfl
      | cons i r ih=>intro h;simp only[kill];rw[ih];simp
     refine⟨?_,s1,hx.trans (k2.trans s2)⟩;have q2:dK φ (kill h ids) w v' cv:=q.mono (fun id _ h2=>⟨rfl,by rw[hnk];exact h2⟩) fun b hb=>⟨hb,rfl⟩
     exact q2.ext s2
end
end Sz

/- A call on a pointer: the objects behind it as a small heap of their own. No program is named here. -/
namespace Sz
open Go
def nk (n:Nat):AV→Bool
 | .ptr id _=>decide (id < n)
 | .vec id _ _ _ _=>decide (id < n)
 | .map id=>decide (id < n)
 | v=>v.refs==0
def xJ (n:Nat):bf→Bool
 | .row cs=>cs.all (nk n)
 | .map es=>es.all fun e=>nk n e.1&&nk n e.2
 | .dead=>true
def tI (os:List bf):aa:=⟨os.length,os.reverse,os.length,os.length⟩
theorem zx (os:List bf) (i:Nat):(tI os).get i=os[i]?:=by
 unfold aa.get tI;dsimp only;by_cases h:i < os.length
 ·rw[if_pos h,List.getElem?_reverse (by omega),show os.length - 1 - (os.length - 1 - i)=i by omega]
 ·rw[if_neg h,List.getElem?_eq_none (by omega)]
structure xx (h:aa) (g:Nat→Nat) (os:List bf):Prop where
 obj:∀i o,os[i]? =some o→(∀_:o=.dead,False)→h.get (g i)=some (eR g o)∧xJ os.length o=true
 inj:∀i j o o',os[i]? =some o→os[j]? =some o'→(∀_:o=.dead,False)→(∀_:o'=.dead,False)→g i=g j→i=j
theorem uk {g:Nat→Nat} {o:bf} (h:∀_:o=.dead,False):∀_:eR g o=.dead,False:=fun e=>by
 cases o with
 | dead=>exact h rfl
 | row cs=>cases e
 | map es=>cases e
theorem RV.swap {φ φ':dp} {nx nx' m:Nat} {pr pr':Nat→Prop} {w:World} {a b:Nat→Nat} (hφ:∀i,i < m→φ' (b i)=φ (a i)∧b i < nx') (hpr:∀x,pr x→pr' x) {v:AV} {cv:Value} (hl:nk m v=true)
 (h:RV φ nx pr w (sig a v) cv):RV φ' nx' pr' w (sig b v) cv:=by
 have plain:sig a v=v→sig b v=v→v.refs=0→RV φ' nx' pr' w (sig b v) cv:=fun e1 e2 e3=>by
  rw[e1] at h;rw[e2];exact h.mono (fun id hid _=>by omega) fun x hx=>⟨hpr x hx,rfl⟩
 cases v with
 | ptr id off=>
   obtain⟨rfl,_⟩:=RV.oU h;obtain⟨e,hb⟩:=hφ id (of_decide_eq_true hl);rw[←e];exact .ptr _ _ hb
 | vec id off len sz lb=>
   obtain⟨cap,ad,rfl,_,h1,h2,h3,h4⟩:=RV.gW h;obtain⟨e,hb⟩:=hφ id (of_decide_eq_true hl);rw[←e] at h3 h4;exact .vec _ _ _ _ _ cap ad hb h1 h2 h3 h4
 | map id=>
   obtain⟨rfl,_⟩:=RV.nt h;obtain⟨e,hb⟩:=hφ id (of_decide_eq_true hl);rw[←e];exact .map _ hb
 | _=>exact plain rfl rfl (by simpa[nk] using hl)
theorem xb {v:AV}:sig (fun i=>i) v=v:=by cases v<;>rfl
section
variable {φ:dp} {h:aa} {w:World} {g:Nat→Nat} {os:List bf}
def kQ (φ:dp) (h:aa) (g:Nat→Nat) (os:List bf):dp:=
 ⟨fun i=>φ (g i),fun b=>φ.gh b∨∃id,live h id∧(∀i o,os[i]? =some o→(∀_:o=.dead,False)→g i≠id)∧(φ id).eM=b⟩
theorem vu {i:Nat} (hl:live (tI os) i):∃o,os[i]? =some o∧∀_:o=.dead,False:=by
 obtain⟨o,h1,h2⟩:=hl;rw[zx] at h1;exact⟨o,h1,h2⟩
theorem xx.live (S:xx h g os) {i:Nat} (hl:Sz.live (tI os) i):Sz.live h (g i):=by
 obtain⟨o,h1,h2⟩:=vu hl;exact⟨_,(S.obj i o h1 h2).1,uk h2⟩
theorem zS (hr:HR φ h w) (S:xx h g os) {b:Nat} (hb:Pr φ h w b):Pr (kQ φ h g os) (tI os) w b:=
 ⟨hb.1,fun i hl=>hb.2.1 _ (S.live hl),fun hc=>by
  rcases hc with hc | ⟨id,hl,_,e⟩
  ·exact hb.2.2 hc
  ·exact hb.2.1 id hl e⟩
theorem OZ (hr:HR φ h w) (S:xx h g os):HR (kQ φ h g os) (tI os) w:=by
 have swap:∀(v:AV) (cv:Value),nk os.length v=true→dK φ h w (sig g v) cv→dK (kQ φ h g os) (tI os) w v cv:=fun v cv hl hv=>by
  have:=RV.swap (φ':=kQ φ h g os) (nx':=os.length) (m:=os.length) (pr':=Pr (kQ φ h g os) (tI os) w) (a:=g) (b:=fun i=>i) (fun i hi=>⟨rfl,hi⟩) (fun x hx=>zS hr S hx) hl hv;rw[xb] at this;exact this
 refine⟨by simp[aa.wf,tI],fun i cs hg=>?_,fun i es hg=>?_,fun i j hi hj e=>?_,fun b hb=>?_⟩
 ·rw[zx] at hg;obtain⟨h1,h2⟩:=S.obj i _ hg fun e=>by cases e
  obtain⟨c,el,fr,g1,g2,g3,g4,g5,g6⟩:=hr.rows (g i) _ h1;rw[List.length_map] at g3;refine⟨c,el,fr,g1,g2,g3,g4,g5,fun j hj=>?_⟩;have:=g6 j (by simpa using hj);rw[List.getElem_map] at this;exact swap _ _ (List.all_eq_true.1 h2 _ (List.getElem_mem hj)) this
 ·rw[zx] at hg;obtain⟨h1,h2⟩:=S.obj i _ hg fun e=>by cases e
  obtain⟨ents,clk,g1,g2,g3⟩:=hr.maps (g i) _ h1;refine⟨ents,clk,g1,by simpa using g2,fun j hj=>?_⟩;have:=g3 j (by simpa using hj);rw[List.getElem_map] at this;have h3:=List.all_eq_true.1 h2 _ (List.getElem_mem hj);rw[Bool.and_eq_true] at h3;exact⟨swap _ _ h3.1 this.1,swap _ _ h3.2 this.2⟩
 ·have:=hr.inj _ _ (S.live hi) (S.live hj) e;obtain⟨o,h1,h2⟩:=vu hi;obtain⟨o',h3,h4⟩:=vu hj;exact S.inj i j o o' h1 h3 h2 h4 this
 ·rcases hb with hb | ⟨id,hl,hn,e⟩
  ·exact⟨(hr.gh b hb).1,fun i hi=>(hr.gh b hb).2 _ (S.live hi)⟩
  ·refine⟨e ▸ hr.dW hl,fun i hi e2=>?_⟩;obtain⟨o,h1,h2⟩:=vu hi;exact hn i o h1 h2 (hr.inj _ _ (S.live hi) hl (e2.trans e.symm))
theorem yc (h:aa) (k:Nat) (o:bf):(s8 h k o).next=h.next:=by
 unfold s8 aa.set;split<;>rfl
theorem qD (h:aa) (k:Nat) (o:bf) {i:Nat} (hne:i≠k):(s8 h k o).get i=h.get i:=by
 show ({h.set k o with wl:=_}:aa).get i=_;exact aa.get_set_other (Ne.symm hne)
theorem yL (h:aa) (k:Nat) (o:bf) {o':bf} (hg:h.get k=some o'):(s8 h k o).get k=some o:=by
 show ({h.set k o with wl:=_}:aa).get k=_;exact aa.get_set_same hg
theorem mj (g:Nat→Nat):∀(ks:List Nat) (os:List bf) (h:aa),(kZ g ks os h).next=h.next
 | [],_,h=>by unfold kZ;rfl
 | k::ks,[],h=>by unfold kZ;rfl
 | k::ks,o::os,h=>by
   show (kZ g ks os (s8 h k (eR g o))).next=_
   rw[mj g ks os,yc]
theorem qu (g:Nat→Nat):∀(ks:List Nat) (os:List bf) (h:aa) {i:Nat},i ∉ ks→(kZ g ks os h).get i=h.get i
 | [],_,h,_,_=>by unfold kZ;rfl
 | k::ks,[],h,_,_=>by unfold kZ;rfl
 | k::ks,o::os,h,i,hi=>by
   simp only[List.mem_cons,not_or] at hi;show (kZ g ks os (s8 h k (eR g o))).get i=_;rw[qu g ks os _ hi.2,qD _ _ _ hi.1]
theorem E6 (g:Nat→Nat):∀(ks:List Nat) (os:List bf) (h:aa),ks.Nodup→(∀k ∈ ks,∃o,h.get k=some o)→∀(i k:Nat) (o:bf),ks[i]? =some k→os[i]? =some o→(kZ g ks os h).get k=some (eR g o)
 | [],_,h,_,_,i,k,o,h1,_=>by simp at h1
 | k::ks,[],h,_,_,i,_,o,_,h2=>by simp at h2
 | k::ks,o::os,h,hn,hx,i,k',o',h1,h2=>by
   rw[List.nodup_cons] at hn;show (kZ g ks os (s8 h k (eR g o))).get k'=_
   cases i with
   | zero=>
     simp only[List.getElem?_cons_zero,Option.some.injEq] at h1 h2;subst h1 h2;obtain⟨q,hq⟩:=hx k (by simp);rw[qu g ks os _ hn.1];exact yL _ _ _ hq
   | succ i=>
     simp only[List.getElem?_cons_succ] at h1 h2;refine E6 g ks os _ hn.2 (fun j hj=>?_) i k' o' h1 h2;obtain⟨q,hq⟩:=hx j (by simp[hj]);have hne:j≠k:=fun e=>hn.1 (by rw[←e];exact hj)
     exact⟨q,(qD _ _ _ hne).trans hq⟩
theorem yK (g:Nat→Nat):∀(os:List bf) (h:aa),(qZ g os h).next=h.next+os.length
 | [],h=>rfl
 | o::os,h=>by
   show (qZ g os (h.alloc (eR g o))).next=_
   rw[yK g os];show h.next+1+os.length=_
   simp only[List.length_cons];omega
theorem qX (g:Nat→Nat):∀(os:List bf) (h:aa) {i:Nat},i < h.next→(qZ g os h).get i=h.get i
 | [],h,_,_=>rfl
 | o::os,h,i,hi=>by
   show (qZ g os (h.alloc (eR g o))).get i=_;rw[qX g os _ (show i < h.next+1 by omega),aa.cQ hi]
theorem AD (g:Nat→Nat):∀(os:List bf) (h:aa) {j:Nat} {o:bf},os[j]? =some o→(qZ g os h).get (h.next+j)=some (eR g o)
 | [],h,j,o,hj=>by simp at hj
 | o::os,h,j,o',hj=>by
   show (qZ g os (h.alloc (eR g o))).get (h.next+j)=_
   cases j with
   | zero=>
     simp only[List.getElem?_cons_zero,Option.some.injEq] at hj;subst hj;rw[qX g os _ (show h.next+0 < h.next+1 by omega)];exact aa.dM
   | succ j=>
     have:=AD g os (h.alloc (eR g o)) (j:=j) (o:=o') (by simpa using hj);rw[←this];show _=(qZ g os (h.alloc (eR g o))).get (h.next+1+j);congr 1;omega
theorem EU (g:Nat→Nat):∀(os:List bf) {h:aa},h.wf→(qZ g os h).wf
 | [],_,hw=>hw
 | o::os,h,hw=>EU g os (aa.kb _ hw)
theorem ME {h:aa} (k:Nat) (o:bf) (hw:h.wf):(s8 h k o).wf:=aa.wf_set k o hw
theorem Fo (g:Nat→Nat):∀(ks:List Nat) (os:List bf) {h:aa},h.wf→(kZ g ks os h).wf
 | [],_,_,hw=>by unfold kZ;exact hw
 | k::ks,[],_,hw=>by unfold kZ;exact hw
 | k::ks,o::os,h,hw=>Fo g ks os (ME k _ hw)
theorem EH {τ:List Nat} {os':List bf} (hw:h.wf):(join h τ os').wf:=EU _ _ (Fo _ _ _ hw)
theorem yG {τ:List Nat} {os':List bf}:(join h τ os').next=h.next+(os'.length - τ.length):=by
 unfold join;rw[yK,mj,List.length_drop]
theorem vG {τ:List Nat} {os':List bf} {i:Nat} (hi:i < h.next) (hn:i ∉ τ):(join h τ os').get i=h.get i:=by
 unfold join;rw[qX _ _ _ (by rw[mj];exact hi),qu _ _ _ _ hn]
theorem zd {τ:List Nat} {os':List bf} (hn:τ.Nodup) (hx:∀k ∈ τ,∃o,h.get k=some o) {i:Nat} {o:bf} (ho:os'[i]? =some o):(join h τ os').get (j5 h τ i)=some (eR (j5 h τ) o):=by
 unfold join;by_cases hi:i < τ.length
 ·have e:j5 h τ i=τ[i]:=by unfold j5;rw[if_pos hi];simp[List.getD,hi]
  rw[e];obtain⟨q,hq⟩:=hx τ[i] (List.getElem_mem hi);rw[qX _ _ _ (by rw[mj];exact aa.di hq)];exact E6 _ _ _ _ hn hx i _ o (by simp[hi]) (by rw[List.getElem?_take_of_lt hi];exact ho)
 ·have e:j5 h τ i=h.next+(i - τ.length):=by unfold j5;rw[if_neg hi]
  rw[e];have:=AD (j5 h τ) (os'.drop τ.length) (kZ (j5 h τ) τ (os'.take τ.length) h) (j:=i - τ.length) (o:=o) (by rw[List.getElem?_drop,show τ.length+(i - τ.length)=i by omega];exact ho);rw[mj] at this;exact this
def nJ (m:Nat) (qs:List Nat) (i:Nat):Nat:=if i < m then i else qs.getD (i - m) 0
def lI (φ φ1:dp) (n:Nat) (qs:List Nat):dp:=⟨fun id=>if id < n then φ id else φ1 (qs.getD (id - n) 0),φ.gh⟩
section
variable {φ1:dp} {h1:aa} {w':World} {τ qs:List Nat} {os':List bf}
theorem Nn (hr:HR φ h w) (S:xx h (fun i=>τ.getD i 0) os) (hτ:τ.length=os.length) (hall:∀o ∈ os,∀_:o=.dead,False) (hle:os.length≤os'.length)
 (hx:Ext (kQ φ h (fun i=>τ.getD i 0) os) (tI os) w φ1 h1 w') (hr1:HR φ1 h1 w') (S1:xx h1 (nJ os.length qs) os'):
 HR (lI φ φ1 h.next qs) (join h τ os') w'∧Ext φ h w (lI φ φ1 h.next qs) (join h τ os') w'∧(∀b,Pr φ1 h1 w' b→Pr (lI φ φ1 h.next qs) (join h τ os') w' b):=by
 -- the objects of the small heap,in the great one
 have hget:∀k ∈ τ,∃o,h.get k=some o∧∀_:o=.dead,False:=fun k hk=>by
  obtain⟨i,hi,rfl⟩:=List.getElem_of_mem hk;have hi':i < os.length:=by omega
  have ho:os[i]? =some os[i]:=List.getElem?_eq_getElem hi';have hn:=hall _ (List.getElem_mem hi');have:=(S.obj i _ ho hn).1;have e:τ.getD i 0=τ[i]:=by simp[List.getD,hi]
  rw[e] at this;exact⟨_,this,uk hn⟩
 have hnd:τ.Nodup:=by
  rw[List.nodup_iff_pairwise_ne,List.pairwise_iff_getElem];intro i j hi hj hij e;have hi':i < os.length:=by omega
  have hj':j < os.length:=by omega
  have e1:τ.getD i 0=τ[i]:=by simp[List.getD,hi]
  have e2:τ.getD j 0=τ[j]:=by simp[List.getD,hj]
  have:=S.inj i j _ _ (List.getElem?_eq_getElem hi') (List.getElem?_eq_getElem hj') (hall _ (List.getElem_mem hi')) (hall _ (List.getElem_mem hj')) (by rw[e1,e2];exact e);omega
 have hlt:∀k ∈ τ,k < h.next:=fun k hk=>by
  obtain⟨o,h1,_⟩:=hget k hk;exact aa.di h1
 have hgx:∀k ∈ τ,∃o,h.get k=some o:=fun k hk=>by
  obtain⟨o,h1,_⟩:=hget k hk;exact⟨o,h1⟩
 have hnx:(join h τ os').next=h.next+(os'.length - os.length):=by rw[yG,hτ]
 have hnew:∀i,i < os'.length→j5 h τ i < (join h τ os').next:=fun i hi=>by
  rw[hnx];unfold j5;split
  ·rename_i hl;have e:τ.getD i 0=τ[i]:=by simp[List.getD,hl]
   rw[e];have:=hlt _ (List.getElem_mem hl);omega
  ·omega
 have hphi:∀i,i < os'.length→(lI φ φ1 h.next qs) (j5 h τ i)=φ1 (nJ os.length qs i):=fun i hi=>by
  unfold j5 nJ;by_cases hl:i < τ.length
  ·rw[if_pos hl,if_pos (by omega)];have e:τ.getD i 0=τ[i]:=by simp[List.getD,hl]
   have hk:=hlt _ (List.getElem_mem hl);show (if τ.getD i 0 < h.next then φ (τ.getD i 0) else _)=_;rw[if_pos (by rw[e];exact hk)];have:=hx.uJ i (show i < os.length by omega);exact this.symm
  ·rw[if_neg hl,if_neg (by omega)];show (if h.next+(i - τ.length) < h.next then _ else φ1 (qs.getD (h.next+(i - τ.length) - h.next) 0))=_;rw[if_neg (by omega),show h.next+(i - τ.length) - h.next=i - os.length by omega]
 -- what lies in the great heap after the call
 have cases':∀id o,(join h τ os').get id=some o→(id < h.next∧id ∉ τ∧h.get id=some o)∨∃i o',os'[i]? =some o'∧id=j5 h τ i∧o=eR (j5 h τ) o':=fun id o hg=>by
  have hid:=aa.di hg;rw[hnx] at hid;by_cases hm:id ∈ τ
  ·obtain⟨i,hi,rfl⟩:=List.getElem_of_mem hm;have hi':i < os'.length:=by omega
   have e:j5 h τ i=τ[i]:=by unfold j5;rw[if_pos hi];simp[List.getD,hi]
   have:=zd (os':=os') hnd hgx (List.getElem?_eq_getElem hi');rw[e,hg] at this;cases this;exact .inr ⟨i,_,List.getElem?_eq_getElem hi',e.symm,rfl⟩
  ·by_cases hl:id < h.next
   ·rw[vG hl hm] at hg;exact .inl ⟨hl,hm,hg⟩
   ·have hi':id - h.next+τ.length < os'.length:=by omega
    have e:j5 h τ (id - h.next+τ.length)=id:=by unfold j5;rw[if_neg (by omega)];omega
    have:=zd (os':=os') hnd hgx (List.getElem?_eq_getElem hi');rw[e,hg] at this;cases this;exact .inr ⟨_,_,List.getElem?_eq_getElem hi',e.symm,rfl⟩
 have lv:∀id,live (join h τ os') id→(id < h.next∧id ∉ τ∧live h id)∨∃i o',os'[i]? =some o'∧(∀_:o'=.dead,False)∧id=j5 h τ i:=fun id ⟨o,hg,ho⟩=>by
  rcases cases' id o hg with⟨a1,a2,a3⟩ | ⟨i,o',a1,a2,a3⟩
  ·exact .inl ⟨a1,a2,o,a3,ho⟩
  ·refine .inr ⟨i,o',a1,fun e=>?_,a2⟩;subst e;exact ho a3
 have lv1:∀i o',os'[i]? =some o'→(∀_:o'=.dead,False)→live h1 (nJ os.length qs i):=fun i o' a1 a2=>⟨_,(S1.obj i o' a1 a2).1,uk a2⟩
 -- other objects' blocks are spoken of by none
 have gho:∀id,id ∉ τ→live h id→φ1.gh (φ id).eM:=fun id hn hl=>by
  rw[hx.gh.1];refine .inr ⟨id,hl,fun i o ho hno e=>hn ?_,rfl⟩;have hi:i < os.length:=(List.getElem?_eq_some_iff.1 ho).1;have hi':i < τ.length:=by omega
  have e1:τ.getD i 0=τ[i]:=by simp[List.getD,hi']
  have e2:τ[i]=id:=e1.symm.trans e;rw[←e2];exact List.getElem_mem hi'
 have pr1:∀b,Pr φ1 h1 w' b→Pr (lI φ φ1 h.next qs) (join h τ os') w' b:=fun b hb=>by
  refine⟨hb.1,fun id hl=>?_,fun hg=>hb.2.2 (by rw[hx.gh.1];exact .inl hg)⟩;rcases lv id hl with⟨a1,a2,a3⟩ | ⟨i,o',a1,a2,rfl⟩
  ·show (if id < h.next then φ id else _).eM≠b;rw[if_pos a1];intro e;exact hb.2.2 (e ▸ gho id a2 a3)
  ·rw[hphi i (List.getElem?_eq_some_iff.1 a1).1];exact hb.2.1 _ (lv1 i o' a1 a2)
 have ext:Ext φ h w (lI φ φ1 h.next qs) (join h τ os') w':=by
  refine⟨hx.os,hx.tape,hx.output,hx.size,by rw[hnx];omega,fun id hid=>if_pos hid,fun b hb=>?_,rfl,fun b hb=>hx.gh.2 b (.inl hb)⟩;obtain⟨g1,g2⟩:=hx.pr b (zS hr S hb);exact⟨pr1 b g1,g2⟩
 have swap:∀(v:AV) (cv:Value),nk os'.length v=true→dK φ1 h1 w' (sig (nJ os.length qs) v) cv→dK (lI φ φ1 h.next qs) (join h τ os') w' (sig (j5 h τ) v) cv:=fun v cv hl hv=>
  RV.swap (fun i hi=>⟨hphi i hi,hnew i hi⟩) pr1 hl hv
 refine⟨⟨EH hr.wf,fun id cs hg=>?_,fun id es hg=>?_,fun i j hi hj e=>?_,fun b hb=>?_⟩,ext,pr1⟩
 ·rcases cases' id _ hg with⟨a1,a2,a3⟩ | ⟨i,o',a1,rfl,a3⟩
  ·have hl:live h id:=⟨_,a3,fun e=>by cases e⟩
   exact (hr.rows id cs a3).ext ext a1 (hx.gh.2 _ (by have:=gho id a2 hl;rw[hx.gh.1] at this;exact this))
  ·cases o' with
   | dead=>cases a3
   | map es=>cases a3
   | row cs'=>
     cases a3;have hil:=(List.getElem?_eq_some_iff.1 a1).1;obtain⟨b1,b2⟩:=S1.obj i _ a1 fun e=>by cases e
     obtain⟨c,el,fr,g1,g2,g3,g4,g5,g6⟩:=hr1.rows _ _ b1;have hp:=hphi i hil;rw[List.length_map] at g3;refine⟨c,el,fr,by rw[hp];exact g1,by rw[hp];exact g2,by rw[hp,List.length_map];exact g3,g4,by rw[hp];exact g5,fun j hj=>?_⟩;have hj':j < cs'.length:=by simpa using hj
     have:=g6 j (by simpa using hj');rw[List.getElem_map] at this ⊢;rw[hp];exact swap _ _ (List.all_eq_true.1 b2 _ (List.getElem_mem hj')) this
 ·rcases cases' id _ hg with⟨a1,a2,a3⟩ | ⟨i,o',a1,rfl,a3⟩
  ·have hl:live h id:=⟨_,a3,fun e=>by cases e⟩
   exact (hr.maps id es a3).ext ext a1 (hx.gh.2 _ (by have:=gho id a2 hl;rw[hx.gh.1] at this;exact this))
  ·cases o' with
   | dead=>cases a3
   | row cs=>cases a3
   | map es'=>
     cases a3;have hil:=(List.getElem?_eq_some_iff.1 a1).1;obtain⟨b1,b2⟩:=S1.obj i _ a1 fun e=>by cases e
     obtain⟨ents,clk,g1,g2,g3⟩:=hr1.maps _ _ b1;have hp:=hphi i hil;rw[List.length_map] at g2;refine⟨ents,clk,by rw[hp];exact g1,by rw[List.length_map];exact g2,fun j hj=>?_⟩;have hj':j < es'.length:=by simpa using hj
     have:=g3 j (by simpa using hj');rw[List.getElem_map] at this ⊢;have b3:=List.all_eq_true.1 b2 _ (List.getElem_mem hj');rw[Bool.and_eq_true] at b3;exact⟨swap _ _ b3.1 this.1,swap _ _ b3.2 this.2⟩
 ·rcases lv i hi with⟨a1,a2,a3⟩ | ⟨p,o,a1,a2,rfl⟩
  ·have ei:(lI φ φ1 h.next qs) i=φ i:=if_pos a1;rcases lv j hj with⟨b1,b2,b3⟩ | ⟨q,o',b1,b2,rfl⟩
   ·have ej:(lI φ φ1 h.next qs) j=φ j:=if_pos b1;rw[ei,ej] at e;exact hr.inj i j a3 b3 e
   ·rw[ei,hphi q (List.getElem?_eq_some_iff.1 b1).1] at e;exact absurd e.symm ((hr1.gh _ (gho i a2 a3)).2 _ (lv1 q o' b1 b2))
  ·rcases lv j hj with⟨b1,b2,b3⟩ | ⟨q,o',b1,b2,rfl⟩
   ·have ej:(lI φ φ1 h.next qs) j=φ j:=if_pos b1;rw[ej,hphi p (List.getElem?_eq_some_iff.1 a1).1] at e;exact absurd e ((hr1.gh _ (gho j b2 b3)).2 _ (lv1 p o a1 a2))
   ·rw[hphi p (List.getElem?_eq_some_iff.1 a1).1,hphi q (List.getElem?_eq_some_iff.1 b1).1] at e;have:=hr1.inj _ _ (lv1 p o a1 a2) (lv1 q o' b1 b2) e;rw[S1.inj p q o o' a1 b1 a2 b2 this]
 ·refine⟨Nat.lt_of_lt_of_le (hr.gh b hb).1 hx.size,fun id hl=>?_⟩;rcases lv id hl with⟨a1,a2,a3⟩ | ⟨i,o',a1,a2,rfl⟩
  ·have ei:(lI φ φ1 h.next qs) id=φ id:=if_pos a1;rw[ei];exact (hr.gh b hb).2 id a3
  ·rw[hphi i (List.getElem?_eq_some_iff.1 a1).1];exact (hr1.gh b (by rw[hx.gh.1];exact .inl hb)).2 _ (lv1 i o' a1 a2)
end
end
end Sz

/- The abstract run is sound. No program is named here. -/
namespace Sz
open Go
variable {X:World→Prop}
def cE (P:Program) (f:Nat) (F:ck):Prop:=
 ∃fn c,P.funcs[f]? =some fn∧(fn.name== "runtime.NumGoroutine")=false∧fn.body=some c∧fn.ntmps=F.ntmps∧bV P c=some F.code.strip∧dm (r8 P) fn.results.toList=some F.results
def PX (w w':World):Prop:=∀b,b < w.heap.size→w'.heap[b]? =w.heap[b]?
def oK (φ:dp) (h:aa) (w:World) (v:AV) (cv:Value) (w':World):Prop:=dK φ h w' v cv∧HR φ h w'∧Ext φ h w φ h w'∧PX w w'
def fX (P:Program) (X:World→Prop) (f:Nat) (args:List AV) (v:AV):Prop:=∀φ h w cargs,HR φ h w→fv P X φ h w→iv φ h w args cargs→
    ((callFunc f cargs).run P w=.ok (.enter f cargs) w∧Calls P f cargs w fun e w'=>∃cv,e=.returned cv∧oK φ h w v cv w')∨
    ∃cv w',(callFunc f cargs).run P w=.ok (.value cv) w'∧oK φ h w v cv w'
abbrev Ij (P:Program) (f:Nat) (args:List AV) (v:AV):Prop:=fX P (fun _=>True) f args v
def bX (P:Program) (X:World→Prop) (f:Nat) (args:List AV) (os:List bf) (v:AV) (r:Option (List bf)):Prop:=
 ∀φ h w τ cargs,HR φ h w→fv P X φ h w→xx h (fun i=>τ.getD i 0) os→τ.length=os.length→(∀o ∈ os,∀_:o=.dead,False)→iv φ h w (args.map (sig fun i=>τ.getD i 0)) cargs→
   ((callFunc f cargs).run P w=.ok (.enter f cargs) w∧Calls P f cargs w (iu φ h w v (jB h τ r)))∨
   ∃cv w' φ',(callFunc f cargs).run P w=.ok (.value cv) w'∧dK φ' (jB h τ r) w' v cv∧HR φ' (jB h τ r) w'∧Ext φ h w φ' (jB h τ r) w'
structure bW (P:Program) (X:World→Prop) (E:Env):Prop where
 mixed:P.follows .mixedOrders=true
 fn:∀f F,E.fn f=some F→cE P f F
 xG:∀f args v,E.xG f args=some v→fX P X f args v
 zb:∀f args os v r,E.zb f args os=some (v,r)→bX P X f args os v r
theorem zy {φ:dp} {h:aa} {w w':World} (hr:HR φ h w) (ho:w'.os=w.os) (ht:w'.tape=w.tape) (hu:w'.output=w.output) (hs:w.heap.size≤w'.heap.size) (hsame:PX w w'):HR φ h w'∧Ext φ h w φ h w':=by
 have x:Ext φ h w φ h w':=⟨ho,ht,hu,hs,Nat.le_refl _,fun _ _=>rfl,fun b hb=>⟨⟨Nat.lt_of_lt_of_le hb.1 hs,hb.2⟩,hsame b hb.1⟩,rfl,fun b hb=>hsame b (hr.gh b hb).1⟩
 exact⟨⟨hr.wf,fun i cs hi=>(hr.rows i cs hi).ext x (aa.di hi) (hsame _ (hr.dW ⟨_,hi,fun e=>by cases e⟩)),
  fun i es hi=>(hr.maps i es hi).ext x (aa.di hi) (hsame _ (hr.dW ⟨_,hi,fun e=>by cases e⟩)),hr.inj,fun b hb=>⟨Nat.lt_of_lt_of_le (hr.gh b hb).1 hs,(hr.gh b hb).2⟩⟩,x⟩
theorem vE {φ φ':dp} {nx nx':Nat} {pr pr':Nat→Prop} {w w':World} {v:AV} {cv:Value} (hs:nG v=true) (h:RV φ nx pr w v cv):RV φ' nx' pr' w' v cv:=by
 cases h<;>first | cases hs | skip
 ·exact .bool _
 ·exact .int _ _
 ·exact .str _
 ·exact .jr
 ·exact .aw _
 ·exact .iC
 ·exact .fQ
 ·exact .jt
theorem Lg {φ φ':dp} {nx nx':Nat} {pr pr':Nat→Prop} {w w':World} {v:AV} {cv:Value} (hs:mc v=true) (h:RV φ nx pr w v cv):RV φ' nx' pr' w' v cv:=by
 cases v with
 | tuple vs=>
   obtain⟨cvs,rfl,h1,h2⟩:=h.l8;exact .tuple _ _ h1 fun j hj=>vE (List.all_eq_true.1 hs _ (List.getElem_mem hj)) (h2 j hj)
 | agg vs=>
   obtain⟨cvs,rfl,h1,h2,h3⟩:=h.lO;exact .agg _ _ h1 h2 fun j hj=>vE (List.all_eq_true.1 hs _ (List.getElem_mem hj)) (h3 j hj)
 | _=>exact vE hs h
theorem Mp (ids:List Nat):∀h:aa,CL h (kill h ids):=by
 induction ids with
 | nil=>exact fun h=>.refl _
 | cons i r ih=>exact fun h=>(CL.kill h i).trans (ih _)
section
variable {P:Program} {φ:dp} {h:aa} {w:World}
def B1 (tm:Array Value):ResultVar→Sem Value
 | .tmp t=>Pure.pure (tm.getD t undef)
 | .cell a t=>do loadVar t (←asAddr (tm.getD a undef))
theorem p8 (fn:Func) (tm:Array Value):results fn tm=(fn.results.mapM (B1 tm) >>=fun vs=>Pure.pure (if h:vs.size=1 then vs[0] else .tuple vs)):=by
 unfold results;congr 1
theorem DH {fr:List AV} {tm:Array Value} (hf:FR φ h w fr tm) (hr:HR φ h w):∀(rs:List ResultVar) (rs':List AT) (vs:List AV),dm (r8 P) rs=some rs'→fO fr h rs'=some vs→
 ∃cvs:List Value,(rs.mapM (B1 tm)).run P w=.ok cvs w∧cvs.length=vs.length∧∀j (h1:j < vs.length) (h2:j < cvs.length),dK φ h w vs[j] cvs[j]
 | [],rs',vs,hc,he=>by
   simp only[dm,Option.some.injEq] at hc;subst hc;simp only[fO,Option.some.injEq] at he;subst he;exact⟨[],by simp,rfl,fun j h1=>by simp at h1⟩
 | r::rs,rs',vs,hc,he=>by
   unfold dm at hc;split at hc
   ·rename_i r' rs'' h1 h2;cases hc;simp only[fO] at he;split at he
    ·rename_i v vs' h3 h4;cases he;obtain⟨cvs,g1,g2,g3⟩:=DH hf hr rs rs'' vs' h2 h4
     have key:∃cv,(B1 tm r).run P w=.ok cv w∧dK φ h w v cv:=by
      cases r with
      | tmp t=>
        simp only[r8,Option.some.injEq] at h1;subst h1;simp only[pH,Option.some.injEq] at h3;subst h3;exact⟨_,by simp[B1],hf.2 t⟩
      | cell a t=>
        simp only[r8,Option.map_eq_some_iff] at h1;obtain⟨n,hn,rfl⟩:=h1;simp only[pH] at h3;obtain⟨ad,cv,e1,e2,e3⟩:=Jf hn (hf.2 a) hr h3;exact⟨cv,by simp[B1,e1,asAddr,e2],e3⟩
     obtain⟨cv,k1,k2⟩:=key;refine⟨cv::cvs,?_,by simp[g2],fun j j1 j2=>?_⟩
     ·rw[List.mapM_cons];simp only[Sem.run_bind,k1,Result.andThen_ok,g1,Sem.run_pure]
     ·cases j with
      | zero=>exact k2
      | succ j=>exact g3 j (Nat.lt_of_succ_lt_succ j1) (Nat.lt_of_succ_lt_succ j2)
    ·cases he
   ·cases hc
end
theorem xW {h0 h:aa} (hcl:CL {h0 with wl:=h0.next,md:=h0.next} h) {eI:Bool} {v:AV}:CL h0 (finish eI h0 v h).2:=by
 have plain:CL h0 {h with wl:=min h0.wl h.wl,md:=min h0.md h.md}:=⟨hcl.next,Nat.min_le_left _ _,fun n hn hw k id hid=>by
  have:=hcl.le n hn (by dsimp only at hw;omega) (fun i hi=>k i hi) id hid;exact this,Nat.min_le_left _ _,fun id h1 h2=>hcl.same id (by dsimp only at h1;omega) h2⟩
 unfold finish
 cases eI with
 | true=>simpa using plain
 | false=>
   simp only[Bool.false_eq_true,if_false];split
   ·exact plain
   ·rename_i v' ids hfz;split
    ·rename_i hc;have hnx:min h.next h0.next=h0.next:=Nat.min_eq_right hcl.next
     refine⟨?_,Nat.le_refl _,fun n hn hw k id hid=>?_,?_,fun id h1 h2=>?_⟩
     ·show h0.next≤min h.next h0.next
      omega
     ·have hn':n≤h0.next:=hn
      have:=hcl.le n hn (by omega) (fun i hi=>k i hi) id hid;unfold kU at this ⊢;have e:({h.gM h0.next with wl:=h0.wl,md:=(if h.md < h0.next then min h0.md h.md else h0.md)}:aa).get id=h.get id:=aa.mA (by omega);rw[e];exact this
     ·dsimp only;split<;>omega
     ·have e:({h.gM h0.next with wl:=h0.wl,md:=(if h.md < h0.next then min h0.md h.md else h0.md)}:aa).get id=h.get id:=aa.mA h2;rw[e];refine hcl.same id ?_ h2;dsimp only at h1;split at h1<;>omega
    ·have hnk:∀(ids:List Nat) (h:aa),(kill h ids).wl=h.wl∧CL h (kill h ids):=by
      intro ids
      induction ids with
      | nil=>exact fun h=>⟨rfl,.refl _⟩
      | cons i r ih=>
        intro h;obtain⟨a1,a2⟩:=ih (h.set i .dead);exact⟨by simp only[kill];rw[a1];simp,(CL.kill h i).trans a2⟩
     have hko:∀(ids:List Nat) (h:aa) (i:Nat),i ∉ ids→(kill h ids).get i=h.get i:=by
      intro ids
      induction ids with
      | nil=>exact fun h i _=>rfl
      | cons j r ih=>
        intro h i hi;simp only[List.mem_cons,not_or] at hi;simp only[kill];rw[ih _ i hi.2,aa.get_set_other (Ne.symm hi.1)]
     obtain⟨n1,n2⟩:=hnk ids h;have hc2:=hcl.trans n2;refine⟨hc2.next,Nat.min_le_left _ _,fun n hn hw k id hid=>?_,Nat.min_le_left _ _,fun id h1 h2=>?_⟩
     ·have:=hc2.le n hn (by rw[n1];dsimp only at hw;omega) (fun i hi=>k i hi) id hid;exact this
     ·have hids:=oS 8 v v' ids hfz;have e:(kill h ids).get id=h.get id:=hko ids h id fun hm=>by have:=(hids id hm).1;omega
      show (kill h ids).get id=h0.get id;rw[e];exact hcl.same id (by dsimp only at h1;omega) h2
theorem zO:∀(ids:List Nat) {h:aa},h.wf→(kill h ids).wf
 | [],_,hw=>hw
 | i::r,_,hw=>zO r (aa.wf_set i .dead hw)
theorem yu {h0 h:aa} {eI:Bool} {v:AV} (hw:h.wf):(finish eI h0 v h).2.wf:=by
 unfold finish
 cases eI with
 | true=>exact hw
 | false=>
   simp only[Bool.false_eq_true,if_false];split
   ·exact hw
   ·split
    ·exact aa.BX _ hw
    ·exact zO _ hw
theorem nX:∀{τ:List Nat} {id:Nat},p7 τ id=true↔id ∈ τ
 | [],id=>by simp[p7]
 | k::r,id=>by
   unfold p7;by_cases e:k=id
   ·rw[if_pos e];simp[e]
   ·rw[if_neg e,nX];simp[Ne.symm e]
theorem u4:∀{τ:List Nat} {id:Nat},id ∈ τ→qH τ id < τ.length∧τ.getD (qH τ id) 0=id
 | k::r,id,h=>by
   unfold qH;by_cases e:k=id
   ·rw[if_pos e];simp[e]
   ·rw[if_neg e]
    have h':id ∈ r:=by
     rcases List.mem_cons.1 h with h | h
     ·exact absurd h.symm e
     ·exact h
    obtain⟨a,b⟩:=u4 h';exact⟨by simp;omega,by simpa[List.getD] using b⟩
theorem o3:∀(cs:List AV) (acc:List Nat),acc.Nodup→(fc cs acc).Nodup∧∃r,fc cs acc=acc++r
 | [],acc,h=>⟨h,[],by simp[fc]⟩
 | v::cs,acc,h=>by
   unfold fc
   cases hv:v.top with
   | none=>exact o3 cs acc h
   | some j=>
     dsimp only;split
     ·exact o3 cs acc h
     ·rename_i hn;have hj:j ∉ acc:=fun hm=>hn (nX.2 hm)
      have h2:(acc++[j]).Nodup:=by
       rw[List.nodup_append];refine⟨h,by simp,fun a ha b hb e=>?_⟩;simp at hb;exact hj (hb ▸ e ▸ ha)
      obtain⟨a,r,e⟩:=o3 cs (acc++[j]) h2;exact⟨a,j::r,by rw[e];simp⟩
theorem pw {τ:List Nat} {v:AV} (h:okV τ v=true):sig (fun i=>τ.getD i 0) (sig (qH τ) v)=v∧nk τ.length (sig (qH τ) v)=true:=by
 unfold okV at h
 cases v with
 | ptr id off=>
   obtain⟨a,b⟩:=u4 (nX.1 h);exact⟨by simp only[sig,b],by simpa[sig,nk] using a⟩
 | vec id off len sz lb=>
   obtain⟨a,b⟩:=u4 (nX.1 h);exact⟨by simp only[sig,b],by simpa[sig,nk] using a⟩
 | map id=>
   obtain⟨a,b⟩:=u4 (nX.1 h);exact⟨by simp only[sig,b],by simpa[sig,nk] using a⟩
 | _=>exact⟨rfl,h⟩
theorem FF {τ:List Nat} {o:bf} (h:okO τ o=true):eR (fun i=>τ.getD i 0) (eR (qH τ) o)=o∧xJ τ.length (eR (qH τ) o)=true∧∀_:eR (qH τ) o=.dead,False:=by
 cases o with
 | dead=>cases h
 | row cs=>
   have hc:∀v ∈ cs,okV τ v=true:=List.all_eq_true.1 h;refine⟨?_,?_,fun e=>by cases e⟩
   ·simp only[eR,List.map_map];congr 1;conv=>rhs;rw[←List.map_id cs]
    exact List.map_congr_left fun v hv=>(pw (hc v hv)).1
   ·simp only[eR,xJ,List.all_map];exact List.all_eq_true.2 fun v hv=>(pw (hc v hv)).2
 | map es=>
   have hc:∀e ∈ es,(okV τ e.1&&okV τ e.2)=true:=List.all_eq_true.1 h;refine⟨?_,?_,fun e=>by cases e⟩
   ·simp only[eR,List.map_map];congr 1;conv=>rhs;rw[←List.map_id es]
    refine List.map_congr_left fun e he=>?_
    have:=hc e he;rw[Bool.and_eq_true] at this;show (sig _ (sig _ e.1),sig _ (sig _ e.2))=e;rw[(pw this.1).1,(pw this.2).1]
   ·simp only[eR,xJ,List.all_map];refine List.all_eq_true.2 fun e he=>?_
    have:=hc e he;rw[Bool.and_eq_true] at this;show (nk _ (sig _ e.1)&&nk _ (sig _ e.2))=true;rw[(pw this.1).2,(pw this.2).2];rfl
theorem wa {h:aa} {τ:List Nat}:∀{ks:List Nat} {os:List bf},nA h τ ks=some os→os.length=ks.length∧∀(i:Nat) (o:bf),os[i]? =some o→∃id o0,ks[i]? =some id∧h.get id=some o0∧okO τ o0=true∧o=eR (qH τ) o0
 | [],os,h1=>by
   simp only[nA,Option.some.injEq] at h1;subst h1;exact⟨rfl,fun i o ho=>by simp at ho⟩
 | k::ks,os,h1=>by
   simp only[nA] at h1;split at h1
   ·rename_i o0 os0 h2 h3;split at h1
    ·rename_i hok;cases h1;obtain⟨a,b⟩:=wa h3;refine⟨by simp[a],fun i o ho=>?_⟩
     cases i with
     | zero=>
       simp only[List.getElem?_cons_zero,Option.some.injEq] at ho;exact⟨k,o0,rfl,h2,hok,ho.symm⟩
     | succ i=>exact b i o (by simpa using ho)
    ·cases h1
   ·cases h1
theorem xR {g:Nat→Nat} {v:AV} (h:v.refs=0):sig g v=v:=by
 cases v with
 | ptr id off=>simp[AV.refs] at h
 | vec id off len sz lb=>simp[AV.refs] at h
 | map id=>simp[AV.refs] at h
 | _=>rfl
theorem Lf (h:aa) (k:Nat) (o:bf):CL h (s8 h k o):=by
 refine⟨by rw[yc];exact Nat.le_refl _,?_,fun n hn hw hk id hid=>?_,aa.oT h k o,fun id h1 _=>aa.mK h k o id h1⟩
 ·show (if o.refs≤k+1 then h.wl else min h.wl k)≤h.wl;split
  ·exact Nat.le_refl _
  ·exact Nat.min_le_left _ _
 ·have hw':n≤(if o.refs≤k+1 then h.wl else min h.wl k):=hw;by_cases e:id=k
  ·subst e
   have hr:o.refs≤id+1:=by
    by_cases hc:o.refs≤id+1
    ·exact hc
    ·rw[if_neg hc] at hw';have:=Nat.le_trans hw' (Nat.min_le_right _ _);omega
   cases hg:h.get id with
   | none=>
     have:(s8 h id o).get id=none:=by
      show (h.set id o).get id=none;unfold aa.set;split
      ·rename_i hlt;unfold aa.get at hg ⊢;simp only[hlt,if_true] at hg ⊢;rw[List.getElem?_eq_none_iff] at hg;exact List.getElem?_eq_none (by simpa using hg)
      ·exact hg
     unfold kU;rw[this];exact⟨fun _ e=>(by cases e),fun _ e=>(by cases e)⟩
   | some o'=>
     unfold kU;rw[yL h id o hg];refine⟨fun cs e=>?_,fun es e p hp=>?_⟩
     ·cases e;have:AV.ai cs≤id+1:=hr;omega
     ·cases e;have h3:AV.ai (es.flatMap fun e=>[e.1,e.2])≤id+1:=hr;have m1:p.1 ∈ es.flatMap fun e=>[e.1,e.2]:=List.mem_flatMap.2 ⟨p,hp,by simp⟩
      have m2:p.2 ∈ es.flatMap fun e=>[e.1,e.2]:=List.mem_flatMap.2 ⟨p,hp,by simp⟩
      have:=AV.cA m1;have:=AV.cA m2;omega
  ·have:=hk id hid;unfold kU at this ⊢;rw[qD h k o e];exact this
theorem FV (g:Nat→Nat):∀(ks:List Nat) (os:List bf) (h:aa),CL h (kZ g ks os h)
 | [],_,h=>by unfold kZ;exact .refl _
 | k::ks,[],h=>by unfold kZ;exact .refl _
 | k::ks,o::os,h=>(Lf h k (eR g o)).trans (FV g ks os _)
theorem E2 (g:Nat→Nat):∀(os:List bf) (h:aa),CL h (qZ g os h)
 | [],h=>.refl _
 | o::os,h=>(CL.alloc h (eR g o)).trans (E2 g os _)
theorem IW (h:aa) (τ:List Nat):∀r,CL h (jB h τ r)
 | none=>.refl _
 | some os'=>(FV _ _ _ h).trans (E2 _ _ _)
theorem Kq {h:aa} (hw:h.wf) (τ:List Nat):∀r,(jB h τ r).wf
 | none=>hw
 | some os'=>EH hw
theorem yH {M:List AV→List bf→Option (AV×Option (List bf))} {args:List AV} {h h':aa} {v:AV} (he:kT M args h=some (v,h')):
 ∃k rest cs os r,args=.ptr k 0::rest∧h.get k=some (.row cs)∧nA h (fc cs [k]) (fc cs [k])=some os∧AV.ai rest=0∧M (.ptr 0 0::rest) os=some (v,r)∧h'=jB h (fc cs [k]) r:=by
 unfold kT at he;split at he
 ·rename_i k rest;split at he
  ·rename_i cs hg;split at he
   ·rename_i os hs;split at he
    ·rename_i hr;obtain⟨⟨v',r⟩,h1,e⟩:=Option.map_eq_some_iff.1 he;cases e;exact⟨k,rest,cs,os,r,rfl,hg,hs,hr,h1,rfl⟩
    ·cases he
   ·cases he
  ·cases he
 ·cases he
theorem JD {P:Program} {E:Env} (hE:bW P X E) {f:Nat} {args:List AV} {h h':aa} {v:AV} (he:kT (E.zb f) args h=some (v,h')) {φ:dp} {w:World} {cargs:Array Value} (hr:HR φ h w) (hG:fv P X φ h w)
 (ha:iv φ h w args cargs):((callFunc f cargs).run P w=.ok (.enter f cargs) w∧Calls P f cargs w (iu φ h w v h'))∨
  ∃cv w' φ',(callFunc f cargs).run P w=.ok (.value cv) w'∧dK φ' h' w' v cv∧HR φ' h' w'∧Ext φ h w φ' h' w':=by
 obtain⟨k,rest,cs,os,r,rfl,hg,hs,hrest,hm,rfl⟩:=yH he;obtain⟨hn,q,hq⟩:=o3 cs [k] (by simp);obtain⟨hl,hso⟩:=wa hs;have hg0:∀i,i < (fc cs [k]).length→∀id,(fc cs [k])[i]? =some id→(fc cs [k]).getD i 0=id:=fun i hi id hid=>by simp[List.getD,hid]
 refine hE.zb f _ os v r hm φ h w (fc cs [k]) cargs hr hG ⟨fun i o ho hno=>?_,fun i j o o' ho ho' _ _ e=>?_⟩ hl.symm (fun o ho e=>?_) ?_
 ·obtain⟨id,o0,a1,a2,a3,rfl⟩:=hso i o ho;obtain⟨b1,b2,_⟩:=FF a3;refine⟨?_,by rw[hl];exact b2⟩;show h.get ((fc cs [k]).getD i 0)=_;rw[hg0 i (List.getElem?_eq_some_iff.1 a1).1 id a1,b1];exact a2
 ·have hi:i < (fc cs [k]).length:=by have:=(List.getElem?_eq_some_iff.1 ho).1;omega
  have hj:j < (fc cs [k]).length:=by have:=(List.getElem?_eq_some_iff.1 ho').1;omega
  have e':(fc cs [k])[i]=(fc cs [k])[j]:=by
   have e:(fc cs [k]).getD i 0=(fc cs [k]).getD j 0:=e;simpa[List.getD,hi,hj] using e
  exact (List.getElem_inj hn).1 e'
 ·obtain⟨i,hi,rfl⟩:=List.getElem_of_mem ho;obtain⟨id,o0,a1,a2,a3,a4⟩:=hso i _ (List.getElem?_eq_getElem hi);rw[a4] at e;exact (FF a3).2.2 e
 ·have e0:(AV.ptr 0 0::rest).map (sig fun i=>(fc cs [k]).getD i 0)=.ptr k 0::rest:=by
   rw[List.map_cons]
   have h1:sig (fun i=>(fc cs [k]).getD i 0) (.ptr 0 0)=.ptr k 0:=by
    show AV.ptr ((fc cs [k]).getD 0 0) 0=_;rw[hq];rfl
   have h2:rest.map (sig fun i=>(fc cs [k]).getD i 0)=rest:=by
    conv=>rhs;rw[←List.map_id rest]
    exact List.map_congr_left fun v hv=>xR (by have:=AV.cA hv;omega)
   rw[h1,h2]
  rw[e0];exact ha
theorem rS {P:Program} {E:Env} (hE:bW P X E):∀n,iE P X (au E n)∧ki (au E n)
 | 0=>⟨fun f args h v h' he=>by simp[au] at he,fun f args h v h' he=>by simp[au] at he⟩
 | n+1=>by
   obtain⟨ih1,ih2⟩:=rS hE n
   have both:∀f args h v h',au E (n+1) f args h=some (v,h')→(∀φ w cargs,HR φ h w→fv P X φ h w→iv φ h w args cargs→
    ((callFunc f cargs).run P w=.ok (.enter f cargs) w∧Calls P f cargs w (iu φ h w v h'))∨
    ∃cv w' φ',(callFunc f cargs).run P w=.ok (.value cv) w'∧dK φ' h' w' v cv∧HR φ' h' w'∧Ext φ h w φ' h' w'):=by
    intro f args h v h' he φ w cargs hr hG ha;simp only[au] at he;split at he
    ·rename_i r hp;cases he;obtain⟨⟨args',ids⟩,h1,h2⟩:=Option.bind_eq_some_iff.1 hp;obtain⟨v,hpv,e⟩:=Option.map_eq_some_iff.1 h2;simp only[Prod.mk.injEq] at e;obtain⟨rfl,rfl⟩:=e;obtain⟨k1,k2⟩:=EE ids hr;have hids:∀id ∈ ids,live h id:=fun id hid=>(oi (p:=fun id=>0≤id∧live h id) (fun v v' ids he=>oS 8 v v' ids he) args args' ids h1 id hid).2
     have hnk:(kill h ids).next=h.next:=by
      have:∀(ids:List Nat) (h:aa),(kill h ids).next=h.next:=by
       intro ids
       induction ids with
       | nil=>exact fun h=>rfl
       | cons i r ih=>intro h;simp only[kill];rw[ih];simp
      exact this ids h
     obtain⟨q1,q2⟩:=sD (φ:=φ) (nx:=h.next) (pr:=Pr φ h w) (pr':=Pr φ (kill h ids) w) (w:=w) (fun v cv v' ids' he hv hi=>zN hr (n0:=0) (pr':=Pr φ (kill h ids) w) (fun b hb=>(k2.pr b hb).1) 8 v cv v' ids' he hv hi) args args' ids (fun j=>cargs.getD j default) h1 ha.2
      fun id hid=>Pr.zn (hr.dW (hids id hid)) (fun i hi e=>(by rw[hr.inj i id hi (hids id hid) e];exact hid)) fun hg=>(hr.gh _ hg).2 id (hids id hid) rfl
     have ha':iv φ (kill h ids) w args' cargs:=⟨ha.1.trans q1.symm,fun j hj=>(q2 j hj).mono (fun id _ hid=>⟨rfl,by rw[hnk];exact hid⟩) fun b hb=>⟨hb,rfl⟩⟩
     have fin:∀cv w',oK φ (kill h ids) w v cv w'→dK φ (if mc v then h else kill h ids) w' v cv∧HR φ (if mc v then h else kill h ids) w'∧Ext φ h w φ (if mc v then h else kill h ids) w':=fun cv w' ⟨g1,g2,g3,g4⟩=>by
      by_cases hs:mc v=true
      ·obtain⟨s1,s2⟩:=zy hr g3.os g3.tape g3.output g3.size g4;rw[if_pos hs];exact⟨Lg hs g1,s1,s2⟩
      ·rw[if_neg hs];exact⟨g1,g2,k2.trans g3⟩
     rcases hE.xG f args' v hpv φ (kill h ids) w cargs k1 (hG.ext k2) ha' with⟨e1,e2⟩ | ⟨cv,w',e1,e2⟩
     ·exact .inl ⟨e1,e2.mono fun e w' ⟨cv,he,hp⟩=>⟨φ,cv,he,fin cv w' hp⟩⟩
     ·exact .inr ⟨cv,w',φ,e1,fin cv w' e2⟩
    ·split at he
     ·rename_i r hm;cases he;exact JD hE hm hr hG ha
     split at he
     ·cases he
     ·rename_i F hF;obtain⟨fn,c,hfn,hname,hbody,hnt,hcode,hres⟩:=hE.fn f F hF;left
      have hcall:(callFunc f cargs).run P w=.ok (.enter f cargs) w:=by
       have hne:¬ fn.name= "runtime.NumGoroutine" :=by simpa using hname
       simp[callFunc,hfn,hne,hbody]
      refine⟨hcall,?_⟩
      have hbegin:∃ex fr hh vs,aT (au E n) n F.code (args++List.replicate (F.ntmps - args.length) .undef) {h with wl:=h.next,md:=h.next}=some (ex,fr,hh)∧(ex=.normal∨ex=.ret)∧fO fr hh F.results=some vs∧
       (v,h')=finish F.eI h (oneOf vs) hh:=by
       cases hev:aT (au E n) n F.code (args++List.replicate (F.ntmps - args.length) .undef) {h with wl:=h.next,md:=h.next} with
       | none=>rw[hev] at he;cases he
       | some r=>
         obtain⟨ex,fr,hh⟩:=r;rw[hev] at he
         cases ex with
         | exit id=>cases he
         | normal=>
           obtain⟨vs,hvs,e⟩:=Option.map_eq_some_iff.1 he;exact⟨.normal,fr,hh,vs,rfl,.inl rfl,hvs,e.symm⟩
         | ret=>
           obtain⟨vs,hvs,e⟩:=Option.map_eq_some_iff.1 he;exact⟨.ret,fr,hh,vs,rfl,.inr rfl,hvs,e.symm⟩
      obtain⟨ex,fr,hh,vs,hev,hex,hvs,hfin⟩:=hbegin;obtain⟨s1,s2⟩:=hr.nD h.next h.next
      have hfr:FR φ {h with wl:=h.next,md:=h.next} w (args++List.replicate (F.ntmps - args.length) .undef) (cargs++Array.replicate (fn.ntmps - cargs.size) undef):=by
       refine⟨by simp[ha.1,hnt],fun t=>?_⟩;by_cases ht:t < args.length
       ·have:=(ha.2 t ht).ext s2;rw[List.getD_eq_getElem?_getD,List.getElem?_append_left ht,List.getElem?_eq_getElem ht,Option.getD_some];have ht2:t < cargs.size:=by rw[ha.1];exact ht
        rw[Array.getD_eq_getD_getElem?] at this ⊢;rw[Array.getElem?_append_left ht2,Array.getElem?_eq_getElem ht2,Option.getD_some];rw[Array.getElem?_eq_getElem ht2,Option.getD_some] at this;exact this
       ·have hu:(args++List.replicate (F.ntmps - args.length) AV.undef).getD t .undef=.undef:=by
         rw[List.getD_eq_getElem?_getD,List.getElem?_append_right (by omega),List.getElem?_replicate];split<;>rfl
        rw[hu];exact .undef _
      refine calls_of_wp hfn hbody ?_;refine jU ih1 ih2 hE.mixed n c F.code hcode hev hfr s1 (hG.ext s2) fun φ' a' w' f1 r1 e1 d1=>?_
      have hcl:=(mV ih2 hev s1.wf).1;obtain⟨cvs,g1,g2,g3⟩:=DH (P:=P) f1 r1 fn.results.toList F.results vs hres hvs
      have hresrun:∃cv,(results fn a'.tmps).run P w'=.ok cv w'∧dK φ' hh w' (oneOf vs) cv:=by
       have hm:(fn.results.mapM (B1 a'.tmps)).run P w'=.ok cvs.toArray w':=by
        rw[Array.mapM_eq_mapM_toList];simp only[Sem.run_map,g1,Result.andThen_ok]
       refine⟨if h:cvs.toArray.size=1 then cvs.toArray[0] else .tuple cvs.toArray,?_,?_⟩
       ·rw[p8];simp only[Sem.run_bind,hm,Result.andThen_ok,Sem.run_pure]
       ·match vs,cvs,g2,g3 with
        | [v1],[c1],_,g3=>
          exact g3 0 (by simp) (by simp)
        | [],[],_,_=>exact .tuple _ _ rfl fun j hj=>by simp at hj
        | v1::v2::vr,cvs,g2,g3=>
          have hsz:¬ (cvs.toArray.size=1):=by
           simp at g2 ⊢;omega
          rw[dif_neg hsz];refine .tuple _ _ (by simpa using g2) fun j hj=>?_
          have hj2:j < cvs.length:=by omega
          have:=g3 j hj hj2;simpa[Array.getD,hj2] using this
      obtain⟨cv,q1,q2⟩:=hresrun;obtain⟨t1,t2,t3⟩:=GC (eI:=F.eI) (h0:=h) (φ0:=φ) (w0:=w) r1 (s2.trans e1) hcl hr q2;rw[←hfin] at t1 t2 t3;have post:iu φ h w v h' (.returned cv) w':=⟨φ',cv,rfl,t1,t2,t3⟩
      have hd:a'.defers=[]:=d1;rcases hex with rfl | rfl
      ·exact⟨hd,cv,q1,post⟩
      ·exact⟨hd,cv,q1,post⟩
   refine⟨both,fun f args h v h' he hwf=>?_⟩;simp only[au] at he;split at he
   ·rename_i r hp;cases he;obtain⟨⟨args',ids⟩,h1,h2⟩:=Option.bind_eq_some_iff.1 hp;obtain⟨v,hpv,e⟩:=Option.map_eq_some_iff.1 h2;simp only[Prod.mk.injEq] at e;obtain⟨rfl,rfl⟩:=e;by_cases hs:mc v=true
    ·rw[if_pos hs];exact⟨.refl _,hwf⟩
    ·rw[if_neg hs];exact⟨Mp ids h,zO ids hwf⟩
   ·split at he
    ·rename_i r hm;cases he;obtain⟨k,rest,cs,os,r,rfl,hg,hs,hrest,hm,rfl⟩:=yH hm;exact⟨IW h _ r,Kq hwf _ r⟩
    split at he
    ·cases he
    ·rename_i F hF
     cases hev:aT (au E n) n F.code (args++List.replicate (F.ntmps - args.length) .undef) {h with wl:=h.next,md:=h.next} with
     | none=>rw[hev] at he;cases he
     | some r=>
       obtain⟨ex,fr,hh⟩:=r;rw[hev] at he;obtain⟨hcl,hw'⟩:=mV ih2 hev hwf
       cases ex with
       | exit id=>cases he
       | normal=>
         obtain⟨vs,hvs,e⟩:=Option.map_eq_some_iff.1 he;have:=xW (eI:=F.eI) (v:=oneOf vs) hcl;have w2:=yu (eI:=F.eI) (v:=oneOf vs) (h0:=h) hw';rw[e] at this w2;exact⟨this,w2⟩
       | ret=>
         obtain⟨vs,hvs,e⟩:=Option.map_eq_some_iff.1 he;have:=xW (eI:=F.eI) (v:=oneOf vs) hcl;have w2:=yu (eI:=F.eI) (v:=oneOf vs) (h0:=h) hw';rw[e] at this w2;exact⟨this,w2⟩
abbrev NV (P:Program) (E:Env):Prop:=bW P (fun _=>True) E
end Sz

/- slices.Clone of an empty slice, nil or not. No program is named here. -/
namespace Sz
open Go
variable {X:World→Prop}
def C0:Nat→List AV→aa→Option (AV×aa):=fun _ _ _=>none
structure zD (P:Program) (f:Nat):Prop where
 mk::ok:∃(fn:Func) (r0 r2 r3:Code) (i1:Nat) (o1 o2:Oper) (t e ty:TypeId) (a0 a2 a3:bF),P.funcs[f]? =some fn∧(fn.name== "runtime.NumGoroutine")=false∧fn.body=some (.seq r0 (.seq (.seq (.region i1 #[o1,o2] false) (.cond (.tmp 4) r2 .skip)) r3))∧fn.ntmps=8∧fn.results=#[.tmp 2]∧fp P #[o1,o2] o1=some ⟨some 3,.op (.lZ (.tmp 0)),none⟩∧o2.op=.binOp .eql t (.tmp 3) (.const (.slice none 0 0)) ty∧o2.dst=some 4∧o2.guard=none∧P.underlying t=some (.slice e)∧bV P r0=some a0.strip∧bV P r2=some a2.strip∧bV P r3=some a3.strip∧(∀v h,aT C0 1 a0 [v,.undef,.undef,.undef,.undef,.undef,.undef,.undef] h=some (.normal,[v,.undef,.aw,.undef,.undef,.undef,.undef,.undef],h))∧(∀v h,aT C0 1 a2 [v,.undef,.aw,v,.bool true,.undef,.undef,.undef] h=some (.ret,[v,.undef,.aw,v,.bool true,.undef,.undef,.undef],h))∧(∀v,v=.aw∨v=.sl []→∀h,aT C0 1 a3 [v,.undef,.aw,v,.bool false,.undef,.undef,.undef] h=some (.ret,[v,.undef,.aw,v,.bool false,.aw,v,.aw],h))
theorem DT {P:Program} (hm:P.follows .mixedOrders=true) {f:Nat} (hc:zD P f) {v:AV} (hv:v=.aw∨v=.sl []) {φ:dp} {h:aa} {w:World} {cargs:Array Value} (hr:HR φ h w) (hG:fv P X φ h w) (ha:iv φ h w [v] cargs):
 (callFunc f cargs).run P w=.ok (.enter f cargs) w∧Calls P f cargs w (iu φ h w .aw h):=by
 obtain⟨fn,r0,r2,r3,i1,o1,o2,t,e,ty,a0,a2,a3,hfn,hname,hbody,hnt,hres,hs1,hop,hd2,hg2,ht,c0,c2,c3,e0,e2,e3⟩:=hc.ok;have hC:iE P X C0:=fun f args h v h' he=>by cases he
 have hCL:ki C0:=fun f args h v h' he=>by cases he
 have hcall:(callFunc f cargs).run P w=.ok (.enter f cargs) w:=by
  have hne:¬ fn.name= "runtime.NumGoroutine" :=by simpa using hname
  simp[callFunc,hfn,hne,hbody]
 refine⟨hcall,?_⟩;have hargs:cargs.size=1:=ha.1;have hv0:dK φ h w v (cargs.getD 0 default):=ha.2 0 (by simp)
 have hfr:FR φ h w [v,.undef,.undef,.undef,.undef,.undef,.undef,.undef] (cargs++Array.replicate (fn.ntmps - cargs.size) undef):=by
  refine⟨by simp[hargs,hnt],fun t=>?_⟩
  cases t with
  | zero=>
    rw[Array.getD_eq_getD_getElem?] at hv0 ⊢;rw[Array.getElem?_append_left (by omega)];rw[Array.getElem?_eq_getElem (by omega:0 < cargs.size)] at hv0 ⊢;exact hv0
  | succ t=>
    have:([v,.undef,.undef,.undef,.undef,.undef,.undef,.undef]:List AV).getD (t+1) .undef=.undef:=by
     match t with
     | 0 | 1 | 2 | 3 | 4 | 5 | 6=>rfl
     | n+7=>rfl
    rw[this];exact .undef _
 refine calls_of_wp hfn hbody ?_;refine wp_seq ?_;refine jU hC hCL hm 1 r0 a0 c0 (e0 v h) hfr hr hG fun φ1 a1 w1 f1 r1 x1 d1=>?_
 refine wp_seq ?_;refine wp_seq ?_;refine wp_region_list ?_;refine wpList_step fun K hK=>?_
 have h1:cd C0 ⟨some 3,.op (.lZ (.tmp 0)),none⟩ [v,.undef,.aw,.undef,.undef,.undef,.undef,.undef] h=some ([v,.undef,.aw,v,.undef,.undef,.undef,.undef],h):=rfl;refine rn hC hs1 h1 f1 r1 (hG.ext x1) fun φ2 cv w2 f2 r2' x2=>hK _ _ ?_
 refine wpList_step fun K2 hK2=>?_
 have hw:Region.wanted o2 (yielded #[o1,o2] (a1.put o1.dst cv).tmps)=true:=by simp[Region.wanted,hg2]
 rw[if_pos hw];have x12:=x1.trans x2
 -- what is tested
 have hx:∃ad n c,(a1.put o1.dst cv).eval (.tmp 3)=.slice ad n c:=by
  have q:=bO (x:=.tmp 3) (x':=.tmp 3) rfl f2;have q':dK φ2 h w2 v ((a1.put o1.dst cv).eval (.tmp 3)):=q;rcases hv with rfl | rfl
  ·obtain⟨ad,e⟩:=q'.jX;exact⟨ad,0,0,e⟩
  ·rcases q'.nU with⟨ad,c,_,e⟩ | ⟨b,o',c,sz,vs,e,_⟩
   ·exact⟨ad,0,c,e⟩
   ·exact⟨_,_,c,e⟩
 obtain⟨ad,n,c,hx⟩:=hx;have hrun:=Bk (neg:=false) hop ht hx w2;unfold Oper.wp;rw[hrun,Oper.upon_value];refine hK2 _ _ (wpList_nil ?_)
 have f3:FR φ2 h w2 [v,.undef,.aw,v,.bool ad.isNone,.undef,.undef,.undef] ((a1.put o1.dst cv).put o2.dst (.bool ad.isNone)).tmps:=by
  rw[hd2];exact f2.put (RV.bool _) 4
 have d3:((a1.put o1.dst cv).put o2.dst (.bool ad.isNone)).defers=[]:=by
  rw[put_defers,put_defers];exact d1
 have fin:∀(fr:List AV) (φ':dp) (a':Act) (w':World),fr.getD 2 .undef=.aw→FR φ' h w' fr a'.tmps→HR φ' h w'→Ext φ h w φ' h w'→a'.defers=[]→
  a'.defers=[]∧∃v,(results fn a'.tmps).run P w'=.ok v w'∧iu φ h w .aw h (.returned v) w':=fun fr φ' a' w' hfr' hf' hr' hx' hd'=>by
  refine⟨hd',a'.tmps.getD 2 undef,?_,φ',_,rfl,?_,hr',hx'⟩
  ·rw[p8,hres];simp[B1]
  ·have:=hf'.2 2;rw[hfr'] at this;exact this
 cases hn:ad.isNone with
 | true=>
   rw[hn] at f3 d3;refine wp_cond (RV.eX (bO (x:=.tmp 4) (x':=.tmp 4) rfl f3:dK φ2 h w2 (.bool true) _)) ?_;refine jU hC hCL hm 1 r2 a2 c2 (e2 v h) f3 r2' (hG.ext x12) fun φ4 a4 w4 f4 r4 x4 d4=>?_
   exact fin _ φ4 a4 w4 rfl f4 r4 (x12.trans x4) (d4.trans d3)
 | false=>
   rw[hn] at f3 d3;refine wp_cond (RV.eX (bO (x:=.tmp 4) (x':=.tmp 4) rfl f3:dK φ2 h w2 (.bool false) _)) ?_;refine wp_skip ?_;refine jU hC hCL hm 1 r3 a3 c3 (e3 v hv h) f3 r2' (hG.ext x12) fun φ4 a4 w4 f4 r4 x4 d4=>?_
   exact fin _ φ4 a4 w4 rfl f4 r4 (x12.trans x4) (d4.trans d3)
end Sz

/- A call's answer in the empty abstract heap is its answer in any. No program is named here. -/
namespace Sz
open Go
variable {X:World→Prop}
def h0:aa:=⟨0,[],0,0⟩
theorem oX {P:Program} {f:Nat} {args:List AV} {v:AV} {h':aa} (hv:v.refs=0) (ha:AV.ai args=0)
 (he:∀φ w cargs,HR φ h0 w→fv P X φ h0 w→iv φ h0 w args cargs→((callFunc f cargs).run P w=.ok (.enter f cargs) w∧Calls P f cargs w (iu φ h0 w v h'))∨
     ∃cv w' φ',(callFunc f cargs).run P w=.ok (.value cv) w'∧dK φ' h' w' v cv∧HR φ' h' w'∧Ext φ h0 w φ' h' w'):fX P X f args v:=by
 intro φ h w cargs hr hG hargs
 let φ0:dp:=⟨φ.at_,fun b=>φ.gh b∨∃id,live h id∧(φ id).eM=b⟩
 have nol:∀id,¬ live h0 id:=fun id ⟨o,hg,_⟩=>by simp[aa.get,h0] at hg
 have MD:HR φ0 h0 w:=by
  refine⟨rfl,fun id cs hg=>by simp[aa.get,h0] at hg,fun id es hg=>by simp[aa.get,h0] at hg,fun i j hi=>absurd hi (nol i),fun b hb=>⟨?_,fun id hl=>absurd hl (nol id)⟩⟩;rcases hb with hb | ⟨id,hl,rfl⟩
  ·exact (hr.gh b hb).1
  ·exact hr.dW hl
 have K4:∀b,Pr φ h w b→Pr φ0 h0 w b:=fun b hb=>⟨hb.1,fun id hl=>absurd hl (nol id),fun hc=>by
  rcases hc with hc | ⟨id,hl,e⟩
  ·exact hb.2.2 hc
  ·exact hb.2.1 id hl e⟩
 have ha0:iv φ0 h0 w args cargs:=⟨hargs.1,fun j hj=>(hargs.2 j hj).mono (fun id hid _=>by
  have:=AV.cA (List.getElem_mem hj);omega) fun b hb=>⟨K4 b hb,rfl⟩⟩
 have back:∀(φ':dp) (cv:Value) (w':World),dK φ' h' w' v cv→Ext φ0 h0 w φ' h' w'→oK φ h w v cv w':=fun φ' cv w' g1 g3=>by
  have hsame:PX w w':=fun b hb=>by
   by_cases hg:φ0.gh b
   ·exact g3.gh.2 b hg
   ·exact (g3.pr b ⟨hb,fun id hl=>absurd hl (nol id),hg⟩).2
  obtain⟨s1,s2⟩:=zy hr g3.os g3.tape g3.output g3.size hsame;refine⟨g1.mono (fun id hid _=>by omega) fun b hb=>⟨⟨hb.1,fun id hl e=>?_,fun hg=>?_⟩,rfl⟩,s1,s2,hsame⟩
  ·exact hb.2.2 (by rw[g3.gh.1];exact .inr ⟨id,hl,e⟩)
  ·exact hb.2.2 (by rw[g3.gh.1];exact .inl hg)
 have hG0:fv P X φ0 h0 w:=by
  obtain⟨w1,g1,g2⟩:=hG;refine⟨w1,g1,fun b hb=>?_⟩;obtain⟨a1,a2,a3⟩:=g2 b hb;refine⟨a1,?_,a3⟩;rcases a2 with a2 | a2
  ·exact .inl (.inl a2)
  ·exact .inr (K4 b a2)
 rcases he φ0 w cargs MD hG0 ha0 with⟨e1,e2⟩ | ⟨cv,w',φ',e1,e2,e3,e4⟩
 ·refine .inl ⟨e1,e2.mono fun e w' he=>?_⟩;obtain⟨φ',cv,rfl,g1,g2,g3⟩:=he;exact⟨cv,rfl,back φ' cv w' g1 g3⟩
 ·exact .inr ⟨cv,w',e1,back φ' cv w' e2 e4⟩
theorem ct {P:Program} {E:Env} (hE:bW P X E) {n f:Nat} {args:List AV} {v:AV} {h':aa} (he:au E n f args h0=some (v,h')) (hv:v.refs=0) (ha:AV.ai args=0):fX P X f args v:=
 oX (h':=h') hv ha fun φ w cargs hr hG hargs=>(rS hE n).1 f args h0 v h' he φ w cargs hr hG hargs
theorem Co {φ:dp} {h h':aa} {w:World} (hg:∀id,h'.get id=h.get id):Pr φ h' w=Pr φ h w:=by
 funext b;unfold Pr live;simp only[hg]
theorem HR.congr {φ:dp} {h h':aa} {w:World} (hg:∀id,h'.get id=h.get id) (hn:h'.next=h.next) (hw:h.wf) (hr:HR φ h' w):HR φ h w:=by
 have hp:=Co (φ:=φ) (w:=w) hg;refine⟨hw,fun id cs hi=>?_,fun id es hi=>?_,fun i j hi hj e=>hr.inj i j ?_ ?_ e,fun b hb=>⟨(hr.gh b hb).1,fun id hl=>(hr.gh b hb).2 id ?_⟩⟩
 ·have:=hr.rows id cs (by rw[hg];exact hi);unfold ov dK at this ⊢;rw[hp,hn] at this;exact this
 ·have:=hr.maps id es (by rw[hg];exact hi);unfold rP dK at this ⊢;rw[hp,hn] at this;exact this
 ·unfold live at hi ⊢;rw[hg];exact hi
 ·unfold live at hj ⊢;rw[hg];exact hj
 ·unfold live at hl ⊢;rw[hg];exact hl
theorem wE {m:Nat} {g g':Nat→Nat} (hg:∀i,i < m→g i=g' i) {v:AV} (h:nk m v=true):sig g v=sig g' v:=by
 cases v with
 | ptr id off=>simp only[sig];rw[hg id (of_decide_eq_true h)]
 | vec id off len sz lb=>simp only[sig];rw[hg id (of_decide_eq_true h)]
 | map id=>simp only[sig];rw[hg id (of_decide_eq_true h)]
 | _=>rfl
theorem BA {m:Nat} {g g':Nat→Nat} (hg:∀i,i < m→g i=g' i) {o:bf} (h:xJ m o=true):eR g o=eR g' o:=by
 cases o with
 | dead=>rfl
 | row cs=>
   simp only[eR];congr 1;exact List.map_congr_left fun v hv=>wE hg (List.all_eq_true.1 h v hv)
 | map es=>
   simp only[eR];congr 1;refine List.map_congr_left fun e he=>?_
   have:=List.all_eq_true.1 h e he;rw[Bool.and_eq_true] at this;rw[wE hg this.1,wE hg this.2]
theorem vh {P:Program} {E:Env} (hE:bW P X E) {n f:Nat} {args:List AV} {os:List bf} {v:AV} {h1:aa} {r:Option (List bf)} {qs:List Nat} (he:au E n f args (tI os)=some (v,h1)) (hv:v.refs=0)
 (ha:∀a ∈ args,nk os.length a=true) (hle:os.length≤(r.getD os).length) (hs:xx h1 (nJ os.length qs) (r.getD os)):bX P X f args os v r:=by
 intro φ h w τ cargs hr hG S hτ hall hargs;have MD:=OZ hr S
 have hG0:fv P X (kQ φ h (fun i=>τ.getD i 0) os) (tI os) w:=by
  obtain⟨w1,g1,g2⟩:=hG;refine⟨w1,g1,fun b hb=>?_⟩;obtain⟨a1,a2,a3⟩:=g2 b hb;refine⟨a1,?_,a3⟩;rcases a2 with a2 | a2
  ·exact .inl (.inl a2)
  ·exact .inr (zS hr S a2)
 have ha0:iv (kQ φ h (fun i=>τ.getD i 0) os) (tI os) w args cargs:=by
  refine⟨by rw[hargs.1,List.length_map],fun j hj=>?_⟩;have h2:=hargs.2 j (by simpa using hj);rw[List.getElem_map] at h2
  have:=RV.swap (φ':=kQ φ h (fun i=>τ.getD i 0) os) (nx':=os.length) (m:=os.length) (pr':=Pr (kQ φ h (fun i=>τ.getD i 0) os) (tI os) w) (a:=fun i=>τ.getD i 0) (b:=fun i=>i) (fun i hi=>⟨rfl,hi⟩)
   (fun x hx=>zS hr S hx) (ha _ (List.getElem_mem hj)) h2
  rw[xb] at this;exact this
 have back:∀(φ1:dp) (cv:Value) (w':World),dK φ1 h1 w' v cv→HR φ1 h1 w'→Ext (kQ φ h (fun i=>τ.getD i 0) os) (tI os) w φ1 h1 w'→
  ∃φ',dK φ' (jB h τ r) w' v cv∧HR φ' (jB h τ r) w'∧Ext φ h w φ' (jB h τ r) w':=fun φ1 cv w' g1 g2 g3=>by
  obtain⟨u1,u2,u3⟩:=Nn hr S hτ hall hle g3 g2 hs;have hvv:dK (lI φ φ1 h.next qs) (join h τ (r.getD os)) w' v cv:=g1.mono (fun id hid _=>by omega) fun b hb=>⟨u3 b hb,rfl⟩
  cases r with
  | some os'=>exact⟨_,hvv,u1,u2⟩
  | none=>
    have hnx:(join h τ os).next=h.next:=by rw[yG];omega
    have hget:∀k ∈ τ,∃o,h.get k=some o:=fun k hk=>by
     obtain⟨i,hi,rfl⟩:=List.getElem_of_mem hk;have hi':i < os.length:=by omega
     have:=(S.obj i _ (List.getElem?_eq_getElem hi') (hall _ (List.getElem_mem hi'))).1;have e:τ.getD i 0=τ[i]:=by simp[List.getD,hi]
     rw[e] at this;exact⟨_,this⟩
    have hnd:τ.Nodup:=by
     rw[List.nodup_iff_pairwise_ne,List.pairwise_iff_getElem];intro i j hi hj hij e;have hi':i < os.length:=by omega
     have hj':j < os.length:=by omega
     have e1:τ.getD i 0=τ[i]:=by simp[List.getD,hi]
     have e2:τ.getD j 0=τ[j]:=by simp[List.getD,hj]
     have:=S.inj i j _ _ (List.getElem?_eq_getElem hi') (List.getElem?_eq_getElem hj') (hall _ (List.getElem_mem hi')) (hall _ (List.getElem_mem hj')) (by rw[e1,e2];exact e);omega
    have hgt:∀id,(join h τ os).get id=h.get id:=fun id=>by
     by_cases hm:id ∈ τ
     ·obtain⟨i,hi,rfl⟩:=List.getElem_of_mem hm;have hi':i < os.length:=by omega
      have e:j5 h τ i=τ[i]:=by unfold j5;rw[if_pos hi];simp[List.getD,hi]
      have e1:τ.getD i 0=τ[i]:=by simp[List.getD,hi]
      have j1:=zd (os':=os) hnd hget (List.getElem?_eq_getElem hi');obtain⟨s1,s2⟩:=S.obj i _ (List.getElem?_eq_getElem hi') (hall _ (List.getElem_mem hi'));rw[e] at j1;rw[e1] at s1;rw[j1,s1,BA (g':=fun i=>τ.getD i 0) (fun p hp=>?_) s2];unfold j5;rw[if_pos (by omega)]
     ·by_cases hl:id < h.next
      ·exact vG hl hm
      ·have n1:h.get id=none:=by unfold aa.get;rw[if_neg hl]
       have n2:(join h τ os).get id=none:=by unfold aa.get;rw[if_neg (by rw[hnx];exact hl)]
       rw[n1,n2]
    have hp:=Co (φ:=lI φ φ1 h.next qs) (w:=w') hgt;refine⟨lI φ φ1 h.next qs,?_,HR.congr hgt hnx hr.wf u1,?_⟩
    ·have:=hvv;unfold dK at this ⊢;dsimp only[Option.getD] at this;rw[hp,hnx] at this;exact this
    ·refine⟨u2.os,u2.tape,u2.output,u2.size,Nat.le_refl _,u2.uJ,fun b hb=>?_,u2.gh⟩;obtain⟨p1,p2⟩:=u2.pr b hb;dsimp only[Option.getD] at p1;rw[hp] at p1;exact⟨p1,p2⟩
 rcases (rS hE n).1 f args (tI os) v h1 he _ w cargs MD hG0 ha0 with⟨e1,e2⟩ | ⟨cv,w',φ1,e1,e2,e3,e4⟩
 ·refine .inl ⟨e1,e2.mono fun e w' he=>?_⟩;obtain⟨φ1,cv,rfl,g1,g2,g3⟩:=he;obtain⟨φ',b1,b2,b3⟩:=back φ1 cv w' g1 g2 g3;exact⟨φ',cv,rfl,b1,b2,b3⟩
 ·obtain⟨φ',b1,b2,b3⟩:=back φ1 cv w' e2 e3 e4;exact .inr ⟨cv,w',φ',e1,b1,b2,b3⟩
theorem vp {h1:aa} {m:Nat} {qs:List Nat} {os':List bf} (hq:qs.Nodup) (hm:∀q ∈ qs,m≤q) (hl:os'.length≤m+qs.length)
 (ho:∀i o,os'[i]? =some o→(∀_:o=.dead,False)→h1.get (nJ m qs i)=some (eR (nJ m qs) o)∧xJ os'.length o=true):xx h1 (nJ m qs) os':=by
 refine⟨ho,fun i j o o' h2 h3 _ _ e=>?_⟩;have hi:=(List.getElem?_eq_some_iff.1 h2).1;have hj:=(List.getElem?_eq_some_iff.1 h3).1;unfold nJ at e;have at':∀p,p < os'.length→¬ p < m→∃hp:p - m < qs.length,qs.getD (p - m) 0=qs[p - m]:=fun p hp hn=>⟨by omega,by simp[List.getD,show p - m < qs.length by omega]⟩
 split at e
 ·rename_i a;split at e
  ·exact e
  ·rename_i b;obtain⟨hp,e1⟩:=at' j hj b;rw[e1] at e;have:=hm _ (List.getElem_mem hp);omega
 ·rename_i a;obtain⟨hp,e1⟩:=at' i hi a;split at e
  ·rename_i b;rw[e1] at e;have:=hm _ (List.getElem_mem hp);omega
  ·rename_i b;obtain⟨hp2,e2⟩:=at' j hj b;rw[e1,e2] at e;have:=(List.getElem_inj hq).1 e;omega
def Rc (M:List AV→List bf→Option (AV×Option (List bf))) (k:Nat) (rest:List AV) (h:aa):Option bf→Option (AV×aa)
 | some (.row cs)=>(match nA h (fc cs [k]) (fc cs [k]) with
   | some os=>if AV.ai rest=0 then (M (.ptr 0 0::rest) os).map fun r=>(r.1,jB h (fc cs [k]) r.2) else none
   | none=>none)
 | _=>none
def TR (M:List AV→List bf→Option (AV×Option (List bf))) (rest:List AV) (h:aa) (τ:List Nat):Option (List bf)→Option (AV×aa)
 | some os=>if AV.ai rest=0 then (M (.ptr 0 0::rest) os).map fun r=>(r.1,jB h τ r.2) else none
 | none=>none
def SO (h:aa) (τ:List Nat):Option (AV×Option (List bf))→Option (AV×aa)
 | some r=>some (r.1,jB h τ r.2)
 | none=>none
theorem Hk (M:List AV→List bf→Option (AV×Option (List bf))) (k:Nat) (rest:List AV) (h:aa):kT M (.ptr k 0::rest) h=Rc M k rest h (h.get k):=by
 cases hg:h.get k with
 | none=>simp only[kT,hg,Rc]
 | some o=>
   cases o with
   | row cs=>
     simp only[kT,hg,Rc];cases nA h (fc cs [k]) (fc cs [k])<;>rfl
   | _=>simp only[kT,hg,Rc]
theorem MW (M:List AV→List bf→Option (AV×Option (List bf))) (k:Nat) (rest:List AV) (h:aa) (cs:List AV):Rc M k rest h (some (.row cs))=TR M rest h (fc cs [k]) (nA h (fc cs [k]) (fc cs [k])):=by
 rfl
theorem BD (M:List AV→List bf→Option (AV×Option (List bf))) (rest:List AV) (h:aa) (τ:List Nat) (os:List bf) (hr:AV.ai rest=0):TR M rest h τ (some os)=SO h τ (M (.ptr 0 0::rest) os):=by
 show (if AV.ai rest=0 then (M (.ptr 0 0::rest) os).map fun r=>(r.1,jB h τ r.2) else none)=_;rw[if_pos hr];cases M (.ptr 0 0::rest) os<;>rfl
theorem MX (M:List AV→List bf→Option (AV×Option (List bf))) (h:aa) (τ:List Nat) (os:List bf):TR M [] h τ (some os)=SO h τ (M [.ptr 0 0] os):=BD M [] h τ os (by simp[AV.ai])
theorem Sx (h:aa) (τ:List Nat) (r:AV×Option (List bf)):SO h τ (some r)=some (r.1,jB h τ r.2):=rfl
theorem yF (h:aa) (τ:List Nat):SO h τ none=none:=rfl
theorem LJ (h:aa) (τ:List Nat):jB h τ none=h:=rfl
theorem L5 (h:aa) (τ:List Nat) (os:List bf):jB h τ (some os)=join h τ os:=rfl
theorem Kg (acc:List Nat):fc [] acc=acc:=rfl
theorem af (v:AV) (r:List AV) (acc:List Nat):fc (v::r) acc=match v.top with | some j=>if p7 acc j then fc r acc else fc r (acc++[j]) | none=>fc r acc:=rfl
theorem Jq (id:Nat):p7 [] id=false:=rfl
theorem GH (k:Nat) (r:List Nat) (id:Nat):p7 (k::r) id=if k=id then true else p7 r id:=rfl
theorem Jw (id:Nat):qH [] id=0:=rfl
theorem Gf (k:Nat) (r:List Nat) (id:Nat):qH (k::r) id=if k=id then 0 else qH r id+1:=rfl
theorem Hq (h:aa) (τ:List Nat):nA h τ []=some []:=rfl
theorem DX (h:aa) (τ:List Nat) (id:Nat) (r:List Nat):nA h τ (id::r)=match h.get id,nA h τ r with | some o,some os=>if okO τ o then some (eR (qH τ) o::os) else none | _,_=>none:=rfl
theorem aq (τ:List Nat) (cs:List AV):okO τ (.row cs)=cs.all (okV τ):=rfl
theorem LU (τ:List Nat) (es:List (AV×AV)):okO τ (.map es)=es.all fun e=>okV τ e.1&&okV τ e.2:=rfl
theorem LY (τ:List Nat) (v:AV):okV τ v=match v.top with | some id=>p7 τ id | none=>v.refs==0:=rfl
theorem ag (g:Nat→Nat) (cs:List AV):eR g (.row cs)=.row (cs.map (sig g)):=rfl
theorem Jr (g:Nat→Nat) (es:List (AV×AV)):eR g (.map es)=.map (es.map fun e=>(sig g e.1,sig g e.2)):=rfl
theorem Qz (g:Nat→Nat):eR g .dead=.dead:=rfl
theorem K0 (g:Nat→Nat) (os:List bf) (h:aa):kZ g [] os h=h:=by unfold kZ;rfl
theorem GG (g:Nat→Nat) (k:Nat) (ks:List Nat) (o:bf) (os:List bf) (h:aa):kZ g (k::ks) (o::os) h=kZ g ks os (s8 h k (eR g o)):=rfl
theorem II (g:Nat→Nat) (h:aa):qZ g [] h=h:=rfl
theorem Gx (g:Nat→Nat) (o:bf) (os:List bf) (h:aa):qZ g (o::os) h=qZ g os (h.alloc (eR g o)):=rfl
theorem oV (o:bf):tI [o]=⟨1,[o],1,1⟩:=rfl
theorem jJ {v:AV} (n:Nat) (h:v.refs=0):nk n v=true:=by
 cases v with
 | ptr id off=>simp[AV.refs] at h
 | vec id off len sz lb=>simp[AV.refs] at h
 | map id=>simp[AV.refs] at h
 | _=>simpa[nk] using h
theorem mH {cs:List AV} (g:Nat→Nat) (h:AV.ai cs=0):eR g (.row cs)=.row cs:=by
 have e:cs.map (sig g)=cs:=by
  conv=>rhs;rw[←List.map_id cs]
  exact List.map_congr_left fun v hv=>(xR (v:=v) (by have h2:=AV.cA (v:=v) (l:=cs) hv;omega):sig g v=v)
 show bf.row (cs.map (sig g))=_;rw[e]
theorem kN {cs:List AV} (n:Nat) (h:AV.ai cs=0):xJ n (.row cs)=true:=
 List.all_eq_true.2 fun v hv=>jJ n (by have:=AV.cA hv;omega)
theorem AN {rest:List AV} (hr:AV.ai rest=0):∀a ∈ AV.ptr 0 0::rest,nk 1 a=true:=fun a ha=>by
 rcases List.mem_cons.1 ha with rfl | ha
 ·rfl
 ·exact jJ 1 (by have:=AV.cA ha;omega)
theorem rR {P:Program} {E:Env} (hE:bW P X E) {n f:Nat} {rest cs cs':List AV} {v:AV} {h1:aa} (he:au E n f (.ptr 0 0::rest) (tI [.row cs])=some (v,h1)) (hg:h1.get 0=some (.row cs'))
 (hv:v.refs=0) (hr:AV.ai rest=0) (hc:AV.ai cs'=0):bX P X f (.ptr 0 0::rest) [.row cs] v (some [.row cs']):=
 vh (qs:=[]) hE he hv (AN hr) (Nat.le_refl _) (vp (by simp) (by simp) (by simp) fun i o ho _=>by
  cases i with
  | succ i=>simp at ho
  | zero=>
    simp only[Option.getD,List.getElem?_cons_zero,Option.some.injEq] at ho;subst ho;refine⟨?_,kN _ hc⟩;rw[mH _ hc];exact hg)
theorem yi {P:Program} {E:Env} (hE:bW P X E) {n f:Nat} {rest cs:List AV} {v:AV} {h1:aa} (he:au E n f (.ptr 0 0::rest) (tI [.row cs])=some (v,h1)) (hg:h1.get 0=some (.row cs))
 (hv:v.refs=0) (hr:AV.ai rest=0) (hc:AV.ai cs=0):bX P X f (.ptr 0 0::rest) [.row cs] v none:=
 vh (qs:=[]) hE he hv (AN hr) (Nat.le_refl _) (vp (by simp) (by simp) (by simp) fun i o ho _=>by
  cases i with
  | succ i=>simp at ho
  | zero=>
    simp only[Option.getD,List.getElem?_cons_zero,Option.some.injEq] at ho;subst ho;refine⟨?_,kN _ hc⟩;rw[mH _ hc];exact hg)
end Sz

/- Equations by which an abstract run is worked out. No program is named here. -/
namespace Sz
open Go
end Sz

/- Loops as they stand at their heads; specs as primitive calls. No program is named here. -/
namespace Sz
open Go
variable {X:World→Prop}
def cM (B:List AV→aa→Option (Ex×List AV×aa)) (live:List Bool) (n0:Nat):Nat→List AV→aa→Option (Ex×List AV×aa)
 | 0,_,_=>none
 | n+1,fr,h=>
   match B fr h with
   | some (.normal,fr',h')=>cM B live n0 n (gc n0 (clear live fr') h').1 (gc n0 (clear live fr') h').2
   | r=>r
theorem uD (B:List AV→aa→Option (Ex×List AV×aa)) (live:List Bool) (n0:Nat):∀n fr h,mE B live n0 n fr h=cM B live n0 n (gc n0 (clear live fr) h).1 (gc n0 (clear live fr) h).2
 | 0,_,_=>rfl
 | n+1,fr,h=>by
   unfold mE cM
   cases hb:B (gc n0 (clear live fr) h).1 (gc n0 (clear live fr) h).2 with
   | none=>rfl
   | some r=>
     obtain⟨ex,fr1,h1⟩:=r
     cases ex with
     | normal=>exact uD B live n0 n fr1 h1
     | exit id=>rfl
     | ret=>rfl
def ju (n0 wl:Nat):Option (Ex×List AV×aa)→Option (Ex×List AV×aa)
 | none=>none
 | some (ex,fr,h)=>some (ex,(gc n0 fr h).1,⟨(gc n0 fr h).2.next,(gc n0 fr h).2.fi,min wl (gc n0 fr h).2.wl,(gc n0 fr h).2.md⟩)
def SV (B:List AV→aa→Option (Ex×List AV×aa)) (live:List Bool) (n0 n:Nat) (s:List AV×aa):Option (Ex×List AV×aa):=cM B live n0 n s.1 s.2
theorem NZ (B:List AV→aa→Option (Ex×List AV×aa)) (live:List Bool) (n0 n:Nat) (fr:List AV) (h:aa):SV B live n0 n (fr,h)=cM B live n0 n fr h:=rfl
theorem Bl (C:Nat→List AV→aa→Option (AV×aa)) (n:Nat) (live:List Bool) (a:bF) (fr:List AV) (h:aa):
 aT C n (.loop live a) fr h=ju h.next h.wl (SV (aT C n a) live h.next n (gc h.next (clear live fr) ⟨h.next,h.fi,h.next,h.md⟩)):=by
 conv=>lhs;unfold aT
 rw[uD];unfold SV ju;split
 ·rename_i e;rw[e];rfl
 ·rename_i e;rw[e];rfl
theorem O3 (n0 wl:Nat) (ex:Ex) (fr:List AV) (h:aa):ju n0 wl (some (ex,fr,h))=
 match gc n0 fr h with
 | (fr',⟨nx,os,w,md⟩)=>some (ex,fr',⟨nx,os,min wl w,md⟩):=rfl
theorem aC (B:List AV→aa→Option (Ex×List AV×aa)) (live:List Bool) (n0 n:Nat) (fr:List AV) (h:aa):cM B live n0 (n+1) fr h=
 match B fr h with
 | some (.normal,fr',h')=>SV B live n0 n (gc n0 (clear live fr') h')
 | r=>r:=rfl
structure aR where
 f:Nat
 S:List AV→Option AV
def eK (P:Program) (X:World→Prop) (s:aR):Prop:=∀args v,s.S args=some v→fX P X s.f args v
abbrev bC (P:Program) (s:aR):Prop:=eK P (fun _=>True) s
open Classical in
noncomputable def aR.of {α:Type} (f:Nat) (enc:α→List AV) (pre:α→Prop) (val:α→AV):aR:=⟨f,fun args=>if h:∃a,args=enc a∧pre a then some (val h.choose) else none⟩
def jx:List aR→Nat→List AV→Option AV
 | [],_,_=>none
 | s::r,f,args=>if s.f=f then (match s.S args with | some v=>some v | none=>jx r f args) else jx r f args
def ob:List aR→Nat→List aR
 | [],_=>[]
 | s::r,f=>if s.f==f then s::ob r f else ob r f
theorem H6 (f:Nat):ob [] f=[]:=rfl
theorem wW (s:aR) (r:List aR) (f:Nat):ob (s::r) f=if s.f==f then s::ob r f else ob r f:=rfl
theorem sG (f:Nat) (args:List AV):∀ss:List aR,jx (ob ss f) f args=jx ss f args
 | []=>rfl
 | s::r=>by
   rw[wW];by_cases h:s.f=f
   ·rw[if_pos (by simpa using h)];simp only[jx,h,if_true,sG f args r]
   ·rw[if_neg (by simpa using h),sG f args r];simp only[jx,h,if_false]
def E4 (fn:Nat→Option ck) (ss:List aR):Env:=⟨fn,jx ss,fun _ _ _=>none⟩
theorem Bz {P:Program} {fn:Nat→Option ck} (hm:P.follows .mixedOrders=true) (hfn:∀f F,fn f=some F→cE P f F) {ss:List aR} (hs:∀s ∈ ss,eK P X s):bW P X (E4 fn ss):=by
 refine⟨hm,hfn,fun f args v hp=>?_,fun f args os v r h=>by cases h⟩
 have key:∀ss:List aR,(∀s ∈ ss,eK P X s)→jx ss f args=some v→fX P X f args v:=by
  intro ss
  induction ss with
  | nil=>intro _ h;cases h
  | cons s r ih=>
    intro hs hl;unfold jx at hl;split at hl
    ·rename_i hf;split at hl
     ·rename_i v' hv';cases hl;rw[←hf];exact hs s (by simp) args v hv'
     ·exact ih (fun t ht=>hs t (by simp[ht])) hl
    ·exact ih (fun t ht=>hs t (by simp[ht])) hl
 exact key ss hs hp
structure bL where
 f:Nat
 S:List AV→List bf→Option (AV×Option (List bf))
def lF:List bL→Nat→List AV→List bf→Option (AV×Option (List bf))
 | [],_,_,_=>none
 | m::r,f,args,os=>if m.f=f then (match m.S args os with | some v=>some v | none=>lF r f args os) else lF r f args os
def lV:List bL→Nat→List bL
 | [],_=>[]
 | m::r,f=>if m.f==f then m::lV r f else lV r f
theorem DR (f:Nat):lV [] f=[]:=rfl
theorem uu (m:bL) (r:List bL) (f:Nat):lV (m::r) f=if m.f==f then m::lV r f else lV r f:=rfl
theorem tt (f:Nat) (args:List AV) (os:List bf):∀ms:List bL,lF (lV ms f) f args os=lF ms f args os
 | []=>rfl
 | m::r=>by
   rw[uu];by_cases h:m.f=f
   ·rw[if_pos (by simpa using h)];simp only[lF,h,if_true,tt f args os r]
   ·rw[if_neg (by simpa using h),tt f args os r];simp only[lF,h,if_false]
def dk (P:Program) (X:World→Prop) (m:bL):Prop:=∀args os v r,m.S args os=some (v,r)→bX P X m.f args os v r
abbrev jT (P:Program) (m:bL):Prop:=dk P (fun _=>True) m
def Kb (fn:Nat→Option ck) (ss:List aR) (ms:List bL):Env:=⟨fn,jx ss,lF ms⟩
theorem GU {P:Program} {fn:Nat→Option ck} (hm:P.follows .mixedOrders=true) (hfn:∀f F,fn f=some F→cE P f F) {ss:List aR} (hs:∀s ∈ ss,eK P X s) {ms:List bL} (hms:∀m ∈ ms,dk P X m):
 bW P X (Kb fn ss ms):=by
 refine⟨hm,hfn,(Bz hm hfn hs).xG,fun f args os v r hp=>?_⟩
 have key:∀ms:List bL,(∀m ∈ ms,dk P X m)→lF ms f args os=some (v,r)→bX P X f args os v r:=by
  intro ms
  induction ms with
  | nil=>intro _ h;cases h
  | cons s q ih=>
    intro hs hl;unfold lF at hl;split at hl
    ·rename_i hf;split at hl
     ·rename_i v' hv';cases hl;rw[←hf];exact hs s (by simp) args os v r hv'
     ·exact ih (fun t ht=>hs t (by simp[ht])) hl
    ·exact ih (fun t ht=>hs t (by simp[ht])) hl
 exact key ms hms hp
theorem vR (args:List AV) (h:aa):kT (fun _ _=>none) args h=none:=by
 unfold kT;split
 ·split
  ·split
   ·split<;>rfl
   ·rfl
  ·rfl
 ·rfl
@[simp] theorem RM (fn:Nat→Option ck) (ss:List aR) (f:Nat):(E4 fn ss).fn f=fn f:=rfl
@[simp] theorem Qj (fn:Nat→Option ck) (ss:List aR):(E4 fn ss).xG=jx ss:=rfl
theorem fv.mono {P:Program} {Y:World→Prop} (hXY:∀w,X w→Y w) {φ:dp} {h:aa} {w:World} (g:fv P X φ h w):fv P Y φ h w:=by
 obtain⟨w1,h1,h2⟩:=g;exact⟨w1,⟨h1.1,hXY _ h1.2⟩,h2⟩
theorem bC.lift {P:Program} {s:aR} (h:bC P s):eK P X s:=fun args v hv φ hh w cargs hr hG ha=>h args v hv φ hh w cargs hr (hG.mono fun _ _=>trivial) ha
theorem jT.lift {P:Program} {m:bL} (h:jT P m):dk P X m:=fun args os v r hv φ hh w τ cargs hr hG S h1 h2 ha=>h args os v r hv φ hh w τ cargs hr (hG.mono fun _ _=>trivial) S h1 h2 ha
end Sz

/- Rules by which a run is worked out, step by step. No program is named here. -/
namespace Sz
open Go
section
variable (C:Nat→List AV→aa→Option (AV×aa)) (n:Nat) (fr:List AV) (h:aa)
theorem Ba:aT C n .skip fr h=some (.normal,fr,h):=rfl
theorem Dp (ops:List aU):aT C n (.aD ops) fr h=match cB C ops fr h with | some (fr',h')=>some (.normal,fr',h') | none=>none:=by
 simp only[aT];cases cB C ops fr h<;>rfl
theorem B4 (ops:List aU) (chk:List (Nat×Nat)):aT C n (.nS ops chk) fr h=match nL C ops fr h with | some (fr',h',tr)=>if AS tr chk then some (.normal,fr',h') else none | none=>none:=rfl
theorem Eh (a b:bF):aT C n (.seq a b) fr h=match aT C n a fr h with | some (.normal,fr',h')=>aT C n b fr' h' | r=>r:=rfl
theorem Bc (c:cI) (a b:bF):aT C n (.cond c a b) fr h=match c.ev fr with | .bool t=>if t then aT C n a fr h else aT C n b fr h | _=>none:=rfl
theorem zX (id:Nat) (a:bF):aT C n (.block id a) fr h=match aT C n a fr h with | some (.exit i,fr',h')=>some (if i=id then .normal else .exit i,fr',h') | r=>r:=rfl
theorem Cy (id:Nat) (live:List Bool):aT C n (.exit id live) fr h=some (.exit id,clear live fr,h):=rfl
theorem Dt (live:List Bool):aT C n (.ret live) fr h=some (.ret,clear live fr,h):=rfl
theorem Bq:cB C [] fr h=some (fr,h):=rfl
theorem CJ (d:Option Nat) (o:qR) (r:List aU):cB C (⟨d,.op o,none⟩::r) fr h=match bE fr h o with | some (v,h')=>cB C r (eG fr d v) h' | none=>none:=by
 simp only[cB,cd,cG];cases bE fr h o<;>rfl
theorem zF (d:Option Nat) (f:Nat) (args:List cI) (r:List aU):cB C (⟨d,.call f args,none⟩::r) fr h=match C f (args.map (·.ev fr)) h with | some (v,h')=>cB C r (eG fr d v) h' | none=>none:=by
 simp only[cB,cd,cG];cases C f (args.map (·.ev fr)) h<;>rfl
theorem xA (d:Option Nat) (x:cI) (args:List cI) (r:List aU):cB C (⟨d,.hU x args,none⟩::r) fr h=match x.ev fr with
 | .fn f caps=>(match C f (args.map (·.ev fr)++caps) h with | some (v,h')=>cB C r (eG fr d v) h' | none=>none)
 | _=>none:=by
 simp only[cB,cd,cG]
 cases x.ev fr with
 | fn f caps=>dsimp only;cases C f (args.map (·.ev fr)++caps) h<;>rfl
 | _=>rfl
theorem KF:nL C [] fr h=some (fr,h,[]):=rfl
theorem Hn (s:aU) (r:List aU):nL C (s::r) fr h=match cd C s fr ⟨h.next,h.fi,h.wl,h.next⟩ with
 | some (fr',h')=>(match nL C r fr' ⟨h'.next,h'.fi,h'.wl,min h.md h'.md⟩ with | some (fr2,h2,tr)=>some (fr2,h2,(uV s fr,h,h')::tr) | none=>none)
 | none=>none:=by
 simp only[nL]
 cases cd C s fr ⟨h.next,h.fi,h.wl,h.next⟩ with
 | none=>rfl
 | some p=>
   dsimp only;cases nL C r p.1 ⟨p.2.next,p.2.fi,p.2.wl,min h.md p.2.md⟩<;>rfl
theorem GK (d:Option Nat) (o:qR):cd C ⟨d,.op o,none⟩ fr h=match bE fr h o with | some (v,h')=>some (eG fr d v,h') | none=>none:=by
 simp only[cd,cG];cases bE fr h o<;>rfl
theorem B7 (d:Option Nat) (f:Nat) (args:List cI):cd C ⟨d,.call f args,none⟩ fr h=match C f (args.map (·.ev fr)) h with | some (v,h')=>some (eG fr d v,h') | none=>none:=by
 simp only[cd,cG];cases C f (args.map (·.ev fr)) h<;>rfl
theorem zZ (d:Option Nat) (x:cI) (args:List cI):cd C ⟨d,.hU x args,none⟩ fr h=match x.ev fr with
 | .fn f caps=>(match C f (args.map (·.ev fr)++caps) h with | some (v,h')=>some (eG fr d v,h') | none=>none)
 | _=>none:=by
 simp only[cd,cG]
 cases x.ev fr with
 | fn f caps=>dsimp only;cases C f (args.map (·.ev fr)++caps) h<;>rfl
 | _=>rfl
theorem Ko (x:cI):bE fr h (.lZ x)=some (x.ev fr,h):=rfl
theorem Gv (c x y:cI):bE fr h (.pick c x y)=match c.ev fr with | .bool b=>some (if b then x.ev fr else y.ev fr,h) | _=>none:=rfl
theorem KQ (x:cI):bE fr h (.box x)=match (x.ev fr).cells? with | some cs=>some (.ptr h.next 0,⟨h.next+1,.row cs::h.fi,h.wl,h.md⟩) | none=>none:=rfl
theorem IN (z:List AV) (ps:List (Nat×Nat×cI)):bE fr h (.iz z ps)=match iW z (ps.map fun p=>(p.1,p.2.1,p.2.2.ev fr)) with | some cs=>some (.agg cs,h) | none=>none:=by
 simp only[bE];cases iW z (ps.map fun p=>(p.1,p.2.1,p.2.2.ev fr))<;>rfl
theorem JE (sz len:Nat) (z:List AV) (ps:List (Nat×cI)):bE fr h (.tQ sz len z ps)=match iW z (ps.map fun p=>(p.1*sz,sz,p.2.ev fr)) with | some cs=>some (.vec h.next 0 len sz len,⟨h.next+1,.row cs::h.fi,h.wl,h.md⟩) | none=>none:=by
 simp only[bE];cases iW z (ps.map fun p=>(p.1*sz,sz,p.2.ev fr))<;>rfl
theorem Nc (m:Option Nat) (x:cI):bE fr h (.ld m x)=match Fg h m (x.ev fr) with | some v=>some (v,h) | none=>none:=by
 simp only[bE];cases Fg h m (x.ev fr)<;>rfl
theorem M8 (m:Nat) (x v:cI):bE fr h (.st m x v)=match x.ev fr,(v.ev fr).cells? with
 | .ptr id off,some vs=>match h.row id with
   | some cs=>if vs.length=m∧off+m≤cs.length then some (.undef,(h.set id (.row (putAt cs off vs))).mark id (v.ev fr)) else none
   | none=>none
 | _,_=>none:=rfl
theorem IX (x:cI):bE fr h (.P2 x)=match Gh (x.ev fr) with | some false=>some (x.ev fr,h) | _=>none:=rfl
theorem Kh (op:BinOp) (x y:cI):bE fr h (.bin op x y)=match qJ op (x.ev fr) (y.ev fr) with | some v=>some (v,h) | none=>none:=by
 simp only[bE];cases qJ op (x.ev fr) (y.ev fr)<;>rfl
theorem J3 (neg:Bool) (x y:cI):bE fr h (.beq neg x y)=match x.ev fr,y.ev fr with | .bool a,.bool b=>some (.bool (if neg then !(a==b) else a==b),h) | _,_=>none:=rfl
theorem KG (ks:List Nat) (neg:Bool) (x y:cI):bE fr h (.K9 ks neg x y)=match x.ev fr,y.ev fr with
 | .agg a,.agg b=>(match gz ks a b with | some r=>some (.bool (if neg then !r else r),h) | none=>none)
 | _,_=>none:=by
 simp only[bE];cases x.ev fr<;>try rfl
 cases y.ev fr<;>try rfl
 rename_i a b;dsimp only;cases gz ks a b<;>rfl
theorem IQ (k:Nat) (neg:Bool) (x y:cI):bE fr h (.NQ k neg x y)=match qF k (x.ev fr),qF k (y.ev fr) with | some p,some true=>some (.bool (if neg then !p else p),h) | _,_=>none:=rfl
theorem It (x:cI):bE fr h (.un .not x)=match x.ev fr with | .bool b=>some (.bool (!b),h) | _=>none:=by
 simp only[bE];cases x.ev fr<;>rfl
theorem Ig (x:cI):bE fr h (.un .neg x)=match x.ev fr with | .int k n=>some (.int k (k.wrap (0 - n)),h) | _=>none:=by
 simp only[bE];cases x.ev fr<;>rfl
theorem JF (x:cI):bE fr h (.un .xor x)=match x.ev fr with | .int k n=>some (.int k (yV .xor k (if k.signed then -1 else k.max) n),h) | _=>none:=by
 simp only[bE];cases x.ev fr<;>rfl
theorem Ju (k:IntKind) (x:cI):bE fr h (.K7 k x)=match x.ev fr with | .int _ n=>some (.int k (k.wrap n),h) | _=>none:=rfl
theorem Gl (x:cI):bE fr h (.J6 x)=match x.ev fr with | .str s=>some (.str s,h) | _=>none:=rfl
theorem Hw (x:cI):bE fr h (.CN x)=match x.ev fr with | .int _ n=>if 0≤n∧n < 128 then some (.str [UInt8.ofNat n.toNat],h) else none | _=>none:=rfl
theorem GN (x:cI):bE fr h (.IU x)=match x.ev fr with | .str s=>some (.sl (s.map fun b=>.int .u8 b.toNat),h) | _=>none:=rfl
theorem GQ (x:cI):bE fr h (.Jc x)=match aS h 1 (x.ev fr),x.ev fr with
 | _,.str _=>none
 | some (_,cs),_=>(bytesOf cs).map fun s=>(.str s,h)
 | none,_=>none:=rfl
theorem Jl (kd:Nat) (zero:AV) (ok:Bool) (m k:cI):bE fr h (.S5 kd zero ok m k)=match (match m.ev fr with | .iC=>some [] | .map id=>h.lN id | _=>none) with
 | some es=>(pU kd (k.ev fr) es).map fun r=>(match r with
   | some v=>(if ok then .tuple [v,.bool true] else v,h)
   | none=>(if ok then .tuple [zero,.bool false] else zero,h))
 | none=>none:=rfl
theorem KA (t:Nat) (x:cI):bE fr h (.Ra t x)=some (.iface t (x.ev fr),h):=rfl
theorem Ii (f:Nat) (caps:List cI):bE fr h (.I9 f caps)=some (.fn f (caps.map (·.ev fr)),h):=rfl
theorem Jk:bE fr h .QN=some (.map h.next,⟨h.next+1,.map []::h.fi,h.wl,h.md⟩):=rfl
theorem J2 (bytes:Nat) (z:List AV) (l c:cI):bE fr h (.S9 bytes z l c)=match l.ev fr,c.ev fr with
 | .int .i64 l,.int .i64 c=>if 0≤l∧l≤c∧c*bytes≤140737488355328∧c < 2 ^ 63 then
  some (.vec h.next 0 l.toNat z.length c.toNat,⟨h.next+1,.row (List.replicate c.toNat z).flatten::h.fi,h.wl,h.md⟩) else none
 | _,_=>none:=rfl
theorem Jo (x:cI) (lo hi:Option cI):bE fr h (.xt x lo hi)=match x.ev fr with
 | .str s=>(match sliceB s.length (lo.map (·.ev fr)) (hi.map (·.ev fr)) with | some (l,u)=>some (.str ((s.take u).drop l),h) | none=>none)
 | _=>none:=by
 simp only[bE];cases x.ev fr<;>try rfl
 dsimp only;rename_i s;cases sliceB s.length (lo.map (·.ev fr)) (hi.map (·.ev fr))<;>rfl
theorem JN (sz:Nat) (x:cI) (lo hi mx:Option cI):bE fr h (.NS sz x lo hi mx)=match x.ev fr with
 | .aw=>(match fP 0 0 (lo.map (·.ev fr)) (hi.map (·.ev fr)) (mx.map (·.ev fr)) with | some _=>some (.aw,h) | none=>none)
 | .sl xs=>if (xs.all fun x=>(x.cells?.map List.length)==some sz) then
  (match fP xs.length xs.length (lo.map (·.ev fr)) (hi.map (·.ev fr)) (mx.map (·.ev fr)) with | some (l,u,m)=>some (if m=some l then .aw else .sl ((xs.take u).drop l),h) | none=>none) else none
 | .vec id off len s lb=>if s=sz then
  (match fP len lb (lo.map (·.ev fr)) (hi.map (·.ev fr)) (mx.map (·.ev fr)) with | some (l,u,m)=>some (if m=some l then .aw else .vec id (off+l*sz) (u - l) sz (m.getD lb - l),h) | none=>none) else none
 | _=>none:=by
 simp only[bE];cases x.ev fr<;>try rfl
 ·dsimp only;cases fP 0 0 (lo.map (·.ev fr)) (hi.map (·.ev fr)) (mx.map (·.ev fr))<;>rfl
 ·dsimp only;split
  ·rename_i xs _;cases fP xs.length xs.length (lo.map (·.ev fr)) (hi.map (·.ev fr)) (mx.map (·.ev fr))<;>rfl
  ·rfl
 ·dsimp only;rename_i len _ lb;split
  ·cases fP len lb (lo.map (·.ev fr)) (hi.map (·.ev fr)) (mx.map (·.ev fr))<;>rfl
  ·rfl
theorem KW (off:Nat) (x:cI):bE fr h (.Qn off x)=match x.ev fr with | .ptr id o=>some (.ptr id (o+off),h) | .ip cs=>some (.ip (cs.drop off),h) | _=>none:=rfl
theorem Hd (off:Nat) (x:cI):bE fr h (.P5 off none x)=match x.ev fr with
 | .agg cs=>(match cs[off]? with | some v=>some (v,h) | none=>none)
 | _=>none:=by
 simp only[bE];cases x.ev fr<;>try rfl
 dsimp only;rename_i cs;cases cs[off]?<;>rfl
theorem Gz (off n:Nat) (x:cI):bE fr h (.P5 off (some n) x)=match x.ev fr with
 | .agg cs=>if off+n≤cs.length then some (.agg ((cs.drop off).take n),h) else none
 | _=>none:=rfl
theorem JQ (sz:Nat) (x i:cI):bE fr h (.Ou sz x i)=match x.ev fr,i.ev fr with
 | .sl xs,.int _ i=>if 0≤i then (match xs[i.toNat]? with
  | some v=>(match v.cells? with
    | some cs=>if cs.length=sz then some (.ip cs,h) else none
    | none=>none)
  | none=>none) else none
 | .vec id off len s _,.int _ i=>if 0≤i∧i < len∧s=sz then some (.ptr id (off+i.toNat*sz),h) else none
 | _,_=>none:=rfl
theorem I0 (x i:cI):bE fr h (.LA x i)=match x.ev fr,i.ev fr with
 | .str s,.int _ i=>if 0≤i then (match s[i.toNat]? with | some b=>some (.int .u8 b.toNat,h) | none=>none) else none
 | _,_=>none:=by
 simp only[bE];cases x.ev fr<;>try rfl
 cases i.ev fr<;>try rfl
 rename_i s k i;dsimp only;cases s[i.toNat]?<;>rfl
theorem J7 (x:cI) (i:Nat):bE fr h (.ext x i)=match x.ev fr with
 | .tuple vs=>(match vs[i]? with | some v=>some (v,h) | none=>none)
 | _=>none:=by
 simp only[bE];cases x.ev fr<;>try rfl
 rename_i vs;dsimp only;cases vs[i]?<;>rfl
theorem Ge (x:cI):bE fr h (.lens x)=match x.ev fr with | .str s=>some (.int .i64 s.length,h) | _=>none:=rfl
theorem eC (x:cI):bE fr h (.uR x)=match x.ev fr with
 | .aw=>some (.int .i64 0,h)
 | .sl xs=>some (.int .i64 xs.length,h)
 | .vec _ _ n _ _=>some (.int .i64 n,h)
 | _=>none:=rfl
theorem mW (x y:cI):bE fr h (.mx x y)=match x.ev fr,y.ev fr with | .int k a,.int _ b=>some (.int k (if a < b then b else a),h) | _,_=>none:=rfl
theorem LP (x y:cI):bE fr h (.mn x y)=match x.ev fr,y.ev fr with | .int k a,.int _ b=>some (.int k (if b < a then b else a),h) | _,_=>none:=rfl
theorem Jb (sz bytes:Nat) (x y:cI):bE fr h (.app sz bytes x y)=match aS h sz (y.ev fr) with
 | none=>none
 | some (n,news)=>
   match x.ev fr with
   | .aw=>if n=0 then some (.aw,h) else
     if n*bytes≤140737488355328∧n < 2 ^ 63 then some (.vec h.next 0 n sz n,⟨h.next+1,.row news::h.fi,h.wl,h.md⟩) else none
   | .vec id off len s lb=>match h.row id with
     | some cs=>if s=sz∧off+len*sz≤cs.length then
      if n=0 then some (.vec id off len s lb,h) else
      if len+n≤lb∧off+(len+n)*sz≤cs.length then some (.vec id off (len+n) sz lb,(h.set id (.row (putAt cs (off+len*sz) news))).mark id (.agg news)) else
      if (len+n)*bytes≤140737488355328∧len+n < 2 ^ 63 then
       some (.vec h.next 0 (len+n) sz (len+n),(h.set id .dead).alloc (.row ((cs.drop off).take (len*sz)++news))) else none
       else none
     | none=>none
   | _=>none:=rfl
theorem Iu (len:Nat) (z:List AV) (ps:List (Nat×cI)):bE fr h (.K6 len z ps)=match iW z (ps.map fun p=>(p.1*1,1,p.2.ev fr)) with | some cs=>if (bytesOf cs).isSome then some (.sl cs,h) else none | none=>none:=rfl
theorem GL (x:cI):bE fr h (.y9 x)=match x.ev fr with | .sl cs=>(bytesOf cs).map fun s=>(.str s,h) | _=>none:=rfl
theorem KP:bE fr h .NB=some (.aw,h):=rfl
theorem HM (neg:Bool) (x:cI):bE fr h (.Ee neg x)=match x.ev fr with
 | .sl (_::_)=>some (.bool neg,h)
 | .vec _ _ (_+1) _ _=>some (.bool neg,h)
 | _=>none:=rfl
theorem KD (z:List AV) (x:cI):bE fr h (.Rg z x)=match x.ev fr with
 | .aw=>some (.tuple [],h)
 | .vec id off len s _=>match h.row id with
   | some cs=>if s=z.length∧off+len*s≤cs.length then some (.tuple [],(h.set id (.row (putAt cs off (List.replicate len z).flatten))).mark id (.agg z)) else none
   | none=>none
 | _=>none:=rfl
theorem J0 (h:aa) (id:Nat):h.row id=match h.get id with | some (.row cs)=>some cs | _=>none:=rfl
theorem Qg (nx:Nat) (os:List bf) (wl md id:Nat):aa.get ⟨nx,os,wl,md⟩ id=if id < nx then os[nx - 1 - id]? else none:=rfl
theorem set_mk (nx:Nat) (os:List bf) (wl md id:Nat) (o:bf):aa.set ⟨nx,os,wl,md⟩ id o=if id < nx then⟨nx,os.set (nx - 1 - id) o,wl,min md id⟩ else⟨nx,os,wl,md⟩:=by
 unfold aa.set;split<;>rfl
theorem Ng (nx:Nat) (os:List bf) (wl md id:Nat) (v:AV):aa.mark ⟨nx,os,wl,md⟩ id v=if id+1 < v.refs then⟨nx,os,min wl id,md⟩ else⟨nx,os,wl,md⟩:=by
 unfold aa.mark;split<;>rfl
theorem Hc (nx:Nat) (os:List bf) (wl md:Nat) (o:bf):aa.alloc ⟨nx,os,wl,md⟩ o=⟨nx+1,o::os,wl,md⟩:=rfl
theorem Ka (nx:Nat) (os:List bf) (wl md n:Nat):aa.gM ⟨nx,os,wl,md⟩ n=⟨min nx n,os.drop (nx - n),wl,md⟩:=rfl
theorem D9:fO fr h []=some []:=rfl
theorem AF (r:AT) (rs:List AT):fO fr h (r::rs)=match pH fr h r with
 | some v=>(match fO fr h rs with | some vs=>some (v::vs) | none=>none)
 | none=>none:=by
 simp only[fO]
 cases pH fr h r with
 | none=>rfl
 | some v=>cases fO fr h rs<;>rfl
theorem Gq (a b c:Nat) (os0 os:List bf) (nx wl md:Nat) (v:AV):finish false ⟨a,os0,b,c⟩ v ⟨nx,os,wl,md⟩=
 match hO ⟨nx,os,wl,md⟩ a 8 v with
 | none=>(v,⟨nx,os,min b wl,min c md⟩)
 | some (v',ids)=>
   if a≤wl∧v'.refs≤a then (v',⟨min nx a,os.drop (nx - a),b,if md < a then min c md else c⟩)
   else match kill ⟨nx,os,wl,md⟩ ids with | ⟨nx',os',_,_⟩=>(v',⟨nx',os',min b wl,min c md⟩):=by
 simp only[finish,Bool.false_eq_true,if_false]
 cases hO ⟨nx,os,wl,md⟩ a 8 v with
 | none=>rfl
 | some p=>
   obtain⟨v',ids⟩:=p;dsimp only;split<;>rfl
theorem Hx (cs:List AV):(AV.agg cs).cells? =some cs:=rfl
theorem CB (b:Bool):(AV.bool b).cells? =some [.bool b]:=rfl
theorem Hp (k:IntKind) (n:Int):(AV.int k n).cells? =some [.int k n]:=rfl
theorem HK (s:List UInt8):(AV.str s).cells? =some [.str s]:=rfl
theorem D5:AV.jr.cells? =some [.jr]:=rfl
theorem Ho (i o:Nat):(AV.ptr i o).cells? =some [.ptr i o]:=rfl
theorem Ir (cs:List AV):(AV.ip cs).cells? =some [.ip cs]:=rfl
theorem CF:AV.aw.cells? =some [.aw]:=rfl
theorem IV (xs:List AV):(AV.sl xs).cells? =some [.sl xs]:=rfl
theorem G6 (a b c d e:Nat):(AV.vec a b c d e).cells? =some [.vec a b c d e]:=rfl
theorem DC:AV.iC.cells? =some [.iC]:=rfl
theorem Hz (i:Nat):(AV.map i).cells? =some [.map i]:=rfl
theorem BR:AV.fQ.cells? =some [.fQ]:=rfl
theorem KM (f:Nat) (cs:List AV):(AV.fn f cs).cells? =some [.fn f cs]:=rfl
theorem D3:AV.jt.cells? =some [.jt]:=rfl
theorem AA (t:Nat) (v:AV):(AV.iface t v).cells? =some [.iface t v]:=rfl
section
variable (n0 d:Nat)
theorem G7:hO h n0 (d+1) .undef=some (.undef,[]):=rfl
theorem KY (b:Bool):hO h n0 (d+1) (.bool b)=some (.bool b,[]):=rfl
theorem MK (k:IntKind) (n:Int):hO h n0 (d+1) (.int k n)=some (.int k n,[]):=rfl
theorem Mt (s:List UInt8):hO h n0 (d+1) (.str s)=some (.str s,[]):=rfl
theorem KH:hO h n0 (d+1) .jr=some (.jr,[]):=rfl
theorem Lw (i o:Nat):hO h n0 (d+1) (.ptr i o)=some (.ptr i o,[]):=rfl
theorem Qp (cs:List AV):hO h n0 (d+1) (.ip cs)=some (.ip cs,[]):=rfl
theorem Jp:hO h n0 (d+1) .aw=some (.aw,[]):=rfl
theorem OR (xs:List AV):hO h n0 (d+1) (.sl xs)=some (.sl xs,[]):=rfl
theorem Ix:hO h n0 (d+1) .iC=some (.iC,[]):=rfl
theorem Mx (i:Nat):hO h n0 (d+1) (.map i)=some (.map i,[]):=rfl
theorem Hu:hO h n0 (d+1) .fQ=some (.fQ,[]):=rfl
theorem P9 (f:Nat) (cs:List AV):hO h n0 (d+1) (.fn f cs)=some (.fn f cs,[]):=rfl
theorem Kx:hO h n0 (d+1) .jt=some (.jt,[]):=rfl
theorem Hy (t:Nat) (v:AV):hO h n0 (d+1) (.iface t v)=some (.iface t v,[]):=rfl
theorem MV {id:Nat} (off len sz lb:Nat) (hid:id < n0):hO h n0 (d+1) (.vec id off len sz lb)=some (.vec id off len sz lb,[]):=by
 simp only[hO,hid,if_true]
theorem mB (id off len sz lb:Nat):hO h n0 (d+1) (.vec id off len sz lb)=if id < n0 then some (.vec id off len sz lb,[]) else
 match h.row id with
 | some cs=>if off+len*sz≤cs.length∧sz≠0 then
  (match ik (hO h n0 d) ((cs.drop off).take (len*sz)) with
  | some (cs',ids)=>if AV.ai cs'=0∧(cs'.all fun c=>c.cells?.map List.length==some 1) then some (.sl (chunk sz len cs'),id::ids) else none
  | none=>none) else none
 | none=>none:=rfl
theorem Mg (cs:List AV):hO h n0 (d+1) (.agg cs)=match ik (hO h n0 d) cs with | some (cs',ids)=>some (.agg cs',ids) | none=>none:=by
 simp only[hO];cases ik (hO h n0 d) cs<;>rfl
theorem Hm (cs:List AV):hO h n0 (d+1) (.tuple cs)=match ik (hO h n0 d) cs with | some (cs',ids)=>some (.tuple cs',ids) | none=>none:=by
 simp only[hO];cases ik (hO h n0 d) cs<;>rfl
theorem Iz (F:AV→Option (AV×List Nat)):ik F []=some ([],[]):=rfl
theorem Hg (F:AV→Option (AV×List Nat)) (v:AV) (r:List AV):ik F (v::r)=match F v with
 | some (v',i)=>(match ik F r with | some (r',j)=>some (v'::r',i++j) | none=>none)
 | none=>none:=by
 simp only[ik]
 cases F v with
 | none=>rfl
 | some p=>obtain⟨v',i⟩:=p;cases ik F r<;>rfl
end
theorem BB (sz:Nat):aS h sz .aw=some (0,[]):=rfl
theorem CX (sz id off len s lb:Nat):aS h sz (.vec id off len s lb)=match h.row id with
 | some cs=>if s=sz∧off+len*sz≤cs.length then some (len,(cs.drop off).take (len*sz)) else none
 | none=>none:=rfl
theorem Dr (sz:Nat) (s:List UInt8):aS h sz (.str s)=if sz=1 then some (s.length,s.map fun b=>.int .u8 b.toNat) else none:=rfl
theorem Jv:kill h []=h:=rfl
theorem HD (id:Nat) (r:List Nat):kill h (id::r)=kill (h.set id .dead) r:=rfl
theorem Dx (sz:Nat) (cs:List AV):chunk sz 0 cs=[]:=rfl
theorem Dm (sz n:Nat) (cs:List AV):chunk sz (n+1) cs=(if sz=1 then (cs.headD .undef) else .agg (cs.take sz))::chunk sz n (cs.drop sz):=rfl
theorem HT (b:Bool):mc (.bool b)=true:=rfl
theorem JB (k:IntKind) (n:Int):mc (.int k n)=true:=rfl
theorem I4 (s:List UInt8):mc (.str s)=true:=rfl
theorem GA:mc .aw=true:=rfl
theorem Ma (xs:List AV):mc (.sl xs)=false:=rfl
theorem DG (vs:List AV):mc (.tuple vs)=vs.all nG:=rfl
theorem Iq (vs:List AV):mc (.agg vs)=vs.all nG:=rfl
theorem DA (b:Bool):nG (.bool b)=true:=rfl
theorem Gr (k:IntKind) (n:Int):nG (.int k n)=true:=rfl
theorem HI (s:List UInt8):nG (.str s)=true:=rfl
theorem C8:nG .aw=true:=rfl
theorem Kv (xs:List AV):nG (.sl xs)=false:=rfl
theorem Gu (vs:List AV):nG (.agg vs)=false:=rfl
theorem Km:bE fr h .die=none:=rfl
theorem F9 (cs:List AV) (k:Nat):putAt cs k []=cs:=rfl
theorem fW (x:AV) (cs:List AV) (k:Nat) (v:AV) (vs:List AV):putAt (x::cs) k (v::vs)=putAt ((x::cs).set k v) (k+1) vs:=rfl
end
end Sz

/- Small lemmas for runs over lists. No program is named here. -/
namespace Sz
open Go
theorem wrap_i64 {n:Int} (h1:-9223372036854775808≤n) (h2:n < 9223372036854775808):IntKind.i64.wrap n=n:=by
 rw[IntKind.wrap_i64];omega
theorem ue {k:Nat} (h:k < 4611686018427387904):IntKind.i64.wrap ((k:Int)+1)=((k+1:Nat):Int):=by
 rw[wrap_i64 (by omega) (by omega)];rfl
def j8 {α:Type} (p:α→Bool):List α→Option Nat
 | []=>none
 | x::r=>if p x then some 0 else (j8 p r).map (·+1)
def basic:AV→Bool
 | .bool _ | .int .. | .str _ | .jr | .aw | .sl _ | .ip _ | .iC | .fQ | .jt=>true
 | _=>false
theorem tL {h:aa} {n0 d:Nat} {v:AV} (hv:basic v=true):hO h n0 (d+1) v=some (v,[]):=by cases v<;>first | rfl | cases hv
theorem Er {v:AV} (hv:basic v=true):v.refs=0:=by cases v<;>first | rfl | cases hv
theorem lq {v:AV} (hv:basic v=true):v.cells? =some [v]:=by cases v<;>first | rfl | cases hv
theorem vW {h:aa} {n0 d:Nat}:∀{cs:List AV},cs.all basic=true→ik (hO h n0 (d+1)) cs=some (cs,[])
 | [],_=>rfl
 | v::r,hb=>by
   simp only[List.all_cons,Bool.and_eq_true] at hb;simp only[ik,tL hb.1,vW hb.2,List.append_nil]
theorem lL:∀{cs:List AV},cs.all basic=true→AV.ai cs=0
 | [],_=>rfl
 | v::r,hb=>by
   simp only[List.all_cons,Bool.and_eq_true] at hb;simp only[AV.ai,Er hb.1,lL hb.2];rfl
theorem wG:∀{cs:List AV},cs.all basic=true→(cs.all fun c=>c.cells?.map List.length==some 1)=true
 | [],_=>rfl
 | v::r,hb=>by
   simp only[List.all_cons,Bool.and_eq_true] at hb ⊢;exact⟨by rw[lq hb.1];rfl,wG hb.2⟩
def xI (sz:Nat) (v:AV):Prop:=v.cells.length=sz∧v.cells.all basic=true∧(sz=1→v.cells=[v])∧(sz≠1→v=.agg v.cells)∧v.cells? =some v.cells
theorem wo {sz:Nat} {xs:List AV} (h:∀x ∈ xs,xI sz x):(xs.flatMap AV.cells).all basic=true:=by
 rw[List.all_eq_true];intro v hv;obtain⟨x,hx,hv⟩:=List.mem_flatMap.1 hv;exact List.all_eq_true.1 (h x hx).2.1 v hv
theorem wL {sz:Nat}:∀{xs:List AV},(∀x ∈ xs,xI sz x)→(xs.flatMap AV.cells).length=xs.length*sz
 | [],_=>by simp
 | x::r,h=>by
   have:=wL (xs:=r) fun y hy=>h y (by simp[hy])
   simp only[List.flatMap_cons,List.length_append,List.length_cons,this,(h x (by simp)).1,Nat.add_mul];omega
theorem wY {sz:Nat}:∀{xs:List AV},(∀x ∈ xs,xI sz x)→chunk sz xs.length (xs.flatMap AV.cells)=xs
 | [],_=>rfl
 | x::r,h=>by
   have hx:=h x (by simp);have ih:=wY (xs:=r) fun y hy=>h y (by simp[hy])
   simp only[List.length_cons,List.flatMap_cons,chunk];have hd:(x.cells++r.flatMap AV.cells).drop sz=r.flatMap AV.cells:=by rw[←hx.1];simp
   rw[hd,ih];congr 1;split
   ·rename_i h1;rw[hx.2.2.1 h1];rfl
   ·rename_i h1;have ht:(x.cells++r.flatMap AV.cells).take sz=x.cells:=by rw[←hx.1];simp
    rw[ht];exact (hx.2.2.2.1 h1).symm
theorem BW {sz:Nat} {xs:List AV} (h:∀x ∈ xs,xI sz x):(xs.all fun x=>(x.cells?.map List.length)==some sz)=true:=by
 rw[List.all_eq_true];intro x hx;have:=h x hx;rw[this.2.2.2.2];simp[this.1]
theorem ma (vs:List AV):∀(cs:List AV) (k:Nat),k+vs.length≤cs.length→putAt cs k vs=cs.take k++vs++cs.drop (k+vs.length):=by
 induction vs with
 | nil=>intro cs k _;simp[putAt]
 | cons v r ih=>
   intro cs k h;simp only[List.length_cons] at h;rw[putAt,ih _ _ (by simp;omega)];have hk:k < cs.length:=by omega
   have e1:(cs.set k v).take (k+1)=cs.take k++[v]:=by
    rw[List.take_set,List.take_succ_eq_append_getElem hk,List.set_append_right _ _ (by simp;omega)];simp[Nat.min_eq_left (Nat.le_of_lt hk)]
   have e2:(cs.set k v).drop (k+1+r.length)=cs.drop (k+(r.length+1)):=by
    rw[List.drop_set_of_lt (by omega)];congr 1;omega
   rw[e1,e2];simp
theorem vl {h:aa} {n0 d id len sz lb:Nat} {xs:List AV} {cs:List AV} (hid:n0≤id) (hg:h.get id=some (.row cs)) (hsz:sz≠0) (hx:∀x ∈ xs,xI sz x) (hl:xs.length=len) (hle:len*sz≤cs.length) (hc:cs.take (len*sz)=xs.flatMap AV.cells):
 hO h n0 (d+2) (.vec id 0 len sz lb)=some (.sl xs,[id]):=by
 subst hl;have hb:=wo hx
 have e:hO h n0 (d+2) (.vec id 0 xs.length sz lb)=if id < n0 then some (.vec id 0 xs.length sz lb,[]) else match h.row id with
  | some cs=>if 0+xs.length*sz≤cs.length∧sz≠0 then
   (match ik (hO h n0 (d+1)) ((cs.drop 0).take (xs.length*sz)) with
   | some (cs',ids)=>if AV.ai cs'=0∧(cs'.all fun c=>c.cells?.map List.length==some 1) then some (.sl (chunk sz xs.length cs'),id::ids) else none
   | none=>none) else none
  | none=>none:=rfl
 rw[e,if_neg (by omega),J0,hg];dsimp only;rw[if_pos ⟨by omega,hsz⟩,List.drop_zero,hc,vW hb];dsimp only;rw[if_pos ⟨lL hb,wG hb⟩,wY hx]
theorem kD (vs:List AV) {cs:List AV} {k:Nat} (h:k+vs.length≤cs.length):(putAt cs k vs).take (k+vs.length)=cs.take k++vs:=by
 rw[ma vs cs k h];exact List.take_left' (by simp;omega)
theorem HY (n:Nat):(n+1≤n)=False:=eq_false (by omega)
end Sz

/- Frames by what is set in them. No program is named here. -/
namespace Sz
open Go
def lk:List (Nat×AV)→Nat→AV
 | [],_=>.undef
 | (k,v)::m,t=>if k=t then v else lk m t
def FM (n:Nat) (m:List (Nat×AV)):List AV:=(List.range n).map (lk m)
def mk (n:Nat) (ks:List Nat):List Bool:=(List.range n).map fun t=>ks.contains t
def pick (m:List (Nat×AV)):List Nat→List (Nat×AV)
 | []=>[]
 | k::ks=>(k,lk m k)::pick m ks
def rI:Nat→List AV→List (Nat×AV)
 | _,[]=>[]
 | k,a::r=>(k,a)::rI (k+1) r
def pK (n:Nat):Nat→List (Nat×AV)→Bool
 | _,[]=>true
 | lo,(k,_)::r=>decide (lo≤k)&&decide (k < n)&&pK n (k+1) r
def wO:List (Nat×AV)→List AV
 | []=>[]
 | (_,v)::r=>v::wO r
def BO (n0:Nat) (ks:List Nat):List (Nat×AV)→List (Nat×AV)
 | []=>[]
 | (k,v)::r=>(k,cN n0 ks v)::BO n0 ks r
theorem Pa (t:Nat) (v:AV) (m:List (Nat×AV)):lk ((t,v)::m) t=v:=if_pos rfl
theorem L9 {k t:Nat} (v:AV) (m:List (Nat×AV)) (h:(k==t)=false):lk ((k,v)::m) t=lk m t:=if_neg (by simpa using h)
theorem OF (t:Nat):lk [] t=.undef:=rfl
theorem jK (n:Nat) (m:List (Nat×AV)):(FM n m).length=n:=by simp[FM]
theorem qy {n t:Nat} (m:List (Nat×AV)) (h:t < n):(FM n m)[t]? =some (lk m t):=by simp[FM,h]
theorem vx {n t:Nat} (m:List (Nat×AV)) (h:t < n):(FM n m).getD t .undef=lk m t:=by
 rw[List.getD_eq_getElem?_getD,qy m h];rfl
theorem Kj (n:Nat) (m:List (Nat×AV)) (t:Nat) (v:AV):(FM n m).set t v=FM n ((t,v)::m):=by
 apply List.ext_getElem?;intro i;rw[List.getElem?_set,jK];by_cases hi:i < n
 ·rw[qy _ hi,qy _ hi];by_cases e:t=i
  ·subst e;simp[hi,lk]
  ·simp[e,lk]
 ·have h1:(FM n m)[i]? =none:=List.getElem?_eq_none (by rw[jK];omega);have h2:(FM n ((t,v)::m))[i]? =none:=List.getElem?_eq_none (by rw[jK];omega);rw[h1,h2];split
  ·split
   ·omega
   ·rfl
  ·rfl
theorem QZ {n t:Nat} (m:List (Nat×AV)) (h:t < n):cI.ev (FM n m) (.tmp t)=lk m t:=vx m h
theorem JT (fr:List AV) (v:AV):cI.ev fr (.const v)=v:=rfl
theorem OQ (n:Nat) (m:List (Nat×AV)) (d:Nat) (v:AV):eG (FM n m) (some d) v=FM n ((d,v)::m):=Kj n m d v
theorem JO (fr:List AV) (v:AV):eG fr none v=fr:=rfl
theorem Ck {n t:Nat} (m:List (Nat×AV)) (want:Bool) (h:t < n):cG (FM n m) (some (t,want))=match lk m t with
 | .bool b=>some (b !=want)
 | .tuple []=>some true
 | _=>none:=by
 simp only[cG,qy m h]
 cases lk m t with
 | tuple vs=>cases vs<;>rfl
 | _=>rfl
theorem LD {n t:Nat} (m:List (Nat×AV)) (hp:aa) (h:t < n):pH (FM n m) hp (.tmp t)=some (lk m t):=by
 simp only[pH,vx m h]
theorem Mn {n t:Nat} (m:List (Nat×AV)) (hp:aa) (k:Option Nat) (h:t < n):pH (FM n m) hp (.cell t k)=Fg hp k (lk m t):=by
 simp only[pH,vx m h]
theorem FU (m:List (Nat×AV)) (t:Nat):∀ks:List Nat,lk (pick m ks) t=if ks.contains t then lk m t else .undef
 | []=>by simp[pick,lk]
 | k::ks=>by
   simp only[pick,lk,FU m t ks,List.contains_cons];by_cases e:k=t
   ·subst e;simp
   ·have e':¬ t=k:=fun h=>e h.symm
    simp[e,e']
theorem yI:∀(bs:List Bool) (fr:List AV) (t:Nat),bs.length=fr.length→(clear bs fr)[t]? =(fr[t]?).map fun v=>if bs.getD t false then v else .undef
 | [],[],t,_=>by simp[clear]
 | b::bs,v::fr,0,_=>by simp[clear]
 | b::bs,v::fr,t+1,h=>by
   simp only[clear,List.getElem?_cons_succ,List.getD_cons_succ];exact yI bs fr t (by simpa using h)
theorem AP (n:Nat) (m:List (Nat×AV)) (ks:List Nat):clear (mk n ks) (FM n m)=FM n (pick m ks):=by
 apply List.ext_getElem?;intro t;rw[yI _ _ _ (by simp[mk,FM])];by_cases ht:t < n
 ·rw[qy _ ht,qy _ ht,FU]
  have:(mk n ks).getD t false=ks.contains t:=by
   rw[List.getD_eq_getElem?_getD];simp[mk,ht]
  simp only[this,Option.map_some]
 ·have h1:(FM n m)[t]? =none:=List.getElem?_eq_none (by rw[jK];omega);have h2:(FM n (pick m ks))[t]? =none:=List.getElem?_eq_none (by rw[jK];omega);rw[h1,h2];rfl
def uH:Nat→List Bool→List Nat
 | _,[]=>[]
 | k,true::r=>k::uH (k+1) r
 | k,false::r=>uH (k+1) r
theorem tU:∀(bs:List Bool) (k t:Nat),(uH k bs).contains t=(decide (k≤t)&&bs.getD (t - k) false)
 | [],k,t=>by simp[uH]
 | true::r,k,t=>by
   rw[uH,List.contains_cons,tU r (k+1) t];by_cases e:t=k
   ·subst e;simp
   ·by_cases hl:k≤t
    ·have:t - k=(t - (k+1))+1:=by omega
     have h2:k+1≤t:=by omega
     simp[e,hl,this,h2]
    ·have h2:¬ k+1≤t:=by omega
     simp[e,hl,h2]
 | false::r,k,t=>by
   rw[uH,tU r (k+1) t];by_cases e:t=k
   ·subst e;have h2:¬ t+1≤t:=by omega
    simp only[h2,decide_false,Bool.false_and,Nat.sub_self,List.getD_cons_zero,Bool.and_false]
   ·by_cases hl:k≤t
    ·have:t - k=(t - (k+1))+1:=by omega
     have h2:k+1≤t:=by omega
     simp[hl,this,h2]
    ·have h2:¬ k+1≤t:=by omega
     simp[hl,h2]
theorem G5 {n:Nat} (m:List (Nat×AV)) (bs:List Bool) (h:bs.length=n):clear bs (FM n m)=FM n (pick m (uH 0 bs)):=by
 rw[←AP];congr 1;apply List.ext_getElem?;intro t;by_cases ht:t < n
 ·have:t < bs.length:=by omega
  simp only[mk,List.getElem?_map,List.getElem?_range ht,Option.map_some,tU];simp[List.getD_eq_getElem?_getD,this]
 ·rw[List.getElem?_eq_none (by omega),List.getElem?_eq_none (by simp[mk];omega)]
theorem BV:∀(as:List AV) (k t:Nat),lk (rI k as) t=if k≤t then as.getD (t - k) .undef else .undef
 | [],k,t=>by simp[rI,lk]
 | a::r,k,t=>by
   simp only[rI,lk,BV r (k+1) t];by_cases e:k=t
   ·subst e;simp
   ·by_cases hl:k≤t
    ·have:t - k=(t - (k+1))+1:=by omega
     have h2:k+1≤t:=by omega
     simp[e,hl,this,h2]
    ·have h2:¬ k+1≤t:=by omega
     simp[e,hl,h2]
theorem Ag {n:Nat} (as:List AV) (h:as.length≤n):as++List.replicate (n - as.length) .undef=FM n (rI 0 as):=by
 apply List.ext_getElem?;intro t;by_cases ht:t < n
 ·rw[qy _ ht,BV];simp only[Nat.zero_le,if_true,Nat.sub_zero];by_cases h2:t < as.length
  ·rw[List.getElem?_append_left h2,List.getD_eq_getElem?_getD,List.getElem?_eq_getElem h2];rfl
  ·rw[List.getElem?_append_right (by omega),List.getElem?_replicate,if_pos (by omega),List.getD_eq_getElem?_getD,List.getElem?_eq_none (by omega)];rfl
 ·rw[List.getElem?_eq_none (by simp;omega),List.getElem?_eq_none (by rw[jK];omega)]
theorem rW (n0:Nat):∀(len lo:Nat) (m:List (Nat×AV)) (acc:List Nat),pK (lo+len) lo m=true→keeps n0 ((List.range' lo len).map (lk m)) acc=keeps n0 (wO m) acc
 | 0,lo,[],acc,_=>rfl
 | 0,lo,(k,v)::m,acc,h=>by
   simp only[pK,Bool.and_eq_true,decide_eq_true_eq] at h;omega
 | len+1,lo,m,acc,h=>by
   rw[List.range'_succ,List.map_cons]
   cases m with
   | nil=>
     have:=rW n0 len (lo+1) [] acc rfl;simp only[lk,keeps,AV.top];exact this
   | cons p r=>
     obtain⟨k,v⟩:=p;simp only[pK,Bool.and_eq_true,decide_eq_true_eq] at h;obtain⟨⟨h1,h2⟩,h3⟩:=h;by_cases e:k=lo
     ·subst e
      have tl:(List.range' (k+1) len).map (lk ((k,v)::r))=(List.range' (k+1) len).map (lk r):=by
       apply List.map_congr_left;intro t ht;have:=List.mem_range'_1.1 ht;simp only[lk];rw[if_neg (by omega)]
      have ih:=fun acc=>rW n0 len (k+1) r acc (by rw[show k+1+len=k+(len+1) by omega];exact h3)
      rw[tl];have e0:lk ((k,v)::r) k=v:=if_pos rfl;rw[e0];simp only[wO];unfold keeps
      cases v.top with
      | none=>dsimp only;exact ih acc
      | some id=>dsimp only;split<;>exact ih _
     ·have ih:=rW n0 len (lo+1) ((k,v)::r) acc (by
       simp only[pK,Bool.and_eq_true,decide_eq_true_eq];rw[show lo+1+len=lo+(len+1) by omega];exact⟨⟨by omega,h2⟩,h3⟩)
      have hz:lk ((k,v)::r) lo=.undef:=by
       have:∀(m:List (Nat×AV)) (a t:Nat),pK (lo+(len+1)) a m=true→t < a→lk m t=.undef:=by
        intro m
        induction m with
        | nil=>intro a t _ _;rfl
        | cons p r ih=>
          obtain⟨k,v⟩:=p;intro a t h ht;simp only[pK,Bool.and_eq_true,decide_eq_true_eq] at h;simp only[lk];rw[if_neg (by omega)];exact ih (k+1) t h.2 (by omega)
       simp only[lk];rw[if_neg e];exact this r (k+1) lo h3 (by omega)
      rw[hz];simp only[keeps,AV.top];exact ih
theorem Ft (n0:Nat) (ks:List Nat) (t:Nat):∀m:List (Nat×AV),lk (BO n0 ks m) t=cN n0 ks (lk m t)
 | []=>rfl
 | (k,v)::m=>by
   simp only[BO,lk];split
   ·rfl
   ·exact Ft n0 ks t m
theorem JP (n n0:Nat) (ks:List Nat) (m:List (Nat×AV)):(FM n m).map (cN n0 ks)=FM n (BO n0 ks m):=by
 unfold FM;rw[List.map_map];apply List.map_congr_left;intro t _;exact (Ft n0 ks t m).symm
def allM (n0:Nat):List (Nat×AV)→Bool
 | []=>true
 | (_,v)::r=>(v.top.isSome||decide (v.refs≤n0))&&allM n0 r
theorem PB {m:List (Nat×AV)} {n lo t:Nat}:pK n lo m=true→lk m t=.undef∨∃p ∈ m,p.2=lk m t:=by
 induction m generalizing lo with
 | nil=>exact fun _=>.inl rfl
 | cons p r ih=>
   obtain⟨k,v⟩:=p;intro h;simp only[pK,Bool.and_eq_true,decide_eq_true_eq] at h;simp only[lk];split
   ·exact .inr ⟨_,List.mem_cons_self,rfl⟩
   ·rcases ih h.2 with h | ⟨p,hp,e⟩
    ·exact .inl h
    ·exact .inr ⟨p,List.mem_cons_of_mem _ hp,e⟩
theorem HA {m:List (Nat×AV)} {n lo:Nat}:pK n lo m=true→∀p ∈ m,p.1 < n∧lk m p.1=p.2:=by
 induction m generalizing lo with
 | nil=>intro _ p hp;cases hp
 | cons q r ih=>
   obtain⟨k,v⟩:=q;intro h p hp;simp only[pK,Bool.and_eq_true,decide_eq_true_eq] at h
   have low:∀(r:List (Nat×AV)) (a:Nat),pK n a r=true→∀p ∈ r,a≤p.1:=by
    intro r
    induction r with
    | nil=>intro a _ p hp;cases hp
    | cons q r ih=>
      obtain⟨k,v⟩:=q;intro a h p hp;simp only[pK,Bool.and_eq_true,decide_eq_true_eq] at h
      cases hp with
      | head=>exact h.1.1
      | tail _ hp=>have:=ih (k+1) h.2 p hp;omega
   cases hp with
   | head=>exact⟨h.1.2,if_pos rfl⟩
   | tail _ hp=>
     obtain⟨g1,g2⟩:=ih h.2 p hp;have:=low r (k+1) h.2 p hp;refine⟨g1,?_⟩;simp only[lk];rw[if_neg (by omega)];exact g2
theorem J5 {n:Nat} {m:List (Nat×AV)} (n0:Nat) (h:pK n 0 m=true):((FM n m).all fun v=>v.top.isSome||decide (v.refs≤n0))=allM n0 m:=by
 have e:allM n0 m=m.all fun p=>p.2.top.isSome||decide (p.2.refs≤n0):=by
  clear h
  induction m with
  | nil=>rfl
  | cons p r ih=>obtain⟨k,v⟩:=p;simp[allM,ih]
 rw[e,Bool.eq_iff_iff,List.all_eq_true,List.all_eq_true];constructor
 ·intro H p hp;obtain⟨h1,h2⟩:=HA h p hp;rw[←h2];exact H _ (List.mem_map.2 ⟨p.1,by simpa using h1,rfl⟩)
 ·intro H v hv;obtain⟨t,_,rfl⟩:=List.mem_map.1 hv;rcases PB (t:=t) h with e | ⟨p,hp,e⟩
  ·rw[e];simp[AV.refs]
  ·rw[←e];exact H p hp
def Cd (n0:Nat):List bf→List Nat→List Nat
 | [],acc=>acc
 | o::r,acc=>if fb n0 o=true then Cd n0 r acc else Cd n0 r (keeps n0 (gi o) acc)
def vI (n0:Nat):List bf→Bool
 | []=>true
 | o::r=>(fb n0 o||(gi o).all (nv n0))&&vI n0 r
def wb (n0:Nat):List bf→Bool
 | []=>true
 | o::r=>fb n0 o&&wb n0 r
def wi (n0:Nat) (ks:List Nat):List bf→List bf
 | []=>[]
 | o::r=>(if fb n0 o=true then o else lR n0 ks o)::wi n0 ks r
theorem tS {n0:Nat}:∀{l:List AV} {acc:List Nat},(l.all fun v=>decide (v.refs≤n0))=true→keeps n0 l acc=acc
 | [],acc,_=>rfl
 | v::r,acc,h=>by
   rw[List.all_cons,Bool.and_eq_true] at h;simp only[keeps];split
   ·rename_i id ht
    have hlt:id+1≤n0:=by
     have:=of_decide_eq_true h.1;cases v<;>simp only[AV.top,Option.some.injEq,reduceCtorEq] at ht<;>subst ht<;>exact this
    rw[if_neg (by omega)];exact tS h.2
   ·exact tS h.2
theorem ti (n0:Nat):∀(os:List bf) (acc:List Nat),keeps n0 (fZ os) acc=Cd n0 os acc
 | [],acc=>rfl
 | o::r,acc=>by
   rw[fZ,jk,Cd];split
   ·rename_i h;rw[tS h];exact ti n0 r acc
   ·exact ti n0 r _
theorem F2 (n0:Nat):∀os:List bf,(fZ os).all (nv n0)=vI n0 os
 | []=>rfl
 | o::r=>by
   rw[fZ,List.all_append,F2 n0 r,vI];congr 1;by_cases h:fb n0 o=true
   ·rw[h,Bool.true_or,List.all_eq_true];intro v hv;unfold fb at h;have:=List.all_eq_true.1 h v hv;unfold nv;rw[this,Bool.or_true]
   ·rw[Bool.not_eq_true] at h;rw[h,Bool.false_or]
theorem EL (n0:Nat):∀os:List bf,os.all (fb n0)=wb n0 os
 | []=>rfl
 | o::r=>by rw[List.all_cons,EL n0 r,wb]
theorem Fh (n0:Nat) (ks:List Nat):∀os:List bf,os.map (lR n0 ks)=wi n0 ks os
 | []=>rfl
 | o::r=>by
   rw[List.map_cons,Fh n0 ks r,wi];congr 1;split
   ·rename_i h;exact vY h
   ·rfl
theorem rZ (n0:Nat) (cs:List AV):fb n0 (.row cs)=decide (AV.ai cs≤n0):=by
 show (cs.all fun v=>decide (v.refs≤n0))=_;rw[Bool.eq_iff_iff,List.all_eq_true,decide_eq_true_eq];constructor
 ·intro h;exact AV.gE fun v hv=>by simpa using h v hv
 ·intro h v hv;have:=AV.cA hv;simp only[decide_eq_true_eq];omega
theorem zA (n0:Nat) (es:List (AV×AV)):fb n0 (.map es)=es.all fun e=>decide (e.1.refs≤n0)&&decide (e.2.refs≤n0):=by
 show ((es.flatMap fun e=>[e.1,e.2]).all fun v=>decide (v.refs≤n0))=_
 induction es with
 | nil=>rfl
 | cons e r ih=>rw[List.flatMap_cons,List.all_append,ih];simp
theorem xL (n0:Nat):fb n0 .dead=true:=rfl
theorem Nz (n0:Nat) {n:Nat} {m:List (Nat×AV)} (nx:Nat) (os:List bf) (wl md:Nat) (hs:pK n 0 m=true):gc n0 (FM n m) ⟨nx,os,wl,md⟩=
 if n0≤wl then
  match kj ⟨nx,os,wl,md⟩ n0 (keeps n0 (wO m) []) with
  | some ks=>if n0≤wl∧n0≤nx∧allM n0 m=true then
   (FM n (BO n0 (keeps n0 (wO m) []) m),⟨n0+ks.length,ks.reverse++os.drop (nx - n0),wl,md⟩) else (FM n m,⟨nx,os,wl,md⟩)
  | none=>(FM n m,⟨nx,os,wl,md⟩)
 else
  match kj ⟨nx,os,wl,md⟩ n0 (Cd n0 (os.drop (nx - n0)) (keeps n0 (wO m) [])) with
  | some ks=>if n0≤nx∧allM n0 m=true∧vI n0 (os.drop (nx - n0))=true∧wb n0 ((os.drop (nx - n0)).drop (n0 - wl))=true then
   (FM n (BO n0 (Cd n0 (os.drop (nx - n0)) (keeps n0 (wO m) [])) m),
    ⟨n0+ks.length,ks.reverse++wi n0 (Cd n0 (os.drop (nx - n0)) (keeps n0 (wO m) [])) (os.drop (nx - n0)),wl,min md wl⟩) else (FM n m,⟨nx,os,wl,md⟩)
  | none=>(FM n m,⟨nx,os,wl,md⟩):=by
 have hk:keeps n0 (FM n m) []=keeps n0 (wO m) []:=by
  have:=rW n0 n 0 m [] (by rw[Nat.zero_add];exact hs);rw[←List.range_eq_range'] at this;exact this
 have ha:(FM n m).all (nv n0)=allM n0 m:=J5 n0 hs;unfold gc;split
 ·unfold Bi;rw[hk,J5 n0 hs,JP];rfl
 ·unfold Al;dsimp only;rw[hk,ha,JP,F2,EL,Fh,ti];rfl
theorem Ps (n0 n nx:Nat) (os:List bf) (wl md:Nat) (hw:n0≤wl):gc n0 (FM n []) ⟨nx,os,wl,md⟩=if n0≤wl∧n0≤nx then (FM n [],⟨n0,os.drop (nx - n0),wl,md⟩) else (FM n [],⟨nx,os,wl,md⟩):=by
 rw[Nz (m:=[]) n0 nx os wl md rfl];simp[keeps,wO,kj,allM,BO,hw]
end Sz
