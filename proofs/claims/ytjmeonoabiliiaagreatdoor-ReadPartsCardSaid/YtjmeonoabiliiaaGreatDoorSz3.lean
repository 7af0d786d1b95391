import Derived.Test.YtjmeonoabiliiaaGreatDoorSz2
import Derived.Tactics
set_option linter.unusedVariables false
set_option linter.unusedSimpArgs false
set_option linter.unusedSectionVars false
set_option maxHeartbeats 16000000
set_option maxRecDepth 100000

/- The abstract run is sound: calls. No program is named here. -/
namespace Sz
open Go
theorem rY (sz:Nat):∀(n:Nat) (cs:List AV),(chunk sz n cs).length=n
 | 0,_=>rfl
 | n+1,cs=>by simp[chunk,rY sz n]
theorem uf {sz:Nat}:∀(n:Nat) (cs:List AV) (i:Nat) (hi:i < (chunk sz n cs).length),(chunk sz n cs)[i]=if sz=1 then (cs.drop (i*sz)).headD .undef else .agg ((cs.drop (i*sz)).take sz)
 | 0,cs,i,hi=>by simp[chunk] at hi
 | n+1,cs,0,hi=>by simp[chunk]
 | n+1,cs,i+1,hi=>by
   simp only[chunk,List.getElem_cons_succ];rw[uf n (cs.drop sz) i (by simpa[chunk] using hi),List.drop_drop];rw[show sz+i*sz=(i+1)*sz by rw[Nat.add_mul];omega]
theorem uV (sz:Nat):∀(n:Nat) (cs:List AV),AV.aq (chunk sz n cs)≤AV.aq cs
 | 0,_=>by simp[chunk,AV.aq]
 | n+1,cs=>by
   have h1:=uV sz n (cs.drop sz);have h2:AV.aq (cs.drop sz)≤AV.aq cs:=AV.gK fun v hv=>AV.cH (List.mem_of_mem_drop hv)
   simp only[chunk,AV.aq]
   have h3:(if sz=1 then cs.headD .undef else AV.agg (cs.take sz)).refs≤AV.aq cs:=by
    split
    ·cases cs with
     | nil=>simp[AV.refs]
     | cons x r=>simp only[List.headD_cons,AV.aq];omega
    ·simp only[AV.refs];exact AV.gK fun v hv=>AV.cH (List.mem_of_mem_take hv)
   omega
section
variable {φ:dA} {h:aa} {w:World}
theorem rV {F:AV→Option (AV×List Nat)} {nx:Nat} {pr pr':Nat→Prop} (hF:∀v cv v' ids,F v=some (v',ids)→RV φ nx pr w v cv→(∀id ∈ ids,pr' (φ id).eY)→RV φ nx pr' w v' cv):
 ∀(cs:List AV) (cs':List AV) (ids:List Nat) (f:Nat→Value),ij F cs=some (cs',ids)→(∀j (hj:j < cs.length),RV φ nx pr w cs[j] (f j))→(∀id ∈ ids,pr' (φ id).eY)→
   cs'.length=cs.length∧∀j (hj:j < cs'.length),RV φ nx pr' w cs'[j] (f j)
 | [],cs',ids,f,he,_,_=>by
   simp only[ij,Option.some.injEq,Prod.mk.injEq] at he;obtain⟨rfl,rfl⟩:=he;exact⟨rfl,fun j hj=>by simp at hj⟩
 | v::r,cs',ids,f,he,hv,hids=>by
   simp only[ij] at he;split at he
   ·rename_i v' i r' j h1 h2;cases he;obtain⟨g1,g2⟩:=rV hF r r' j (fun k=>f (k+1)) h2 (fun k hk=>hv (k+1) (Nat.succ_lt_succ hk)) (fun id hid=>hids id (by simp[hid]));refine⟨by simp[g1],fun k hk=>?_⟩
    cases k with
    | zero=>exact hF _ _ _ _ h1 (hv 0 (by simp)) (fun id hid=>hids id (by simp[hid]))
    | succ k=>exact g2 k (by simpa using hk)
   ·cases he
theorem oV {F:AV→Option (AV×List Nat)} {p:Nat→Prop} (hF:∀v v' ids,F v=some (v',ids)→∀id ∈ ids,p id):∀(cs cs':List AV) (ids:List Nat),ij F cs=some (cs',ids)→∀id ∈ ids,p id
 | [],cs',ids,he=>by
   simp only[ij,Option.some.injEq,Prod.mk.injEq] at he;obtain⟨rfl,rfl⟩:=he;intro id hid;cases hid
 | v::r,cs',ids,he=>by
   simp only[ij] at he;split at he
   ·rename_i v' i r' j h1 h2;cases he;intro id hid;rcases List.mem_append.1 hid with hid | hid
    ·exact hF _ _ _ h1 id hid
    ·exact oV hF r r' j h2 id hid
   ·cases he
theorem pT {n0:Nat}:∀(d:Nat) (v v':AV) (ids:List Nat),hZ h n0 d v=some (v',ids)→∀id ∈ ids,n0≤id∧live h id
 | 0,v,v',ids,he=>by simp[hZ] at he
 | d+1,v,v',ids,he=>by
   unfold hZ at he;split at he
   ·split at he
    ·cases he;intro id hid;cases hid
    ·rename_i hlt;split at he
     ·rename_i cs hrow;split at he
      ·split at he
       ·rename_i cs' ids' h1;split at he
        ·cases he;intro id hid
         cases hid with
         | head=>exact⟨by omega,_,rR hrow,fun e=>by cases e⟩
         | tail _ hid=>exact oV (fun v v' ids he=>pT d v v' ids he) _ _ _ h1 id hid
        ·cases he
       ·cases he
      ·cases he
     ·cases he
   ·obtain⟨⟨cs',ids'⟩,h1,e⟩:=Option.map_eq_some_iff.1 he;cases e;exact oV (fun v v' ids he=>pT d v v' ids he) _ _ _ h1
   ·obtain⟨⟨cs',ids'⟩,h1,e⟩:=Option.map_eq_some_iff.1 he;cases e;exact oV (fun v v' ids he=>pT d v v' ids he) _ _ _ h1
   ·cases he;intro id hid;cases hid
theorem zQ (hr:HR φ h w) {n0:Nat} {pr':Nat→Prop} (hpr:∀b,Pr φ h w b→pr' b):∀(d:Nat) (v:AV) (cv:Value) (v':AV) (ids:List Nat),hZ h n0 d v=some (v',ids)→dS φ h w v cv→(∀id ∈ ids,pr' (φ id).eY)→RV φ h.next pr' w v' cv
 | 0,v,cv,v',ids,he,_,_=>by simp[hZ] at he
 | d+1,v,cv,v',ids,he,hv,hids=>by
   have eX:RV φ h.next pr' w v cv:=hv.mono (fun _ _ hid=>⟨rfl,hid⟩) fun b hb=>⟨hpr b hb,rfl⟩
   have ih:=fun v cv v' ids=>zQ hr (n0:=n0) hpr d v cv v' ids
   unfold hZ at he;split at he
   ·rename_i id off len sz lb;split at he
    ·cases he;exact eX
    ·split at he
     ·rename_i cs hrow;have hg:=rR hrow;split at he
      ·rename_i hc;split at he
       ·rename_i cs' ids' h1;split at he
        ·rename_i hc2;cases he;obtain⟨c,el,fz,k1,k2,k3,k4,k5,k6⟩:=hr.rows id cs hg;obtain⟨cap,ad,rfl,hid,hl,hlb,hroom,ha⟩:=hv.gV;have hlen:((cs.drop off).take (len*sz)).length=len*sz:=by simp;omega
         obtain⟨g1,g2⟩:=rV ih _ _ _ (fun j=>c.getD ((φ id).base+off+j) default) h1 (fun j hj=>by
          have hj':off+j < cs.length:=by omega
          have:=k6 (off+j) hj';rw[Nat.add_assoc];simpa using this) (fun i hi=>hids i (by simp[hi]))
         rw[hlen] at g1;rcases Nat.eq_zero_or_pos len with h0 | h0
         ·subst h0;exact .slnil _ _
         ·rw[ha (by omega)];have hcl:=rY sz len cs'
          have one:∀j (hj:j < cs'.length),cs'[j].cells=[cs'[j]]:=fun j hj=>by
           have q1:=g2 j hj;have q2:=k5 (off+j) (by omega);rw[←Nat.add_assoc] at q2;generalize cs'[j]=y at q1 ⊢;cases y<;>try rfl
           obtain⟨cvs,q3,_⟩:=q1.lR;rw[q3] at q2;cases q2
          have hcell:∀i j (hi:i < (chunk sz len cs').length) (hj:j < sz),∃hk:i*sz+j < cs'.length,((chunk sz len cs')[i]).cells[j]? =some cs'[i*sz+j]:=fun i j hi hj=>by
           rw[hcl] at hi;have h2:(i+1)*sz≤len*sz:=Nat.mul_le_mul_right _ hi;rw[Nat.add_mul] at h2;refine⟨by omega,?_⟩;rw[uf];split
           ·rename_i h1;subst h1;obtain rfl:j=0:=by omega
            have hk:i*1 < cs'.length:=by omega
            have e:(cs'.drop (i*1)).headD .undef=cs'[i*1]:=by rw[List.drop_eq_getElem_cons hk];rfl
            rw[e,one];simp
           ·simp only[AV.cells];rw[List.getElem?_take,if_pos hj,List.getElem?_drop,List.getElem?_eq_getElem]
          have hszs:∀i (hi:i < (chunk sz len cs').length),((chunk sz len cs')[i]).cells?.map List.length=some sz:=fun i hi=>by
           have hi':i < len:=by omega
           have h2:(i+1)*sz≤len*sz:=Nat.mul_le_mul_right _ hi';rw[Nat.add_mul] at h2;rw[uf];split
           ·rename_i h1;subst h1;have hk:i*1 < cs'.length:=by omega
            have e:(cs'.drop (i*1)).headD .undef=cs'[i*1]:=by rw[List.drop_eq_getElem_cons hk];rfl
            rw[e];have:=List.all_eq_true.1 hc2.2 _ (List.getElem_mem hk);simpa using this
           ·simp only[AV.cells?,Option.map_some,Option.some.injEq];simp;omega
          have key:=RV.sl (φ:=φ) (nx:=h.next) (pr:=pr') (w:=w) (chunk sz len cs') (φ id).eY ((φ id).base+off) cap sz (fun i j=>if i*sz+j < len*sz then c.getD ((φ id).base+off+(i*sz+j)) default else default) (hids id (by simp)) (by omega)
           (by have:=uV sz len cs';omega) (fun i j=>?_) hszs (fun i j hi hj=>?_) fun i hi j hj=>?_
          ·rw[hcl] at key;exact key
          ·split
           ·have:=k5 (off+(i*sz+j)) (by omega);rw[←Nat.add_assoc] at this;exact this
           ·rfl
          ·obtain⟨hk,_⟩:=hcell i j hi hj;have hlt:(φ id).base+off+(i*sz+j) < c.size:=by omega
           have hin:i*sz+j < len*sz:=by omega
           rw[if_pos hin,Nat.add_assoc ((φ id).base+off)];unfold World.cell?;simp only[k1];simp[Array.getD,hlt]
          ·have hjs:j < sz:=by
            have q:=hszs i hi
            have:(chunk sz len cs')[i].cells.length=sz:=by
             generalize (chunk sz len cs')[i]=y at q ⊢;cases y<;>simp[AV.cells?] at q<;>simp[AV.cells,q]
            omega
           obtain⟨hk,e⟩:=hcell i j hi hjs;rw[List.getElem?_eq_getElem hj] at e;have e:=Option.some.inj e;have hin:i*sz+j < len*sz:=by omega
           rw[e,if_pos hin];exact g2 _ hk
        ·cases he
       ·cases he
      ·cases he
     ·cases he
   ·rename_i cs;obtain⟨⟨cs',ids'⟩,h1,e⟩:=Option.map_eq_some_iff.1 he;cases e;obtain⟨cvs,rfl,g1,g2,g3⟩:=hv.lR;obtain⟨q1,q2⟩:=rV ih _ _ _ (fun j=>cvs.getD j default) h1 g3 hids;exact .agg _ _ (by dsimp only;omega) g2 q2
   ·rename_i cs;obtain⟨⟨cs',ids'⟩,h1,e⟩:=Option.map_eq_some_iff.1 he;cases e;obtain⟨cvs,rfl,g1,g2⟩:=hv.mK;obtain⟨q1,q2⟩:=rV ih _ _ _ (fun j=>cvs.getD j default) h1 g2 hids;exact .tuple _ _ (by dsimp only;omega) q2
   ·cases he;exact eX
theorem Pr.zy {ids:List Nat} {b:Nat} (hb:b < w.heap.size) (hno:∀id,live h id→(φ id).eY=b→id ∈ ids) (hgh:¬ φ.gh b):Pr φ (kill h ids) w b:=
 ⟨hb,fun i hi e=>by
  obtain⟨h1,h2⟩:=HI ids hi;exact h2 (hno i h1 e),hgh⟩
theorem Cd (hr:HR φ h w) {n:Nat} (hn:n≤h.next) (hle:∀id,id < n→ln h id n):
 HR φ (h.gQ n) w∧(∀b,Pr φ h w b→Pr φ (h.gQ n) w b)∧(∀id,n≤id→live h id→Pr φ (h.gQ n) w (φ id).eY):=by
 have lv:∀i,live (h.gQ n) i→i < n∧live h i:=fun i ⟨o,hg,ho⟩=>by
  have hlt:=aa.dx hg;simp only[aa.qW] at hlt;have hi:i < n:=by omega
  rw[aa.mR hi] at hg;exact⟨hi,o,hg,ho⟩
 have pr:∀b,Pr φ h w b→Pr φ (h.gQ n) w b:=fun b hb=>⟨hb.1,fun i hi=>hb.2.1 i (lv i hi).2,hb.2.2⟩
 have mv:∀v cv,v.refs≤n→dS φ h w v cv→dS φ (h.gQ n) w v cv:=fun v cv hv hrv=>hrv.mono (fun id h1 h2=>⟨rfl,by simp only[aa.qW];omega⟩) fun b hb=>⟨pr b hb,rfl⟩
 refine⟨⟨aa.BW n hr.wf,fun i cs hg=>?_,fun i es hg=>?_,fun i j hi hj e=>hr.inj i j (lv i hi).2 (lv j hj).2 e,fun b hb=>⟨(hr.gh b hb).1,fun i hi=>(hr.gh b hb).2 i (lv i hi).2⟩⟩,pr,fun id hid hl=>⟨hr.eh hl,fun i hi e=>?_,fun hg=>(hr.gh _ hg).2 id hl rfl⟩⟩
 ·have hi:=(lv i ⟨_,hg,fun e=>by cases e⟩).1;rw[aa.mR hi] at hg;obtain⟨c,el,fz,k1,k2,k3,k4,k5,k6⟩:=hr.rows i cs hg;refine⟨c,el,fz,k1,k2,k3,k4,k5,fun j hj=>mv _ _ ?_ (k6 j hj)⟩;have h1:=(hle i hi).1 cs hg;have h2:=AV.cH (List.getElem_mem hj);omega
 ·have hi:=(lv i ⟨_,hg,fun e=>by cases e⟩).1;rw[aa.mR hi] at hg;obtain⟨ents,clk,k1,k2,k3⟩:=hr.maps i es hg;refine⟨ents,clk,k1,k2,fun j hj=>?_⟩;have h1:=(hle i hi).2 es hg es[j] (List.getElem_mem hj);exact⟨mv _ _ h1.1 (k3 j hj).1,mv _ _ h1.2 (k3 j hj).2⟩
 ·have hlt:=(lv i hi).1;have:=hr.inj i id (lv i hi).2 hl e;omega
theorem G5 {φ0:dA} {h0:aa} {w0:World} (hr:HR φ h w) (hx:Ext φ0 h0 w0 φ h w) (hcl:CL {h0 with wl:=h0.next,md:=h0.next} h) (LG:HR φ0 h0 w0) {eX:Bool} {v:AV} {cv:Value} (hv:dS φ h w v cv):
 dS φ (finish eX h0 v h).2 w (finish eX h0 v h).1 cv∧HR φ (finish eX h0 v h).2 w∧Ext φ0 h0 w0 φ (finish eX h0 v h).2 w:=by
 have plain:dS φ {h with wl:=min h0.wl h.wl,md:=min h0.md h.md} w v cv∧HR φ {h with wl:=min h0.wl h.wl,md:=min h0.md h.md} w∧Ext φ0 h0 w0 φ {h with wl:=min h0.wl h.wl,md:=min h0.md h.md} w:=by
  obtain⟨a1,a2⟩:=hr.nX (min h0.wl h.wl) (min h0.md h.md);exact⟨hv.ext a2,a1,hx.trans a2⟩
 unfold finish
 cases eX with
 | true=>simpa using plain
 | false=>
   simp only[Bool.false_eq_true,if_false];split
   ·exact plain
   ·rename_i v' ids hfz;have hids:=pT 8 v v' ids hfz;split
    ·rename_i hc;obtain⟨t1,t2,t3⟩:=Cd hr hcl.next (hcl.le h0.next (Nat.le_refl _) hc.1 LG.FU)
     obtain⟨s1,s2⟩:=t1.nX h0.wl (if h.md < h0.next then min h0.md h.md else h0.md);have q:=zQ hr (pr':=Pr φ (h.gQ h0.next) w) t2 8 v cv v' ids hfz hv fun id hid=>t3 id (hids id hid).1 (hids id hid).2
     have hnx:min h.next h0.next=h0.next:=Nat.min_eq_right hcl.next
     have hext:Ext φ0 h0 w0 φ (h.gQ h0.next) w:=by
      refine⟨hx.os,hx.tape,hx.output,hx.size,?_,hx.uU,fun b hb=>⟨t2 b (hx.pr b hb).1,(hx.pr b hb).2⟩,hx.gh⟩;simp only[aa.qW];omega
     refine⟨?_,s1,hext.trans s2⟩;refine (q.mono (fun id h1 h2=>⟨rfl,?_⟩) fun b hb=>⟨hb,rfl⟩:dS φ {h.gQ h0.next with wl:=h0.wl,md:=(if h.md < h0.next then min h0.md h.md else h0.md)} w v' cv);show id < min h.next h0.next
     omega
    ·obtain⟨k1,k2⟩:=F6 ids hr;obtain⟨s1,s2⟩:=k1.nX (min h0.wl h.wl) (min h0.md h.md)
     have q:=zQ hr (pr':=Pr φ (kill h ids) w) (fun b hb=>(k2.pr b hb).1) 8 v cv v' ids hfz hv fun id hid=>
      Pr.zy (hr.eh (hids id hid).2) (fun i hi e=>(by rw[hr.inj i id hi (hids id hid).2 e];exact hid)) fun hg=>(hr.gh _ hg).2 id (hids id hid).2 rfl
     have hnk:∀(ids:List Nat) (h:aa),(kill h ids).next=h.next:=by
      intro ids
      induction ids with
      | nil=>exact fun h=>rfl
      | cons i r ih=>intro h;simp only[kill];rw[ih];simp
     refine⟨?_,s1,hx.trans (k2.trans s2)⟩;have q2:dS φ (kill h ids) w v' cv:=q.mono (fun id _ h2=>⟨rfl,by rw[hnk];exact h2⟩) fun b hb=>⟨hb,rfl⟩
     exact q2.ext s2
end
end Sz

/- A call on a pointer: the objects behind it as a small heap of their own. No program is named here. -/
namespace Sz
open Go
def nE (n:Nat):AV→Bool
 | .ptr id _=>decide (id < n)
 | .vec id _ _ _ _=>decide (id < n)
 | .map id=>decide (id < n)
 | v=>v.refs==0
def xP (n:Nat):bj→Bool
 | .row cs=>cs.all (nE n)
 | .map es=>es.all fun e=>nE n e.1&&nE n e.2
 | .dead=>true
def tP (os:List bj):aa:=⟨os.length,os.reverse,os.length,os.length⟩
theorem zZ (os:List bj) (i:Nat):(tP os).get i=os[i]?:=by
 unfold aa.get tP;dsimp only;by_cases h:i < os.length
 ·rw[if_pos h,List.getElem?_reverse (by omega),show os.length - 1 - (os.length - 1 - i)=i by omega]
 ·rw[if_neg h,List.getElem?_eq_none (by omega)]
structure xL (h:aa) (g:Nat→Nat) (os:List bj):Prop where
 obj:∀i o,os[i]? =some o→(∀_:o=.dead,False)→h.get (g i)=some (ff g o)∧xP os.length o=true
 inj:∀i j o o',os[i]? =some o→os[j]? =some o'→(∀_:o=.dead,False)→(∀_:o'=.dead,False)→g i=g j→i=j
theorem tz {g:Nat→Nat} {o:bj} (h:∀_:o=.dead,False):∀_:ff g o=.dead,False:=fun e=>by
 cases o with
 | dead=>exact h rfl
 | row cs=>cases e
 | map es=>cases e
theorem RV.swap {φ φ':dA} {nx nx' m:Nat} {pr pr':Nat→Prop} {w:World} {a b:Nat→Nat} (hφ:∀i,i < m→φ' (b i)=φ (a i)∧b i < nx') (hpr:∀x,pr x→pr' x) {v:AV} {cv:Value} (hl:nE m v=true)
 (h:RV φ nx pr w (sig a v) cv):RV φ' nx' pr' w (sig b v) cv:=by
 have plain:sig a v=v→sig b v=v→v.refs=0→RV φ' nx' pr' w (sig b v) cv:=fun e1 e2 e3=>by
  rw[e1] at h;rw[e2];exact h.mono (fun id hid _=>by omega) fun x hx=>⟨hpr x hx,rfl⟩
 cases v with
 | ptr id off=>
   obtain⟨rfl,_⟩:=RV.pP h;obtain⟨e,hb⟩:=hφ id (of_decide_eq_true hl);rw[←e];exact .ptr _ _ hb
 | vec id off len sz lb=>
   obtain⟨cap,ad,rfl,_,h1,h2,h3,h4⟩:=RV.gV h;obtain⟨e,hb⟩:=hφ id (of_decide_eq_true hl);rw[←e] at h3 h4;exact .vec _ _ _ _ _ cap ad hb h1 h2 h3 h4
 | map id=>
   obtain⟨rfl,_⟩:=RV.nt h;obtain⟨e,hb⟩:=hφ id (of_decide_eq_true hl);rw[←e];exact .map _ hb
 | _=>exact plain rfl rfl (by simpa[nE] using hl)
theorem w9 {v:AV}:sig (fun i=>i) v=v:=by cases v<;>rfl
section
variable {φ:dA} {h:aa} {w:World} {g:Nat→Nat} {os:List bj}
def lI (φ:dA) (h:aa) (g:Nat→Nat) (os:List bj):dA:=
 ⟨fun i=>φ (g i),fun b=>φ.gh b∨∃id,live h id∧(∀i o,os[i]? =some o→(∀_:o=.dead,False)→g i≠id)∧(φ id).eY=b⟩
theorem vA {i:Nat} (hl:live (tP os) i):∃o,os[i]? =some o∧∀_:o=.dead,False:=by
 obtain⟨o,h1,h2⟩:=hl;rw[zZ] at h1;exact⟨o,h1,h2⟩
theorem xL.live (S:xL h g os) {i:Nat} (hl:Sz.live (tP os) i):Sz.live h (g i):=by
 obtain⟨o,h1,h2⟩:=vA hl;exact⟨_,(S.obj i o h1 h2).1,tz h2⟩
theorem Af (hr:HR φ h w) (S:xL h g os) {b:Nat} (hb:Pr φ h w b):Pr (lI φ h g os) (tP os) w b:=
 ⟨hb.1,fun i hl=>hb.2.1 _ (S.live hl),fun hc=>by
  rcases hc with hc | ⟨id,hl,_,e⟩
  ·exact hb.2.2 hc
  ·exact hb.2.1 id hl e⟩
theorem Pt (hr:HR φ h w) (S:xL h g os):HR (lI φ h g os) (tP os) w:=by
 have swap:∀(v:AV) (cv:Value),nE os.length v=true→dS φ h w (sig g v) cv→dS (lI φ h g os) (tP os) w v cv:=fun v cv hl hv=>by
  have:=RV.swap (φ':=lI φ h g os) (nx':=os.length) (m:=os.length) (pr':=Pr (lI φ h g os) (tP os) w) (a:=g) (b:=fun i=>i) (fun i hi=>⟨rfl,hi⟩) (fun x hx=>Af hr S hx) hl hv;rw[w9] at this;exact this
 refine⟨by simp[aa.wf,tP],fun i cs hg=>?_,fun i es hg=>?_,fun i j hi hj e=>?_,fun b hb=>?_⟩
 ·rw[zZ] at hg;obtain⟨h1,h2⟩:=S.obj i _ hg fun e=>by cases e
  obtain⟨c,el,fr,g1,g2,g3,g4,g5,g6⟩:=hr.rows (g i) _ h1;rw[List.length_map] at g3;refine⟨c,el,fr,g1,g2,g3,g4,g5,fun j hj=>?_⟩;have:=g6 j (by simpa using hj);rw[List.getElem_map] at this;exact swap _ _ (List.all_eq_true.1 h2 _ (List.getElem_mem hj)) this
 ·rw[zZ] at hg;obtain⟨h1,h2⟩:=S.obj i _ hg fun e=>by cases e
  obtain⟨ents,clk,g1,g2,g3⟩:=hr.maps (g i) _ h1;refine⟨ents,clk,g1,by simpa using g2,fun j hj=>?_⟩;have:=g3 j (by simpa using hj);rw[List.getElem_map] at this;have h3:=List.all_eq_true.1 h2 _ (List.getElem_mem hj);rw[Bool.and_eq_true] at h3;exact⟨swap _ _ h3.1 this.1,swap _ _ h3.2 this.2⟩
 ·have:=hr.inj _ _ (S.live hi) (S.live hj) e;obtain⟨o,h1,h2⟩:=vA hi;obtain⟨o',h3,h4⟩:=vA hj;exact S.inj i j o o' h1 h3 h2 h4 this
 ·rcases hb with hb | ⟨id,hl,hn,e⟩
  ·exact⟨(hr.gh b hb).1,fun i hi=>(hr.gh b hb).2 _ (S.live hi)⟩
  ·refine⟨e ▸ hr.eh hl,fun i hi e2=>?_⟩;obtain⟨o,h1,h2⟩:=vA hi;exact hn i o h1 h2 (hr.inj _ _ (S.live hi) hl (e2.trans e.symm))
theorem y9 (h:aa) (k:Nat) (o:bj):(tD h k o).next=h.next:=by
 unfold tD aa.set;split<;>rfl
theorem qS (h:aa) (k:Nat) (o:bj) {i:Nat} (hne:i≠k):(tD h k o).get i=h.get i:=by
 show ({h.set k o with wl:=_}:aa).get i=_;exact aa.get_set_other (Ne.symm hne)
theorem y8 (h:aa) (k:Nat) (o:bj) {o':bj} (hg:h.get k=some o'):(tD h k o).get k=some o:=by
 show ({h.set k o with wl:=_}:aa).get k=_;exact aa.get_set_same hg
theorem mr (g:Nat→Nat):∀(ks:List Nat) (os:List bj) (h:aa),(kU g ks os h).next=h.next
 | [],_,h=>by unfold kU;rfl
 | k::ks,[],h=>by unfold kU;rfl
 | k::ks,o::os,h=>by
   show (kU g ks os (tD h k (ff g o))).next=_
   rw[mr g ks os,y9]
theorem qU (g:Nat→Nat):∀(ks:List Nat) (os:List bj) (h:aa) {i:Nat},i ∉ ks→(kU g ks os h).get i=h.get i
 | [],_,h,_,_=>by unfold kU;rfl
 | k::ks,[],h,_,_=>by unfold kU;rfl
 | k::ks,o::os,h,i,hi=>by
   simp only[List.mem_cons,not_or] at hi;show (kU g ks os (tD h k (ff g o))).get i=_;rw[qU g ks os _ hi.2,qS _ _ _ hi.1]
theorem Fi (g:Nat→Nat):∀(ks:List Nat) (os:List bj) (h:aa),ks.Nodup→(∀k ∈ ks,∃o,h.get k=some o)→∀(i k:Nat) (o:bj),ks[i]? =some k→os[i]? =some o→(kU g ks os h).get k=some (ff g o)
 | [],_,h,_,_,i,k,o,h1,_=>by simp at h1
 | k::ks,[],h,_,_,i,_,o,_,h2=>by simp at h2
 | k::ks,o::os,h,hn,hx,i,k',o',h1,h2=>by
   rw[List.nodup_cons] at hn;show (kU g ks os (tD h k (ff g o))).get k'=_
   cases i with
   | zero=>
     simp only[List.getElem?_cons_zero,Option.some.injEq] at h1 h2;subst h1 h2;obtain⟨q,hq⟩:=hx k (by simp);rw[qU g ks os _ hn.1];exact y8 _ _ _ hq
   | succ i=>
     simp only[List.getElem?_cons_succ] at h1 h2;refine Fi g ks os _ hn.2 (fun j hj=>?_) i k' o' h1 h2;obtain⟨q,hq⟩:=hx j (by simp[hj]);have hne:j≠k:=fun e=>hn.1 (by rw[←e];exact hj)
     exact⟨q,(qS _ _ _ hne).trans hq⟩
theorem yp (g:Nat→Nat):∀(os:List bj) (h:aa),(sR g os h).next=h.next+os.length
 | [],h=>rfl
 | o::os,h=>by
   show (sR g os (h.alloc (ff g o))).next=_
   rw[yp g os];show h.next+1+os.length=_
   simp only[List.length_cons];omega
theorem rL (g:Nat→Nat):∀(os:List bj) (h:aa) {i:Nat},i < h.next→(sR g os h).get i=h.get i
 | [],h,_,_=>rfl
 | o::os,h,i,hi=>by
   show (sR g os (h.alloc (ff g o))).get i=_;rw[rL g os _ (show i < h.next+1 by omega),aa.dc hi]
theorem By (g:Nat→Nat):∀(os:List bj) (h:aa) {j:Nat} {o:bj},os[j]? =some o→(sR g os h).get (h.next+j)=some (ff g o)
 | [],h,j,o,hj=>by simp at hj
 | o::os,h,j,o',hj=>by
   show (sR g os (h.alloc (ff g o))).get (h.next+j)=_
   cases j with
   | zero=>
     simp only[List.getElem?_cons_zero,Option.some.injEq] at hj;subst hj;rw[rL g os _ (show h.next+0 < h.next+1 by omega)];exact aa.dR
   | succ j=>
     have:=By g os (h.alloc (ff g o)) (j:=j) (o:=o') (by simpa using hj);rw[←this];show _=(sR g os (h.alloc (ff g o))).get (h.next+1+j);congr 1;omega
theorem Fp (g:Nat→Nat):∀(os:List bj) {h:aa},h.wf→(sR g os h).wf
 | [],_,hw=>hw
 | o::os,h,hw=>Fp g os (aa.kg _ hw)
theorem Na {h:aa} (k:Nat) (o:bj) (hw:h.wf):(tD h k o).wf:=aa.wf_set k o hw
theorem FV (g:Nat→Nat):∀(ks:List Nat) (os:List bj) {h:aa},h.wf→(kU g ks os h).wf
 | [],_,_,hw=>by unfold kU;exact hw
 | k::ks,[],_,hw=>by unfold kU;exact hw
 | k::ks,o::os,h,hw=>FV g ks os (Na k _ hw)
theorem F7 {τ:List Nat} {os':List bj} (hw:h.wf):(join h τ os').wf:=Fp _ _ (FV _ _ _ hw)
theorem yK {τ:List Nat} {os':List bj}:(join h τ os').next=h.next+(os'.length - τ.length):=by
 unfold join;rw[yp,mr,List.length_drop]
theorem vJ {τ:List Nat} {os':List bj} {i:Nat} (hi:i < h.next) (hn:i ∉ τ):(join h τ os').get i=h.get i:=by
 unfold join;rw[rL _ _ _ (by rw[mr];exact hi),qU _ _ _ _ hn]
theorem Ah {τ:List Nat} {os':List bj} (hn:τ.Nodup) (hx:∀k ∈ τ,∃o,h.get k=some o) {i:Nat} {o:bj} (ho:os'[i]? =some o):(join h τ os').get (j7 h τ i)=some (ff (j7 h τ) o):=by
 unfold join;by_cases hi:i < τ.length
 ·have e:j7 h τ i=τ[i]:=by unfold j7;rw[if_pos hi];simp[List.getD,hi]
  rw[e];obtain⟨q,hq⟩:=hx τ[i] (List.getElem_mem hi);rw[rL _ _ _ (by rw[mr];exact aa.dx hq)];exact Fi _ _ _ _ hn hx i _ o (by simp[hi]) (by rw[List.getElem?_take_of_lt hi];exact ho)
 ·have e:j7 h τ i=h.next+(i - τ.length):=by unfold j7;rw[if_neg hi]
  rw[e];have:=By (j7 h τ) (os'.drop τ.length) (kU (j7 h τ) τ (os'.take τ.length) h) (j:=i - τ.length) (o:=o) (by rw[List.getElem?_drop,show τ.length+(i - τ.length)=i by omega];exact ho);rw[mr] at this;exact this
def n6 (m:Nat) (qs:List Nat) (i:Nat):Nat:=if i < m then i else qs.getD (i - m) 0
def lL (φ φ1:dA) (n:Nat) (qs:List Nat):dA:=⟨fun id=>if id < n then φ id else φ1 (qs.getD (id - n) 0),φ.gh⟩
section
variable {φ1:dA} {h1:aa} {w':World} {τ qs:List Nat} {os':List bj}
theorem LQ (hr:HR φ h w) (S:xL h (fun i=>τ.getD i 0) os) (hτ:τ.length=os.length) (hall:∀o ∈ os,∀_:o=.dead,False) (hle:os.length≤os'.length)
 (hx:Ext (lI φ h (fun i=>τ.getD i 0) os) (tP os) w φ1 h1 w') (hr1:HR φ1 h1 w') (S1:xL h1 (n6 os.length qs) os'):
 HR (lL φ φ1 h.next qs) (join h τ os') w'∧Ext φ h w (lL φ φ1 h.next qs) (join h τ os') w'∧(∀b,Pr φ1 h1 w' b→Pr (lL φ φ1 h.next qs) (join h τ os') w' b):=by
 -- the objects of the small heap,in the great one
 have hget:∀k ∈ τ,∃o,h.get k=some o∧∀_:o=.dead,False:=fun k hk=>by
  obtain⟨i,hi,rfl⟩:=List.getElem_of_mem hk;have hi':i < os.length:=by omega
  have ho:os[i]? =some os[i]:=List.getElem?_eq_getElem hi';have hn:=hall _ (List.getElem_mem hi');have:=(S.obj i _ ho hn).1;have e:τ.getD i 0=τ[i]:=by simp[List.getD,hi]
  rw[e] at this;exact⟨_,this,tz hn⟩
 have hnd:τ.Nodup:=by
  rw[List.nodup_iff_pairwise_ne,List.pairwise_iff_getElem];intro i j hi hj hij e;have hi':i < os.length:=by omega
  have hj':j < os.length:=by omega
  have e1:τ.getD i 0=τ[i]:=by simp[List.getD,hi]
  have e2:τ.getD j 0=τ[j]:=by simp[List.getD,hj]
  have:=S.inj i j _ _ (List.getElem?_eq_getElem hi') (List.getElem?_eq_getElem hj') (hall _ (List.getElem_mem hi')) (hall _ (List.getElem_mem hj')) (by rw[e1,e2];exact e);omega
 have hlt:∀k ∈ τ,k < h.next:=fun k hk=>by
  obtain⟨o,h1,_⟩:=hget k hk;exact aa.dx h1
 have hgx:∀k ∈ τ,∃o,h.get k=some o:=fun k hk=>by
  obtain⟨o,h1,_⟩:=hget k hk;exact⟨o,h1⟩
 have hnx:(join h τ os').next=h.next+(os'.length - os.length):=by rw[yK,hτ]
 have hnew:∀i,i < os'.length→j7 h τ i < (join h τ os').next:=fun i hi=>by
  rw[hnx];unfold j7;split
  ·rename_i hl;have e:τ.getD i 0=τ[i]:=by simp[List.getD,hl]
   rw[e];have:=hlt _ (List.getElem_mem hl);omega
  ·omega
 have hphi:∀i,i < os'.length→(lL φ φ1 h.next qs) (j7 h τ i)=φ1 (n6 os.length qs i):=fun i hi=>by
  unfold j7 n6;by_cases hl:i < τ.length
  ·rw[if_pos hl,if_pos (by omega)];have e:τ.getD i 0=τ[i]:=by simp[List.getD,hl]
   have hk:=hlt _ (List.getElem_mem hl);show (if τ.getD i 0 < h.next then φ (τ.getD i 0) else _)=_;rw[if_pos (by rw[e];exact hk)];have:=hx.uU i (show i < os.length by omega);exact this.symm
  ·rw[if_neg hl,if_neg (by omega)];show (if h.next+(i - τ.length) < h.next then _ else φ1 (qs.getD (h.next+(i - τ.length) - h.next) 0))=_;rw[if_neg (by omega),show h.next+(i - τ.length) - h.next=i - os.length by omega]
 -- what lies in the great heap after the call
 have cases':∀id o,(join h τ os').get id=some o→(id < h.next∧id ∉ τ∧h.get id=some o)∨∃i o',os'[i]? =some o'∧id=j7 h τ i∧o=ff (j7 h τ) o':=fun id o hg=>by
  have hid:=aa.dx hg;rw[hnx] at hid;by_cases hm:id ∈ τ
  ·obtain⟨i,hi,rfl⟩:=List.getElem_of_mem hm;have hi':i < os'.length:=by omega
   have e:j7 h τ i=τ[i]:=by unfold j7;rw[if_pos hi];simp[List.getD,hi]
   have:=Ah (os':=os') hnd hgx (List.getElem?_eq_getElem hi');rw[e,hg] at this;cases this;exact .inr ⟨i,_,List.getElem?_eq_getElem hi',e.symm,rfl⟩
  ·by_cases hl:id < h.next
   ·rw[vJ hl hm] at hg;exact .inl ⟨hl,hm,hg⟩
   ·have hi':id - h.next+τ.length < os'.length:=by omega
    have e:j7 h τ (id - h.next+τ.length)=id:=by unfold j7;rw[if_neg (by omega)];omega
    have:=Ah (os':=os') hnd hgx (List.getElem?_eq_getElem hi');rw[e,hg] at this;cases this;exact .inr ⟨_,_,List.getElem?_eq_getElem hi',e.symm,rfl⟩
 have lv:∀id,live (join h τ os') id→(id < h.next∧id ∉ τ∧live h id)∨∃i o',os'[i]? =some o'∧(∀_:o'=.dead,False)∧id=j7 h τ i:=fun id ⟨o,hg,ho⟩=>by
  rcases cases' id o hg with⟨a1,a2,a3⟩ | ⟨i,o',a1,a2,a3⟩
  ·exact .inl ⟨a1,a2,o,a3,ho⟩
  ·refine .inr ⟨i,o',a1,fun e=>?_,a2⟩;subst e;exact ho a3
 have lv1:∀i o',os'[i]? =some o'→(∀_:o'=.dead,False)→live h1 (n6 os.length qs i):=fun i o' a1 a2=>⟨_,(S1.obj i o' a1 a2).1,tz a2⟩
 -- other objects' blocks are spoken of by none
 have gho:∀id,id ∉ τ→live h id→φ1.gh (φ id).eY:=fun id hn hl=>by
  rw[hx.gh.1];refine .inr ⟨id,hl,fun i o ho hno e=>hn ?_,rfl⟩;have hi:i < os.length:=(List.getElem?_eq_some_iff.1 ho).1;have hi':i < τ.length:=by omega
  have e1:τ.getD i 0=τ[i]:=by simp[List.getD,hi']
  have e2:τ[i]=id:=e1.symm.trans e;rw[←e2];exact List.getElem_mem hi'
 have pr1:∀b,Pr φ1 h1 w' b→Pr (lL φ φ1 h.next qs) (join h τ os') w' b:=fun b hb=>by
  refine⟨hb.1,fun id hl=>?_,fun hg=>hb.2.2 (by rw[hx.gh.1];exact .inl hg)⟩;rcases lv id hl with⟨a1,a2,a3⟩ | ⟨i,o',a1,a2,rfl⟩
  ·show (if id < h.next then φ id else _).eY≠b;rw[if_pos a1];intro e;exact hb.2.2 (e ▸ gho id a2 a3)
  ·rw[hphi i (List.getElem?_eq_some_iff.1 a1).1];exact hb.2.1 _ (lv1 i o' a1 a2)
 have ext:Ext φ h w (lL φ φ1 h.next qs) (join h τ os') w':=by
  refine⟨hx.os,hx.tape,hx.output,hx.size,by rw[hnx];omega,fun id hid=>if_pos hid,fun b hb=>?_,rfl,fun b hb=>hx.gh.2 b (.inl hb)⟩;obtain⟨g1,g2⟩:=hx.pr b (Af hr S hb);exact⟨pr1 b g1,g2⟩
 have swap:∀(v:AV) (cv:Value),nE os'.length v=true→dS φ1 h1 w' (sig (n6 os.length qs) v) cv→dS (lL φ φ1 h.next qs) (join h τ os') w' (sig (j7 h τ) v) cv:=fun v cv hl hv=>
  RV.swap (fun i hi=>⟨hphi i hi,hnew i hi⟩) pr1 hl hv
 refine⟨⟨F7 hr.wf,fun id cs hg=>?_,fun id es hg=>?_,fun i j hi hj e=>?_,fun b hb=>?_⟩,ext,pr1⟩
 ·rcases cases' id _ hg with⟨a1,a2,a3⟩ | ⟨i,o',a1,rfl,a3⟩
  ·have hl:live h id:=⟨_,a3,fun e=>by cases e⟩
   exact (hr.rows id cs a3).ext ext a1 (hx.gh.2 _ (by have:=gho id a2 hl;rw[hx.gh.1] at this;exact this))
  ·cases o' with
   | dead=>cases a3
   | map es=>cases a3
   | row cs'=>
     cases a3;have hil:=(List.getElem?_eq_some_iff.1 a1).1;obtain⟨b1,b2⟩:=S1.obj i _ a1 fun e=>by cases e
     obtain⟨c,el,fr,g1,g2,g3,g4,g5,g6⟩:=hr1.rows _ _ b1;have hp:=hphi i hil;rw[List.length_map] at g3;refine⟨c,el,fr,by rw[hp];exact g1,by rw[hp];exact g2,by rw[hp,List.length_map];exact g3,g4,by rw[hp];exact g5,fun j hj=>?_⟩;have hj':j < cs'.length:=by simpa using hj
     have:=g6 j (by simpa using hj');rw[List.getElem_map] at this ⊢;rw[hp];exact swap _ _ (List.all_eq_true.1 b2 _ (List.getElem_mem hj')) this
 ·rcases cases' id _ hg with⟨a1,a2,a3⟩ | ⟨i,o',a1,rfl,a3⟩
  ·have hl:live h id:=⟨_,a3,fun e=>by cases e⟩
   exact (hr.maps id es a3).ext ext a1 (hx.gh.2 _ (by have:=gho id a2 hl;rw[hx.gh.1] at this;exact this))
  ·cases o' with
   | dead=>cases a3
   | row cs=>cases a3
   | map es'=>
     cases a3;have hil:=(List.getElem?_eq_some_iff.1 a1).1;obtain⟨b1,b2⟩:=S1.obj i _ a1 fun e=>by cases e
     obtain⟨ents,clk,g1,g2,g3⟩:=hr1.maps _ _ b1;have hp:=hphi i hil;rw[List.length_map] at g2;refine⟨ents,clk,by rw[hp];exact g1,by rw[List.length_map];exact g2,fun j hj=>?_⟩;have hj':j < es'.length:=by simpa using hj
     have:=g3 j (by simpa using hj');rw[List.getElem_map] at this ⊢;have b3:=List.all_eq_true.1 b2 _ (List.getElem_mem hj');rw[Bool.and_eq_true] at b3;exact⟨swap _ _ b3.1 this.1,swap _ _ b3.2 this.2⟩
 ·rcases lv i hi with⟨a1,a2,a3⟩ | ⟨p,o,a1,a2,rfl⟩
  ·have ei:(lL φ φ1 h.next qs) i=φ i:=if_pos a1;rcases lv j hj with⟨b1,b2,b3⟩ | ⟨q,o',b1,b2,rfl⟩
   ·have ej:(lL φ φ1 h.next qs) j=φ j:=if_pos b1;rw[ei,ej] at e;exact hr.inj i j a3 b3 e
   ·rw[ei,hphi q (List.getElem?_eq_some_iff.1 b1).1] at e;exact absurd e.symm ((hr1.gh _ (gho i a2 a3)).2 _ (lv1 q o' b1 b2))
  ·rcases lv j hj with⟨b1,b2,b3⟩ | ⟨q,o',b1,b2,rfl⟩
   ·have ej:(lL φ φ1 h.next qs) j=φ j:=if_pos b1;rw[ej,hphi p (List.getElem?_eq_some_iff.1 a1).1] at e;exact absurd e ((hr1.gh _ (gho j b2 b3)).2 _ (lv1 p o a1 a2))
   ·rw[hphi p (List.getElem?_eq_some_iff.1 a1).1,hphi q (List.getElem?_eq_some_iff.1 b1).1] at e;have:=hr1.inj _ _ (lv1 p o a1 a2) (lv1 q o' b1 b2) e;rw[S1.inj p q o o' a1 b1 a2 b2 this]
 ·refine⟨Nat.lt_of_lt_of_le (hr.gh b hb).1 hx.size,fun id hl=>?_⟩;rcases lv id hl with⟨a1,a2,a3⟩ | ⟨i,o',a1,a2,rfl⟩
  ·have ei:(lL φ φ1 h.next qs) id=φ id:=if_pos a1;rw[ei];exact (hr.gh b hb).2 id a3
  ·rw[hphi i (List.getElem?_eq_some_iff.1 a1).1];exact (hr1.gh b (by rw[hx.gh.1];exact .inl hb)).2 _ (lv1 i o' a1 a2)
end
end
end Sz

/- The abstract run is sound. No program is named here. -/
namespace Sz
open Go
variable {X:World→Prop}
def cK (P:Program) (f:Nat) (F:cp):Prop:=
 ∃fn c,P.funcs[f]? =some fn∧(fn.name== "runtime.NumGoroutine")=false∧fn.body=some c∧fn.ntmps=F.ntmps∧bZ P c=some F.code.strip∧dB (rQ P) fn.results.toList=some F.results
def QK (w w':World):Prop:=∀b,b < w.heap.size→w'.heap[b]? =w.heap[b]?
def oN (φ:dA) (h:aa) (w:World) (v:AV) (cv:Value) (w':World):Prop:=dS φ h w' v cv∧HR φ h w'∧Ext φ h w φ h w'∧QK w w'
def fY (P:Program) (X:World→Prop) (f:Nat) (args:List AV) (v:AV):Prop:=∀φ h w cargs,HR φ h w→fC P X φ h w→iB φ h w args cargs→
    ((callFunc f cargs).run P w=.ok (.enter f cargs) w∧Calls P f cargs w fun e w'=>∃cv,e=.returned cv∧oN φ h w v cv w')∨
    ∃cv w',(callFunc f cargs).run P w=.ok (.value cv) w'∧oN φ h w v cv w'
abbrev KP (P:Program) (f:Nat) (args:List AV) (v:AV):Prop:=fY P (fun _=>True) f args v
def b9 (P:Program) (X:World→Prop) (f:Nat) (args:List AV) (os:List bj) (v:AV) (r:Option (List bj)):Prop:=
 ∀φ h w τ cargs,HR φ h w→fC P X φ h w→xL h (fun i=>τ.getD i 0) os→τ.length=os.length→(∀o ∈ os,∀_:o=.dead,False)→iB φ h w (args.map (sig fun i=>τ.getD i 0)) cargs→
   ((callFunc f cargs).run P w=.ok (.enter f cargs) w∧Calls P f cargs w (iw φ h w v (jG h τ r)))∨
   ∃cv w' φ',(callFunc f cargs).run P w=.ok (.value cv) w'∧dS φ' (jG h τ r) w' v cv∧HR φ' (jG h τ r) w'∧Ext φ h w φ' (jG h τ r) w'
structure b8 (P:Program) (X:World→Prop) (E:Env):Prop where
 mixed:P.follows .mixedOrders=true
 fn:∀f F,E.fn f=some F→cK P f F
 xS:∀f args v,E.xS f args=some v→fY P X f args v
 z8:∀f args os v r,E.z8 f args os=some (v,r)→b9 P X f args os v r
theorem zJ {φ:dA} {h:aa} {w w':World} (hr:HR φ h w) (ho:w'.os=w.os) (ht:w'.tape=w.tape) (hu:w'.output=w.output) (hs:w.heap.size≤w'.heap.size) (hsame:QK w w'):HR φ h w'∧Ext φ h w φ h w':=by
 have x:Ext φ h w φ h w':=⟨ho,ht,hu,hs,Nat.le_refl _,fun _ _=>rfl,fun b hb=>⟨⟨Nat.lt_of_lt_of_le hb.1 hs,hb.2⟩,hsame b hb.1⟩,rfl,fun b hb=>hsame b (hr.gh b hb).1⟩
 exact⟨⟨hr.wf,fun i cs hi=>(hr.rows i cs hi).ext x (aa.dx hi) (hsame _ (hr.eh ⟨_,hi,fun e=>by cases e⟩)),
  fun i es hi=>(hr.maps i es hi).ext x (aa.dx hi) (hsame _ (hr.eh ⟨_,hi,fun e=>by cases e⟩)),hr.inj,fun b hb=>⟨Nat.lt_of_lt_of_le (hr.gh b hb).1 hs,(hr.gh b hb).2⟩⟩,x⟩
theorem w5 {φ φ':dA} {nx nx':Nat} {pr pr':Nat→Prop} {w w':World} {v:AV} {cv:Value} (hs:nW v=true) (h:RV φ nx pr w v cv):RV φ' nx' pr' w' v cv:=by
 cases h<;>first | cases hs | skip
 ·exact .bool _
 ·exact .int _ _
 ·exact .str _
 ·exact .jB
 ·exact .aA _
 ·exact .iM
 ·exact .fW
 ·exact .jC
theorem MO {φ φ':dA} {nx nx':Nat} {pr pr':Nat→Prop} {w w':World} {v:AV} {cv:Value} (hs:mQ v=true) (h:RV φ nx pr w v cv):RV φ' nx' pr' w' v cv:=by
 cases v with
 | tuple vs=>
   obtain⟨cvs,rfl,h1,h2⟩:=h.mK;exact .tuple _ _ h1 fun j hj=>w5 (List.all_eq_true.1 hs _ (List.getElem_mem hj)) (h2 j hj)
 | agg vs=>
   obtain⟨cvs,rfl,h1,h2,h3⟩:=h.lR;exact .agg _ _ h1 h2 fun j hj=>w5 (List.all_eq_true.1 hs _ (List.getElem_mem hj)) (h3 j hj)
 | _=>exact w5 hs h
theorem Ns (ids:List Nat):∀h:aa,CL h (kill h ids):=by
 induction ids with
 | nil=>exact fun h=>.refl _
 | cons i r ih=>exact fun h=>(CL.kill h i).trans (ih _)
section
variable {P:Program} {φ:dA} {h:aa} {w:World}
def B7 (tm:Array Value):ResultVar→Sem Value
 | .tmp t=>Pure.pure (tm.getD t undef)
 | .cell a t=>do loadVar t (←asAddr (tm.getD a undef))
theorem qX (fn:Func) (tm:Array Value):results fn tm=(fn.results.mapM (B7 tm) >>=fun vs=>Pure.pure (if h:vs.size=1 then vs[0] else .tuple vs)):=by
 unfold results;congr 1
theorem Du {fr:List AV} {tm:Array Value} (hf:FR φ h w fr tm) (hr:HR φ h w):∀(rs:List ResultVar) (rs':List BN) (vs:List AV),dB (rQ P) rs=some rs'→fT fr h rs'=some vs→
 ∃cvs:List Value,(rs.mapM (B7 tm)).run P w=.ok cvs w∧cvs.length=vs.length∧∀j (h1:j < vs.length) (h2:j < cvs.length),dS φ h w vs[j] cvs[j]
 | [],rs',vs,hc,he=>by
   simp only[dB,Option.some.injEq] at hc;subst hc;simp only[fT,Option.some.injEq] at he;subst he;exact⟨[],by simp,rfl,fun j h1=>by simp at h1⟩
 | r::rs,rs',vs,hc,he=>by
   unfold dB at hc;split at hc
   ·rename_i r' rs'' h1 h2;cases hc;simp only[fT] at he;split at he
    ·rename_i v vs' h3 h4;cases he;obtain⟨cvs,g1,g2,g3⟩:=Du hf hr rs rs'' vs' h2 h4
     have key:∃cv,(B7 tm r).run P w=.ok cv w∧dS φ h w v cv:=by
      cases r with
      | tmp t=>
        simp only[rQ,Option.some.injEq] at h1;subst h1;simp only[pZ,Option.some.injEq] at h3;subst h3;exact⟨_,by simp[B7],hf.2 t⟩
      | cell a t=>
        simp only[rQ,Option.map_eq_some_iff] at h1;obtain⟨n,hn,rfl⟩:=h1;simp only[pZ] at h3;obtain⟨ad,cv,e1,e2,e3⟩:=IU hn (hf.2 a) hr h3;exact⟨cv,by simp[B7,e1,asAddr,e2],e3⟩
     obtain⟨cv,k1,k2⟩:=key;refine⟨cv::cvs,?_,by simp[g2],fun j j1 j2=>?_⟩
     ·rw[List.mapM_cons];simp only[Sem.run_bind,k1,Result.andThen_ok,g1,Sem.run_pure]
     ·cases j with
      | zero=>exact k2
      | succ j=>exact g3 j (Nat.lt_of_succ_lt_succ j1) (Nat.lt_of_succ_lt_succ j2)
    ·cases he
   ·cases hc
end
theorem y0 {h0 h:aa} (hcl:CL {h0 with wl:=h0.next,md:=h0.next} h) {eX:Bool} {v:AV}:CL h0 (finish eX h0 v h).2:=by
 have plain:CL h0 {h with wl:=min h0.wl h.wl,md:=min h0.md h.md}:=⟨hcl.next,Nat.min_le_left _ _,fun n hn hw k id hid=>by
  have:=hcl.le n hn (by dsimp only at hw;omega) (fun i hi=>k i hi) id hid;exact this,Nat.min_le_left _ _,fun id h1 h2=>hcl.same id (by dsimp only at h1;omega) h2⟩
 unfold finish
 cases eX with
 | true=>simpa using plain
 | false=>
   simp only[Bool.false_eq_true,if_false];split
   ·exact plain
   ·rename_i v' ids hfz;split
    ·rename_i hc;have hnx:min h.next h0.next=h0.next:=Nat.min_eq_right hcl.next
     refine⟨?_,Nat.le_refl _,fun n hn hw k id hid=>?_,?_,fun id h1 h2=>?_⟩
     ·show h0.next≤min h.next h0.next
      omega
     ·have hn':n≤h0.next:=hn
      have:=hcl.le n hn (by omega) (fun i hi=>k i hi) id hid;unfold ln at this ⊢;have e:({h.gQ h0.next with wl:=h0.wl,md:=(if h.md < h0.next then min h0.md h.md else h0.md)}:aa).get id=h.get id:=aa.mR (by omega);rw[e];exact this
     ·dsimp only;split<;>omega
     ·have e:({h.gQ h0.next with wl:=h0.wl,md:=(if h.md < h0.next then min h0.md h.md else h0.md)}:aa).get id=h.get id:=aa.mR h2;rw[e];refine hcl.same id ?_ h2;dsimp only at h1;split at h1<;>omega
    ·have hnk:∀(ids:List Nat) (h:aa),(kill h ids).wl=h.wl∧CL h (kill h ids):=by
      intro ids
      induction ids with
      | nil=>exact fun h=>⟨rfl,.refl _⟩
      | cons i r ih=>
        intro h;obtain⟨a1,a2⟩:=ih (h.set i .dead);exact⟨by simp only[kill];rw[a1];simp,(CL.kill h i).trans a2⟩
     have hko:∀(ids:List Nat) (h:aa) (i:Nat),i ∉ ids→(kill h ids).get i=h.get i:=by
      intro ids
      induction ids with
      | nil=>exact fun h i _=>rfl
      | cons j r ih=>
        intro h i hi;simp only[List.mem_cons,not_or] at hi;simp only[kill];rw[ih _ i hi.2,aa.get_set_other (Ne.symm hi.1)]
     obtain⟨n1,n2⟩:=hnk ids h;have hc2:=hcl.trans n2;refine⟨hc2.next,Nat.min_le_left _ _,fun n hn hw k id hid=>?_,Nat.min_le_left _ _,fun id h1 h2=>?_⟩
     ·have:=hc2.le n hn (by rw[n1];dsimp only at hw;omega) (fun i hi=>k i hi) id hid;exact this
     ·have hids:=pT 8 v v' ids hfz;have e:(kill h ids).get id=h.get id:=hko ids h id fun hm=>by have:=(hids id hm).1;omega
      show (kill h ids).get id=h0.get id;rw[e];exact hcl.same id (by dsimp only at h1;omega) h2
theorem Au:∀(ids:List Nat) {h:aa},h.wf→(kill h ids).wf
 | [],_,hw=>hw
 | i::r,_,hw=>Au r (aa.wf_set i .dead hw)
theorem yx {h0 h:aa} {eX:Bool} {v:AV} (hw:h.wf):(finish eX h0 v h).2.wf:=by
 unfold finish
 cases eX with
 | true=>exact hw
 | false=>
   simp only[Bool.false_eq_true,if_false];split
   ·exact hw
   ·split
    ·exact aa.BW _ hw
    ·exact Au _ hw
theorem ou:∀{τ:List Nat} {id:Nat},oF τ id=true↔id ∈ τ
 | [],id=>by simp[oF]
 | k::r,id=>by
   unfold oF;by_cases e:k=id
   ·rw[if_pos e];simp[e]
   ·rw[if_neg e,ou];simp[Ne.symm e]
theorem vk:∀{τ:List Nat} {id:Nat},id ∈ τ→qD τ id < τ.length∧τ.getD (qD τ id) 0=id
 | k::r,id,h=>by
   unfold qD;by_cases e:k=id
   ·rw[if_pos e];simp[e]
   ·rw[if_neg e]
    have h':id ∈ r:=by
     rcases List.mem_cons.1 h with h | h
     ·exact absurd h.symm e
     ·exact h
    obtain⟨a,b⟩:=vk h';exact⟨by simp;omega,by simpa[List.getD] using b⟩
theorem pB:∀(cs:List AV) (acc:List Nat),acc.Nodup→(fb cs acc).Nodup∧∃r,fb cs acc=acc++r
 | [],acc,h=>⟨h,[],by simp[fb]⟩
 | v::cs,acc,h=>by
   unfold fb
   cases hv:v.top with
   | none=>exact pB cs acc h
   | some j=>
     dsimp only;split
     ·exact pB cs acc h
     ·rename_i hn;have hj:j ∉ acc:=fun hm=>hn (ou.2 hm)
      have h2:(acc++[j]).Nodup:=by
       rw[List.nodup_append];refine⟨h,by simp,fun a ha b hb e=>?_⟩;simp at hb;exact hj (hb ▸ e ▸ ha)
      obtain⟨a,r,e⟩:=pB cs (acc++[j]) h2;exact⟨a,j::r,by rw[e];simp⟩
theorem pz {τ:List Nat} {v:AV} (h:okV τ v=true):sig (fun i=>τ.getD i 0) (sig (qD τ) v)=v∧nE τ.length (sig (qD τ) v)=true:=by
 unfold okV at h
 cases v with
 | ptr id off=>
   obtain⟨a,b⟩:=vk (ou.1 h);exact⟨by simp only[sig,b],by simpa[sig,nE] using a⟩
 | vec id off len sz lb=>
   obtain⟨a,b⟩:=vk (ou.1 h);exact⟨by simp only[sig,b],by simpa[sig,nE] using a⟩
 | map id=>
   obtain⟨a,b⟩:=vk (ou.1 h);exact⟨by simp only[sig,b],by simpa[sig,nE] using a⟩
 | _=>exact⟨rfl,h⟩
theorem Fv {τ:List Nat} {o:bj} (h:okO τ o=true):ff (fun i=>τ.getD i 0) (ff (qD τ) o)=o∧xP τ.length (ff (qD τ) o)=true∧∀_:ff (qD τ) o=.dead,False:=by
 cases o with
 | dead=>cases h
 | row cs=>
   have hc:∀v ∈ cs,okV τ v=true:=List.all_eq_true.1 h;refine⟨?_,?_,fun e=>by cases e⟩
   ·simp only[ff,List.map_map];congr 1;conv=>rhs;rw[←List.map_id cs]
    exact List.map_congr_left fun v hv=>(pz (hc v hv)).1
   ·simp only[ff,xP,List.all_map];exact List.all_eq_true.2 fun v hv=>(pz (hc v hv)).2
 | map es=>
   have hc:∀e ∈ es,(okV τ e.1&&okV τ e.2)=true:=List.all_eq_true.1 h;refine⟨?_,?_,fun e=>by cases e⟩
   ·simp only[ff,List.map_map];congr 1;conv=>rhs;rw[←List.map_id es]
    refine List.map_congr_left fun e he=>?_
    have:=hc e he;rw[Bool.and_eq_true] at this;show (sig _ (sig _ e.1),sig _ (sig _ e.2))=e;rw[(pz this.1).1,(pz this.2).1]
   ·simp only[ff,xP,List.all_map];refine List.all_eq_true.2 fun e he=>?_
    have:=hc e he;rw[Bool.and_eq_true] at this;show (nE _ (sig _ e.1)&&nE _ (sig _ e.2))=true;rw[(pz this.1).2,(pz this.2).2];rfl
theorem xi {h:aa} {τ:List Nat}:∀{ks:List Nat} {os:List bj},nS h τ ks=some os→os.length=ks.length∧∀(i:Nat) (o:bj),os[i]? =some o→∃id o0,ks[i]? =some id∧h.get id=some o0∧okO τ o0=true∧o=ff (qD τ) o0
 | [],os,h1=>by
   simp only[nS,Option.some.injEq] at h1;subst h1;exact⟨rfl,fun i o ho=>by simp at ho⟩
 | k::ks,os,h1=>by
   simp only[nS] at h1;split at h1
   ·rename_i o0 os0 h2 h3;split at h1
    ·rename_i hok;cases h1;obtain⟨a,b⟩:=xi h3;refine⟨by simp[a],fun i o ho=>?_⟩
     cases i with
     | zero=>
       simp only[List.getElem?_cons_zero,Option.some.injEq] at ho;exact⟨k,o0,rfl,h2,hok,ho.symm⟩
     | succ i=>exact b i o (by simpa using ho)
    ·cases h1
   ·cases h1
theorem yf {g:Nat→Nat} {v:AV} (h:v.refs=0):sig g v=v:=by
 cases v with
 | ptr id off=>simp[AV.refs] at h
 | vec id off len sz lb=>simp[AV.refs] at h
 | map id=>simp[AV.refs] at h
 | _=>rfl
theorem LO (h:aa) (k:Nat) (o:bj):CL h (tD h k o):=by
 refine⟨by rw[y9];exact Nat.le_refl _,?_,fun n hn hw hk id hid=>?_,aa.pd h k o,fun id h1 _=>aa.nd h k o id h1⟩
 ·show (if o.refs≤k+1 then h.wl else min h.wl k)≤h.wl;split
  ·exact Nat.le_refl _
  ·exact Nat.min_le_left _ _
 ·have hw':n≤(if o.refs≤k+1 then h.wl else min h.wl k):=hw;by_cases e:id=k
  ·subst e
   have hr:o.refs≤id+1:=by
    by_cases hc:o.refs≤id+1
    ·exact hc
    ·rw[if_neg hc] at hw';have:=Nat.le_trans hw' (Nat.min_le_right _ _);omega
   cases hg:h.get id with
   | none=>
     have:(tD h id o).get id=none:=by
      show (h.set id o).get id=none;unfold aa.set;split
      ·rename_i hlt;unfold aa.get at hg ⊢;simp only[hlt,if_true] at hg ⊢;rw[List.getElem?_eq_none_iff] at hg;exact List.getElem?_eq_none (by simpa using hg)
      ·exact hg
     unfold ln;rw[this];exact⟨fun _ e=>(by cases e),fun _ e=>(by cases e)⟩
   | some o'=>
     unfold ln;rw[y8 h id o hg];refine⟨fun cs e=>?_,fun es e p hp=>?_⟩
     ·cases e;have:AV.aq cs≤id+1:=hr;omega
     ·cases e;have h3:AV.aq (es.flatMap fun e=>[e.1,e.2])≤id+1:=hr;have m1:p.1 ∈ es.flatMap fun e=>[e.1,e.2]:=List.mem_flatMap.2 ⟨p,hp,by simp⟩
      have m2:p.2 ∈ es.flatMap fun e=>[e.1,e.2]:=List.mem_flatMap.2 ⟨p,hp,by simp⟩
      have:=AV.cH m1;have:=AV.cH m2;omega
  ·have:=hk id hid;unfold ln at this ⊢;rw[qS h k o e];exact this
theorem Gq (g:Nat→Nat):∀(ks:List Nat) (os:List bj) (h:aa),CL h (kU g ks os h)
 | [],_,h=>by unfold kU;exact .refl _
 | k::ks,[],h=>by unfold kU;exact .refl _
 | k::ks,o::os,h=>(LO h k (ff g o)).trans (Gq g ks os _)
theorem Gy (g:Nat→Nat):∀(os:List bj) (h:aa),CL h (sR g os h)
 | [],h=>.refl _
 | o::os,h=>(CL.alloc h (ff g o)).trans (Gy g os _)
theorem K7 (h:aa) (τ:List Nat):∀r,CL h (jG h τ r)
 | none=>.refl _
 | some os'=>(Gq _ _ _ h).trans (Gy _ _ _)
theorem Ju {h:aa} (hw:h.wf) (τ:List Nat):∀r,(jG h τ r).wf
 | none=>hw
 | some os'=>F7 hw
theorem yT {M:List AV→List bj→Option (AV×Option (List bj))} {args:List AV} {h h':aa} {v:AV} (he:lB M args h=some (v,h')):
 ∃k rest cs os r,args=.ptr k 0::rest∧h.get k=some (.row cs)∧nS h (fb cs [k]) (fb cs [k])=some os∧AV.aq rest=0∧M (.ptr 0 0::rest) os=some (v,r)∧h'=jG h (fb cs [k]) r:=by
 unfold lB at he;split at he
 ·rename_i k rest;split at he
  ·rename_i cs hg;split at he
   ·rename_i os hs;split at he
    ·rename_i hr;obtain⟨⟨v',r⟩,h1,e⟩:=Option.map_eq_some_iff.1 he;cases e;exact⟨k,rest,cs,os,r,rfl,hg,hs,hr,h1,rfl⟩
    ·cases he
   ·cases he
  ·cases he
 ·cases he
theorem IY {P:Program} {E:Env} (hE:b8 P X E) {f:Nat} {args:List AV} {h h':aa} {v:AV} (he:lB (E.z8 f) args h=some (v,h')) {φ:dA} {w:World} {cargs:Array Value} (hr:HR φ h w) (hG:fC P X φ h w)
 (ha:iB φ h w args cargs):((callFunc f cargs).run P w=.ok (.enter f cargs) w∧Calls P f cargs w (iw φ h w v h'))∨
  ∃cv w' φ',(callFunc f cargs).run P w=.ok (.value cv) w'∧dS φ' h' w' v cv∧HR φ' h' w'∧Ext φ h w φ' h' w':=by
 obtain⟨k,rest,cs,os,r,rfl,hg,hs,hrest,hm,rfl⟩:=yT he;obtain⟨hn,q,hq⟩:=pB cs [k] (by simp);obtain⟨hl,hso⟩:=xi hs;have hg0:∀i,i < (fb cs [k]).length→∀id,(fb cs [k])[i]? =some id→(fb cs [k]).getD i 0=id:=fun i hi id hid=>by simp[List.getD,hid]
 refine hE.z8 f _ os v r hm φ h w (fb cs [k]) cargs hr hG ⟨fun i o ho hno=>?_,fun i j o o' ho ho' _ _ e=>?_⟩ hl.symm (fun o ho e=>?_) ?_
 ·obtain⟨id,o0,a1,a2,a3,rfl⟩:=hso i o ho;obtain⟨b1,b2,_⟩:=Fv a3;refine⟨?_,by rw[hl];exact b2⟩;show h.get ((fb cs [k]).getD i 0)=_;rw[hg0 i (List.getElem?_eq_some_iff.1 a1).1 id a1,b1];exact a2
 ·have hi:i < (fb cs [k]).length:=by have:=(List.getElem?_eq_some_iff.1 ho).1;omega
  have hj:j < (fb cs [k]).length:=by have:=(List.getElem?_eq_some_iff.1 ho').1;omega
  have e':(fb cs [k])[i]=(fb cs [k])[j]:=by
   have e:(fb cs [k]).getD i 0=(fb cs [k]).getD j 0:=e;simpa[List.getD,hi,hj] using e
  exact (List.getElem_inj hn).1 e'
 ·obtain⟨i,hi,rfl⟩:=List.getElem_of_mem ho;obtain⟨id,o0,a1,a2,a3,a4⟩:=hso i _ (List.getElem?_eq_getElem hi);rw[a4] at e;exact (Fv a3).2.2 e
 ·have e0:(AV.ptr 0 0::rest).map (sig fun i=>(fb cs [k]).getD i 0)=.ptr k 0::rest:=by
   rw[List.map_cons]
   have h1:sig (fun i=>(fb cs [k]).getD i 0) (.ptr 0 0)=.ptr k 0:=by
    show AV.ptr ((fb cs [k]).getD 0 0) 0=_;rw[hq];rfl
   have h2:rest.map (sig fun i=>(fb cs [k]).getD i 0)=rest:=by
    conv=>rhs;rw[←List.map_id rest]
    exact List.map_congr_left fun v hv=>yf (by have:=AV.cH hv;omega)
   rw[h1,h2]
  rw[e0];exact ha
theorem rk {P:Program} {E:Env} (hE:b8 P X E):∀n,iR P X (az E n)∧km (az E n)
 | 0=>⟨fun f args h v h' he=>by simp[az] at he,fun f args h v h' he=>by simp[az] at he⟩
 | n+1=>by
   obtain⟨ih1,ih2⟩:=rk hE n
   have both:∀f args h v h',az E (n+1) f args h=some (v,h')→(∀φ w cargs,HR φ h w→fC P X φ h w→iB φ h w args cargs→
    ((callFunc f cargs).run P w=.ok (.enter f cargs) w∧Calls P f cargs w (iw φ h w v h'))∨
    ∃cv w' φ',(callFunc f cargs).run P w=.ok (.value cv) w'∧dS φ' h' w' v cv∧HR φ' h' w'∧Ext φ h w φ' h' w'):=by
    intro f args h v h' he φ w cargs hr hG ha;simp only[az] at he;split at he
    ·rename_i r hp;cases he;obtain⟨⟨args',ids⟩,h1,h2⟩:=Option.bind_eq_some_iff.1 hp;obtain⟨v,hpv,e⟩:=Option.map_eq_some_iff.1 h2;simp only[Prod.mk.injEq] at e;obtain⟨rfl,rfl⟩:=e;obtain⟨k1,k2⟩:=F6 ids hr;have hids:∀id ∈ ids,live h id:=fun id hid=>(oV (p:=fun id=>0≤id∧live h id) (fun v v' ids he=>pT 8 v v' ids he) args args' ids h1 id hid).2
     have hnk:(kill h ids).next=h.next:=by
      have:∀(ids:List Nat) (h:aa),(kill h ids).next=h.next:=by
       intro ids
       induction ids with
       | nil=>exact fun h=>rfl
       | cons i r ih=>intro h;simp only[kill];rw[ih];simp
      exact this ids h
     obtain⟨q1,q2⟩:=rV (φ:=φ) (nx:=h.next) (pr:=Pr φ h w) (pr':=Pr φ (kill h ids) w) (w:=w) (fun v cv v' ids' he hv hi=>zQ hr (n0:=0) (pr':=Pr φ (kill h ids) w) (fun b hb=>(k2.pr b hb).1) 8 v cv v' ids' he hv hi) args args' ids (fun j=>cargs.getD j default) h1 ha.2
      fun id hid=>Pr.zy (hr.eh (hids id hid)) (fun i hi e=>(by rw[hr.inj i id hi (hids id hid) e];exact hid)) fun hg=>(hr.gh _ hg).2 id (hids id hid) rfl
     have ha':iB φ (kill h ids) w args' cargs:=⟨ha.1.trans q1.symm,fun j hj=>(q2 j hj).mono (fun id _ hid=>⟨rfl,by rw[hnk];exact hid⟩) fun b hb=>⟨hb,rfl⟩⟩
     have fin:∀cv w',oN φ (kill h ids) w v cv w'→dS φ (if mQ v then h else kill h ids) w' v cv∧HR φ (if mQ v then h else kill h ids) w'∧Ext φ h w φ (if mQ v then h else kill h ids) w':=fun cv w' ⟨g1,g2,g3,g4⟩=>by
      by_cases hs:mQ v=true
      ·obtain⟨s1,s2⟩:=zJ hr g3.os g3.tape g3.output g3.size g4;rw[if_pos hs];exact⟨MO hs g1,s1,s2⟩
      ·rw[if_neg hs];exact⟨g1,g2,k2.trans g3⟩
     rcases hE.xS f args' v hpv φ (kill h ids) w cargs k1 (hG.ext k2) ha' with⟨e1,e2⟩ | ⟨cv,w',e1,e2⟩
     ·exact .inl ⟨e1,e2.mono fun e w' ⟨cv,he,hp⟩=>⟨φ,cv,he,fin cv w' hp⟩⟩
     ·exact .inr ⟨cv,w',φ,e1,fin cv w' e2⟩
    ·split at he
     ·rename_i r hm;cases he;exact IY hE hm hr hG ha
     split at he
     ·cases he
     ·rename_i F hF;obtain⟨fn,c,hfn,hname,hbody,hnt,hcode,hres⟩:=hE.fn f F hF;left
      have hcall:(callFunc f cargs).run P w=.ok (.enter f cargs) w:=by
       have hne:¬ fn.name= "runtime.NumGoroutine" :=by simpa using hname
       simp[callFunc,hfn,hne,hbody]
      refine⟨hcall,?_⟩
      have hbegin:∃ex fr hh vs,aT (az E n) n F.code (args++List.replicate (F.ntmps - args.length) .undef) {h with wl:=h.next,md:=h.next}=some (ex,fr,hh)∧(ex=.normal∨ex=.ret)∧fT fr hh F.results=some vs∧
       (v,h')=finish F.eX h (oneOf vs) hh:=by
       cases hev:aT (az E n) n F.code (args++List.replicate (F.ntmps - args.length) .undef) {h with wl:=h.next,md:=h.next} with
       | none=>rw[hev] at he;cases he
       | some r=>
         obtain⟨ex,fr,hh⟩:=r;rw[hev] at he
         cases ex with
         | exit id=>cases he
         | normal=>
           obtain⟨vs,hvs,e⟩:=Option.map_eq_some_iff.1 he;exact⟨.normal,fr,hh,vs,rfl,.inl rfl,hvs,e.symm⟩
         | ret=>
           obtain⟨vs,hvs,e⟩:=Option.map_eq_some_iff.1 he;exact⟨.ret,fr,hh,vs,rfl,.inr rfl,hvs,e.symm⟩
      obtain⟨ex,fr,hh,vs,hev,hex,hvs,hfin⟩:=hbegin;obtain⟨s1,s2⟩:=hr.nX h.next h.next
      have hfr:FR φ {h with wl:=h.next,md:=h.next} w (args++List.replicate (F.ntmps - args.length) .undef) (cargs++Array.replicate (fn.ntmps - cargs.size) undef):=by
       refine⟨by simp[ha.1,hnt],fun t=>?_⟩;by_cases ht:t < args.length
       ·have:=(ha.2 t ht).ext s2;rw[List.getD_eq_getElem?_getD,List.getElem?_append_left ht,List.getElem?_eq_getElem ht,Option.getD_some];have ht2:t < cargs.size:=by rw[ha.1];exact ht
        rw[Array.getD_eq_getD_getElem?] at this ⊢;rw[Array.getElem?_append_left ht2,Array.getElem?_eq_getElem ht2,Option.getD_some];rw[Array.getElem?_eq_getElem ht2,Option.getD_some] at this;exact this
       ·have hu:(args++List.replicate (F.ntmps - args.length) AV.undef).getD t .undef=.undef:=by
         rw[List.getD_eq_getElem?_getD,List.getElem?_append_right (by omega),List.getElem?_replicate];split<;>rfl
        rw[hu];exact .undef _
      refine calls_of_wp hfn hbody ?_;refine jY ih1 ih2 hE.mixed n c F.code hcode hev hfr s1 (hG.ext s2) fun φ' a' w' f1 r1 e1 d1=>?_
      have hcl:=(nB ih2 hev s1.wf).1;obtain⟨cvs,g1,g2,g3⟩:=Du (P:=P) f1 r1 fn.results.toList F.results vs hres hvs
      have hresrun:∃cv,(results fn a'.tmps).run P w'=.ok cv w'∧dS φ' hh w' (oneOf vs) cv:=by
       have hm:(fn.results.mapM (B7 a'.tmps)).run P w'=.ok cvs.toArray w':=by
        rw[Array.mapM_eq_mapM_toList];simp only[Sem.run_map,g1,Result.andThen_ok]
       refine⟨if h:cvs.toArray.size=1 then cvs.toArray[0] else .tuple cvs.toArray,?_,?_⟩
       ·rw[qX];simp only[Sem.run_bind,hm,Result.andThen_ok,Sem.run_pure]
       ·match vs,cvs,g2,g3 with
        | [v1],[c1],_,g3=>
          exact g3 0 (by simp) (by simp)
        | [],[],_,_=>exact .tuple _ _ rfl fun j hj=>by simp at hj
        | v1::v2::vr,cvs,g2,g3=>
          have hsz:¬ (cvs.toArray.size=1):=by
           simp at g2 ⊢;omega
          rw[dif_neg hsz];refine .tuple _ _ (by simpa using g2) fun j hj=>?_
          have hj2:j < cvs.length:=by omega
          have:=g3 j hj hj2;simpa[Array.getD,hj2] using this
      obtain⟨cv,q1,q2⟩:=hresrun;obtain⟨t1,t2,t3⟩:=G5 (eX:=F.eX) (h0:=h) (φ0:=φ) (w0:=w) r1 (s2.trans e1) hcl hr q2;rw[←hfin] at t1 t2 t3;have post:iw φ h w v h' (.returned cv) w':=⟨φ',cv,rfl,t1,t2,t3⟩
      have hd:a'.defers=[]:=d1;rcases hex with rfl | rfl
      ·exact⟨hd,cv,q1,post⟩
      ·exact⟨hd,cv,q1,post⟩
   refine⟨both,fun f args h v h' he hwf=>?_⟩;simp only[az] at he;split at he
   ·rename_i r hp;cases he;obtain⟨⟨args',ids⟩,h1,h2⟩:=Option.bind_eq_some_iff.1 hp;obtain⟨v,hpv,e⟩:=Option.map_eq_some_iff.1 h2;simp only[Prod.mk.injEq] at e;obtain⟨rfl,rfl⟩:=e;by_cases hs:mQ v=true
    ·rw[if_pos hs];exact⟨.refl _,hwf⟩
    ·rw[if_neg hs];exact⟨Ns ids h,Au ids hwf⟩
   ·split at he
    ·rename_i r hm;cases he;obtain⟨k,rest,cs,os,r,rfl,hg,hs,hrest,hm,rfl⟩:=yT hm;exact⟨K7 h _ r,Ju hwf _ r⟩
    split at he
    ·cases he
    ·rename_i F hF
     cases hev:aT (az E n) n F.code (args++List.replicate (F.ntmps - args.length) .undef) {h with wl:=h.next,md:=h.next} with
     | none=>rw[hev] at he;cases he
     | some r=>
       obtain⟨ex,fr,hh⟩:=r;rw[hev] at he;obtain⟨hcl,hw'⟩:=nB ih2 hev hwf
       cases ex with
       | exit id=>cases he
       | normal=>
         obtain⟨vs,hvs,e⟩:=Option.map_eq_some_iff.1 he;have:=y0 (eX:=F.eX) (v:=oneOf vs) hcl;have w2:=yx (eX:=F.eX) (v:=oneOf vs) (h0:=h) hw';rw[e] at this w2;exact⟨this,w2⟩
       | ret=>
         obtain⟨vs,hvs,e⟩:=Option.map_eq_some_iff.1 he;have:=y0 (eX:=F.eX) (v:=oneOf vs) hcl;have w2:=yx (eX:=F.eX) (v:=oneOf vs) (h0:=h) hw';rw[e] at this w2;exact⟨this,w2⟩
abbrev Ob (P:Program) (E:Env):Prop:=b8 P (fun _=>True) E
end Sz

/- slices.Clone of an empty slice, nil or not. No program is named here. -/
namespace Sz
open Go
variable {X:World→Prop}
def C0:Nat→List AV→aa→Option (AV×aa):=fun _ _ _=>none
structure Ab (P:Program) (f:Nat):Prop where
 mk::ok:∃(fn:Func) (r0 r2 r3:Code) (i1:Nat) (o1 o2:Oper) (t e ty:TypeId) (a0 a2 a3:bH),P.funcs[f]? =some fn∧(fn.name== "runtime.NumGoroutine")=false∧fn.body=some (.seq r0 (.seq (.seq (.region i1 #[o1,o2] false) (.cond (.tmp 4) r2 .skip)) r3))∧fn.ntmps=8∧fn.results=#[.tmp 2]∧fA P #[o1,o2] o1=some ⟨some 3,.op (.lJ (.tmp 0)),none⟩∧o2.op=.binOp .eql t (.tmp 3) (.const (.slice none 0 0)) ty∧o2.dst=some 4∧o2.guard=none∧P.underlying t=some (.slice e)∧bZ P r0=some a0.strip∧bZ P r2=some a2.strip∧bZ P r3=some a3.strip∧(∀v h,aT C0 1 a0 [v,.undef,.undef,.undef,.undef,.undef,.undef,.undef] h=some (.normal,[v,.undef,.aA,.undef,.undef,.undef,.undef,.undef],h))∧(∀v h,aT C0 1 a2 [v,.undef,.aA,v,.bool true,.undef,.undef,.undef] h=some (.ret,[v,.undef,.aA,v,.bool true,.undef,.undef,.undef],h))∧(∀v,v=.aA∨v=.sl []→∀h,aT C0 1 a3 [v,.undef,.aA,v,.bool false,.undef,.undef,.undef] h=some (.ret,[v,.undef,.aA,v,.bool false,.aA,v,.aA],h))
theorem D7 {P:Program} (hm:P.follows .mixedOrders=true) {f:Nat} (hc:Ab P f) {v:AV} (hv:v=.aA∨v=.sl []) {φ:dA} {h:aa} {w:World} {cargs:Array Value} (hr:HR φ h w) (hG:fC P X φ h w) (ha:iB φ h w [v] cargs):
 (callFunc f cargs).run P w=.ok (.enter f cargs) w∧Calls P f cargs w (iw φ h w .aA h):=by
 obtain⟨fn,r0,r2,r3,i1,o1,o2,t,e,ty,a0,a2,a3,hfn,hname,hbody,hnt,hres,hs1,hop,hd2,hg2,ht,c0,c2,c3,e0,e2,e3⟩:=hc.ok;have hC:iR P X C0:=fun f args h v h' he=>by cases he
 have hCL:km C0:=fun f args h v h' he=>by cases he
 have hcall:(callFunc f cargs).run P w=.ok (.enter f cargs) w:=by
  have hne:¬ fn.name= "runtime.NumGoroutine" :=by simpa using hname
  simp[callFunc,hfn,hne,hbody]
 refine⟨hcall,?_⟩;have hargs:cargs.size=1:=ha.1;have hv0:dS φ h w v (cargs.getD 0 default):=ha.2 0 (by simp)
 have hfr:FR φ h w [v,.undef,.undef,.undef,.undef,.undef,.undef,.undef] (cargs++Array.replicate (fn.ntmps - cargs.size) undef):=by
  refine⟨by simp[hargs,hnt],fun t=>?_⟩
  cases t with
  | zero=>
    rw[Array.getD_eq_getD_getElem?] at hv0 ⊢;rw[Array.getElem?_append_left (by omega)];rw[Array.getElem?_eq_getElem (by omega:0 < cargs.size)] at hv0 ⊢;exact hv0
  | succ t=>
    have:([v,.undef,.undef,.undef,.undef,.undef,.undef,.undef]:List AV).getD (t+1) .undef=.undef:=by
     match t with
     | 0 | 1 | 2 | 3 | 4 | 5 | 6=>rfl
     | n+7=>rfl
    rw[this];exact .undef _
 refine calls_of_wp hfn hbody ?_;refine wp_seq ?_;refine jY hC hCL hm 1 r0 a0 c0 (e0 v h) hfr hr hG fun φ1 a1 w1 f1 r1 x1 d1=>?_
 refine wp_seq ?_;refine wp_seq ?_;refine wp_region_list ?_;refine wpList_step fun K hK=>?_
 have h1:cn C0 ⟨some 3,.op (.lJ (.tmp 0)),none⟩ [v,.undef,.aA,.undef,.undef,.undef,.undef,.undef] h=some ([v,.undef,.aA,v,.undef,.undef,.undef,.undef],h):=rfl;refine rq hC hs1 h1 f1 r1 (hG.ext x1) fun φ2 cv w2 f2 r2' x2=>hK _ _ ?_
 refine wpList_step fun K2 hK2=>?_
 have hw:Region.wanted o2 (yielded #[o1,o2] (a1.put o1.dst cv).tmps)=true:=by simp[Region.wanted,hg2]
 rw[if_pos hw];have x12:=x1.trans x2
 -- what is tested
 have hx:∃ad n c,(a1.put o1.dst cv).eval (.tmp 3)=.slice ad n c:=by
  have q:=bV (x:=.tmp 3) (x':=.tmp 3) rfl f2;have q':dS φ2 h w2 v ((a1.put o1.dst cv).eval (.tmp 3)):=q;rcases hv with rfl | rfl
  ·obtain⟨ad,e⟩:=q'.kf;exact⟨ad,0,0,e⟩
  ·rcases q'.o5 with⟨ad,c,_,e⟩ | ⟨b,o',c,sz,vs,e,_⟩
   ·exact⟨ad,0,c,e⟩
   ·exact⟨_,_,c,e⟩
 obtain⟨ad,n,c,hx⟩:=hx;have hrun:=Cn (neg:=false) hop ht hx w2;unfold Oper.wp;rw[hrun,Oper.upon_value];refine hK2 _ _ (wpList_nil ?_)
 have f3:FR φ2 h w2 [v,.undef,.aA,v,.bool ad.isNone,.undef,.undef,.undef] ((a1.put o1.dst cv).put o2.dst (.bool ad.isNone)).tmps:=by
  rw[hd2];exact f2.put (RV.bool _) 4
 have d3:((a1.put o1.dst cv).put o2.dst (.bool ad.isNone)).defers=[]:=by
  rw[put_defers,put_defers];exact d1
 have fin:∀(fr:List AV) (φ':dA) (a':Act) (w':World),fr.getD 2 .undef=.aA→FR φ' h w' fr a'.tmps→HR φ' h w'→Ext φ h w φ' h w'→a'.defers=[]→
  a'.defers=[]∧∃v,(results fn a'.tmps).run P w'=.ok v w'∧iw φ h w .aA h (.returned v) w':=fun fr φ' a' w' hfr' hf' hr' hx' hd'=>by
  refine⟨hd',a'.tmps.getD 2 undef,?_,φ',_,rfl,?_,hr',hx'⟩
  ·rw[qX,hres];simp[B7]
  ·have:=hf'.2 2;rw[hfr'] at this;exact this
 cases hn:ad.isNone with
 | true=>
   rw[hn] at f3 d3;refine wp_cond (RV.fp (bV (x:=.tmp 4) (x':=.tmp 4) rfl f3:dS φ2 h w2 (.bool true) _)) ?_;refine jY hC hCL hm 1 r2 a2 c2 (e2 v h) f3 r2' (hG.ext x12) fun φ4 a4 w4 f4 r4 x4 d4=>?_
   exact fin _ φ4 a4 w4 rfl f4 r4 (x12.trans x4) (d4.trans d3)
 | false=>
   rw[hn] at f3 d3;refine wp_cond (RV.fp (bV (x:=.tmp 4) (x':=.tmp 4) rfl f3:dS φ2 h w2 (.bool false) _)) ?_;refine wp_skip ?_;refine jY hC hCL hm 1 r3 a3 c3 (e3 v hv h) f3 r2' (hG.ext x12) fun φ4 a4 w4 f4 r4 x4 d4=>?_
   exact fin _ φ4 a4 w4 rfl f4 r4 (x12.trans x4) (d4.trans d3)
end Sz

/- A call's answer in the empty abstract heap is its answer in any. No program is named here. -/
namespace Sz
open Go
variable {X:World→Prop}
def h0:aa:=⟨0,[],0,0⟩
theorem py {P:Program} {f:Nat} {args:List AV} {v:AV} {h':aa} (hv:v.refs=0) (ha:AV.aq args=0)
 (he:∀φ w cargs,HR φ h0 w→fC P X φ h0 w→iB φ h0 w args cargs→((callFunc f cargs).run P w=.ok (.enter f cargs) w∧Calls P f cargs w (iw φ h0 w v h'))∨
     ∃cv w' φ',(callFunc f cargs).run P w=.ok (.value cv) w'∧dS φ' h' w' v cv∧HR φ' h' w'∧Ext φ h0 w φ' h' w'):fY P X f args v:=by
 intro φ h w cargs hr hG hargs
 let φ0:dA:=⟨φ.at_,fun b=>φ.gh b∨∃id,live h id∧(φ id).eY=b⟩
 have nol:∀id,¬ live h0 id:=fun id ⟨o,hg,_⟩=>by simp[aa.get,h0] at hg
 have LG:HR φ0 h0 w:=by
  refine⟨rfl,fun id cs hg=>by simp[aa.get,h0] at hg,fun id es hg=>by simp[aa.get,h0] at hg,fun i j hi=>absurd hi (nol i),fun b hb=>⟨?_,fun id hl=>absurd hl (nol id)⟩⟩;rcases hb with hb | ⟨id,hl,rfl⟩
  ·exact (hr.gh b hb).1
  ·exact hr.eh hl
 have LA:∀b,Pr φ h w b→Pr φ0 h0 w b:=fun b hb=>⟨hb.1,fun id hl=>absurd hl (nol id),fun hc=>by
  rcases hc with hc | ⟨id,hl,e⟩
  ·exact hb.2.2 hc
  ·exact hb.2.1 id hl e⟩
 have ha0:iB φ0 h0 w args cargs:=⟨hargs.1,fun j hj=>(hargs.2 j hj).mono (fun id hid _=>by
  have:=AV.cH (List.getElem_mem hj);omega) fun b hb=>⟨LA b hb,rfl⟩⟩
 have back:∀(φ':dA) (cv:Value) (w':World),dS φ' h' w' v cv→Ext φ0 h0 w φ' h' w'→oN φ h w v cv w':=fun φ' cv w' g1 g3=>by
  have hsame:QK w w':=fun b hb=>by
   by_cases hg:φ0.gh b
   ·exact g3.gh.2 b hg
   ·exact (g3.pr b ⟨hb,fun id hl=>absurd hl (nol id),hg⟩).2
  obtain⟨s1,s2⟩:=zJ hr g3.os g3.tape g3.output g3.size hsame;refine⟨g1.mono (fun id hid _=>by omega) fun b hb=>⟨⟨hb.1,fun id hl e=>?_,fun hg=>?_⟩,rfl⟩,s1,s2,hsame⟩
  ·exact hb.2.2 (by rw[g3.gh.1];exact .inr ⟨id,hl,e⟩)
  ·exact hb.2.2 (by rw[g3.gh.1];exact .inl hg)
 have hG0:fC P X φ0 h0 w:=by
  obtain⟨w1,g1,g2⟩:=hG;refine⟨w1,g1,fun b hb=>?_⟩;obtain⟨a1,a2,a3⟩:=g2 b hb;refine⟨a1,?_,a3⟩;rcases a2 with a2 | a2
  ·exact .inl (.inl a2)
  ·exact .inr (LA b a2)
 rcases he φ0 w cargs LG hG0 ha0 with⟨e1,e2⟩ | ⟨cv,w',φ',e1,e2,e3,e4⟩
 ·refine .inl ⟨e1,e2.mono fun e w' he=>?_⟩;obtain⟨φ',cv,rfl,g1,g2,g3⟩:=he;exact⟨cv,rfl,back φ' cv w' g1 g3⟩
 ·exact .inr ⟨cv,w',e1,back φ' cv w' e2 e4⟩
theorem cB {P:Program} {E:Env} (hE:b8 P X E) {n f:Nat} {args:List AV} {v:AV} {h':aa} (he:az E n f args h0=some (v,h')) (hv:v.refs=0) (ha:AV.aq args=0):fY P X f args v:=
 py (h':=h') hv ha fun φ w cargs hr hG hargs=>(rk hE n).1 f args h0 v h' he φ w cargs hr hG hargs
theorem Cv {φ:dA} {h h':aa} {w:World} (hg:∀id,h'.get id=h.get id):Pr φ h' w=Pr φ h w:=by
 funext b;unfold Pr live;simp only[hg]
theorem HR.congr {φ:dA} {h h':aa} {w:World} (hg:∀id,h'.get id=h.get id) (hn:h'.next=h.next) (hw:h.wf) (hr:HR φ h' w):HR φ h w:=by
 have hp:=Cv (φ:=φ) (w:=w) hg;refine⟨hw,fun id cs hi=>?_,fun id es hi=>?_,fun i j hi hj e=>hr.inj i j ?_ ?_ e,fun b hb=>⟨(hr.gh b hb).1,fun id hl=>(hr.gh b hb).2 id ?_⟩⟩
 ·have:=hr.rows id cs (by rw[hg];exact hi);unfold oE dS at this ⊢;rw[hp,hn] at this;exact this
 ·have:=hr.maps id es (by rw[hg];exact hi);unfold sa dS at this ⊢;rw[hp,hn] at this;exact this
 ·unfold live at hi ⊢;rw[hg];exact hi
 ·unfold live at hj ⊢;rw[hg];exact hj
 ·unfold live at hl ⊢;rw[hg];exact hl
theorem wB {m:Nat} {g g':Nat→Nat} (hg:∀i,i < m→g i=g' i) {v:AV} (h:nE m v=true):sig g v=sig g' v:=by
 cases v with
 | ptr id off=>simp only[sig];rw[hg id (of_decide_eq_true h)]
 | vec id off len sz lb=>simp only[sig];rw[hg id (of_decide_eq_true h)]
 | map id=>simp only[sig];rw[hg id (of_decide_eq_true h)]
 | _=>rfl
theorem B6 {m:Nat} {g g':Nat→Nat} (hg:∀i,i < m→g i=g' i) {o:bj} (h:xP m o=true):ff g o=ff g' o:=by
 cases o with
 | dead=>rfl
 | row cs=>
   simp only[ff];congr 1;exact List.map_congr_left fun v hv=>wB hg (List.all_eq_true.1 h v hv)
 | map es=>
   simp only[ff];congr 1;refine List.map_congr_left fun e he=>?_
   have:=List.all_eq_true.1 h e he;rw[Bool.and_eq_true] at this;rw[wB hg this.1,wB hg this.2]
theorem vm {P:Program} {E:Env} (hE:b8 P X E) {n f:Nat} {args:List AV} {os:List bj} {v:AV} {h1:aa} {r:Option (List bj)} {qs:List Nat} (he:az E n f args (tP os)=some (v,h1)) (hv:v.refs=0)
 (ha:∀a ∈ args,nE os.length a=true) (hle:os.length≤(r.getD os).length) (hs:xL h1 (n6 os.length qs) (r.getD os)):b9 P X f args os v r:=by
 intro φ h w τ cargs hr hG S hτ hall hargs;have LG:=Pt hr S
 have hG0:fC P X (lI φ h (fun i=>τ.getD i 0) os) (tP os) w:=by
  obtain⟨w1,g1,g2⟩:=hG;refine⟨w1,g1,fun b hb=>?_⟩;obtain⟨a1,a2,a3⟩:=g2 b hb;refine⟨a1,?_,a3⟩;rcases a2 with a2 | a2
  ·exact .inl (.inl a2)
  ·exact .inr (Af hr S a2)
 have ha0:iB (lI φ h (fun i=>τ.getD i 0) os) (tP os) w args cargs:=by
  refine⟨by rw[hargs.1,List.length_map],fun j hj=>?_⟩;have h2:=hargs.2 j (by simpa using hj);rw[List.getElem_map] at h2
  have:=RV.swap (φ':=lI φ h (fun i=>τ.getD i 0) os) (nx':=os.length) (m:=os.length) (pr':=Pr (lI φ h (fun i=>τ.getD i 0) os) (tP os) w) (a:=fun i=>τ.getD i 0) (b:=fun i=>i) (fun i hi=>⟨rfl,hi⟩)
   (fun x hx=>Af hr S hx) (ha _ (List.getElem_mem hj)) h2
  rw[w9] at this;exact this
 have back:∀(φ1:dA) (cv:Value) (w':World),dS φ1 h1 w' v cv→HR φ1 h1 w'→Ext (lI φ h (fun i=>τ.getD i 0) os) (tP os) w φ1 h1 w'→
  ∃φ',dS φ' (jG h τ r) w' v cv∧HR φ' (jG h τ r) w'∧Ext φ h w φ' (jG h τ r) w':=fun φ1 cv w' g1 g2 g3=>by
  obtain⟨u1,u2,u3⟩:=LQ hr S hτ hall hle g3 g2 hs;have hvv:dS (lL φ φ1 h.next qs) (join h τ (r.getD os)) w' v cv:=g1.mono (fun id hid _=>by omega) fun b hb=>⟨u3 b hb,rfl⟩
  cases r with
  | some os'=>exact⟨_,hvv,u1,u2⟩
  | none=>
    have hnx:(join h τ os).next=h.next:=by rw[yK];omega
    have hget:∀k ∈ τ,∃o,h.get k=some o:=fun k hk=>by
     obtain⟨i,hi,rfl⟩:=List.getElem_of_mem hk;have hi':i < os.length:=by omega
     have:=(S.obj i _ (List.getElem?_eq_getElem hi') (hall _ (List.getElem_mem hi'))).1;have e:τ.getD i 0=τ[i]:=by simp[List.getD,hi]
     rw[e] at this;exact⟨_,this⟩
    have hnd:τ.Nodup:=by
     rw[List.nodup_iff_pairwise_ne,List.pairwise_iff_getElem];intro i j hi hj hij e;have hi':i < os.length:=by omega
     have hj':j < os.length:=by omega
     have e1:τ.getD i 0=τ[i]:=by simp[List.getD,hi]
     have e2:τ.getD j 0=τ[j]:=by simp[List.getD,hj]
     have:=S.inj i j _ _ (List.getElem?_eq_getElem hi') (List.getElem?_eq_getElem hj') (hall _ (List.getElem_mem hi')) (hall _ (List.getElem_mem hj')) (by rw[e1,e2];exact e);omega
    have hgt:∀id,(join h τ os).get id=h.get id:=fun id=>by
     by_cases hm:id ∈ τ
     ·obtain⟨i,hi,rfl⟩:=List.getElem_of_mem hm;have hi':i < os.length:=by omega
      have e:j7 h τ i=τ[i]:=by unfold j7;rw[if_pos hi];simp[List.getD,hi]
      have e1:τ.getD i 0=τ[i]:=by simp[List.getD,hi]
      have j1:=Ah (os':=os) hnd hget (List.getElem?_eq_getElem hi');obtain⟨s1,s2⟩:=S.obj i _ (List.getElem?_eq_getElem hi') (hall _ (List.getElem_mem hi'));rw[e] at j1;rw[e1] at s1;rw[j1,s1,B6 (g':=fun i=>τ.getD i 0) (fun p hp=>?_) s2];unfold j7;rw[if_pos (by omega)]
     ·by_cases hl:id < h.next
      ·exact vJ hl hm
      ·have n1:h.get id=none:=by unfold aa.get;rw[if_neg hl]
       have n2:(join h τ os).get id=none:=by unfold aa.get;rw[if_neg (by rw[hnx];exact hl)]
       rw[n1,n2]
    have hp:=Cv (φ:=lL φ φ1 h.next qs) (w:=w') hgt;refine⟨lL φ φ1 h.next qs,?_,HR.congr hgt hnx hr.wf u1,?_⟩
    ·have:=hvv;unfold dS at this ⊢;dsimp only[Option.getD] at this;rw[hp,hnx] at this;exact this
    ·refine⟨u2.os,u2.tape,u2.output,u2.size,Nat.le_refl _,u2.uU,fun b hb=>?_,u2.gh⟩;obtain⟨p1,p2⟩:=u2.pr b hb;dsimp only[Option.getD] at p1;rw[hp] at p1;exact⟨p1,p2⟩
 rcases (rk hE n).1 f args (tP os) v h1 he _ w cargs LG hG0 ha0 with⟨e1,e2⟩ | ⟨cv,w',φ1,e1,e2,e3,e4⟩
 ·refine .inl ⟨e1,e2.mono fun e w' he=>?_⟩;obtain⟨φ1,cv,rfl,g1,g2,g3⟩:=he;obtain⟨φ',b1,b2,b3⟩:=back φ1 cv w' g1 g2 g3;exact⟨φ',cv,rfl,b1,b2,b3⟩
 ·obtain⟨φ',b1,b2,b3⟩:=back φ1 cv w' e2 e3 e4;exact .inr ⟨cv,w',φ',e1,b1,b2,b3⟩
theorem vn {h1:aa} {m:Nat} {qs:List Nat} {os':List bj} (hq:qs.Nodup) (hm:∀q ∈ qs,m≤q) (hl:os'.length≤m+qs.length)
 (ho:∀i o,os'[i]? =some o→(∀_:o=.dead,False)→h1.get (n6 m qs i)=some (ff (n6 m qs) o)∧xP os'.length o=true):xL h1 (n6 m qs) os':=by
 refine⟨ho,fun i j o o' h2 h3 _ _ e=>?_⟩;have hi:=(List.getElem?_eq_some_iff.1 h2).1;have hj:=(List.getElem?_eq_some_iff.1 h3).1;unfold n6 at e;have at':∀p,p < os'.length→¬ p < m→∃hp:p - m < qs.length,qs.getD (p - m) 0=qs[p - m]:=fun p hp hn=>⟨by omega,by simp[List.getD,show p - m < qs.length by omega]⟩
 split at e
 ·rename_i a;split at e
  ·exact e
  ·rename_i b;obtain⟨hp,e1⟩:=at' j hj b;rw[e1] at e;have:=hm _ (List.getElem_mem hp);omega
 ·rename_i a;obtain⟨hp,e1⟩:=at' i hi a;split at e
  ·rename_i b;rw[e1] at e;have:=hm _ (List.getElem_mem hp);omega
  ·rename_i b;obtain⟨hp2,e2⟩:=at' j hj b;rw[e1,e2] at e;have:=(List.getElem_inj hq).1 e;omega
def Rx (M:List AV→List bj→Option (AV×Option (List bj))) (k:Nat) (rest:List AV) (h:aa):Option bj→Option (AV×aa)
 | some (.row cs)=>(match nS h (fb cs [k]) (fb cs [k]) with
   | some os=>if AV.aq rest=0 then (M (.ptr 0 0::rest) os).map fun r=>(r.1,jG h (fb cs [k]) r.2) else none
   | none=>none)
 | _=>none
def TL (M:List AV→List bj→Option (AV×Option (List bj))) (rest:List AV) (h:aa) (τ:List Nat):Option (List bj)→Option (AV×aa)
 | some os=>if AV.aq rest=0 then (M (.ptr 0 0::rest) os).map fun r=>(r.1,jG h τ r.2) else none
 | none=>none
def Tc (h:aa) (τ:List Nat):Option (AV×Option (List bj))→Option (AV×aa)
 | some r=>some (r.1,jG h τ r.2)
 | none=>none
theorem Ig (M:List AV→List bj→Option (AV×Option (List bj))) (k:Nat) (rest:List AV) (h:aa):lB M (.ptr k 0::rest) h=Rx M k rest h (h.get k):=by
 cases hg:h.get k with
 | none=>simp only[lB,hg,Rx]
 | some o=>
   cases o with
   | row cs=>
     simp only[lB,hg,Rx];cases nS h (fb cs [k]) (fb cs [k])<;>rfl
   | _=>simp only[lB,hg,Rx]
theorem MX (M:List AV→List bj→Option (AV×Option (List bj))) (k:Nat) (rest:List AV) (h:aa) (cs:List AV):Rx M k rest h (some (.row cs))=TL M rest h (fb cs [k]) (nS h (fb cs [k]) (fb cs [k])):=by
 rfl
theorem CQ (M:List AV→List bj→Option (AV×Option (List bj))) (rest:List AV) (h:aa) (τ:List Nat) (os:List bj) (hr:AV.aq rest=0):TL M rest h τ (some os)=Tc h τ (M (.ptr 0 0::rest) os):=by
 show (if AV.aq rest=0 then (M (.ptr 0 0::rest) os).map fun r=>(r.1,jG h τ r.2) else none)=_;rw[if_pos hr];cases M (.ptr 0 0::rest) os<;>rfl
theorem Mx (M:List AV→List bj→Option (AV×Option (List bj))) (h:aa) (τ:List Nat) (os:List bj):TL M [] h τ (some os)=Tc h τ (M [.ptr 0 0] os):=CQ M [] h τ os (by simp[AV.aq])
theorem R3 (h:aa) (τ:List Nat) (r:AV×Option (List bj)):Tc h τ (some r)=some (r.1,jG h τ r.2):=rfl
theorem yt (h:aa) (τ:List Nat):Tc h τ none=none:=rfl
theorem MS (h:aa) (τ:List Nat):jG h τ none=h:=rfl
theorem MJ (h:aa) (τ:List Nat) (os:List bj):jG h τ (some os)=join h τ os:=rfl
theorem IL (acc:List Nat):fb [] acc=acc:=rfl
theorem ae (v:AV) (r:List AV) (acc:List Nat):fb (v::r) acc=match v.top with | some j=>if oF acc j then fb r acc else fb r (acc++[j]) | none=>fb r acc:=rfl
theorem K8 (id:Nat):oF [] id=false:=rfl
theorem Ic (k:Nat) (r:List Nat) (id:Nat):oF (k::r) id=if k=id then true else oF r id:=rfl
theorem Jt (id:Nat):qD [] id=0:=rfl
theorem HD (k:Nat) (r:List Nat) (id:Nat):qD (k::r) id=if k=id then 0 else qD r id+1:=rfl
theorem Ib (h:aa) (τ:List Nat):nS h τ []=some []:=rfl
theorem Ev (h:aa) (τ:List Nat) (id:Nat) (r:List Nat):nS h τ (id::r)=match h.get id,nS h τ r with | some o,some os=>if okO τ o then some (ff (qD τ) o::os) else none | _,_=>none:=rfl
theorem aj (τ:List Nat) (cs:List AV):okO τ (.row cs)=cs.all (okV τ):=rfl
theorem Nn (τ:List Nat) (es:List (AV×AV)):okO τ (.map es)=es.all fun e=>okV τ e.1&&okV τ e.2:=rfl
theorem LK (τ:List Nat) (v:AV):okV τ v=match v.top with | some id=>oF τ id | none=>v.refs==0:=rfl
theorem ag (g:Nat→Nat) (cs:List AV):ff g (.row cs)=.row (cs.map (sig g)):=rfl
theorem KE (g:Nat→Nat) (es:List (AV×AV)):ff g (.map es)=.map (es.map fun e=>(sig g e.1,sig g e.2)):=rfl
theorem QP (g:Nat→Nat):ff g .dead=.dead:=rfl
theorem KQ (g:Nat→Nat) (os:List bj) (h:aa):kU g [] os h=h:=by unfold kU;rfl
theorem HZ (g:Nat→Nat) (k:Nat) (ks:List Nat) (o:bj) (os:List bj) (h:aa):kU g (k::ks) (o::os) h=kU g ks os (tD h k (ff g o)):=rfl
theorem KH (g:Nat→Nat) (h:aa):sR g [] h=h:=rfl
theorem Hi (g:Nat→Nat) (o:bj) (os:List bj) (h:aa):sR g (o::os) h=sR g os (h.alloc (ff g o)):=rfl
theorem pM (o:bj):tP [o]=⟨1,[o],1,1⟩:=rfl
theorem jO {v:AV} (n:Nat) (h:v.refs=0):nE n v=true:=by
 cases v with
 | ptr id off=>simp[AV.refs] at h
 | vec id off len sz lb=>simp[AV.refs] at h
 | map id=>simp[AV.refs] at h
 | _=>simpa[nE] using h
theorem mD {cs:List AV} (g:Nat→Nat) (h:AV.aq cs=0):ff g (.row cs)=.row cs:=by
 have e:cs.map (sig g)=cs:=by
  conv=>rhs;rw[←List.map_id cs]
  exact List.map_congr_left fun v hv=>(yf (v:=v) (by have h2:=AV.cH (v:=v) (l:=cs) hv;omega):sig g v=v)
 show bj.row (cs.map (sig g))=_;rw[e]
theorem kM {cs:List AV} (n:Nat) (h:AV.aq cs=0):xP n (.row cs)=true:=
 List.all_eq_true.2 fun v hv=>jO n (by have:=AV.cH hv;omega)
theorem CH {rest:List AV} (hr:AV.aq rest=0):∀a ∈ AV.ptr 0 0::rest,nE 1 a=true:=fun a ha=>by
 rcases List.mem_cons.1 ha with rfl | ha
 ·rfl
 ·exact jO 1 (by have:=AV.cH ha;omega)
theorem so {P:Program} {E:Env} (hE:b8 P X E) {n f:Nat} {rest cs cs':List AV} {v:AV} {h1:aa} (he:az E n f (.ptr 0 0::rest) (tP [.row cs])=some (v,h1)) (hg:h1.get 0=some (.row cs'))
 (hv:v.refs=0) (hr:AV.aq rest=0) (hc:AV.aq cs'=0):b9 P X f (.ptr 0 0::rest) [.row cs] v (some [.row cs']):=
 vm (qs:=[]) hE he hv (CH hr) (Nat.le_refl _) (vn (by simp) (by simp) (by simp) fun i o ho _=>by
  cases i with
  | succ i=>simp at ho
  | zero=>
    simp only[Option.getD,List.getElem?_cons_zero,Option.some.injEq] at ho;subst ho;refine⟨?_,kM _ hc⟩;rw[mD _ hc];exact hg)
theorem y5 {P:Program} {E:Env} (hE:b8 P X E) {n f:Nat} {rest cs:List AV} {v:AV} {h1:aa} (he:az E n f (.ptr 0 0::rest) (tP [.row cs])=some (v,h1)) (hg:h1.get 0=some (.row cs))
 (hv:v.refs=0) (hr:AV.aq rest=0) (hc:AV.aq cs=0):b9 P X f (.ptr 0 0::rest) [.row cs] v none:=
 vm (qs:=[]) hE he hv (CH hr) (Nat.le_refl _) (vn (by simp) (by simp) (by simp) fun i o ho _=>by
  cases i with
  | succ i=>simp at ho
  | zero=>
    simp only[Option.getD,List.getElem?_cons_zero,Option.some.injEq] at ho;subst ho;refine⟨?_,kM _ hc⟩;rw[mD _ hc];exact hg)
end Sz

/- Equations by which an abstract run is worked out. No program is named here. -/
namespace Sz
open Go
end Sz

/- Loops as they stand at their heads; specs as primitive calls. No program is named here. -/
namespace Sz
open Go
variable {X:World→Prop}
def cO (B:List AV→aa→Option (Ex×List AV×aa)) (live:List Bool) (n0:Nat):Nat→List AV→aa→Option (Ex×List AV×aa)
 | 0,_,_=>none
 | n+1,fr,h=>
   match B fr h with
   | some (.normal,fr',h')=>cO B live n0 n (gc n0 (clear live fr') h').1 (gc n0 (clear live fr') h').2
   | r=>r
theorem uK (B:List AV→aa→Option (Ex×List AV×aa)) (live:List Bool) (n0:Nat):∀n fr h,mL B live n0 n fr h=cO B live n0 n (gc n0 (clear live fr) h).1 (gc n0 (clear live fr) h).2
 | 0,_,_=>rfl
 | n+1,fr,h=>by
   unfold mL cO
   cases hb:B (gc n0 (clear live fr) h).1 (gc n0 (clear live fr) h).2 with
   | none=>rfl
   | some r=>
     obtain⟨ex,fr1,h1⟩:=r
     cases ex with
     | normal=>exact uK B live n0 n fr1 h1
     | exit id=>rfl
     | ret=>rfl
def jf (n0 wl:Nat):Option (Ex×List AV×aa)→Option (Ex×List AV×aa)
 | none=>none
 | some (ex,fr,h)=>some (ex,(gc n0 fr h).1,⟨(gc n0 fr h).2.next,(gc n0 fr h).2.fv,min wl (gc n0 fr h).2.wl,(gc n0 fr h).2.md⟩)
def Tn (B:List AV→aa→Option (Ex×List AV×aa)) (live:List Bool) (n0 n:Nat) (s:List AV×aa):Option (Ex×List AV×aa):=cO B live n0 n s.1 s.2
theorem Qm (B:List AV→aa→Option (Ex×List AV×aa)) (live:List Bool) (n0 n:Nat) (fr:List AV) (h:aa):Tn B live n0 n (fr,h)=cO B live n0 n fr h:=rfl
theorem Bc (C:Nat→List AV→aa→Option (AV×aa)) (n:Nat) (live:List Bool) (a:bH) (fr:List AV) (h:aa):
 aT C n (.loop live a) fr h=jf h.next h.wl (Tn (aT C n a) live h.next n (gc h.next (clear live fr) ⟨h.next,h.fv,h.next,h.md⟩)):=by
 conv=>lhs;unfold aT
 rw[uK];unfold Tn jf;split
 ·rename_i e;rw[e];rfl
 ·rename_i e;rw[e];rfl
theorem O5 (n0 wl:Nat) (ex:Ex) (fr:List AV) (h:aa):jf n0 wl (some (ex,fr,h))=
 match gc n0 fr h with
 | (fr',⟨nx,os,w,md⟩)=>some (ex,fr',⟨nx,os,min wl w,md⟩):=rfl
theorem aB (B:List AV→aa→Option (Ex×List AV×aa)) (live:List Bool) (n0 n:Nat) (fr:List AV) (h:aa):cO B live n0 (n+1) fr h=
 match B fr h with
 | some (.normal,fr',h')=>Tn B live n0 n (gc n0 (clear live fr') h')
 | r=>r:=rfl
structure aS where
 f:Nat
 S:List AV→Option AV
def eR (P:Program) (X:World→Prop) (s:aS):Prop:=∀args v,s.S args=some v→fY P X s.f args v
abbrev bC (P:Program) (s:aS):Prop:=eR P (fun _=>True) s
open Classical in
noncomputable def aS.of {α:Type} (f:Nat) (enc:α→List AV) (pre:α→Prop) (val:α→AV):aS:=⟨f,fun args=>if h:∃a,args=enc a∧pre a then some (val h.choose) else none⟩
def jF:List aS→Nat→List AV→Option AV
 | [],_,_=>none
 | s::r,f,args=>if s.f=f then (match s.S args with | some v=>some v | none=>jF r f args) else jF r f args
def o7:List aS→Nat→List aS
 | [],_=>[]
 | s::r,f=>if s.f==f then s::o7 r f else o7 r f
theorem H0 (f:Nat):o7 [] f=[]:=rfl
theorem wU (s:aS) (r:List aS) (f:Nat):o7 (s::r) f=if s.f==f then s::o7 r f else o7 r f:=rfl
theorem r8 (f:Nat) (args:List AV):∀ss:List aS,jF (o7 ss f) f args=jF ss f args
 | []=>rfl
 | s::r=>by
   rw[wU];by_cases h:s.f=f
   ·rw[if_pos (by simpa using h)];simp only[jF,h,if_true,r8 f args r]
   ·rw[if_neg (by simpa using h),r8 f args r];simp only[jF,h,if_false]
def F1 (fn:Nat→Option cp) (ss:List aS):Env:=⟨fn,jF ss,fun _ _ _=>none⟩
theorem BJ {P:Program} {fn:Nat→Option cp} (hm:P.follows .mixedOrders=true) (hfn:∀f F,fn f=some F→cK P f F) {ss:List aS} (hs:∀s ∈ ss,eR P X s):b8 P X (F1 fn ss):=by
 refine⟨hm,hfn,fun f args v hp=>?_,fun f args os v r h=>by cases h⟩
 have key:∀ss:List aS,(∀s ∈ ss,eR P X s)→jF ss f args=some v→fY P X f args v:=by
  intro ss
  induction ss with
  | nil=>intro _ h;cases h
  | cons s r ih=>
    intro hs hl;unfold jF at hl;split at hl
    ·rename_i hf;split at hl
     ·rename_i v' hv';cases hl;rw[←hf];exact hs s (by simp) args v hv'
     ·exact ih (fun t ht=>hs t (by simp[ht])) hl
    ·exact ih (fun t ht=>hs t (by simp[ht])) hl
 exact key ss hs hp
structure bM where
 f:Nat
 S:List AV→List bj→Option (AV×Option (List bj))
def lZ:List bM→Nat→List AV→List bj→Option (AV×Option (List bj))
 | [],_,_,_=>none
 | m::r,f,args,os=>if m.f=f then (match m.S args os with | some v=>some v | none=>lZ r f args os) else lZ r f args os
def ma:List bM→Nat→List bM
 | [],_=>[]
 | m::r,f=>if m.f==f then m::ma r f else ma r f
theorem DW (f:Nat):ma [] f=[]:=rfl
theorem uH (m:bM) (r:List bM) (f:Nat):ma (m::r) f=if m.f==f then m::ma r f else ma r f:=rfl
theorem tJ (f:Nat) (args:List AV) (os:List bj):∀ms:List bM,lZ (ma ms f) f args os=lZ ms f args os
 | []=>rfl
 | m::r=>by
   rw[uH];by_cases h:m.f=f
   ·rw[if_pos (by simpa using h)];simp only[lZ,h,if_true,tJ f args os r]
   ·rw[if_neg (by simpa using h),tJ f args os r];simp only[lZ,h,if_false]
def dy (P:Program) (X:World→Prop) (m:bM):Prop:=∀args os v r,m.S args os=some (v,r)→b9 P X m.f args os v r
abbrev jW (P:Program) (m:bM):Prop:=dy P (fun _=>True) m
def KL (fn:Nat→Option cp) (ss:List aS) (ms:List bM):Env:=⟨fn,jF ss,lZ ms⟩
theorem GF {P:Program} {fn:Nat→Option cp} (hm:P.follows .mixedOrders=true) (hfn:∀f F,fn f=some F→cK P f F) {ss:List aS} (hs:∀s ∈ ss,eR P X s) {ms:List bM} (hms:∀m ∈ ms,dy P X m):
 b8 P X (KL fn ss ms):=by
 refine⟨hm,hfn,(BJ hm hfn hs).xS,fun f args os v r hp=>?_⟩
 have key:∀ms:List bM,(∀m ∈ ms,dy P X m)→lZ ms f args os=some (v,r)→b9 P X f args os v r:=by
  intro ms
  induction ms with
  | nil=>intro _ h;cases h
  | cons s q ih=>
    intro hs hl;unfold lZ at hl;split at hl
    ·rename_i hf;split at hl
     ·rename_i v' hv';cases hl;rw[←hf];exact hs s (by simp) args os v r hv'
     ·exact ih (fun t ht=>hs t (by simp[ht])) hl
    ·exact ih (fun t ht=>hs t (by simp[ht])) hl
 exact key ms hms hp
theorem w7 (args:List AV) (h:aa):lB (fun _ _=>none) args h=none:=by
 unfold lB;split
 ·split
  ·split
   ·split<;>rfl
   ·rfl
  ·rfl
 ·rfl
@[simp] theorem Ss (fn:Nat→Option cp) (ss:List aS) (f:Nat):(F1 fn ss).fn f=fn f:=rfl
@[simp] theorem Ox (fn:Nat→Option cp) (ss:List aS):(F1 fn ss).xS=jF ss:=rfl
theorem fC.mono {P:Program} {Y:World→Prop} (hXY:∀w,X w→Y w) {φ:dA} {h:aa} {w:World} (g:fC P X φ h w):fC P Y φ h w:=by
 obtain⟨w1,h1,h2⟩:=g;exact⟨w1,⟨h1.1,hXY _ h1.2⟩,h2⟩
theorem bC.lift {P:Program} {s:aS} (h:bC P s):eR P X s:=fun args v hv φ hh w cargs hr hG ha=>h args v hv φ hh w cargs hr (hG.mono fun _ _=>trivial) ha
theorem jW.lift {P:Program} {m:bM} (h:jW P m):dy P X m:=fun args os v r hv φ hh w τ cargs hr hG S h1 h2 ha=>h args os v r hv φ hh w τ cargs hr (hG.mono fun _ _=>trivial) S h1 h2 ha
end Sz

/- Rules by which a run is worked out, step by step. No program is named here. -/
namespace Sz
open Go
section
variable (C:Nat→List AV→aa→Option (AV×aa)) (n:Nat) (fr:List AV) (h:aa)
theorem CK:aT C n .skip fr h=some (.normal,fr,h):=rfl
theorem Da (ops:List aV):aT C n (.aD ops) fr h=match cJ C ops fr h with | some (fr',h')=>some (.normal,fr',h') | none=>none:=by
 simp only[aT];cases cJ C ops fr h<;>rfl
theorem Cx (ops:List aV) (chk:List (Nat×Nat)):aT C n (.oh ops chk) fr h=match n9 C ops fr h with | some (fr',h',tr)=>if Bi tr chk then some (.normal,fr',h') else none | none=>none:=rfl
theorem EX (a b:bH):aT C n (.seq a b) fr h=match aT C n a fr h with | some (.normal,fr',h')=>aT C n b fr' h' | r=>r:=rfl
theorem Bq (c:cY) (a b:bH):aT C n (.cond c a b) fr h=match c.ev fr with | .bool t=>if t then aT C n a fr h else aT C n b fr h | _=>none:=rfl
theorem AE (id:Nat) (a:bH):aT C n (.block id a) fr h=match aT C n a fr h with | some (.exit i,fr',h')=>some (if i=id then .normal else .exit i,fr',h') | r=>r:=rfl
theorem Ch (id:Nat) (live:List Bool):aT C n (.exit id live) fr h=some (.exit id,clear live fr,h):=rfl
theorem Ey (live:List Bool):aT C n (.ret live) fr h=some (.ret,clear live fr,h):=rfl
theorem CN:cJ C [] fr h=some (fr,h):=rfl
theorem Df (d:Option Nat) (o:qZ) (r:List aV):cJ C (⟨d,.op o,none⟩::r) fr h=match bF fr h o with | some (v,h')=>cJ C r (eT fr d v) h' | none=>none:=by
 simp only[cJ,cn,cP];cases bF fr h o<;>rfl
theorem As (d:Option Nat) (f:Nat) (args:List cY) (r:List aV):cJ C (⟨d,.call f args,none⟩::r) fr h=match C f (args.map (·.ev fr)) h with | some (v,h')=>cJ C r (eT fr d v) h' | none=>none:=by
 simp only[cJ,cn,cP];cases C f (args.map (·.ev fr)) h<;>rfl
theorem xU (d:Option Nat) (x:cY) (args:List cY) (r:List aV):cJ C (⟨d,.ic x args,none⟩::r) fr h=match x.ev fr with
 | .fn f caps=>(match C f (args.map (·.ev fr)++caps) h with | some (v,h')=>cJ C r (eT fr d v) h' | none=>none)
 | _=>none:=by
 simp only[cJ,cn,cP]
 cases x.ev fr with
 | fn f caps=>dsimp only;cases C f (args.map (·.ev fr)++caps) h<;>rfl
 | _=>rfl
theorem Kz:n9 C [] fr h=some (fr,h,[]):=rfl
theorem G8 (s:aV) (r:List aV):n9 C (s::r) fr h=match cn C s fr ⟨h.next,h.fv,h.wl,h.next⟩ with
 | some (fr',h')=>(match n9 C r fr' ⟨h'.next,h'.fv,h'.wl,min h.md h'.md⟩ with | some (fr2,h2,tr)=>some (fr2,h2,(u5 s fr,h,h')::tr) | none=>none)
 | none=>none:=by
 simp only[n9]
 cases cn C s fr ⟨h.next,h.fv,h.wl,h.next⟩ with
 | none=>rfl
 | some p=>
   dsimp only;cases n9 C r p.1 ⟨p.2.next,p.2.fv,p.2.wl,min h.md p.2.md⟩<;>rfl
theorem Iv (d:Option Nat) (o:qZ):cn C ⟨d,.op o,none⟩ fr h=match bF fr h o with | some (v,h')=>some (eT fr d v,h') | none=>none:=by
 simp only[cn,cP];cases bF fr h o<;>rfl
theorem Bj (d:Option Nat) (f:Nat) (args:List cY):cn C ⟨d,.call f args,none⟩ fr h=match C f (args.map (·.ev fr)) h with | some (v,h')=>some (eT fr d v,h') | none=>none:=by
 simp only[cn,cP];cases C f (args.map (·.ev fr)) h<;>rfl
theorem AB (d:Option Nat) (x:cY) (args:List cY):cn C ⟨d,.ic x args,none⟩ fr h=match x.ev fr with
 | .fn f caps=>(match C f (args.map (·.ev fr)++caps) h with | some (v,h')=>some (eT fr d v,h') | none=>none)
 | _=>none:=by
 simp only[cn,cP]
 cases x.ev fr with
 | fn f caps=>dsimp only;cases C f (args.map (·.ev fr)++caps) h<;>rfl
 | _=>rfl
theorem JV (x:cY):bF fr h (.lJ x)=some (x.ev fr,h):=rfl
theorem GD (c x y:cY):bF fr h (.pick c x y)=match c.ev fr with | .bool b=>some (if b then x.ev fr else y.ev fr,h) | _=>none:=rfl
theorem Le (x:cY):bF fr h (.box x)=match (x.ev fr).cells? with | some cs=>some (.ptr h.next 0,⟨h.next+1,.row cs::h.fv,h.wl,h.md⟩) | none=>none:=rfl
theorem JU (z:List AV) (ps:List (Nat×Nat×cY)):bF fr h (.iH z ps)=match ji z (ps.map fun p=>(p.1,p.2.1,p.2.2.ev fr)) with | some cs=>some (.agg cs,h) | none=>none:=by
 simp only[bF];cases ji z (ps.map fun p=>(p.1,p.2.1,p.2.2.ev fr))<;>rfl
theorem KM (sz len:Nat) (z:List AV) (ps:List (Nat×cY)):bF fr h (.th sz len z ps)=match ji z (ps.map fun p=>(p.1*sz,sz,p.2.ev fr)) with | some cs=>some (.vec h.next 0 len sz len,⟨h.next+1,.row cs::h.fv,h.wl,h.md⟩) | none=>none:=by
 simp only[bF];cases ji z (ps.map fun p=>(p.1*sz,sz,p.2.ev fr))<;>rfl
theorem Mc (m:Option Nat) (x:cY):bF fr h (.ld m x)=match Fe h m (x.ev fr) with | some v=>some (v,h) | none=>none:=by
 simp only[bF];cases Fe h m (x.ev fr)<;>rfl
theorem L4 (m:Nat) (x v:cY):bF fr h (.st m x v)=match x.ev fr,(v.ev fr).cells? with
 | .ptr id off,some vs=>match h.row id with
   | some cs=>if vs.length=m∧off+m≤cs.length then some (.undef,(h.set id (.row (putAt cs off vs))).mark id (v.ev fr)) else none
   | none=>none
 | _,_=>none:=rfl
theorem Lh (x:cY):bF fr h (.OT x)=match Ha (x.ev fr) with | some false=>some (x.ev fr,h) | _=>none:=rfl
theorem Jg (op:BinOp) (x y:cY):bF fr h (.bin op x y)=match qY op (x.ev fr) (y.ev fr) with | some v=>some (v,h) | none=>none:=by
 simp only[bF];cases qY op (x.ev fr) (y.ev fr)<;>rfl
theorem I3 (neg:Bool) (x y:cY):bF fr h (.beq neg x y)=match x.ev fr,y.ev fr with | .bool a,.bool b=>some (.bool (if neg then !(a==b) else a==b),h) | _,_=>none:=rfl
theorem Ke (ks:List Nat) (neg:Bool) (x y:cY):bF fr h (.LF ks neg x y)=match x.ev fr,y.ev fr with
 | .agg a,.agg b=>(match iK ks a b with | some r=>some (.bool (if neg then !r else r),h) | none=>none)
 | _,_=>none:=by
 simp only[bF];cases x.ev fr<;>try rfl
 cases y.ev fr<;>try rfl
 rename_i a b;dsimp only;cases iK ks a b<;>rfl
theorem JE (k:Nat) (neg:Bool) (x y:cY):bF fr h (.N5 k neg x y)=match qB k (x.ev fr),qB k (y.ev fr) with | some p,some true=>some (.bool (if neg then !p else p),h) | _,_=>none:=rfl
theorem KT (x:cY):bF fr h (.un .not x)=match x.ev fr with | .bool b=>some (.bool (!b),h) | _=>none:=by
 simp only[bF];cases x.ev fr<;>rfl
theorem J7 (x:cY):bF fr h (.un .neg x)=match x.ev fr with | .int k n=>some (.int k (k.wrap (0 - n)),h) | _=>none:=by
 simp only[bF];cases x.ev fr<;>rfl
theorem K6 (x:cY):bF fr h (.un .xor x)=match x.ev fr with | .int k n=>some (.int k (yJ .xor k (if k.signed then -1 else k.max) n),h) | _=>none:=by
 simp only[bF];cases x.ev fr<;>rfl
theorem Lp (k:IntKind) (x:cY):bF fr h (.Lu k x)=match x.ev fr with | .int _ n=>some (.int k (k.wrap n),h) | _=>none:=rfl
theorem H3 (x:cY):bF fr h (.Jz x)=match x.ev fr with | .str s=>some (.str s,h) | _=>none:=rfl
theorem Hc (x:cY):bF fr h (.Er x)=match x.ev fr with | .int _ n=>if 0≤n∧n < 128 then some (.str [UInt8.ofNat n.toNat],h) else none | _=>none:=rfl
theorem Hs (x:cY):bF fr h (.II x)=match x.ev fr with | .str s=>some (.sl (s.map fun b=>.int .u8 b.toNat),h) | _=>none:=rfl
theorem GB (x:cY):bF fr h (.JL x)=match aR h 1 (x.ev fr),x.ev fr with
 | _,.str _=>none
 | some (_,cs),_=>(bytesOf cs).map fun s=>(.str s,h)
 | none,_=>none:=rfl
theorem Ld (kd:Nat) (zero:AV) (ok:Bool) (m k:cY):bF fr h (.Tq kd zero ok m k)=match (match m.ev fr with | .iM=>some [] | .map id=>h.lK id | _=>none) with
 | some es=>(qd kd (k.ev fr) es).map fun r=>(match r with
   | some v=>(if ok then .tuple [v,.bool true] else v,h)
   | none=>(if ok then .tuple [zero,.bool false] else zero,h))
 | none=>none:=rfl
theorem Lk (t:Nat) (x:cY):bF fr h (.SQ t x)=some (.iface t (x.ev fr),h):=rfl
theorem IT (f:Nat) (caps:List cY):bF fr h (.Lg f caps)=some (.fn f (caps.map (·.ev fr)),h):=rfl
theorem Lc:bF fr h .Sc=some (.map h.next,⟨h.next+1,.map []::h.fv,h.wl,h.md⟩):=rfl
theorem JA (bytes:Nat) (z:List AV) (l c:cY):bF fr h (.Ti bytes z l c)=match l.ev fr,c.ev fr with
 | .int .i64 l,.int .i64 c=>if 0≤l∧l≤c∧c*bytes≤140737488355328∧c < 2 ^ 63 then
  some (.vec h.next 0 l.toNat z.length c.toNat,⟨h.next+1,.row (List.replicate c.toNat z).flatten::h.fv,h.wl,h.md⟩) else none
 | _,_=>none:=rfl
theorem JI (x:cY) (lo hi:Option cY):bF fr h (.xI x lo hi)=match x.ev fr with
 | .str s=>(match sliceB s.length (lo.map (·.ev fr)) (hi.map (·.ev fr)) with | some (l,u)=>some (.str ((s.take u).drop l),h) | none=>none)
 | _=>none:=by
 simp only[bF];cases x.ev fr<;>try rfl
 dsimp only;rename_i s;cases sliceB s.length (lo.map (·.ev fr)) (hi.map (·.ev fr))<;>rfl
theorem IX (sz:Nat) (x:cY) (lo hi mx:Option cY):bF fr h (.N8 sz x lo hi mx)=match x.ev fr with
 | .aA=>(match fM 0 0 (lo.map (·.ev fr)) (hi.map (·.ev fr)) (mx.map (·.ev fr)) with | some _=>some (.aA,h) | none=>none)
 | .sl xs=>if (xs.all fun x=>(x.cells?.map List.length)==some sz) then
  (match fM xs.length xs.length (lo.map (·.ev fr)) (hi.map (·.ev fr)) (mx.map (·.ev fr)) with | some (l,u,m)=>some (if m=some l then .aA else .sl ((xs.take u).drop l),h) | none=>none) else none
 | .vec id off len s lb=>if s=sz then
  (match fM len lb (lo.map (·.ev fr)) (hi.map (·.ev fr)) (mx.map (·.ev fr)) with | some (l,u,m)=>some (if m=some l then .aA else .vec id (off+l*sz) (u - l) sz (m.getD lb - l),h) | none=>none) else none
 | _=>none:=by
 simp only[bF];cases x.ev fr<;>try rfl
 ·dsimp only;cases fM 0 0 (lo.map (·.ev fr)) (hi.map (·.ev fr)) (mx.map (·.ev fr))<;>rfl
 ·dsimp only;split
  ·rename_i xs _;cases fM xs.length xs.length (lo.map (·.ev fr)) (hi.map (·.ev fr)) (mx.map (·.ev fr))<;>rfl
  ·rfl
 ·dsimp only;rename_i len _ lb;split
  ·cases fM len lb (lo.map (·.ev fr)) (hi.map (·.ev fr)) (mx.map (·.ev fr))<;>rfl
  ·rfl
theorem JQ (off:Nat) (x:cY):bF fr h (.PU off x)=match x.ev fr with | .ptr id o=>some (.ptr id (o+off),h) | .ip cs=>some (.ip (cs.drop off),h) | _=>none:=rfl
theorem H2 (off:Nat) (x:cY):bF fr h (.Pn off none x)=match x.ev fr with
 | .agg cs=>(match cs[off]? with | some v=>some (v,h) | none=>none)
 | _=>none:=by
 simp only[bF];cases x.ev fr<;>try rfl
 dsimp only;rename_i cs;cases cs[off]?<;>rfl
theorem Hb (off n:Nat) (x:cY):bF fr h (.Pn off (some n) x)=match x.ev fr with
 | .agg cs=>if off+n≤cs.length then some (.agg ((cs.drop off).take n),h) else none
 | _=>none:=rfl
theorem KF (sz:Nat) (x i:cY):bF fr h (.N3 sz x i)=match x.ev fr,i.ev fr with
 | .sl xs,.int _ i=>if 0≤i then (match xs[i.toNat]? with
  | some v=>(match v.cells? with
    | some cs=>if cs.length=sz then some (.ip cs,h) else none
    | none=>none)
  | none=>none) else none
 | .vec id off len s _,.int _ i=>if 0≤i∧i < len∧s=sz then some (.ptr id (off+i.toNat*sz),h) else none
 | _,_=>none:=rfl
theorem I8 (x i:cY):bF fr h (.Nx x i)=match x.ev fr,i.ev fr with
 | .str s,.int _ i=>if 0≤i then (match s[i.toNat]? with | some b=>some (.int .u8 b.toNat,h) | none=>none) else none
 | _,_=>none:=by
 simp only[bF];cases x.ev fr<;>try rfl
 cases i.ev fr<;>try rfl
 rename_i s k i;dsimp only;cases s[i.toNat]?<;>rfl
theorem KR (x:cY) (i:Nat):bF fr h (.ext x i)=match x.ev fr with
 | .tuple vs=>(match vs[i]? with | some v=>some (v,h) | none=>none)
 | _=>none:=by
 simp only[bF];cases x.ev fr<;>try rfl
 rename_i vs;dsimp only;cases vs[i]?<;>rfl
theorem Is (x:cY):bF fr h (.lens x)=match x.ev fr with | .str s=>some (.int .i64 s.length,h) | _=>none:=rfl
theorem dP (x:cY):bF fr h (.u0 x)=match x.ev fr with
 | .aA=>some (.int .i64 0,h)
 | .sl xs=>some (.int .i64 xs.length,h)
 | .vec _ _ n _ _=>some (.int .i64 n,h)
 | _=>none:=rfl
theorem nD (x y:cY):bF fr h (.mx x y)=match x.ev fr,y.ev fr with | .int k a,.int _ b=>some (.int k (if a < b then b else a),h) | _,_=>none:=rfl
theorem Ng (x y:cY):bF fr h (.mn x y)=match x.ev fr,y.ev fr with | .int k a,.int _ b=>some (.int k (if b < a then b else a),h) | _,_=>none:=rfl
theorem K0 (sz bytes:Nat) (x y:cY):bF fr h (.app sz bytes x y)=match aR h sz (y.ev fr) with
 | none=>none
 | some (n,news)=>
   match x.ev fr with
   | .aA=>if n=0 then some (.aA,h) else
     if n*bytes≤140737488355328∧n < 2 ^ 63 then some (.vec h.next 0 n sz n,⟨h.next+1,.row news::h.fv,h.wl,h.md⟩) else none
   | .vec id off len s lb=>match h.row id with
     | some cs=>if s=sz∧off+len*sz≤cs.length then
      if n=0 then some (.vec id off len s lb,h) else
      if len+n≤lb∧off+(len+n)*sz≤cs.length then some (.vec id off (len+n) sz lb,(h.set id (.row (putAt cs (off+len*sz) news))).mark id (.agg news)) else
      if (len+n)*bytes≤140737488355328∧len+n < 2 ^ 63 then
       some (.vec h.next 0 (len+n) sz (len+n),(h.set id .dead).alloc (.row ((cs.drop off).take (len*sz)++news))) else none
       else none
     | none=>none
   | _=>none:=rfl
theorem IS (len:Nat) (z:List AV) (ps:List (Nat×cY)):bF fr h (.Lz len z ps)=match ji z (ps.map fun p=>(p.1*1,1,p.2.ev fr)) with | some cs=>if (bytesOf cs).isSome then some (.sl cs,h) else none | none=>none:=rfl
theorem Gz (x:cY):bF fr h (.zP x)=match x.ev fr with | .sl cs=>(bytesOf cs).map fun s=>(.str s,h) | _=>none:=rfl
theorem K1:bF fr h .Oc=some (.aA,h):=rfl
theorem Hv (neg:Bool) (x:cY):bF fr h (.Dl neg x)=match x.ev fr with
 | .sl (_::_)=>some (.bool neg,h)
 | .vec _ _ (_+1) _ _=>some (.bool neg,h)
 | _=>none:=rfl
theorem J0 (z:List AV) (x:cY):bF fr h (.RS z x)=match x.ev fr with
 | .aA=>some (.tuple [],h)
 | .vec id off len s _=>match h.row id with
   | some cs=>if s=z.length∧off+len*s≤cs.length then some (.tuple [],(h.set id (.row (putAt cs off (List.replicate len z).flatten))).mark id (.agg z)) else none
   | none=>none
 | _=>none:=rfl
theorem Kv (h:aa) (id:Nat):h.row id=match h.get id with | some (.row cs)=>some cs | _=>none:=rfl
theorem QB (nx:Nat) (os:List bj) (wl md id:Nat):aa.get ⟨nx,os,wl,md⟩ id=if id < nx then os[nx - 1 - id]? else none:=rfl
theorem set_mk (nx:Nat) (os:List bj) (wl md id:Nat) (o:bj):aa.set ⟨nx,os,wl,md⟩ id o=if id < nx then⟨nx,os.set (nx - 1 - id) o,wl,min md id⟩ else⟨nx,os,wl,md⟩:=by
 unfold aa.set;split<;>rfl
theorem LZ (nx:Nat) (os:List bj) (wl md id:Nat) (v:AV):aa.mark ⟨nx,os,wl,md⟩ id v=if id+1 < v.refs then⟨nx,os,min wl id,md⟩ else⟨nx,os,wl,md⟩:=by
 unfold aa.mark;split<;>rfl
theorem GY (nx:Nat) (os:List bj) (wl md:Nat) (o:bj):aa.alloc ⟨nx,os,wl,md⟩ o=⟨nx+1,o::os,wl,md⟩:=rfl
theorem KO (nx:Nat) (os:List bj) (wl md n:Nat):aa.gQ ⟨nx,os,wl,md⟩ n=⟨min nx n,os.drop (nx - n),wl,md⟩:=rfl
theorem C6:fT fr h []=some []:=rfl
theorem AQ (r:BN) (rs:List BN):fT fr h (r::rs)=match pZ fr h r with
 | some v=>(match fT fr h rs with | some vs=>some (v::vs) | none=>none)
 | none=>none:=by
 simp only[fT]
 cases pZ fr h r with
 | none=>rfl
 | some v=>cases fT fr h rs<;>rfl
theorem Iy (a b c:Nat) (os0 os:List bj) (nx wl md:Nat) (v:AV):finish false ⟨a,os0,b,c⟩ v ⟨nx,os,wl,md⟩=
 match hZ ⟨nx,os,wl,md⟩ a 8 v with
 | none=>(v,⟨nx,os,min b wl,min c md⟩)
 | some (v',ids)=>
   if a≤wl∧v'.refs≤a then (v',⟨min nx a,os.drop (nx - a),b,if md < a then min c md else c⟩)
   else match kill ⟨nx,os,wl,md⟩ ids with | ⟨nx',os',_,_⟩=>(v',⟨nx',os',min b wl,min c md⟩):=by
 simp only[finish,Bool.false_eq_true,if_false]
 cases hZ ⟨nx,os,wl,md⟩ a 8 v with
 | none=>rfl
 | some p=>
   obtain⟨v',ids⟩:=p;dsimp only;split<;>rfl
theorem HO (cs:List AV):(AV.agg cs).cells? =some cs:=rfl
theorem Dy (b:Bool):(AV.bool b).cells? =some [.bool b]:=rfl
theorem GK (k:IntKind) (n:Int):(AV.int k n).cells? =some [.int k n]:=rfl
theorem Hz (s:List UInt8):(AV.str s).cells? =some [.str s]:=rfl
theorem Dg:AV.jB.cells? =some [.jB]:=rfl
theorem Hr (i o:Nat):(AV.ptr i o).cells? =some [.ptr i o]:=rfl
theorem JD (cs:List AV):(AV.ip cs).cells? =some [.ip cs]:=rfl
theorem Dx:AV.aA.cells? =some [.aA]:=rfl
theorem IW (xs:List AV):(AV.sl xs).cells? =some [.sl xs]:=rfl
theorem Ho (a b c d e:Nat):(AV.vec a b c d e).cells? =some [.vec a b c d e]:=rfl
theorem EC:AV.iM.cells? =some [.iM]:=rfl
theorem Iu (i:Nat):(AV.map i).cells? =some [.map i]:=rfl
theorem A2:AV.fW.cells? =some [.fW]:=rfl
theorem K4 (f:Nat) (cs:List AV):(AV.fn f cs).cells? =some [.fn f cs]:=rfl
theorem Ej:AV.jC.cells? =some [.jC]:=rfl
theorem BH (t:Nat) (v:AV):(AV.iface t v).cells? =some [.iface t v]:=rfl
section
variable (n0 d:Nat)
theorem GC:hZ h n0 (d+1) .undef=some (.undef,[]):=rfl
theorem I4 (b:Bool):hZ h n0 (d+1) (.bool b)=some (.bool b,[]):=rfl
theorem Nd (k:IntKind) (n:Int):hZ h n0 (d+1) (.int k n)=some (.int k n,[]):=rfl
theorem MZ (s:List UInt8):hZ h n0 (d+1) (.str s)=some (.str s,[]):=rfl
theorem Kk:hZ h n0 (d+1) .jB=some (.jB,[]):=rfl
theorem LI (i o:Nat):hZ h n0 (d+1) (.ptr i o)=some (.ptr i o,[]):=rfl
theorem Ov (cs:List AV):hZ h n0 (d+1) (.ip cs)=some (.ip cs,[]):=rfl
theorem KS:hZ h n0 (d+1) .aA=some (.aA,[]):=rfl
theorem OE (xs:List AV):hZ h n0 (d+1) (.sl xs)=some (.sl xs,[]):=rfl
theorem IV:hZ h n0 (d+1) .iM=some (.iM,[]):=rfl
theorem Nf (i:Nat):hZ h n0 (d+1) (.map i)=some (.map i,[]):=rfl
theorem GA:hZ h n0 (d+1) .fW=some (.fW,[]):=rfl
theorem Oz (f:Nat) (cs:List AV):hZ h n0 (d+1) (.fn f cs)=some (.fn f cs,[]):=rfl
theorem I6:hZ h n0 (d+1) .jC=some (.jC,[]):=rfl
theorem HN (t:Nat) (v:AV):hZ h n0 (d+1) (.iface t v)=some (.iface t v,[]):=rfl
theorem LM {id:Nat} (off len sz lb:Nat) (hid:id < n0):hZ h n0 (d+1) (.vec id off len sz lb)=some (.vec id off len sz lb,[]):=by
 simp only[hZ,hid,if_true]
theorem lH (id off len sz lb:Nat):hZ h n0 (d+1) (.vec id off len sz lb)=if id < n0 then some (.vec id off len sz lb,[]) else
 match h.row id with
 | some cs=>if off+len*sz≤cs.length∧sz≠0 then
  (match ij (hZ h n0 d) ((cs.drop off).take (len*sz)) with
  | some (cs',ids)=>if AV.aq cs'=0∧(cs'.all fun c=>c.cells?.map List.length==some 1) then some (.sl (chunk sz len cs'),id::ids) else none
  | none=>none) else none
 | none=>none:=rfl
theorem Mz (cs:List AV):hZ h n0 (d+1) (.agg cs)=match ij (hZ h n0 d) cs with | some (cs',ids)=>some (.agg cs',ids) | none=>none:=by
 simp only[hZ];cases ij (hZ h n0 d) cs<;>rfl
theorem Ii (cs:List AV):hZ h n0 (d+1) (.tuple cs)=match ij (hZ h n0 d) cs with | some (cs',ids)=>some (.tuple cs',ids) | none=>none:=by
 simp only[hZ];cases ij (hZ h n0 d) cs<;>rfl
theorem Jw (F:AV→Option (AV×List Nat)):ij F []=some ([],[]):=rfl
theorem GQ (F:AV→Option (AV×List Nat)) (v:AV) (r:List AV):ij F (v::r)=match F v with
 | some (v',i)=>(match ij F r with | some (r',j)=>some (v'::r',i++j) | none=>none)
 | none=>none:=by
 simp only[ij]
 cases F v with
 | none=>rfl
 | some p=>obtain⟨v',i⟩:=p;cases ij F r<;>rfl
end
theorem Cz (sz:Nat):aR h sz .aA=some (0,[]):=rfl
theorem Eg (sz id off len s lb:Nat):aR h sz (.vec id off len s lb)=match h.row id with
 | some cs=>if s=sz∧off+len*sz≤cs.length then some (len,(cs.drop off).take (len*sz)) else none
 | none=>none:=rfl
theorem DL (sz:Nat) (s:List UInt8):aR h sz (.str s)=if sz=1 then some (s.length,s.map fun b=>.int .u8 b.toNat) else none:=rfl
theorem Jn:kill h []=h:=rfl
theorem Ih (id:Nat) (r:List Nat):kill h (id::r)=kill (h.set id .dead) r:=rfl
theorem DH (sz:Nat) (cs:List AV):chunk sz 0 cs=[]:=rfl
theorem Dq (sz n:Nat) (cs:List AV):chunk sz (n+1) cs=(if sz=1 then (cs.headD .undef) else .agg (cs.take sz))::chunk sz n (cs.drop sz):=rfl
theorem GL (b:Bool):mQ (.bool b)=true:=rfl
theorem IP (k:IntKind) (n:Int):mQ (.int k n)=true:=rfl
theorem Ki (s:List UInt8):mQ (.str s)=true:=rfl
theorem GH:mQ .aA=true:=rfl
theorem MG (xs:List AV):mQ (.sl xs)=false:=rfl
theorem DR (vs:List AV):mQ (.tuple vs)=vs.all nW:=rfl
theorem JR (vs:List AV):mQ (.agg vs)=vs.all nW:=rfl
theorem EB (b:Bool):nW (.bool b)=true:=rfl
theorem GW (k:IntKind) (n:Int):nW (.int k n)=true:=rfl
theorem GP (s:List UInt8):nW (.str s)=true:=rfl
theorem EL:nW .aA=true:=rfl
theorem JB (xs:List AV):nW (.sl xs)=false:=rfl
theorem GV (vs:List AV):nW (.agg vs)=false:=rfl
theorem Jy:bF fr h .die=none:=rfl
theorem Ip (cs:List AV) (k:Nat):putAt cs k []=cs:=rfl
theorem gi (x:AV) (cs:List AV) (k:Nat) (v:AV) (vs:List AV):putAt (x::cs) k (v::vs)=putAt ((x::cs).set k v) (k+1) vs:=rfl
end
end Sz

/- Small lemmas for runs over lists. No program is named here. -/
namespace Sz
open Go
theorem wrap_i64 {n:Int} (h1:-9223372036854775808≤n) (h2:n < 9223372036854775808):IntKind.i64.wrap n=n:=by
 rw[IntKind.wrap_i64];omega
theorem tO {k:Nat} (h:k < 4611686018427387904):IntKind.i64.wrap ((k:Int)+1)=((k+1:Nat):Int):=by
 rw[wrap_i64 (by omega) (by omega)];rfl
def j5 {α:Type} (p:α→Bool):List α→Option Nat
 | []=>none
 | x::r=>if p x then some 0 else (j5 p r).map (·+1)
def basic:AV→Bool
 | .bool _ | .int .. | .str _ | .jB | .aA | .sl _ | .ip _ | .iM | .fW | .jC=>true
 | _=>false
theorem ug {h:aa} {n0 d:Nat} {v:AV} (hv:basic v=true):hZ h n0 (d+1) v=some (v,[]):=by cases v<;>first | rfl | cases hv
theorem DK {v:AV} (hv:basic v=true):v.refs=0:=by cases v<;>first | rfl | cases hv
theorem lX {v:AV} (hv:basic v=true):v.cells? =some [v]:=by cases v<;>first | rfl | cases hv
theorem xE {h:aa} {n0 d:Nat}:∀{cs:List AV},cs.all basic=true→ij (hZ h n0 (d+1)) cs=some (cs,[])
 | [],_=>rfl
 | v::r,hb=>by
   simp only[List.all_cons,Bool.and_eq_true] at hb;simp only[ij,ug hb.1,xE hb.2,List.append_nil]
theorem lP:∀{cs:List AV},cs.all basic=true→AV.aq cs=0
 | [],_=>rfl
 | v::r,hb=>by
   simp only[List.all_cons,Bool.and_eq_true] at hb;simp only[AV.aq,DK hb.1,lP hb.2];rfl
theorem wc:∀{cs:List AV},cs.all basic=true→(cs.all fun c=>c.cells?.map List.length==some 1)=true
 | [],_=>rfl
 | v::r,hb=>by
   simp only[List.all_cons,Bool.and_eq_true] at hb ⊢;exact⟨by rw[lX hb.1];rfl,wc hb.2⟩
def xM (sz:Nat) (v:AV):Prop:=v.cells.length=sz∧v.cells.all basic=true∧(sz=1→v.cells=[v])∧(sz≠1→v=.agg v.cells)∧v.cells? =some v.cells
theorem vQ {sz:Nat} {xs:List AV} (h:∀x ∈ xs,xM sz x):(xs.flatMap AV.cells).all basic=true:=by
 rw[List.all_eq_true];intro v hv;obtain⟨x,hx,hv⟩:=List.mem_flatMap.1 hv;exact List.all_eq_true.1 (h x hx).2.1 v hv
theorem xF {sz:Nat}:∀{xs:List AV},(∀x ∈ xs,xM sz x)→(xs.flatMap AV.cells).length=xs.length*sz
 | [],_=>by simp
 | x::r,h=>by
   have:=xF (xs:=r) fun y hy=>h y (by simp[hy])
   simp only[List.flatMap_cons,List.length_append,List.length_cons,this,(h x (by simp)).1,Nat.add_mul];omega
theorem vO {sz:Nat}:∀{xs:List AV},(∀x ∈ xs,xM sz x)→chunk sz xs.length (xs.flatMap AV.cells)=xs
 | [],_=>rfl
 | x::r,h=>by
   have hx:=h x (by simp);have ih:=vO (xs:=r) fun y hy=>h y (by simp[hy])
   simp only[List.length_cons,List.flatMap_cons,chunk];have hd:(x.cells++r.flatMap AV.cells).drop sz=r.flatMap AV.cells:=by rw[←hx.1];simp
   rw[hd,ih];congr 1;split
   ·rename_i h1;rw[hx.2.2.1 h1];rfl
   ·rename_i h1;have ht:(x.cells++r.flatMap AV.cells).take sz=x.cells:=by rw[←hx.1];simp
    rw[ht];exact (hx.2.2.2.1 h1).symm
theorem Bm {sz:Nat} {xs:List AV} (h:∀x ∈ xs,xM sz x):(xs.all fun x=>(x.cells?.map List.length)==some sz)=true:=by
 rw[List.all_eq_true];intro x hx;have:=h x hx;rw[this.2.2.2.2];simp[this.1]
theorem mG (vs:List AV):∀(cs:List AV) (k:Nat),k+vs.length≤cs.length→putAt cs k vs=cs.take k++vs++cs.drop (k+vs.length):=by
 induction vs with
 | nil=>intro cs k _;simp[putAt]
 | cons v r ih=>
   intro cs k h;simp only[List.length_cons] at h;rw[putAt,ih _ _ (by simp;omega)];have hk:k < cs.length:=by omega
   have e1:(cs.set k v).take (k+1)=cs.take k++[v]:=by
    rw[List.take_set,List.take_succ_eq_append_getElem hk,List.set_append_right _ _ (by simp;omega)];simp[Nat.min_eq_left (Nat.le_of_lt hk)]
   have e2:(cs.set k v).drop (k+1+r.length)=cs.drop (k+(r.length+1)):=by
    rw[List.drop_set_of_lt (by omega)];congr 1;omega
   rw[e1,e2];simp
theorem vD {h:aa} {n0 d id len sz lb:Nat} {xs:List AV} {cs:List AV} (hid:n0≤id) (hg:h.get id=some (.row cs)) (hsz:sz≠0) (hx:∀x ∈ xs,xM sz x) (hl:xs.length=len) (hle:len*sz≤cs.length) (hc:cs.take (len*sz)=xs.flatMap AV.cells):
 hZ h n0 (d+2) (.vec id 0 len sz lb)=some (.sl xs,[id]):=by
 subst hl;have hb:=vQ hx
 have e:hZ h n0 (d+2) (.vec id 0 xs.length sz lb)=if id < n0 then some (.vec id 0 xs.length sz lb,[]) else match h.row id with
  | some cs=>if 0+xs.length*sz≤cs.length∧sz≠0 then
   (match ij (hZ h n0 (d+1)) ((cs.drop 0).take (xs.length*sz)) with
   | some (cs',ids)=>if AV.aq cs'=0∧(cs'.all fun c=>c.cells?.map List.length==some 1) then some (.sl (chunk sz xs.length cs'),id::ids) else none
   | none=>none) else none
  | none=>none:=rfl
 rw[e,if_neg (by omega),Kv,hg];dsimp only;rw[if_pos ⟨by omega,hsz⟩,List.drop_zero,hc,xE hb];dsimp only;rw[if_pos ⟨lP hb,wc hb⟩,vO hx]
theorem kK (vs:List AV) {cs:List AV} {k:Nat} (h:k+vs.length≤cs.length):(putAt cs k vs).take (k+vs.length)=cs.take k++vs:=by
 rw[mG vs cs k h];exact List.take_left' (by simp;omega)
theorem HC (n:Nat):(n+1≤n)=False:=eq_false (by omega)
end Sz

/- Frames by what is set in them. No program is named here. -/
namespace Sz
open Go
def lk:List (Nat×AV)→Nat→AV
 | [],_=>.undef
 | (k,v)::m,t=>if k=t then v else lk m t
def FM (n:Nat) (m:List (Nat×AV)):List AV:=(List.range n).map (lk m)
def mk (n:Nat) (ks:List Nat):List Bool:=(List.range n).map fun t=>ks.contains t
def pick (m:List (Nat×AV)):List Nat→List (Nat×AV)
 | []=>[]
 | k::ks=>(k,lk m k)::pick m ks
def sw:Nat→List AV→List (Nat×AV)
 | _,[]=>[]
 | k,a::r=>(k,a)::sw (k+1) r
def pU (n:Nat):Nat→List (Nat×AV)→Bool
 | _,[]=>true
 | lo,(k,_)::r=>decide (lo≤k)&&decide (k < n)&&pU n (k+1) r
def wQ:List (Nat×AV)→List AV
 | []=>[]
 | (_,v)::r=>v::wQ r
def BZ (n0:Nat) (ks:List Nat):List (Nat×AV)→List (Nat×AV)
 | []=>[]
 | (k,v)::r=>(k,cF n0 ks v)::BZ n0 ks r
theorem OH (t:Nat) (v:AV) (m:List (Nat×AV)):lk ((t,v)::m) t=v:=if_pos rfl
theorem M1 {k t:Nat} (v:AV) (m:List (Nat×AV)) (h:(k==t)=false):lk ((k,v)::m) t=lk m t:=if_neg (by simpa using h)
theorem Ph (t:Nat):lk [] t=.undef:=rfl
theorem jL (n:Nat) (m:List (Nat×AV)):(FM n m).length=n:=by simp[FM]
theorem qP {n t:Nat} (m:List (Nat×AV)) (h:t < n):(FM n m)[t]? =some (lk m t):=by simp[FM,h]
theorem va {n t:Nat} (m:List (Nat×AV)) (h:t < n):(FM n m).getD t .undef=lk m t:=by
 rw[List.getD_eq_getElem?_getD,qP m h];rfl
theorem Js (n:Nat) (m:List (Nat×AV)) (t:Nat) (v:AV):(FM n m).set t v=FM n ((t,v)::m):=by
 apply List.ext_getElem?;intro i;rw[List.getElem?_set,jL];by_cases hi:i < n
 ·rw[qP _ hi,qP _ hi];by_cases e:t=i
  ·subst e;simp[hi,lk]
  ·simp[e,lk]
 ·have h1:(FM n m)[i]? =none:=List.getElem?_eq_none (by rw[jL];omega);have h2:(FM n ((t,v)::m))[i]? =none:=List.getElem?_eq_none (by rw[jL];omega);rw[h1,h2];split
  ·split
   ·omega
   ·rfl
  ·rfl
theorem SD {n t:Nat} (m:List (Nat×AV)) (h:t < n):cY.ev (FM n m) (.tmp t)=lk m t:=va m h
theorem Ku (fr:List AV) (v:AV):cY.ev fr (.const v)=v:=rfl
theorem OB (n:Nat) (m:List (Nat×AV)) (d:Nat) (v:AV):eT (FM n m) (some d) v=FM n ((d,v)::m):=Js n m d v
theorem Kb (fr:List AV) (v:AV):eT fr none v=fr:=rfl
theorem AM {n t:Nat} (m:List (Nat×AV)) (want:Bool) (h:t < n):cP (FM n m) (some (t,want))=match lk m t with
 | .bool b=>some (b !=want)
 | .tuple []=>some true
 | _=>none:=by
 simp only[cP,qP m h]
 cases lk m t with
 | tuple vs=>cases vs<;>rfl
 | _=>rfl
theorem NG {n t:Nat} (m:List (Nat×AV)) (hp:aa) (h:t < n):pZ (FM n m) hp (.tmp t)=some (lk m t):=by
 simp only[pZ,va m h]
theorem Mi {n t:Nat} (m:List (Nat×AV)) (hp:aa) (k:Option Nat) (h:t < n):pZ (FM n m) hp (.cell t k)=Fe hp k (lk m t):=by
 simp only[pZ,va m h]
theorem FC (m:List (Nat×AV)) (t:Nat):∀ks:List Nat,lk (pick m ks) t=if ks.contains t then lk m t else .undef
 | []=>by simp[pick,lk]
 | k::ks=>by
   simp only[pick,lk,FC m t ks,List.contains_cons];by_cases e:k=t
   ·subst e;simp
   ·have e':¬ t=k:=fun h=>e h.symm
    simp[e,e']
theorem x8:∀(bs:List Bool) (fr:List AV) (t:Nat),bs.length=fr.length→(clear bs fr)[t]? =(fr[t]?).map fun v=>if bs.getD t false then v else .undef
 | [],[],t,_=>by simp[clear]
 | b::bs,v::fr,0,_=>by simp[clear]
 | b::bs,v::fr,t+1,h=>by
   simp only[clear,List.getElem?_cons_succ,List.getD_cons_succ];exact x8 bs fr t (by simpa using h)
theorem Bo (n:Nat) (m:List (Nat×AV)) (ks:List Nat):clear (mk n ks) (FM n m)=FM n (pick m ks):=by
 apply List.ext_getElem?;intro t;rw[x8 _ _ _ (by simp[mk,FM])];by_cases ht:t < n
 ·rw[qP _ ht,qP _ ht,FC]
  have:(mk n ks).getD t false=ks.contains t:=by
   rw[List.getD_eq_getElem?_getD];simp[mk,ht]
  simp only[this,Option.map_some]
 ·have h1:(FM n m)[t]? =none:=List.getElem?_eq_none (by rw[jL];omega);have h2:(FM n (pick m ks))[t]? =none:=List.getElem?_eq_none (by rw[jL];omega);rw[h1,h2];rfl
def uB:Nat→List Bool→List Nat
 | _,[]=>[]
 | k,true::r=>k::uB (k+1) r
 | k,false::r=>uB (k+1) r
theorem ub:∀(bs:List Bool) (k t:Nat),(uB k bs).contains t=(decide (k≤t)&&bs.getD (t - k) false)
 | [],k,t=>by simp[uB]
 | true::r,k,t=>by
   rw[uB,List.contains_cons,ub r (k+1) t];by_cases e:t=k
   ·subst e;simp
   ·by_cases hl:k≤t
    ·have:t - k=(t - (k+1))+1:=by omega
     have h2:k+1≤t:=by omega
     simp[e,hl,this,h2]
    ·have h2:¬ k+1≤t:=by omega
     simp[e,hl,h2]
 | false::r,k,t=>by
   rw[uB,ub r (k+1) t];by_cases e:t=k
   ·subst e;have h2:¬ t+1≤t:=by omega
    simp only[h2,decide_false,Bool.false_and,Nat.sub_self,List.getD_cons_zero,Bool.and_false]
   ·by_cases hl:k≤t
    ·have:t - k=(t - (k+1))+1:=by omega
     have h2:k+1≤t:=by omega
     simp[hl,this,h2]
    ·have h2:¬ k+1≤t:=by omega
     simp[hl,h2]
theorem Hd {n:Nat} (m:List (Nat×AV)) (bs:List Bool) (h:bs.length=n):clear bs (FM n m)=FM n (pick m (uB 0 bs)):=by
 rw[←Bo];congr 1;apply List.ext_getElem?;intro t;by_cases ht:t < n
 ·have:t < bs.length:=by omega
  simp only[mk,List.getElem?_map,List.getElem?_range ht,Option.map_some,ub];simp[List.getD_eq_getElem?_getD,this]
 ·rw[List.getElem?_eq_none (by omega),List.getElem?_eq_none (by simp[mk];omega)]
theorem BF:∀(as:List AV) (k t:Nat),lk (sw k as) t=if k≤t then as.getD (t - k) .undef else .undef
 | [],k,t=>by simp[sw,lk]
 | a::r,k,t=>by
   simp only[sw,lk,BF r (k+1) t];by_cases e:k=t
   ·subst e;simp
   ·by_cases hl:k≤t
    ·have:t - k=(t - (k+1))+1:=by omega
     have h2:k+1≤t:=by omega
     simp[e,hl,this,h2]
    ·have h2:¬ k+1≤t:=by omega
     simp[e,hl,h2]
theorem Av {n:Nat} (as:List AV) (h:as.length≤n):as++List.replicate (n - as.length) .undef=FM n (sw 0 as):=by
 apply List.ext_getElem?;intro t;by_cases ht:t < n
 ·rw[qP _ ht,BF];simp only[Nat.zero_le,if_true,Nat.sub_zero];by_cases h2:t < as.length
  ·rw[List.getElem?_append_left h2,List.getD_eq_getElem?_getD,List.getElem?_eq_getElem h2];rfl
  ·rw[List.getElem?_append_right (by omega),List.getElem?_replicate,if_pos (by omega),List.getD_eq_getElem?_getD,List.getElem?_eq_none (by omega)];rfl
 ·rw[List.getElem?_eq_none (by simp;omega),List.getElem?_eq_none (by rw[jL];omega)]
theorem sB (n0:Nat):∀(len lo:Nat) (m:List (Nat×AV)) (acc:List Nat),pU (lo+len) lo m=true→keeps n0 ((List.range' lo len).map (lk m)) acc=keeps n0 (wQ m) acc
 | 0,lo,[],acc,_=>rfl
 | 0,lo,(k,v)::m,acc,h=>by
   simp only[pU,Bool.and_eq_true,decide_eq_true_eq] at h;omega
 | len+1,lo,m,acc,h=>by
   rw[List.range'_succ,List.map_cons]
   cases m with
   | nil=>
     have:=sB n0 len (lo+1) [] acc rfl;simp only[lk,keeps,AV.top];exact this
   | cons p r=>
     obtain⟨k,v⟩:=p;simp only[pU,Bool.and_eq_true,decide_eq_true_eq] at h;obtain⟨⟨h1,h2⟩,h3⟩:=h;by_cases e:k=lo
     ·subst e
      have tl:(List.range' (k+1) len).map (lk ((k,v)::r))=(List.range' (k+1) len).map (lk r):=by
       apply List.map_congr_left;intro t ht;have:=List.mem_range'_1.1 ht;simp only[lk];rw[if_neg (by omega)]
      have ih:=fun acc=>sB n0 len (k+1) r acc (by rw[show k+1+len=k+(len+1) by omega];exact h3)
      rw[tl];have e0:lk ((k,v)::r) k=v:=if_pos rfl;rw[e0];simp only[wQ];unfold keeps
      cases v.top with
      | none=>dsimp only;exact ih acc
      | some id=>dsimp only;split<;>exact ih _
     ·have ih:=sB n0 len (lo+1) ((k,v)::r) acc (by
       simp only[pU,Bool.and_eq_true,decide_eq_true_eq];rw[show lo+1+len=lo+(len+1) by omega];exact⟨⟨by omega,h2⟩,h3⟩)
      have hz:lk ((k,v)::r) lo=.undef:=by
       have:∀(m:List (Nat×AV)) (a t:Nat),pU (lo+(len+1)) a m=true→t < a→lk m t=.undef:=by
        intro m
        induction m with
        | nil=>intro a t _ _;rfl
        | cons p r ih=>
          obtain⟨k,v⟩:=p;intro a t h ht;simp only[pU,Bool.and_eq_true,decide_eq_true_eq] at h;simp only[lk];rw[if_neg (by omega)];exact ih (k+1) t h.2 (by omega)
       simp only[lk];rw[if_neg e];exact this r (k+1) lo h3 (by omega)
      rw[hz];simp only[keeps,AV.top];exact ih
theorem FZ (n0:Nat) (ks:List Nat) (t:Nat):∀m:List (Nat×AV),lk (BZ n0 ks m) t=cF n0 ks (lk m t)
 | []=>rfl
 | (k,v)::m=>by
   simp only[BZ,lk];split
   ·rfl
   ·exact FZ n0 ks t m
theorem JO (n n0:Nat) (ks:List Nat) (m:List (Nat×AV)):(FM n m).map (cF n0 ks)=FM n (BZ n0 ks m):=by
 unfold FM;rw[List.map_map];apply List.map_congr_left;intro t _;exact (FZ n0 ks t m).symm
def allM (n0:Nat):List (Nat×AV)→Bool
 | []=>true
 | (_,v)::r=>(v.top.isSome||decide (v.refs≤n0))&&allM n0 r
theorem Qo {m:List (Nat×AV)} {n lo t:Nat}:pU n lo m=true→lk m t=.undef∨∃p ∈ m,p.2=lk m t:=by
 induction m generalizing lo with
 | nil=>exact fun _=>.inl rfl
 | cons p r ih=>
   obtain⟨k,v⟩:=p;intro h;simp only[pU,Bool.and_eq_true,decide_eq_true_eq] at h;simp only[lk];split
   ·exact .inr ⟨_,List.mem_cons_self,rfl⟩
   ·rcases ih h.2 with h | ⟨p,hp,e⟩
    ·exact .inl h
    ·exact .inr ⟨p,List.mem_cons_of_mem _ hp,e⟩
theorem HB {m:List (Nat×AV)} {n lo:Nat}:pU n lo m=true→∀p ∈ m,p.1 < n∧lk m p.1=p.2:=by
 induction m generalizing lo with
 | nil=>intro _ p hp;cases hp
 | cons q r ih=>
   obtain⟨k,v⟩:=q;intro h p hp;simp only[pU,Bool.and_eq_true,decide_eq_true_eq] at h
   have low:∀(r:List (Nat×AV)) (a:Nat),pU n a r=true→∀p ∈ r,a≤p.1:=by
    intro r
    induction r with
    | nil=>intro a _ p hp;cases hp
    | cons q r ih=>
      obtain⟨k,v⟩:=q;intro a h p hp;simp only[pU,Bool.and_eq_true,decide_eq_true_eq] at h
      cases hp with
      | head=>exact h.1.1
      | tail _ hp=>have:=ih (k+1) h.2 p hp;omega
   cases hp with
   | head=>exact⟨h.1.2,if_pos rfl⟩
   | tail _ hp=>
     obtain⟨g1,g2⟩:=ih h.2 p hp;have:=low r (k+1) h.2 p hp;refine⟨g1,?_⟩;simp only[lk];rw[if_neg (by omega)];exact g2
theorem IG {n:Nat} {m:List (Nat×AV)} (n0:Nat) (h:pU n 0 m=true):((FM n m).all fun v=>v.top.isSome||decide (v.refs≤n0))=allM n0 m:=by
 have e:allM n0 m=m.all fun p=>p.2.top.isSome||decide (p.2.refs≤n0):=by
  clear h
  induction m with
  | nil=>rfl
  | cons p r ih=>obtain⟨k,v⟩:=p;simp[allM,ih]
 rw[e,Bool.eq_iff_iff,List.all_eq_true,List.all_eq_true];constructor
 ·intro H p hp;obtain⟨h1,h2⟩:=HB h p hp;rw[←h2];exact H _ (List.mem_map.2 ⟨p.1,by simpa using h1,rfl⟩)
 ·intro H v hv;obtain⟨t,_,rfl⟩:=List.mem_map.1 hv;rcases Qo (t:=t) h with e | ⟨p,hp,e⟩
  ·rw[e];simp[AV.refs]
  ·rw[←e];exact H p hp
def BL (n0:Nat):List bj→List Nat→List Nat
 | [],acc=>acc
 | o::r,acc=>if fj n0 o=true then BL n0 r acc else BL n0 r (keeps n0 (gp o) acc)
def xo (n0:Nat):List bj→Bool
 | []=>true
 | o::r=>(fj n0 o||(gp o).all (nA n0))&&xo n0 r
def xz (n0:Nat):List bj→Bool
 | []=>true
 | o::r=>fj n0 o&&xz n0 r
def vS (n0:Nat) (ks:List Nat):List bj→List bj
 | []=>[]
 | o::r=>(if fj n0 o=true then o else l7 n0 ks o)::vS n0 ks r
theorem tA {n0:Nat}:∀{l:List AV} {acc:List Nat},(l.all fun v=>decide (v.refs≤n0))=true→keeps n0 l acc=acc
 | [],acc,_=>rfl
 | v::r,acc,h=>by
   rw[List.all_cons,Bool.and_eq_true] at h;simp only[keeps];split
   ·rename_i id ht
    have hlt:id+1≤n0:=by
     have:=of_decide_eq_true h.1;cases v<;>simp only[AV.top,Option.some.injEq,reduceCtorEq] at ht<;>subst ht<;>exact this
    rw[if_neg (by omega)];exact tA h.2
   ·exact tA h.2
theorem tQ (n0:Nat):∀(os:List bj) (acc:List Nat),keeps n0 (gq os) acc=BL n0 os acc
 | [],acc=>rfl
 | o::r,acc=>by
   rw[gq,jk,BL];split
   ·rename_i h;rw[tA h];exact tQ n0 r acc
   ·exact tQ n0 r _
theorem E7 (n0:Nat):∀os:List bj,(gq os).all (nA n0)=xo n0 os
 | []=>rfl
 | o::r=>by
   rw[gq,List.all_append,E7 n0 r,xo];congr 1;by_cases h:fj n0 o=true
   ·rw[h,Bool.true_or,List.all_eq_true];intro v hv;unfold fj at h;have:=List.all_eq_true.1 h v hv;unfold nA;rw[this,Bool.or_true]
   ·rw[Bool.not_eq_true] at h;rw[h,Bool.false_or]
theorem FE (n0:Nat):∀os:List bj,os.all (fj n0)=xz n0 os
 | []=>rfl
 | o::r=>by rw[List.all_cons,FE n0 r,xz]
theorem E5 (n0:Nat) (ks:List Nat):∀os:List bj,os.map (l7 n0 ks)=vS n0 ks os
 | []=>rfl
 | o::r=>by
   rw[List.map_cons,E5 n0 ks r,vS];congr 1;split
   ·rename_i h;exact wN h
   ·rfl
theorem sc (n0:Nat) (cs:List AV):fj n0 (.row cs)=decide (AV.aq cs≤n0):=by
 show (cs.all fun v=>decide (v.refs≤n0))=_;rw[Bool.eq_iff_iff,List.all_eq_true,decide_eq_true_eq];constructor
 ·intro h;exact AV.gK fun v hv=>by simpa using h v hv
 ·intro h v hv;have:=AV.cH hv;simp only[decide_eq_true_eq];omega
theorem zK (n0:Nat) (es:List (AV×AV)):fj n0 (.map es)=es.all fun e=>decide (e.1.refs≤n0)&&decide (e.2.refs≤n0):=by
 show ((es.flatMap fun e=>[e.1,e.2]).all fun v=>decide (v.refs≤n0))=_
 induction es with
 | nil=>rfl
 | cons e r ih=>rw[List.flatMap_cons,List.all_append,ih];simp
theorem x5 (n0:Nat):fj n0 .dead=true:=rfl
theorem Oa (n0:Nat) {n:Nat} {m:List (Nat×AV)} (nx:Nat) (os:List bj) (wl md:Nat) (hs:pU n 0 m=true):gc n0 (FM n m) ⟨nx,os,wl,md⟩=
 if n0≤wl then
  match kq ⟨nx,os,wl,md⟩ n0 (keeps n0 (wQ m) []) with
  | some ks=>if n0≤wl∧n0≤nx∧allM n0 m=true then
   (FM n (BZ n0 (keeps n0 (wQ m) []) m),⟨n0+ks.length,ks.reverse++os.drop (nx - n0),wl,md⟩) else (FM n m,⟨nx,os,wl,md⟩)
  | none=>(FM n m,⟨nx,os,wl,md⟩)
 else
  match kq ⟨nx,os,wl,md⟩ n0 (BL n0 (os.drop (nx - n0)) (keeps n0 (wQ m) [])) with
  | some ks=>if n0≤nx∧allM n0 m=true∧xo n0 (os.drop (nx - n0))=true∧xz n0 ((os.drop (nx - n0)).drop (n0 - wl))=true then
   (FM n (BZ n0 (BL n0 (os.drop (nx - n0)) (keeps n0 (wQ m) [])) m),
    ⟨n0+ks.length,ks.reverse++vS n0 (BL n0 (os.drop (nx - n0)) (keeps n0 (wQ m) [])) (os.drop (nx - n0)),wl,min md wl⟩) else (FM n m,⟨nx,os,wl,md⟩)
  | none=>(FM n m,⟨nx,os,wl,md⟩):=by
 have hk:keeps n0 (FM n m) []=keeps n0 (wQ m) []:=by
  have:=sB n0 n 0 m [] (by rw[Nat.zero_add];exact hs);rw[←List.range_eq_range'] at this;exact this
 have ha:(FM n m).all (nA n0)=allM n0 m:=IG n0 hs;unfold gc;split
 ·unfold B9;rw[hk,IG n0 hs,JO];rfl
 ·unfold AI;dsimp only;rw[hk,ha,JO,E7,FE,E5,tQ];rfl
theorem Ot (n0 n nx:Nat) (os:List bj) (wl md:Nat) (hw:n0≤wl):gc n0 (FM n []) ⟨nx,os,wl,md⟩=if n0≤wl∧n0≤nx then (FM n [],⟨n0,os.drop (nx - n0),wl,md⟩) else (FM n [],⟨nx,os,wl,md⟩):=by
 rw[Oa (m:=[]) n0 nx os wl md rfl];simp[keeps,wQ,kq,allM,BZ,hw]
end Sz
