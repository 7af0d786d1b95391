import Derived.Test.YtjmeonoabiliiaaGreatDoorSz1
import Derived.LoopN
import Derived.Orders
set_option linter.all false
set_option maxHeartbeats 16000000
set_option maxRecDepth 100000
namespace Sz
open Go
section
section
variable {P:Program}{φ:eL}{h:ai}{w:World}{fr:List AV}{a:Act}
theorem uK:∀{l:List AV} {s:List UInt8},bytesOf l=some s->∀i (hi:i<l.length),∃n,l[i]=.int .u8 n
 |[],_,_,i,hi=>by simp at hi
 |x::r,s,h,i,hi=>by
   cases x with
   |int k n=>
     cases k<;>simp only[bytesOf] at h<;>first|(cases h;done)|skip
     obtain⟨s',h1,rfl⟩:=Option.map_eq_some_iff.1 h
     cases i with
     |zero=>exact⟨n,rfl⟩
     |succ i=>exact uK h1 i (by simpa using hi)
   |_=>simp[bytesOf] at h
theorem abC{t e:TypeId}{len:Nat}{parts:Array (Nat×Operand)}{o:Oper}(ho:o.op=.buildSlice t len parts)(ht:P.underlying t=some (.slice e)){i:TypeInfo}(hi:P.info? e=some i)
 {z:List AV} (hz:tC P e=some z) {ps:List (Nat×dU)} (zd:eV (λp:Nat×Operand=>(iQ p.2).map λx=>(p.1,x)) parts.toList=some ps) (h1:i.size=1) (fZ:len<=2^24) (Oa:z.length=1) {cs:List AV}
 (he:mM ((List.range (len*1)).map λj=>z.getD (j%1) .undef) (ps.map λp=>(p.1*1,1,p.2.ev fr))=some cs) {b:List UInt8} (hb:bytesOf cs=some b) (hf:FR φ h w fr a.tmps) (hr:HR φ h w):
 gL P (execOp a.eval o) φ h w (.sl cs) h:=by
 obtain⟨i',zv,jE,SN,k1,k2,k3⟩:=ue (φ:=φ) hz;obtain rfl:i=i':=by rw[hi] at jE;exact Option.some.inj jE
 have g1:=nN zd;rw[<-h1] at he;have amP:=Oa;have alQ:=fZ;replace Oa:z.length=i.size:=by omega
 replace fZ:len*i.size<=2^24:=by rw[h1];omega
 let zz:Array Value:=if len*i.size=0 then #[] else zv.cells
 have WH:rU φ h.next (Pr φ h w) w ((List.range (len*i.size)).map λj=>z.getD (j%i.size) .undef) ((Array.range (len*i.size)).map (zz[· % zz.size]!)):=by
  refine⟨by simp,λj=>?_,λj hj=>?_⟩
  .by_cases hj:j<len*i.size
   .have nH:0<i.size:=Nat.pos_of_ne_zero λe=>by simp[e] at hj
    have hzz:zz=zv.cells:=if_neg (by omega);have hm:j%i.size<i.size:=Nat.mod_lt _ nH;have:=k2 (j%i.size);simp only[hzz,k1,Oa];simpa[Array.getD,hj,k1,Oa,hm] using this
   .simp[Array.getD,hj];rfl
  .have kP:j<len*i.size:=by simpa using hj
   have nH:0<i.size:=Nat.pos_of_ne_zero λe=>by simp[e] at kP
   have hzz:zz=zv.cells:=if_neg (by omega);have hm:j%i.size<z.length:=by rw[Oa];exact Nat.mod_lt _ nH
   have:=k3 h.next (Pr φ h w) w (j%i.size) hm
   simp only[hzz,k1,Oa];have hm':j%i.size<i.size:=by omega
   simpa[Array.getD,kP,k1,Oa,hm,hm',List.getD] using this
 obtain⟨c',e1,e2,e3,e4⟩:=B4 (φ:=φ) (nx:=h.next) (pr:=Pr φ h w) (w:=w) (λk=>some (k*i.size,i.size)) (ps.map λp=>(p.1*i.size,i.size,p.2.ev fr)) ((parts.map λ(i,x)=>(i,a.eval x)).toList) _ _ cs WH
  (by simp[g1]) (λj hj kP=>by
   have hj1:j<ps.length:=by simpa using hj
   have I6:j<parts.toList.length:=by simpa using kP
   have q:=l9 zd j I6 hj1;obtain⟨x',q1,q2⟩:=Option.map_eq_some_iff.1 q;have q3:=di q1 hf;have q4:ps[j]=((parts.toList[j]).1,x'):=q2.symm;exact⟨by simp[q4],by simpa[q4] using q3⟩) he
 have jn:cs.length=len:=by
  have:c'.size=len*i.size:=by have:=lL _ _ _ _ e1;simpa using this
  rw[h1,Nat.mul_one] at this;omega
 obtain⟨r1,r2⟩:=AI (w':=w.alloc (.cells c' e)) hr rfl rfl rfl rfl;refine⟨.slice (some ⟨w.heap.size,0,none⟩) len len,w.alloc (.cells c' e),φ,.inl ?_,?_,r1,r2⟩
 .unfold execOp;have akd:¬(len*i.size > 2^24):=by rw[h1];omega
  by_cases h0:len*i.size=0
  .simp only[zz,h0,if_true] at e1;have LC:¬(16777216<len*i.size):=by omega
   simp[Array.range_zero'] at e1;simp[ho,Instr.buildSlice,run_underlying ht,kV hi,h0,newRow,Array.range_zero',e1]
  .simp only[zz,h0,if_false] at e1;have LC:¬(16777216<len*i.size):=by omega
   simp at e1;simp[ho,Instr.buildSlice,run_underlying ht,kV hi,zeroValue,typeInfo,hi,SN,LC,h0,newRow,e1]
 .have oC:c'.size=cs.length:=by
   have:c'.size=len*i.size:=by have:=lL _ _ _ _ e1;simpa using this
   rw[this,h1,jn];omega
  have hint:∀k (hk:k<cs.length),∃n,cs[k]=.int .u8 n/\c'.getD k default=.int .u8 n:=λk hk=>by obtain⟨n,e⟩:=uK hb k hk;have:=e4 k hk;rw[e] at this;exact⟨n,e,this.fG⟩
  rw[<-jn];refine .sl _ w.heap.size 0 cs.length 1 (λk _=>c'.getD k default) ⟨?_,?_,?_⟩ (Nat.le_refl _) ?_ (λk _=>e3 k) ?_ ?_ ?_
  .show w.heap.size<(w.heap.push _).size;simp
  .intro id hl e;have:=hr.gJ hl;omega
  .intro Cm;have:=(hr.gh _ Cm).1;omega
  .have:∀{l:List AV} {s:List UInt8},bytesOf l=some s->AV.aw l=0:=by
    intro l
    induction l with
    |nil=>intro s _;rfl
    |cons x r ih=>
      intro s h
      cases x with
      |int k n=>
        cases k<;>simp only[bytesOf] at h<;>first|(cases h;done)|skip
        obtain⟨s',h1,rfl⟩:=Option.map_eq_some_iff.1 h;simp[AV.aw,AV.aK,ih h1]
      |_=>simp[bytesOf] at h
   exact this hb
  .intro k hk;obtain⟨n,e,_⟩:=hint k hk;rw[e];rfl
  .intro k j hk hj;have Z2:j=0:=by omega
   subst Z2
   have hb:(w.alloc (.cells c' e)).heap[w.heap.size]? =some (.cells c' e):=by show (w.heap.push _)[w.heap.size]? =_;simp
   unfold World.cell?;simp only[hb,Nat.zero_add,Nat.mul_one,Nat.add_zero];rw[Array.getD_eq_getD_getElem?,Array.getElem?_eq_getElem (by omega)];rfl
  .intro k hk j hj;obtain⟨n,e,e'⟩:=hint k hk;simp only[e,AV.cells] at hj|-;have Z2:j=0:=by simpa using hj
   subst Z2;rw[e'];exact .int _ _
theorem ZS{s d e:TypeId}{x:Operand}{o:Oper}(ho:o.op=.convert s d x){x':dU}(hx:iQ x=some x')(hs:P.underlying s=some (.slice e))(hd:P.underlying d=some .string)(he:P.underlying e=some (.int .u8))
 {cs:List AV} (hv:x'.ev fr=.sl cs) {b:List UInt8} (hb:bytesOf cs=some b) (hf:FR φ h w fr a.tmps) (hr:HR φ h w):gL P (execOp a.eval o) φ h w (.str b) h:=by
 have nY:cs.all (λx=>(x.cells?.map List.length)==some 1)=true:=by rw[List.all_eq_true];intro x hx;obtain⟨i,hi,rfl⟩:=List.getElem_of_mem hx;obtain⟨n,e⟩:=uK hb i hi;rw[e];rfl
 have LY:∀{l:List AV} {s:List UInt8},bytesOf l=some s->l.flatMap AV.cells=l:=by
  intro l
  induction l with
  |nil=>intro s _;rfl
  |cons x r ih=>
    intro s h
    cases x with
    |int k n=>
      cases k<;>simp only[bytesOf] at h<;>first|(cases h;done)|skip
      obtain⟨s',h1,rfl⟩:=Option.map_eq_some_iff.1 h;rw[List.flatMap_cons,ih h1];rfl
    |_=>simp[bytesOf] at h
 refine OB ho hx hs hd he (n:=cs.length) (cs:=cs) ?_ (λs=>by rw[hv];exact λh=>by cases h) hb hf hr;rw[hv];simp only[aT];rw[if_pos nY,LY hb]
end
end
section
section
variable {P:Program}{φ:eL}{h:ai}{w:World}{fr:List AV}{a:Act}
theorem aco{o:Oper}{Co:xJ}{v:AV}{h':ai}(hc:eP P o.op=some Co)(he:cf fr h Co=some (v,h'))(hf:FR φ h w fr a.tmps)(hr:HR φ h w):gL P (execOp a.eval o) φ h w v h':=by
 cases fg:o.op with
 |move x=>rw[fg] at hc;simp only[eP,Option.map_eq_some_iff] at hc;obtain⟨x',hx,rfl⟩:=hc;simp only[cf,Option.some.injEq,Prod.mk.injEq] at he;obtain⟨rfl,rfl⟩:=he;exact UW (.inl fg) hx hf hr
 |assign x=>rw[fg] at hc;simp only[eP,Option.map_eq_some_iff] at hc;obtain⟨x',hx,rfl⟩:=hc;simp only[cf,Option.some.injEq,Prod.mk.injEq] at he;obtain⟨rfl,rfl⟩:=he;exact UW (.inr fg) hx hf hr
 |pick c x y=>
   rw[fg] at hc;simp only[eP] at hc;split at hc
   .rename_i c' x' y' h1 h2 h3;cases hc;simp only[cf] at he;split at he
    .rename_i b hb;cases he;exact XJ fg h1 h2 h3 hb hf hr
    .cases he
   .cases hc
 |alloc t=>rw[fg] at hc;simp only[eP,Option.map_eq_some_iff] at hc;obtain⟨z,hz,rfl⟩:=hc;simp only[cf,dU.ev,AV.cells?,Option.some.injEq,Prod.mk.injEq] at he;obtain⟨rfl,rfl⟩:=he;exact Th fg hz hr
 |box t x=>
   rw[fg] at hc;simp only[eP,Option.map_eq_some_iff] at hc;obtain⟨x',hx,rfl⟩:=hc;simp only[cf] at he;split at he
   .rename_i cs oC;cases he;exact acM fg hx oC hf hr
   .cases he
 |build t parts=>
   rw[fg] at hc;simp only[eP] at hc;split at hc
   .rename_i fs z h1 h2;split at hc
    .rename_i places h3;obtain⟨ps,zd,rfl⟩:=Option.map_eq_some_iff.1 hc;simp only[cf,Option.map_eq_some_iff] at he;obtain⟨cs,oC,e⟩:=he;cases e;exact ab3 fg h1 h2 h3 zd oC hf hr
    .cases hc
   .cases hc
 |buildSlice t len parts=>
   rw[fg] at hc;simp only[eP] at hc;split at hc
   .rename_i h0;split at hc
    .rename_i e h1;obtain⟨i,hi,rfl⟩:=Option.map_eq_some_iff.1 hc;simp only[cf,Option.some.injEq,Prod.mk.injEq] at he;obtain⟨rfl,rfl⟩:=he;obtain⟨rfl,hp⟩:=h0;exact acV fg (by simpa using hp) h1 hi hr
    .cases hc
   split at hc
   .rename_i e h1;split at hc
    .rename_i i z ps h2 h3 h4;split at hc
     .rename_i h5;cases hc;simp only[cf,Option.map_eq_some_iff] at he;obtain⟨cs,oC,e⟩:=he;cases e;exact adJ fg h1 h2 h3 h4 h5.1 h5.2 oC hf hr
     .cases hc
    .cases hc
   .cases hc
 |load t x=>
   rw[fg] at hc;simp only[eP] at hc;split at hc
   .rename_i x' n h1 h2;cases hc;simp only[cf,Option.map_eq_some_iff] at he;obtain⟨v',hv,e⟩:=he;cases e;exact afc fg h1 h2 hv hf hr
   .cases hc
 |store t x y=>
   rw[fg] at hc;simp only[eP] at hc;split at hc
   .rename_i x' y' i h1 h2 h3;cases hc;simp only[cf] at he;split at he
    .rename_i id off vs h4 h5;split at he
     .rename_i cs h6;split at he
      .rename_i h7;cases he;exact agh fg h1 h2 h3 h4 h5 h6 h7.1 h7.2 hf hr
      .cases he
     .cases he
    .cases he
   .cases hc
 |nilCheck x=>
   rw[fg] at hc;simp only[eP,Option.map_eq_some_iff] at hc;obtain⟨x',hx,rfl⟩:=hc;simp only[cf] at he;split at he
   .rename_i hn;cases he;exact abw fg hx hn hf hr
   .cases he
 |binOp op t x y ty=>
   rw[fg] at hc;simp only[eP,PM] at hc;split at hc
   .rename_i x' y' h1 h2
    have Z3:∀k,u4 op k x' y' y=some Co->((k=0/\∃e,P.underlying t=some (.pointer e))\/(k=1/\∃ms,P.underlying t=some (.interface ms))\/(k=2/\∃ps rs v,P.underlying t=some (.func ps rs v))\/(k=3/\∃kk e,P.underlying t=some (.map kk e)))->
     gL P (execOp a.eval o) φ h w v h':=λk hk ht=>by
     unfold u4 at hk;split at hk
     .rename_i hcy
      have key:∀neg,o.op=.binOp (if neg then .neq else .eql) t x y ty->Co=.peq k neg x' y'->gL P (execOp a.eval o) φ h w v h':=λneg ho ha=>by
       subst ha;simp only[cf] at he;split at he
       .rename_i p h4 h5;cases he;exact adC ho h1 h2 hcy ht h4 h5 hf hr
       .cases he
      split at hk
      .cases hk;exact key false fg rfl
      .cases hk;exact key true fg rfl
      .cases hk
     .cases hk
    split at hc
    .rename_i k hk;cases hc;simp only[cf,Option.map_eq_some_iff] at he;obtain⟨v',hv,e⟩:=he;cases e;exact Ts fg h1 h2 hv hf hr
    .rename_i hk;cases hc;simp only[cf,Option.map_eq_some_iff] at he;obtain⟨v',hv,e⟩:=he;cases e;exact Ts fg h1 h2 hv hf hr
    .rename_i ht
     have key:∀neg,o.op=.binOp (if neg then .neq else .eql) t x y ty->Co=.beq neg x' y'->gL P (execOp a.eval o) φ h w v h':=λneg ho ha=>by
      subst ha;simp only[cf] at he;split at he
      .rename_i b1 b2 h4 h5;cases he;exact adh ho h1 h2 ht h4 h5 hf hr
      .cases he
     split at hc
     .cases hc;exact key false fg rfl
     .cases hc;exact key true fg rfl
     .cases hc
    .rename_i fs ht;split at hc
     .rename_i ks hks;split at hc
      .rename_i hg
       have key:∀neg,o.op=.binOp (if neg then .neq else .eql) t x y ty->Co=.YK ks neg x' y'->gL P (execOp a.eval o) φ h w v h':=λneg ho ha=>by
        subst ha;simp only[cf] at he;split at he
        .rename_i l m h4 h5;obtain⟨r,Of,e⟩:=Option.map_eq_some_iff.1 he;cases e;exact adm ho h1 h2 ht hks hg.1 hg.2 h4 h5 Of hf hr
        .cases he
       split at hc
       .cases hc;exact key false fg rfl
       .cases hc;exact key true fg rfl
       .cases hc
      .cases hc
     .cases hc
    .rename_i e ht;exact Z3 0 hc (.inl ⟨rfl,e,ht⟩)
    .rename_i e ht;exact Z3 1 hc (.inr (.inl ⟨rfl,e,ht⟩))
    .rename_i p1 p2 p3 ht;exact Z3 2 hc (.inr (.inr (.inl ⟨rfl,p1,p2,p3,ht⟩)))
    .rename_i p1 p2 ht;exact Z3 3 hc (.inr (.inr (.inr ⟨rfl,p1,p2,ht⟩)))
    .rename_i e ht;split at hc
     .cases hc;simp only[cf] at he;exact PW (neg:=false) fg h1 ht he hf hr
     .cases hc;simp only[cf] at he;exact PW (neg:=true) fg h1 ht he hf hr
     .cases hc
    .cases hc
   .cases hc
 |unOp op t x=>
   rw[fg] at hc;simp only[eP,Option.map_eq_some_iff] at hc;obtain⟨x',hx,rfl⟩:=hc
   have key:∀v',(match (generalizing:=false) op,x'.ev fr with
    |.not,.bool b=>some (AV.bool (!b))
    |.neg,.int k n=>some (.int k (k.wrap (0-n)))
    |.xor,.int k n=>some (.int k (Gr .xor k (if k.signed then -1 else k.max) n))
    |_,_=>none)=some v'->v=v'->h'=h->gL P (execOp a.eval o) φ h w v h':=λv' hv e1 e2=>by
    subst e1 e2;exact agB fg hx hv hf hr
   simp only[cf] at he;split at he
   .rename_i b hb;cases he;exact key _ (by rw[hb]) rfl rfl
   .rename_i k n hb;cases he;exact key _ (by rw[hb]) rfl rfl
   .rename_i k n hb;cases he;exact key _ (by rw[hb]) rfl rfl
   .cases he
 |convert s d x=>
   rw[fg] at hc;simp only[eP,J4] at hc;split at hc
   .rename_i x' k0 k h1 h2 h3;cases hc;simp only[cf] at he;split at he
    .rename_i k' n h4;cases he;exact abm fg h1 h2 h3 h4 hf hr
    .cases he
   .rename_i x' k0 h1 h2 h3;cases hc;simp only[cf] at he;split at he
    .rename_i k' n h4;split at he
     .rename_i h5;cases he;exact Zz fg h1 h2 h3 h4 h5.1 h5.2 hf hr
     .cases he
    .cases he
   .rename_i x' e h1 h2 h3;split at hc
    .rename_i h5;cases hc;simp only[cf] at he;split at he
     .rename_i s h4;cases he;exact Y0 fg h1 h2 h3 h5 h4 hf hr
     .cases he
    .cases hc
   .rename_i x' e h1 h2 h3;split at hc
    .rename_i h5;cases hc;simp only[cf] at he;split at he
     .cases he
     .rename_i n cs h4 h6;obtain⟨s,h7,e⟩:=Option.map_eq_some_iff.1 he;cases e;exact OB fg h1 h2 h3 h5 h4 h6 h7 hf hr
     .cases he
    .cases hc
   .cases hc
 |makeFunc f first bC=>
   rw[fg] at hc
   cases f with
   |func f=>
     simp only[eP] at hc;split at hc
     .rename_i h1;obtain⟨cs,h2,rfl⟩:=Option.map_eq_some_iff.1 hc;simp only[cf,Option.some.injEq,Prod.mk.injEq] at he;obtain⟨rfl,rfl⟩:=he;exact abH fg h1 h2 hf hr
     .cases hc
   |_=>simp[eP] at hc
 |slice t x lo hi mx=>
   rw[fg] at hc;simp only[eP] at hc;split at hc
   .rename_i x' SG jE h1 h2 h3 h4 h5;cases hc
    have LF:mx=none:=by
     cases mx with
     |none=>rfl
     |some m=>simp[BI] at h5
    subst LF;simp only[cf] at he;split at he
    .rename_i s h6;obtain⟨⟨l,u⟩,h7,e⟩:=Option.map_eq_some_iff.1 he;cases e;exact abt fg h2 h3 h4 h1 h6 h7 hf hr
    .cases he
   .rename_i e x' SG jE mx' h1 h2 h3 h4 h5;obtain⟨i,jE,rfl⟩:=Option.map_eq_some_iff.1 hc;simp only[cf] at he;exact abY fg h2 h3 h4 h5 h1 jE he hf hr
   .cases hc
 |fieldAddr s x k=>
   rw[fg] at hc;simp only[eP] at hc;split at hc
   .rename_i fs x' h1 h2;split at hc
    .rename_i fd h3;split at hc
     .rename_i i h4;split at hc
      .rename_i h5;cases hc;simp only[cf] at he
       have key:∀v',(match x'.ev fr with|.ptr id o=>some (AV.ptr id (o+fd.offset))|.ip cs=>some (.ip (cs.drop fd.offset))|_=>none)=some v'->v=v'->h'=h->gL P (execOp a.eval o) φ h w v h':=λv' hv e1 e2=>by subst e1 e2;exact ac8 fg h2 h1 h3 h4 h5 hv hf hr
       split at he
       .rename_i id oo hb;cases he;exact key _ (by rw[hb]) rfl rfl
       .rename_i cs hb;cases he;exact key _ (by rw[hb]) rfl rfl
       .cases he
      .cases hc
     .cases hc
    .cases hc
   .cases hc
 |field t x k=>
   rw[fg] at hc;simp only[eP] at hc;split at hc
   .rename_i fs x' h1 h2;split at hc
    .rename_i fd h3;obtain⟨n,h4,rfl⟩:=Option.map_eq_some_iff.1 hc;simp only[cf] at he;split at he
     .rename_i cs h5
      cases n with
      |none=>simp only[Option.map_eq_some_iff] at he;obtain⟨v',hv,e⟩:=he;cases e;exact Ue fg h2 h1 h3 h4 h5 hv hf hr
      |some n=>
        dsimp only at he;split at he
        .rename_i h6;cases he;exact Ue fg h2 h1 h3 h4 h5 (by dsimp only;rw[if_pos h6]) hf hr
        .cases he
     .cases he
    .cases hc
   .cases hc
 |indexAddr t x i=>
   rw[fg] at hc;simp only[eP] at hc;split at hc
   .rename_i e x' i' h1 h2 h3;obtain⟨inf,h4,rfl⟩:=Option.map_eq_some_iff.1 hc;simp only[cf] at he;exact aca fg h2 h3 h1 h4 he hf hr
   .cases hc
 |index t x i=>
   rw[fg] at hc;simp only[eP] at hc;split at hc
   .rename_i x' i' h1 h2 h3;cases hc;simp only[cf] at he;split at he
    .rename_i s k n h4 h5;split at he
     .rename_i h0;obtain⟨b,hb,e⟩:=Option.map_eq_some_iff.1 he;cases e;exact abW fg h2 h3 h1 h4 h5 h0 hb hf hr
     .cases he
    .cases he
   .cases hc
 |extract x i=>
   rw[fg] at hc;simp only[eP,Option.map_eq_some_iff] at hc;obtain⟨x',hx,rfl⟩:=hc;simp only[cf] at he;split at he
   .rename_i vs h1;obtain⟨v',hv,e⟩:=Option.map_eq_some_iff.1 he;cases e;exact abS fg hx h1 hv hf hr
   .cases he
 |call c=>
   rw[fg] at hc;obtain⟨callee,args,I3⟩:=c
   cases callee with
   |value f=>simp[eP] at hc
   |invoke r m=>simp[eP] at hc
   |builtin b=>
     obtain⟨args⟩:=args;obtain⟨I3⟩:=I3;simp only[eP] at hc;split at hc
     .rename_i x t;split at hc
      .rename_i ht;obtain⟨x',hx,rfl⟩:=Option.map_eq_some_iff.1 hc;simp only[cf] at he;split at he
       .rename_i s hs;cases he;exact Zq fg hx ht hs hf hr
       .cases he
      .rename_i ht;obtain⟨x',hx,rfl⟩:=Option.map_eq_some_iff.1 hc;simp only[cf] at he;exact Zl fg hx ht he hf hr
      .cases hc
     .rename_i x y;split at hc
      .rename_i x' y' h1 h2;cases hc;simp only[cf] at he;split at he
       .rename_i h3 h4;cases he;exact afJ fg h1 h2 h3 h4 hf hr
       .cases he
      .cases hc
     .rename_i x y;split at hc
      .rename_i x' y' h1 h2;cases hc;simp only[cf] at he;split at he
       .rename_i h3 h4;cases he;exact aeR fg h1 h2 h3 h4 hf hr
       .cases he
      .cases hc
     .rename_i x y t u;split at hc
      .cases hc
      .rename_i e du x' y' hni h1 h2 h3 h4;split at hc
       .rename_i i z h5 h6;split at hc
        .rename_i h7;cases hc;simp only[cf] at he;split at he
         .cases he
         .rename_i n news h8;exact abz fg h3 h4 h1 h2 (λk e=>hni k e) h5 h6 h7.1 h7.2 h8 he hf hr
        .cases hc
       .cases hc
      .cases hc
     .cases hc
 |_=>rw[fg] at hc;simp[eP] at hc
theorem agH{o:Oper}{Co:xJ}{v:AV}{h':ai}(hc:uC P o.op=some Co)(he:cf fr h Co=some (v,h'))(hf:FR φ h w fr a.tmps)(hr:HR φ h w):gL P (execOp a.eval o) φ h w v h':=by
 unfold uC at hc;split at hc
 .rename_i b hb;cases hc;exact aco hb he hf hr
 .cases hc;simp[cf] at he
theorem abM{ops:Array Oper}{o:Oper}{Co:xJ}{v:AV}{h':ai}(hc:uC P o.op=some Co\/En P ops o=some Co)(he:cf fr h Co=some (v,h'))(hf:FR φ h w fr a.tmps)(hr:HR φ h w):gL P (execOp a.eval o) φ h w v h':=by
 rcases hc with hc|hc
 .exact agH hc he hf hr
 unfold En at hc;split at hc
 .rename_i t len parts fg;split at hc
  .rename_i e h1;split at hc
   .rename_i i z ps h2 h3 h4;split at hc
    .rename_i h5;cases hc;simp only[cf] at he;split at he
     .rename_i cs oC;split at he
      .rename_i hb;cases he;obtain⟨b,hb⟩:=Option.isSome_iff_exists.1 hb;exact abC fg h1 h2 h3 h4 h5.1 h5.2.1 h5.2.2.1 oC hb hf hr
      .cases he
     .cases he
    .cases hc
   .cases hc
  .cases hc
 .rename_i s d x fg;split at hc
  .rename_i u e h1 h2 h3;split at hc
   .rename_i h4;split at hc
    .cases hc;simp only[cf] at he;split at he
     .rename_i cs oC;obtain⟨b,hb,e⟩:=Option.map_eq_some_iff.1 he;cases e;exact ZS fg h1 h2 h3 h4 oC hb hf hr
     .cases he
    .cases hc
   .cases hc
  .cases hc
 .cases hc
end
end
section
variable {X:World->Prop}
def bW.strip:bW->bW
 |.seq a b=>.seq a.strip b.strip
 |.cond c a b=>.cond c a.strip b.strip
 |.block id a=>.block id a.strip
 |.loop _ a=>.loop [] a.strip
 |.exit id _=>.exit id []
 |.ret _=>.ret []
 |c=>c
def ly(φ:eL)(h:ai)(w:World)(v:AV)(h':ai):Ending->World->Prop:=λe w'=>∃φ' cv,e=.returned cv/\fI φ' h' w' v cv/\HR φ' h' w'/\Ext φ h w φ' h' w'
def mo(φ:eL)(h:ai)(w:World)(args:List AV)(bu:Array Value):Prop:=bu.size=args.length/\∀j (hj:j<args.length),fI φ h w args[j] (bu.getD j default)
def qw(P:Program)(X:World->Prop)(C:Nat->List AV->ai->Option (AV×ai)):Prop:=
 ∀f args h v h',C f args h=some (v,h')->∀φ w bu,HR φ h w->jM P X φ h w->mo φ h w args bu->
   ((callFunc f bu).run P w=.ok (.enter f bu) w/\Calls P f bu w (ly φ h w v h'))\/
   ∃cv w' φ',(callFunc f bu).run P w=.ok (.value cv) w'/\fI φ' h' w' v cv/\HR φ' h' w'/\Ext φ h w φ' h' w'
section
variable {P:Program}{C:Nat->List AV->ai->Option (AV×ai)}
theorem CZ{φ:eL}{h:ai}{w:World}{fr:List AV}{a:Act}(hf:FR φ h w fr a.tmps){v:AV}{cv:Value}(hv:fI φ h w v cv)(d:Option Nat):
 FR φ h w (gP fr d v) (a.put d cv).tmps/\(a.put d cv).defers=a.defers:=by
 cases d with
 |none=>exact⟨hf,rfl⟩
 |some d=>exact⟨hf.put hv d,rfl⟩
theorem Tl{φ:eL}{h:ai}{w:World}{fr:List AV}{a:Act}{xs:Array Operand}{xs':List dU}(hx:pF xs=some xs')(hf:FR φ h w fr a.tmps):mo φ h w (xs'.map (·.ev fr)) (xs.map a.eval):=by
 obtain⟨g1,g2⟩:=Py hx hf;refine⟨by simpa using g1,λj hj=>?_⟩;have kP:j<xs'.length:=by simpa using hj
 have:=g2 j kP;simpa[List.getD,kP] using this
end
end
section
def pK(h:ai)(id n:Nat):Prop:=(∀cs,h.get id=some (.row cs)->AV.aw cs<=n)/\∀es,h.get id=some (.map es)->∀e∈es,e.1.aK<=n/\e.2.aK<=n
structure CL(h h':ai):Prop where
 next:h.next<=h'.next
 wl:h'.wl<=h.wl
 le:∀n,n<=h.next->n<=h'.wl->(∀id,id<n->pK h id n)->∀id,id<n->pK h' id n
 md:h'.md<=h.md
 same:∀id,id<h'.md->id<h.next->h'.get id=h.get id
theorem CL.refl(h:ai):CL h h:=⟨Nat.le_refl _,Nat.le_refl _,λ_ _ _ k=>k,Nat.le_refl _,λ_ _ _=>rfl⟩
theorem CL.trans{h h1 h2:ai}(a:CL h h1)(b:CL h1 h2):CL h h2:=
 ⟨Nat.le_trans a.next b.next,Nat.le_trans b.wl a.wl,λn hn hw k=>b.le n (Nat.le_trans hn a.next) hw (a.le n hn (Nat.le_trans hw b.wl) k),Nat.le_trans b.md a.md,
  λid h1 h2=>(b.same id h1 (Nat.lt_of_lt_of_le h2 a.next)).trans (a.same id (Nat.lt_of_lt_of_le h1 b.md) h2)⟩
theorem ai.AK(h:ai)(id:Nat)(o:bp):(h.set id o).md<=h.md:=by
 unfold ai.set;split
 .exact Nat.min_le_left _ _
 .exact Nat.le_refl _
@[simp] theorem ai.OM(h:ai)(id:Nat)(v:AV):(h.mark id v).md=h.md:=by unfold ai.mark;split<;>rfl
theorem ai.wQ(h:ai)(id:Nat)(o:bp)(i:Nat)(hi:i<(h.set id o).md):(h.set id o).get i=h.get i:=by
 by_cases e:id=i
 .subst e;unfold ai.set at hi|-;by_cases cR:id<h.next
  .rw[if_pos cR] at hi;dsimp only at hi;omega
  .rw[if_neg cR]
 .exact ai.get_set_other e
theorem CL.alloc(h:ai)(o:bp):CL h (h.alloc o):=
 ⟨by simp,Nat.le_refl _,λn hn _ k id cG=>by have:=k id cG;unfold pK at this|-;rw[ai.eF (by omega)];exact this,Nat.le_refl _,λid _ h2=>ai.eF h2⟩
theorem CL.kill(h:ai)(id:Nat):CL h (h.set id .dead):=
 ⟨by simp,by simp,λn hn _ k i hi=>by
  have:=k i hi;by_cases e:id=i
  .subst e;unfold pK
   cases hg:h.get id with
   |none=>
     have:(h.set id .dead).get id=none:=by
      unfold ai.set;split
      .rename_i cR;unfold ai.get at hg|-;simp only[cR,if_true] at hg|-;rw[List.getElem?_eq_none_iff] at hg;exact List.getElem?_eq_none (by simpa using hg)
      .exact hg
     rw[this];exact⟨λ_ e=>(by cases e),λ_ e=>(by cases e)⟩
   |some o=>rw[ai.get_set_same hg];exact⟨λ_ e=>(by cases e),λ_ e=>(by cases e)⟩
  .unfold pK at this|-;rw[ai.get_set_other e];exact this,ai.AK _ _ _,λi h1 _=>ai.wQ h id .dead i h1⟩
theorem Yp(h:ai)(id:Nat)(v:AV):(h.mark id v).wl<=h.wl/\(id+1<v.aK->(h.mark id v).wl<=id):=by
 unfold ai.mark;split
 .dsimp only;exact⟨by omega,λ_=>by omega⟩
 .rename_i hn;exact⟨Nat.le_refl _,λe=>absurd e hn⟩
theorem Ii(a b:List AV):AV.aw (a++b)=max (AV.aw a) (AV.aw b):=by
 induction a with
 |nil=>simp[AV.aw]
 |cons x r ih=>simp only[List.cons_append,AV.aw,ih];omega
theorem Bd(vs:List AV):∀(cs:List AV) (k n:Nat),AV.aw cs<=n->AV.aw vs<=n->AV.aw (putAt cs k vs)<=n:=by
 induction vs with
 |nil=>intro cs k n h _;exact h
 |cons v r ih=>
   intro cs k n h h2;simp only[AV.aw] at h2;rw[putAt];refine ih _ _ _ (AV.kI λx hx=>?_) (by omega);rcases List.mem_or_eq_of_mem_set hx with hx|rfl
   .have:=AV.dk hx;omega
   .omega
theorem CL.write{h:ai}{id:Nat}{cs:List AV}(hg:h.get id=some (.row cs))(vs:List AV)(k:Nat)(v:AV)(hv:AV.aw vs<=v.aK):CL h ((h.set id (.row (putAt cs k vs))).mark id v):=by
 obtain⟨w1,w2⟩:=Yp (h.set id (.row (putAt cs k vs))) id v;refine⟨by simp,by simpa using w1,λn hn hw q i hi=>?_,by rw[ai.OM];exact ai.AK _ _ _,λi h1 _=>by rw[ai.qX];rw[ai.OM] at h1;exact ai.wQ _ _ _ i h1⟩;have:=q i hi;unfold pK at this|-;rw[ai.qX];by_cases e:id=i
 .subst e;rw[ai.get_set_same hg]
  have hle:v.aK<=n:=by
   by_cases cR:id+1<v.aK
   .have:=w2 cR;omega
   .omega
  exact⟨λjt e=>(by cases e;exact Bd vs cs k n (this.1 cs hg) (by omega)),λ_ e=>(by cases e)⟩
 .rw[ai.get_set_other e];exact this
theorem rX{v:AV}{cs:List AV}(h:v.cells? =some cs):AV.aw cs=v.aK:=by cases v<;>simp[AV.cells?] at h<;>subst h<;>simp[AV.aK,AV.aw]
theorem Cb{h:ai}{id:Nat}{cs:List AV}(he:h.row id=some cs):h.get id=some (.row cs):=by
 unfold ai.row at he;split at he
 .rename_i g;cases he;exact g
 .cases he
theorem afW{fr:List AV}{h h':ai}{Co:xJ}{v:AV}(he:cf fr h Co=some (v,h')):CL h h':=by
 cases Co<;>simp only[cf] at he
 case st n x y=>
  split at he
  .rename_i id off vs h1 h2;split at he
   .rename_i cs h3;split at he
    .cases he;exact .write (Cb h3) vs off _ (by rw[rX h2];exact Nat.le_refl _)
    .cases he
   .cases he
  .cases he
 case app sz bytes x y=>
  split at he
  .cases he
  .split at he
   .split at he
    .cases he;exact .refl _
    .split at he
     .cases he;exact .alloc _ _
     .cases he
   .split at he
    .rename_i cs h1;split at he
     .split at he
      .cases he;exact .refl _
      .split at he
       .cases he;exact .write (Cb h1) _ _ _ (by simp[AV.aK])
       .split at he
        .cases he;exact (CL.kill _ _).trans (.alloc _ _)
        .cases he
     .cases he
    .cases he
   .cases he
 all_goals
  repeat' split at he
  all_goals first
   |(cases he;done)
   |(cases he;exact .refl _)
   |(cases he;exact .alloc _ _)
   |(obtain⟨_,_,e⟩:=Option.map_eq_some_iff.1 he;cases e;exact .refl _)
   |(obtain⟨_,_,e⟩:=Option.map_eq_some_iff.1 he;cases e;exact .alloc _ _)
   |(obtain⟨p,_,e⟩:=Option.map_eq_some_iff.1 he;(repeat' split at e)<;>cases e<;>exact .refl _)
end
section
def ai.alike(h h':ai):Prop:=h'.next=h.next/\h'.iF=h.iF
theorem ai.alike_refl(h:ai):h.alike h:=⟨rfl,rfl⟩
theorem ai.alike.symm{h h':ai}(a:h.alike h'):h'.alike h:=⟨a.1.symm,a.2.symm⟩
theorem ai.alike.trans{h h1 h2:ai}(a:h.alike h1)(b:h1.alike h2):h.alike h2:=⟨b.1.trans a.1,b.2.trans a.2⟩
theorem ai.alike.get{h h':ai}(a:h.alike h')(id:Nat):h'.get id=h.get id:=by unfold ai.get;rw[a.1,a.2]
theorem ai.alike.alloc{h h':ai}(a:h.alike h')(o:bp):(h.alloc o).alike (h'.alloc o):=by unfold ai.alike ai.alloc;dsimp only;rw[a.1,a.2];exact⟨rfl,rfl⟩
theorem HR.alike{φ:eL}{h h':ai}{w:World}(hr:HR φ h w)(a:h.alike h'):HR φ h' w/\Ext φ h w φ h' w:=by obtain⟨n,o,x,y⟩:=h';obtain⟨a1,a2⟩:=a;dsimp only at a1 a2;subst a1 a2;exact hr.yN x y
section
variable {fr eD:List AV}{h h':ai}
theorem M3{l:List dU}(hx:∀x∈l,x.ev eD=x.ev fr):l.map (·.ev eD)=l.map (·.ev fr):=List.map_congr_left hx
theorem ri{l:Option dU}(hx:∀x∈l.toList,x.ev eD=x.ev fr):l.map (·.ev eD)=l.map (·.ev fr):=by
 cases l with
 |none=>rfl
 |some x=>simp[hx x (by simp)]
theorem NJ{o:xJ}(hx:∀x∈o.pF,x.ev eD=x.ev fr):cf eD h o=cf fr h o:=by
 cases o<;>simp only[xJ.pF] at hx
 case Iw z ps=>simp only[cf];rw[show (ps.map λp=>(p.1,p.2.1,p.2.2.ev eD))=ps.map λp=>(p.1,p.2.1,p.2.2.ev fr) from List.map_congr_left λp hp=>by rw[hx _ (List.mem_map.2 ⟨p,hp,rfl⟩)]]
 case EU sz n z ps=>simp only[cf];rw[show (ps.map λp=>(p.1*sz,sz,p.2.ev eD))=ps.map λp=>(p.1*sz,sz,p.2.ev fr) from List.map_congr_left λp hp=>by rw[hx _ (List.mem_map.2 ⟨p,hp,rfl⟩)]]
 case Xn n z ps=>simp only[cf];rw[show (ps.map λp=>(p.1*1,1,p.2.ev eD))=ps.map λp=>(p.1*1,1,p.2.ev fr) from List.map_congr_left λp hp=>by rw[hx _ (List.mem_map.2 ⟨p,hp,rfl⟩)]]
 case Ui f bC=>simp only[cf];rw[M3 hx]
 case bs0=>rfl
 case die=>rfl
 case EV x lo hi=>
  have h1:=hx x (by simp);have h2:=ri (l:=lo) λy hy=>hx y (by simp[Option.mem_toList.1 hy])
  have h3:=ri (l:=hi) λy hy=>hx y (by simp[Option.mem_toList.1 hy])
  simp only[cf];rw[h1,h2,h3]
 case slv sz x lo hi m3=>
  have h1:=hx x (by simp);have h2:=ri (l:=lo) λy hy=>hx y (by simp[Option.mem_toList.1 hy])
  have h3:=ri (l:=hi) λy hy=>hx y (by simp[Option.mem_toList.1 hy])
  have h4:=ri (l:=m3) λy hy=>hx y (by simp[Option.mem_toList.1 hy])
  simp only[cf];rw[h1,h2,h3,h4]
 case pick c x y=>simp only[cf];rw[hx c (by simp),hx x (by simp),hx y (by simp)]
 all_goals first
  |(rename_i x;simp only[cf];rw[hx x (by simp)];done)
  |(rename_i x _;simp only[cf];rw[hx x (by simp)];done)
  |(rename_i x y;simp only[cf];rw[hx x (by simp),hx y (by simp)];done)
  |skip
theorem Wu{o:xJ}(hs:o.still=true){v:AV}{h1:ai}(he:cf fr h o=some (v,h1)):h1=h/\∀h2,cf fr h2 o=some (v,h2):=by
 cases o<;>simp only[xJ.still,Bool.false_eq_true] at hs<;>simp only[cf] at he|-
 case mx x y=>
  split at he
  .rename_i k a k' b e1 e2;simp only[Option.some.injEq,Prod.mk.injEq] at he;obtain⟨rfl,rfl⟩:=he;exact⟨rfl,λ_=>rfl⟩
  .cases he
 case mn x y=>
  split at he
  .rename_i k a k' b e1 e2;simp only[Option.some.injEq,Prod.mk.injEq] at he;obtain⟨rfl,rfl⟩:=he;exact⟨rfl,λ_=>rfl⟩
  .cases he
 all_goals
  repeat' split at he
  all_goals first
   |(cases he;done)
   |(simp only[Option.some.injEq,Prod.mk.injEq] at he;obtain⟨rfl,rfl⟩:=he;exact⟨rfl,λh2=>by simp_all⟩)
   |(obtain⟨p,hp,e⟩:=Option.map_eq_some_iff.1 he;simp only[Prod.mk.injEq] at e;obtain⟨e1,rfl⟩:=e;exact⟨rfl,λh2=>by simp_all⟩)
   |skip
theorem yK{x:dU}(hx:∀t∈x.tmps,eD.getD t .undef=fr.getD t .undef):x.ev eD=x.ev fr:=by
 cases x with
 |const v=>rfl
 |tmp t=>exact hx t (by simp[dU.tmps])
theorem yJ{l:List AV}{t:Nat}{v:AV}(h:l.getD t .undef=v)(hv:v≠.undef):l[t]? =some v:=by
 rw[List.getD_eq_getElem?_getD] at h
 cases hx:l[t]? with
 |none=>rw[hx] at h;exact absurd h.symm hv
 |some x=>rw[hx] at h;simpa using h
theorem uO{g:Option (Nat×Bool)}(hx:∀t b,g=some (t,b)->eD.getD t .undef=fr.getD t .undef){b:Bool}(he:dR fr g=some b):dR eD g=some b:=by
 unfold dR at he|-
 cases g with
 |none=>exact he
 |some p=>
   obtain⟨t,want⟩:=p;have e:=hx t want rfl;dsimp only at he|-;split at he
   .rename_i b' hb;rw[List.getD_eq_getElem?_getD (l:=fr),hb] at e;rw[yJ e (by simp)];exact he
   .rename_i hb;rw[List.getD_eq_getElem?_getD (l:=fr),hb] at e;rw[yJ e (by simp)];exact he
   .cases he
variable {C:Nat->List AV->ai->Option (AV×ai)}
theorem s8{s:aW}(hx:∀t∈s.reads,eD.getD t .undef=fr.getD t .undef){xC:List AV}(he:dd C s fr h=some (xC,h')):
 ∃v,xC=gP fr s.dst v/\dd C s eD h=some (gP eD s.dst v,h'):=by
 have Fp:∀x∈s.op.pF,x.ev eD=x.ev fr:=λx hxm=>yK λt ht=>hx t (List.mem_append_right _ (List.mem_flatMap.2 ⟨x,hxm,ht⟩))
 have hg:∀t b,s.guard=some (t,b)->eD.getD t .undef=fr.getD t .undef:=λt b e=>hx t (List.mem_append_left _ (by rw[e];simp))
 unfold dd at he|-;split at he
 .cases he
 .rename_i hu;rw[uO hg hu];simp only[Option.some.injEq,Prod.mk.injEq] at he;obtain⟨rfl,rfl⟩:=he;exact⟨_,rfl,rfl⟩
 .rename_i hu;rw[uO hg hu];dsimp only
  cases fg:s.op with
  |op o=>rw[fg] at he Fp;dsimp only at he|-;obtain⟨⟨v,h1⟩,hv,e⟩:=Option.map_eq_some_iff.1 he;cases e;rw[NJ Fp,hv];exact⟨v,rfl,rfl⟩
  |call f args=>rw[fg] at he Fp;dsimp only at he|-;obtain⟨⟨v,h1⟩,hv,e⟩:=Option.map_eq_some_iff.1 he;cases e;rw[M3 (l:=args) Fp,hv];exact⟨v,rfl,rfl⟩
  |ml x args=>
    rw[fg] at he Fp;dsimp only at he|-;rw[Fp x (by simp[R5.pF])];rw[M3 λy hy=>Fp y (by simp[R5.pF,hy])];split at he
    .rename_i f bC hf;obtain⟨⟨v,h1⟩,hv,e⟩:=Option.map_eq_some_iff.1 he;cases e;rw[hv];exact⟨v,rfl,rfl⟩
    .cases he
theorem xO{s:aW}(hs:s.tN=false){xC:List AV}(he:dd C s fr h=some (xC,h')){h2:ai}
 (hld:∀n x id off,s.op=.op (.ld n x)->x.ev fr=.ptr id off->h2.get id=h.get id):h'=h/\dd C s fr h2=some (xC,h2):=by
 unfold dd at he|-;split at he
 .cases he
 .rename_i hu;simp only[Option.some.injEq,Prod.mk.injEq] at he;obtain⟨rfl,rfl⟩:=he;exact⟨rfl,rfl⟩
 .rename_i hu
  cases fg:s.op with
  |op o=>
    rw[fg] at he;dsimp only at he|-;obtain⟨⟨v,h1⟩,hv,e⟩:=Option.map_eq_some_iff.1 he;simp only[Prod.mk.injEq] at e;obtain⟨rfl,rfl⟩:=e;by_cases hl:∃n x,o=.ld n x
    .obtain⟨n,x,rfl⟩:=hl;simp only[cf] at hv|-;obtain⟨v',LB,e⟩:=Option.map_eq_some_iff.1 hv;simp only[Prod.mk.injEq] at e;obtain⟨rfl,rfl⟩:=e;refine⟨rfl,?_⟩
     have:P6 h2 n (x.ev fr)=P6 h n (x.ev fr):=by
      cases hx:x.ev fr with
      |ptr id off=>have:=hld n x id off fg hx;simp only[P6,ai.row,this]
      |_=>rfl
     rw[this,LB];rfl
    .have wm:o.still=true:=by
      unfold aW.tN at hs;rw[fg] at hs;cases o<;>first|exact (hl ⟨_,_,rfl⟩).elim|simpa using hs
     obtain⟨rfl,g⟩:=Wu wm hv;refine⟨rfl,?_⟩;rw[g h2];rfl
  |call f args=>unfold aW.tN at hs;rw[fg] at hs;cases hs
  |ml x args=>unfold aW.tN at hs;rw[fg] at hs;cases hs
theorem Bo:∀(parts:List (Nat×Nat×AV)) (z cs:List AV) (n:Nat),mM z parts=some cs->AV.aw z<=n->(∀p∈parts,p.2.2.aK<=n)->AV.aw cs<=n
 |[],z,cs,n,he,hz,_=>by simp only[mM,Option.some.injEq] at he;subst he;exact hz
 |(off,sz,v)::r,z,cs,n,he,hz,hp=>by
   simp only[mM] at he;split at he
   .rename_i c hc;split at he
    .refine Bo r _ cs n he ?_ λp hpm=>hp p (List.mem_cons_of_mem _ hpm)
     refine Bd c _ _ _ hz ?_;rw[rX hc];exact hp _ List.mem_cons_self
    .cases he
   .cases he
theorem Ki{s:aW}(hs:s.mU=true){xC:List AV}(he:dd C s fr h=some (xC,h')):
 ∃cs,∃vf:Nat->AV,h'=h.alloc (.row cs)/\xC=gP fr s.dst (vf h.next)/\((vf=λid=>.ptr id 0)\/∃n sz,vf=λid=>.vec id 0 n sz n)/\
   ∀(eD:List AV) (h2:ai),(∀x∈s.op.pF,x.ev eD=x.ev fr)->dd C s eD h2=some (gP eD s.dst (vf h2.next),h2.alloc (.row cs))/\
     ∀(φ:eL) (w:World) (tm:Array Value),FR φ h2 w eD tm->AV.aw cs<=h2.next:=by
 have LG:∀(eD:List AV) (h2:ai) (φ:eL) (w:World) (tm:Array Value),FR φ h2 w eD tm->∀x:dU,x.low=true->(x.ev eD).aK<=h2.next:=λeD h2 φ w tm hf x hx=>by
  cases x with
  |tmp t=>exact (hf.2 t).Cf
  |const v=>
    have:v.aK=0:=by simpa[dU.low] using hx
    show v.aK<=_;omega
 unfold aW.mU at hs;split at hs
 .rename_i x hg fg;unfold dd at he;rw[hg,fg] at he;simp only[dR,cf] at he;split at he
  .rename_i cs oC;simp only[Option.map_some,Option.some.injEq,Prod.mk.injEq] at he;obtain⟨rfl,rfl⟩:=he;refine⟨cs,λid=>.ptr id 0,rfl,rfl,.inl rfl,λeD h2 hx=>?_⟩;have e:=hx x (by rw[fg];simp[R5.pF,xJ.pF]);refine⟨?_,λφ w tm hf=>?_⟩
   .unfold dd;rw[hg,fg];simp only[dR,cf];rw[e,oC];rfl
   .rw[rX oC,<-e];exact LG eD h2 φ w tm hf x hs
  .cases he
 .rename_i sz n zero parts hg fg;simp only[Bool.and_eq_true,beq_iff_eq,List.all_eq_true] at hs;unfold dd at he;rw[hg,fg] at he;simp only[dR,cf,Option.map_map] at he;obtain⟨cs,oC,e⟩:=Option.map_eq_some_iff.1 he;simp only[Function.comp,Prod.mk.injEq] at e;obtain⟨rfl,rfl⟩:=e;refine⟨cs,λid=>.vec id 0 n sz n,rfl,rfl,.inr ⟨n,sz,rfl⟩,λeD h2 hx=>?_⟩
  have e:(parts.map λp=>(p.1*sz,sz,p.2.ev eD))=parts.map λp=>(p.1*sz,sz,p.2.ev fr):=List.map_congr_left λp hp=>by rw[hx p.2 (by rw[fg];exact List.mem_map.2 ⟨p,hp,rfl⟩)]
  refine⟨?_,λφ w tm hf=>?_⟩
  .unfold dd;rw[hg,fg];simp only[dR,cf,Option.map_map];rw[e,oC];rfl
  .refine Bo _ _ _ _ oC (by omega) λp hp=>?_
   obtain⟨q,hq,rfl⟩:=List.mem_map.1 hp;rw[<-hx q.2 (by rw[fg];exact List.mem_map.2 ⟨q,hq,rfl⟩)];exact LG eD h2 φ w tm hf q.2 (hs.2 q hq)
 .cases hs
end
end
section
structure Pm(φ:eL)(h:ai)(w:World)(φ':eL)(h':ai)(w':World):Prop where
 os:w'.os=w.os
 tape:w'.tape=w.tape
 output:w'.output=w.output
 size:w.heap.size<=w'.heap.size
 next:h.next<=h'.next
 BK:∀id,id<h.next->φ' id=φ id
 pr:∀b,Pr φ h w b->Pr φ' h' w' b/\w'.heap[b]? =w.heap[b]?
section
variable {φ φ1 φ2 φ':eL}{h h1 h2 h':ai}{w w1 w2 w':World}
theorem Ext.DE(e:Ext φ h w φ' h' w'):Pm φ h w φ' h' w':=⟨e.os,e.tape,e.output,e.size,e.next,e.BK,e.pr⟩
theorem Pm.refl(φ:eL)(h:ai)(w:World):Pm φ h w φ h w:=(Ext.refl φ h w).DE
theorem Pm.trans(a:Pm φ h w φ1 h1 w1)(b:Pm φ1 h1 w1 φ2 h2 w2):Pm φ h w φ2 h2 w2:=
 ⟨b.os.trans a.os,b.tape.trans a.tape,b.output.trans a.output,Nat.le_trans a.size b.size,Nat.le_trans a.next b.next,
  λid cG=>(b.BK id (Nat.lt_of_lt_of_le cG a.next)).trans (a.BK id cG),λx hx=>by obtain⟨h1,e1⟩:=a.pr x hx;obtain⟨h2,e2⟩:=b.pr x h1;exact⟨h2,e2.trans e1⟩⟩
theorem RV.DE{v:AV}{cv:Value}(hv:fI φ h w v cv)(e:Pm φ h w φ' h' w'):fI φ' h' w' v cv:=hv.mono (λid _ cG=>⟨e.BK id cG,Nat.lt_of_lt_of_le cG e.next⟩) e.pr
theorem FR.DE{fr:List AV}{tm:Array Value}(hf:FR φ h w fr tm)(e:Pm φ h w φ' h' w'):FR φ' h' w' fr tm:=⟨hf.1,λt=>(hf.2 t).DE e⟩
theorem HR.PO(hr:HR φ h w):∀id,id<h.next->pK h id h.next:=λid _=>by
 refine⟨λcs hg=>?_,λes hg e he=>?_⟩
 .obtain⟨c,el,fz,k1,k2,k3,k4,k5,k6⟩:=hr.rows id cs hg;refine AV.kI λv hv=>?_
  obtain⟨j,hj,rfl⟩:=List.getElem_of_mem hv;exact (k6 j hj).Cf
 .obtain⟨mX,AZ,k1,k2,k3⟩:=hr.maps id es hg;obtain⟨j,hj,rfl⟩:=List.getElem_of_mem he;exact⟨(k3 j hj).1.Cf,(k3 j hj).2.Cf⟩
def L1(φ:eL)(h:ai)(w:World)(e:PE)(cs:List AV):Prop:=
 ∃c el fr,w.heap[e.ib]? =some (.cells c el fr)/\e.base+e.room<=c.size/\cs.length<=e.room/\
   (∀o,o<c.size->¬(fr.1<=o/\o<fr.2))/\
   (∀j,j<e.room->(c.getD (e.base+j) default).oneCell'=true)/\
   ∀j (hj:j<cs.length),fI φ h w cs[j] (c.getD (e.base+j) default)
theorem L1.DE{e:PE}{cs:List AV}(g:L1 φ h w e cs)(x:Pm φ h w φ' h' w')(hb:w'.heap[e.ib]? =w.heap[e.ib]?):L1 φ' h' w' e cs:=by obtain⟨c,el,fr,h1,h2,h3,h4,h5,h6⟩:=g;exact⟨c,el,fr,hb.trans h1,h2,h3,h4,h5,λj hj=>(h6 j hj).DE x⟩
theorem Yx(hr:HR φ h w){e:PE}{cs:List AV}(hg:L1 φ h w e cs)(Cm:φ.gh e.ib):
 HR ⟨λid=>if id=h.next then e else φ id,λb=>φ.gh b/\b≠e.ib⟩ (h.alloc (.row cs)) w/\
 Pm φ h w ⟨λid=>if id=h.next then e else φ id,λb=>φ.gh b/\b≠e.ib⟩ (h.alloc (.row cs)) w:=by
 obtain⟨g1,g2⟩:=hr.gh _ Cm
 have x:Pm φ h w ⟨λid=>if id=h.next then e else φ id,λb=>φ.gh b/\b≠e.ib⟩ (h.alloc (.row cs)) w:=by
  refine⟨rfl,rfl,rfl,Nat.le_refl _,by simp,λid cG=>by simp[Nat.ne_of_lt cG],λb hb=>⟨⟨hb.1,λid hl=>?_,λhc=>hb.2.2 hc.1⟩,rfl⟩⟩;rcases jw hl with rfl|⟨hl,cR⟩
  .simp only[if_true];exact λe'=>hb.2.2 (e'▸Cm)
  .simp only[Nat.ne_of_lt cR,if_false];exact hb.2.1 id hl
 refine⟨⟨ai.po _ hr.wf,λid jt EY=>?_,λid es EY=>?_,λi j hi hj wj=>?_,λb hb=>⟨(hr.gh b hb.1).1,λid hl=>?_⟩⟩,x⟩
 .have cR:=ai.eK EY;simp only[ai.px] at cR;rcases Nat.lt_or_ge id h.next with cG|cG
  .rw[ai.eF cG] at EY;have hk:L1 φ h w (φ id) jt:=hr.rows id jt EY;have:=hk.DE x rfl;unfold tS;simp only[Nat.ne_of_lt cG,if_false];exact this
  .obtain rfl:id=h.next:=by omega
   rw[ai.gw] at EY;cases EY;have:=hg.DE x rfl;unfold tS;simp only[if_true];exact this
 .have cR:=ai.eK EY;simp only[ai.px] at cR;rcases Nat.lt_or_ge id h.next with cG|cG
  .rw[ai.eF cG] at EY;obtain⟨en,AZ,k1,k2,k3⟩:=hr.maps id es EY;refine⟨en,AZ,?_,k2,λj hj=>⟨(k3 j hj).1.DE x,(k3 j hj).2.DE x⟩⟩;simp only[Nat.ne_of_lt cG,if_false];exact k1
  .obtain rfl:id=h.next:=by omega
   rw[ai.gw] at EY;cases EY
 .rcases jw hi with rfl|⟨hi,EW⟩<;>rcases jw hj with rfl|⟨hj,G3⟩
  .rfl
  .simp only[if_true,Nat.ne_of_lt G3,if_false] at wj;exact absurd wj.symm (g2 j hj)
  .simp only[if_true,Nat.ne_of_lt EW,if_false] at wj;exact absurd wj (g2 i hi)
  .simp only[Nat.ne_of_lt EW,Nat.ne_of_lt G3,if_false] at wj;exact hr.inj i j hi hj wj
 .rcases jw hl with rfl|⟨hl,cR⟩
  .simp only[if_true];exact λe'=>hb.2 e'.symm
  .simp only[Nat.ne_of_lt cR,if_false];exact (hr.gh b hb.1).2 id hl
theorem Qw(hr:HR φ h w){cs:List AV}(mw:HR φ1 (h.alloc (.row cs)) w')(hx:Ext φ h w φ1 (h.alloc (.row cs)) w')(wi:AV.aw cs<=h.next):
 HR ⟨φ.at_,λb=>φ.gh b\/b=(φ1 h.next).ib⟩ h w'/\Pm φ h w ⟨φ.at_,λb=>φ.gh b\/b=(φ1 h.next).ib⟩ h w'/\
 L1 ⟨φ.at_,λb=>φ.gh b\/b=(φ1 h.next).ib⟩ h w' (φ1 h.next) cs/\¬φ.gh (φ1 h.next).ib:=by
 have Z4:live (h.alloc (.row cs)) h.next:=⟨_,ai.gw,λe=>by cases e⟩
 have ad8:∀id,live h id->live (h.alloc (.row cs)) id/\φ1 id=φ id/\id<h.next:=λid ⟨o,hg,ho⟩=>by have cR:=ai.eK hg;exact⟨⟨o,by rw[ai.eF cR];exact hg,ho⟩,hx.BK id cR,cR⟩
 have hng:¬φ.gh (φ1 h.next).ib:=λhb=>(mw.gh _ (by rw[hx.gh.1];exact hb)).2 _ Z4 rfl
 have pr2:∀b,Pr φ1 (h.alloc (.row cs)) w' b->Pr ⟨φ.at_,λb=>φ.gh b\/b=(φ1 h.next).ib⟩ h w' b:=λb hb=>
  ⟨hb.1,λid hl=>by
   obtain⟨q1,q2,_⟩:=ad8 id hl;have:=hb.2.1 id q1;rw[q2] at this;exact this,λhc=>by
   rcases hc with hc|rfl
   .exact hb.2.2 (by rw[hx.gh.1];exact hc)
   .exact hb.2.1 _ Z4 rfl⟩
 have mv:∀v cv,v.aK<=h.next->fI φ1 (h.alloc (.row cs)) w' v cv->fI ⟨φ.at_,λb=>φ.gh b\/b=(φ1 h.next).ib⟩ h w' v cv:=λv cv hv LH=>LH.mono (λid h1 h2=>⟨(hx.BK id (by omega)).symm,by omega⟩) λb hb=>⟨pr2 b hb,rfl⟩
 have hle:=hr.PO;refine⟨⟨hr.wf,λid jt hg=>?_,λid es hg=>?_,λi j hi hj=>hr.inj i j hi hj,λb hb=>?_⟩,⟨hx.os,hx.tape,hx.output,hx.size,Nat.le_refl _,λ_ _=>rfl,λb hb=>?_⟩,?_,hng⟩
 .have cR:=ai.eK hg;obtain⟨c,el,fz,k1,k2,k3,k4,k5,k6⟩:=mw.rows id jt (by rw[ai.eF cR];exact hg);rw[hx.BK id cR] at k1 k2 k3 k5 k6;refine⟨c,el,fz,k1,k2,k3,k4,k5,λj hj=>mv _ _ ?_ (k6 j hj)⟩;have h1:=(hle id cR).1 jt hg;have h2:=AV.dk (List.getElem_mem hj);omega
 .have cR:=ai.eK hg;obtain⟨mX,AZ,k1,k2,k3⟩:=mw.maps id es (by rw[ai.eF cR];exact hg);rw[hx.BK id cR] at k1;refine⟨mX,AZ,k1,k2,λj hj=>?_⟩;have h1:=(hle id cR).2 es hg es[j] (List.getElem_mem hj);exact⟨mv _ _ h1.1 (k3 j hj).1,mv _ _ h1.2 (k3 j hj).2⟩
 .rcases hb with hb|rfl
  .obtain⟨q1,q2⟩:=mw.gh b (by rw[hx.gh.1];exact hb)
   exact⟨q1,λid hl=>by obtain⟨r1,r2,_⟩:=ad8 id hl;have:=q2 id r1;rw[r2] at this;exact this⟩
  .refine⟨mw.gJ Z4,λid hl e=>?_⟩;obtain⟨r1,r2,r3⟩:=ad8 id hl;have e':(φ1 id).ib=(φ1 h.next).ib:=by rw[r2];exact e
   have:=mw.inj id h.next r1 Z4 e'
   omega
 .obtain⟨q1,q2⟩:=hx.pr b hb;exact⟨pr2 b q1,q2⟩
 .obtain⟨c,el,fz,k1,k2,k3,k4,k5,k6⟩:=mw.rows h.next cs ai.gw
  refine⟨c,el,fz,k1,k2,k3,k4,k5,λj hj=>mv _ _ ?_ (k6 j hj)⟩;have h2:=AV.dk (List.getElem_mem hj);omega
def VAt(e:PE)(vf:Nat->AV)(cv:Value):Prop:=∀(φ:eL) (nx:Nat) (pr:Nat->Prop) (w:World) (id:Nat),φ id=e->id<nx->RV φ nx pr w (vf id) cv
theorem VAt.of{vf:Nat->AV}(hvf:(vf=λid=>.ptr id 0)\/∃n sz,vf=λid=>.vec id 0 n sz n){nx:Nat}{pr:Nat->Prop}{id:Nat}{cv:Value}(hv:RV φ nx pr w (vf id) cv):VAt (φ id) vf cv:=by
 intro φ' N9 zn w' WE he cR;rcases hvf with rfl|⟨n,sz,rfl⟩
 .obtain⟨rfl,_⟩:=hv.vi;dsimp only;rw[<-he];exact .ptr WE 0 cR
 .obtain⟨cap,a,rfl,h1,h2,h3,h4,h5⟩:=hv.lR;rw[<-he] at h4 h5;exact .vec WE 0 n sz n cap a cR h2 h3 h4 h5
end
end
section
def SS(bD:Array Bool)(i:Nat):Prop:=bD.getD i false=true
theorem z6{bD:Array Bool}{i:Nat}(hi:i<bD.size)(j:Nat):SS (bD.setIfInBounds i true) j↔j=i\/SS bD j:=by
 unfold SS;by_cases h:i=j
 .subst h;simp[hi]
 .rw[getD_set_ne false h];constructor
  .exact .inr
  .rintro (e|e)
   .exact absurd e.symm h
   .exact e
def unl(n:Nat)(bD:Array Bool):Nat:=(List.range n).countP λi=>!bD.getD i false
theorem GN{α:Type}{p q:α->Bool}:∀{l:List α},(∀x∈l,q x=true->p x=true)->(∃x∈l,p x=true/\q x=false)->l.countP q<l.countP p
 |[],_,h=>by obtain⟨x,hx,_⟩:=h;cases hx
 |y::l,h,⟨x,hx,h1,h2⟩=>by
   have hle:l.countP q<=l.countP p:=List.countP_mono_left λz hz hq=>h z (List.mem_cons_of_mem _ hz) hq
   rw[List.countP_cons,List.countP_cons];by_cases e:x=y
   .subst e;simp[h1,h2];omega
   .have Ob:x∈l:=by
     cases hx with
     |head=>exact absurd rfl e
     |tail _ h=>exact h
    have:=GN (l:=l) (λz hz=>h z (List.mem_cons_of_mem _ hz)) ⟨x,Ob,h1,h2⟩;have hy:=h y List.mem_cons_self;cases hq:q y
    .simp;omega
    .simp[hy hq];omega
theorem XL{n:Nat}{bD:Array Bool}{i:Nat}(hi:i<n)(hs:i<bD.size)(Cn:¬SS bD i):unl n (bD.setIfInBounds i true)<unl n bD:=by
 refine GN (λj _ hj=>?_) ⟨i,List.mem_range.2 hi,?_,?_⟩
 .simp only[Bool.not_eq_true'] at hj|-;cases hx:bD.getD j false
  .rfl
  .have:SS (bD.setIfInBounds i true) j:=(z6 hs j).2 (.inr hx);rw[show _=true from this] at hj;exact hj
 .simp only[Bool.not_eq_true'];cases hx:bD.getD i false
  .rfl
  .exact absurd hx Cn
 .have:SS (bD.setIfInBounds i true) i:=(z6 hs i).2 (.inl rfl);rw[show _=true from this];rfl
theorem TH{n:Nat}{bD:Array Bool}(h:unl n bD=0){i:Nat}(hi:i<n):SS bD i:=by unfold unl at h;rw[List.countP_eq_zero] at h;have:=h i (List.mem_range.2 hi);simpa[SS] using this
section
variable {P:Program}{C:Nat->List AV->ai->Option (AV×ai)}{ops:Array Oper}{ss:List aW}{b:List Nat}
structure za(P:Program)(ops:Array Oper)(ss:List aW)(b:List Nat):Prop where
 len:ss.length=ops.size
 comp:∀(i:Nat) (o:Oper),ops[i]? =some o->∃s:aW,ss[i]? =some s/\lH P ops o=some s
 bef:∀(i:Nat) (o:Oper),ops[i]? =some o->b.getD i 0=Ba b o.after.toList
 back:∀(i:Nat) (o:Oper),ops[i]? =some o->∀e∈o.after,Region.binds .any e=true->e.on<i
 uniq:∀(i j:Nat) (s r:aW) (d:Nat),ss[i]? =some s->ss[j]? =some r->s.dst=some d->r.dst=some d->i=j
 ord:∀(i j:Nat) (s r:aW),i<j->ss[i]? =some s->ss[j]? =some r->s.tN=true->r.tN=true->bt b i j=true\/r.mU=true
 ldo:∀(i j:Nat) (s r:aW),ss[i]? =some s->ss[j]? =some r->s.Kq=true->r.mU=true->j<i->bt b j i=true->∀(e:Nat) (q:aW),ss[e]? =some q->e<j->q.tN=true->bt b e i=true
 rd:∀(i j:Nat) (s r:aW) (d:Nat),i≠j->ss[i]? =some s->ss[j]? =some r->r.dst=some d->d∈s.reads->
  (j<i/\bt b j i=true/\(r.mU=true->∀(e:Nat) (q:aW),ss[e]? =some q->e<j->q.tN=true->bt b e i=true))\/(i<j/\bt b i j=true)
theorem pS{i:Nat}:∀{l:List Edge},(Ba b l).testBit i=true->∃e∈l,Region.binds .any e=true/\(e.on=i\/bt b i e.on=true)
 |[],h=>by simp[Ba] at h
 |e::r,h=>by
   unfold Ba at h;split at h
   .rename_i hb;rw[Nat.testBit_or,Nat.testBit_or,Nat.testBit_two_pow,Bool.or_eq_true,Bool.or_eq_true] at h;rcases h with (h|h)|h
    .exact⟨e,by simp,hb,.inl (by simpa using h)⟩
    .exact⟨e,by simp,hb,.inr h⟩
    .obtain⟨e',h1,h2⟩:=pS h;exact⟨e',List.mem_cons_of_mem _ h1,h2⟩
   .obtain⟨e',h1,h2⟩:=pS h;exact⟨e',List.mem_cons_of_mem _ h1,h2⟩
def Wi(ops:Array Oper)(S:Nat->Prop):Prop:=∀(j:Nat) (o:Oper),ops[j]? =some o->S j->∀e∈o.after,Region.binds .any e=true->S e.on
theorem mi(st:za P ops ss b){S:Nat->Prop}(hc:Wi ops S):∀(n j i:Nat),j<n->∀o,ops[j]? =some o->(∀e∈o.after,Region.binds .any e=true->S e.on)->bt b i j=true->S i
 |0,j,i,hj,_,_,_,_=>by omega
 |n+1,j,i,hj,o,ho,he,hb=>by
   unfold bt at hb;rw[st.bef j o ho] at hb;obtain⟨e,h1,h2,h3⟩:=pS hb;have G4:e∈o.after:=by simpa using h1
   rcases h3 with rfl|h3
   .exact he e G4 h2
   .have cR:=st.back j o ho e G4 h2;have hjs:j<ops.size:=(Array.getElem?_eq_some_iff.1 ho).1;have hoe:ops[e.on]? =some ops[e.on]:=Array.getElem?_eq_getElem (by omega);exact mi st hc n e.on i (by omega) _ hoe (hc e.on _ hoe (he e G4 h2)) h3
structure Tr(C:Nat->List AV->ai->Option (AV×ai))(ss:List aW)(b:List Nat)(F:Nat->List AV)(H:Nat->ai):Prop where
 st:∀(i:Nat) (s:aW),ss[i]? =some s->∃A0 uX,dd C s (F i) A0=some (F (i+1),uX)/\(H i).alike A0/\uX.alike (H (i+1))
 ld:∀(i j:Nat) (s r:aW) (n:Option Nat) (x:dU) (id off:Nat),ss[i]? =some s->ss[j]? =some r->s.op=.op (.ld n x)->x.ev (F i)=.ptr id off->r.tN=true->bt b i j=false->bt b j i=false->(H (j+1)).get id=(H j).get id
variable {F:Nat->List AV}{H:Nat->ai}
theorem Tr.put(T:Tr C ss b F H){i:Nat}{s:aW}(hs:ss[i]? =some s):∃v,F (i+1)=gP (F i) s.dst v:=by obtain⟨A0,uX,e,_⟩:=T.st i s hs;obtain⟨v,e1,_⟩:=s8 (eD:=F i) (λ_ _=>rfl) e;exact⟨v,e1⟩
theorem pU(fr:List AV)(d:Option Nat)(v:AV):(gP fr d v).length=fr.length:=by cases d<;>simp[gP]
theorem iM{fr:List AV}{d:Option Nat}{v:AV}{t:Nat}(h:d≠some t):(gP fr d v).getD t .undef=fr.getD t .undef:=by
 cases d with
 |none=>rfl
 |some d=>
   have fy:d≠t:=λe=>h (by rw[e])
   simp[gP,List.getD_eq_getElem?_getD,List.getElem?_set_ne fy]
theorem Gu{fr eD:List AV}{d:Nat}{v:AV}(hl:eD.length=fr.length):(gP eD (some d) v).getD d .undef=(gP fr (some d) v).getD d .undef:=by simp[gP,List.getD_eq_getElem?_getD,List.getElem?_set,hl]
theorem Tr.len(T:Tr C ss b F H):∀i,i<=ss.length->(F i).length=(F 0).length
 |0,_=>rfl
 |i+1,hi=>by obtain⟨v,e⟩:=T.put (List.getElem?_eq_getElem (show i<ss.length by omega));rw[e,pU];exact T.len i (by omega)
theorem Tr.gK(T:Tr C ss b F H){d i:Nat}:∀(m:Nat),i+m<=ss.length->(∀(j:Nat) (s:aW),i<=j->j<i+m->ss[j]? =some s->s.dst≠some d)->(F (i+m)).getD d .undef=(F i).getD d .undef
 |0,_,_=>rfl
 |m+1,hl,jm=>by have hs:=List.getElem?_eq_getElem (show i+m<ss.length by omega);obtain⟨v,e⟩:=T.put hs;rw[show i+(m+1)=(i+m)+1 by omega,e,iM (jm (i+m) _ (by omega) (by omega) hs)];exact T.gK m (by omega) λj s h1 h2=>jm j s h1 (by omega)
theorem Tr.CK(T:Tr C ss b F H){i:Nat}{s:aW}(hs:ss[i]? =some s)(he:s.tN=false):(H i).alike (H (i+1)):=by
 obtain⟨A0,uX,e,a1,a2⟩:=T.st i s hs;obtain⟨rfl,_⟩:=xO he e (h2:=A0) λ_ _ _ _ _ _=>rfl
 exact a1.trans a2
def acK(F:Nat->List AV)(H:Nat->ai)(φ0 φ:eL)(pe:Nat->PE)(k:Nat)(a:Act)(w:World)(i:Nat)(s:aW):Prop:=
 ∃cs,∃vf:Nat->AV,((H i).alloc (.row cs)).alike (H (i+1))/\F (i+1)=gP (F i) s.dst (vf (H i).next)/\L1 φ (H k) w (pe i) cs/\φ.gh (pe i).ib/\¬φ0.gh (pe i).ib/\
   ∀d,s.dst=some d->d<(F 0).length->VAt (pe i) vf (a.tmps.getD d undef)
structure DI(ops:Array Oper)(ss:List aW)(F:Nat->List AV)(H:Nat->ai)(φ0:eL)(w0:World)(d0:List Deferred)(bD:Array Bool)(φ:eL)(pe:Nat->PE)(cu:List AV)(k:Nat)(a:Act)(w:World):Prop where
 sz:bD.size=ss.length
 cl:Wi ops (SS bD)
 kn:k<=ss.length
 lo:∀(i:Nat) (s:aW),i<k->ss[i]? =some s->s.tN=true->SS bD i
 hi:∀(i:Nat) (s:aW),k<=i->ss[i]? =some s->s.tN=true->SS bD i->s.mU=true
 hr:HR φ (H k) w
 fr:FR φ (H k) w cu a.tmps
 ex:Pm φ0 (H 0) w0 φ (H k) w
 Y2:cu.length=(F 0).length
 w1:∀(i:Nat) (s:aW) (d:Nat),ss[i]? =some s->s.dst=some d->SS bD i->(s.mU=true->i<k)->cu.getD d .undef=(F ss.length).getD d .undef
 w2:∀(i:Nat) (s:aW) (d:Nat),ss[i]? =some s->s.dst=some d->¬SS bD i->cu.getD d .undef=(F 0).getD d .undef
 w3:∀d:Nat,(∀(i:Nat) (s:aW),ss[i]? =some s->s.dst≠some d)->cu.getD d .undef=(F 0).getD d .undef
 mU:∀(i:Nat) (s:aW),k<=i->ss[i]? =some s->s.mU=true->SS bD i->acK F H φ0 φ pe k a w i s
 inj:∀(i j:Nat) (s r:aW),k<=i->k<=j->ss[i]? =some s->ss[j]? =some r->s.mU=true->r.mU=true->SS bD i->SS bD j->(pe i).ib=(pe j).ib->i=j
 gh:∀x,φ.gh x->φ0.gh x\/∃(i:Nat) (s:aW),k<=i/\ss[i]? =some s/\s.mU=true/\SS bD i/\x=(pe i).ib
 XP:∀x,φ0.gh x->φ.gh x/\w.heap[x]? =w0.heap[x]?
 df:a.defers=d0
theorem yf{s:aW}(h:s.mU=true):s.tN=true:=by
 unfold aW.mU at h;unfold aW.tN;split at h
 .rename_i fg;rw[fg];rfl
 .rename_i fg;rw[fg];rfl
 .cases h
theorem FR.acW{φ:eL}{h:ai}{w:World}{fr:List AV}{tm:Array Value}(hf:FR φ h w fr tm){d:Nat}{v:AV}(hv:fI φ h w v (tm.getD d undef)):FR φ h w (fr.set d v) tm:=by
 have:=hf.put hv d
 have e:tm.setIfInBounds d (tm.getD d undef)=tm:=by
  apply Array.ext
  .simp
  .intro j h1 h2;rw[Array.getElem_setIfInBounds];split
   .rename_i e;subst e;simp[Array.getD,h2]
   .rfl
 rw[e] at this;exact this
variable {φ0:eL}{w0:World}{d0:List Deferred}
theorem DI.advance(T:Tr C ss b F H)(st:za P ops ss b):∀(m:Nat) {bD:Array Bool} {φ:eL} {pe:Nat->PE} {cu:List AV} {k:Nat} {a:Act} {w:World},ss.length<=k+m->DI ops ss F H φ0 w0 d0 bD φ pe cu k a w->
 ∃φ' cu' k',DI ops ss F H φ0 w0 d0 bD φ' pe cu' k' a w/\(k'<ss.length->∃s:aW,ss[k']? =some s/\s.tN=true/\¬SS bD k')
 |m,bD,φ,pe,cu,k,a,w,hm,D=>by
   rcases Nat.lt_or_ge k ss.length with hk|hk
   case inr=>exact⟨φ,cu,k,D,λh=>by omega⟩
   have hs:=List.getElem?_eq_getElem hk;by_cases hS:ss[k].tN=true/\¬SS bD k
   .exact⟨φ,cu,k,D,λ_=>⟨_,hs,hS.1,hS.2⟩⟩
   .cases m with
    |zero=>omega
    |succ m=>
      by_cases he:ss[k].tN=true
      .have hSk:SS bD k:=Classical.byContradiction λh=>hS ⟨he,h⟩
       have hp:=D.hi k _ (Nat.le_refl _) hs he hSk;obtain⟨cs,vf,q1,q2,q3,q4,q5,q6⟩:=D.mU k _ (Nat.le_refl _) hs hp hSk;obtain⟨r1,r2⟩:=Yx D.hr q3 q4;obtain⟨r3,r4⟩:=r1.alike q1;have x:=r2.trans r4.DE;refine DI.advance T st m (k:=k+1) (φ:=⟨λid=>if id=(H k).next then pe k else φ id,λy=>φ.gh y/\y≠(pe k).ib⟩) (cu:=gP cu ss[k].dst (vf (H k).next)) (by omega) ?_;have BR:(H (k+1)).next=(H k).next+1:=by rw[q1.1];rfl
       refine⟨D.sz,D.cl,hk,λi s h1 h2 h3=>?_,λi s h1 h2 h3 h4=>D.hi i s (by omega) h2 h3 h4,r3,?_,D.ex.trans x,by rw[pU];exact D.Y2,λi s d h1 h2 h3 h4=>?_,λi s d h1 h2 h3=>?_,λd h1=>?_,
        λi s h1 h2 h3 h4=>?_,λi j s r h1 h2=>D.inj i j s r (by omega) (by omega),λy hy=>?_,λy hy=>?_,D.df⟩
       .rcases Nat.lt_or_ge i k with h|h
        .exact D.lo i s h h2 h3
        .obtain rfl:i=k:=by omega
         exact hSk
       .cases hd:ss[k].dst with
        |none=>exact D.fr.DE x
        |some d=>
          rcases Nat.lt_or_ge d (F 0).length with LZ|LZ
          .refine (D.fr.DE x).acW ?_;exact q6 d hd LZ _ _ _ _ (H k).next (by simp) (by omega)
          .have e:gP cu (some d) (vf (H k).next)=cu:=by
            simp only[gP];exact List.set_eq_of_length_le (by rw[D.Y2];exact LZ)
           rw[e];exact D.fr.DE x
       .by_cases Z5:i=k
        .subst Z5
         have e1:(F ss.length).getD d .undef=(F (i+1)).getD d .undef:=by
          have:=T.gK (d:=d) (i:=i+1) (ss.length-(i+1)) (by omega) λj r g1 g2 g3 g4=>by have:=st.uniq i j s r d h1 g3 h2 g4;omega
          rw[show i+1+(ss.length-(i+1))=ss.length by omega] at this;exact this
         have es:ss[i]=s:=by rw[hs] at h1;exact Option.some.inj h1
         rw[e1,q2,es,h2];exact Gu (by rw[D.Y2,T.len i (by omega)])
        .rw[iM (λe=>Z5 (st.uniq i k s _ d h1 hs h2 e))];exact D.w1 i s d h1 h2 h3 λh=>by have:=h4 h;omega
       .rw[iM (λe=>h3 ((st.uniq i k s _ d h1 hs h2 e)▸hSk))];exact D.w2 i s d h1 h2 h3
       .rw[iM (h1 k _ hs)];exact D.w3 d h1
       .obtain⟨jt,vf',p1,p2,p3,p4,p5,p6⟩:=D.mU i s (by omega) h2 h3 h4;refine⟨jt,vf',p1,p2,p3.DE x rfl,⟨p4,λe=>?_⟩,p5,p6⟩;have:=D.inj i k s _ (by omega) (Nat.le_refl _) h2 hs h3 hp h4 hSk e;omega
       .rcases D.gh y hy.1 with h|⟨i,s,h1,h2,h3,h4,h5⟩
        .exact .inl h
        .refine .inr ⟨i,s,?_,h2,h3,h4,h5⟩;rcases Nat.lt_or_ge k i with h|h
         .exact h
         .obtain rfl:i=k:=by omega
          exact absurd h5 hy.2
       .obtain⟨g1,g2⟩:=D.XP y hy;exact⟨⟨g1,λe=>q5 (e▸hy)⟩,g2⟩
      .have he:ss[k].tN=false:=by simpa using he
       have hnp:ss[k].mU=false:=by
        cases hp:ss[k].mU with
        |false=>rfl
        |true=>rw[yf hp] at he;cases he
       have al:=T.CK hs he;obtain⟨r1,r2⟩:=D.hr.alike al;refine DI.advance T st m (k:=k+1) (φ:=φ) (cu:=cu) (by omega) ?_
       refine⟨D.sz,D.cl,hk,λi s h1 h2 h3=>?_,λi s h1 h2 h3 h4=>D.hi i s (by omega) h2 h3 h4,r1,D.fr.ext r2,D.ex.trans r2.DE,D.Y2,λi s d h1 h2 h3 h4=>?_,D.w2,D.w3,
        λi s h1 h2 h3 h4=>?_,λi j s r h1 h2=>D.inj i j s r (by omega) (by omega),λy hy=>?_,D.XP,D.df⟩
       .rcases Nat.lt_or_ge i k with h|h
        .exact D.lo i s h h2 h3
        .obtain rfl:i=k:=by omega
         rw[hs] at h2;rw[<-Option.some.inj h2,he] at h3;cases h3
       .refine D.w1 i s d h1 h2 h3 λh=>?_
        have:=h4 h;rcases Nat.lt_or_ge i k with h'|h'
        .exact h'
        .obtain rfl:i=k:=by omega
         rw[hs] at h1;rw[<-Option.some.inj h1,hnp] at h;cases h
       .obtain⟨jt,vf',p1,p2,p3,p4,p5,p6⟩:=D.mU i s (by omega) h2 h3 h4;exact⟨jt,vf',p1,p2,p3.DE r2.DE rfl,p4,p5,p6⟩
       .rcases D.gh y hy with h|⟨i,s,h1,h2,h3,h4,h5⟩
        .exact .inl h
        .refine .inr ⟨i,s,?_,h2,h3,h4,h5⟩;rcases Nat.lt_or_ge k i with h|h
         .exact h
         .obtain rfl:i=k:=by omega
          rw[hs] at h2;rw[<-Option.some.inj h2,hnp] at h3;cases h3
end
end
section
variable {X:World->Prop}
section
variable {P:Program}{C:Nat->List AV->ai->Option (AV×ai)}{ops:Array Oper}{ss:List aW}{b:List Nat}{F:Nat->List AV}{H:Nat->ai}{φ0:eL}{w0:World}{d0:List Deferred}
 {bD:Array Bool} {φ:eL} {pe:Nat->PE} {cu:List AV} {k:Nat} {a:Act} {w:World}
theorem UG(st:za P ops ss b):∀(n j i:Nat),j<n->(∃o,ops[j]? =some o)->bt b i j=true->i<j
 |0,j,i,hj,_,_=>by omega
 |n+1,j,i,hj,⟨o,ho⟩,hb=>by
   unfold bt at hb;rw[st.bef j o ho] at hb;obtain⟨e,h1,h2,h3⟩:=pS hb;have G4:e∈o.after:=by simpa using h1
   have cR:=st.back j o ho e G4 h2;rcases h3 with rfl|h3
   .exact cR
   .have hjs:j<ops.size:=(Array.getElem?_eq_some_iff.1 ho).1;have:=UG st n e.on i (by omega) ⟨_,Array.getElem?_eq_getElem (by omega)⟩ h3;omega
def KX(ss:List aW)(bD:Array Bool)(k:Nat):Prop:=k<ss.length->∃s:aW,ss[k]? =some s/\s.tN=true/\¬SS bD k
theorem DI.reads(T:Tr C ss b F H)(st:za P ops ss b)(D:DI ops ss F H φ0 w0 d0 bD φ pe cu k a w)(kx:KX ss bD k){i:Nat}{o:Oper}{s:aW}(ho:ops[i]? =some o)(hs:ss[i]? =some s)
 (zo:∀e∈o.after,Region.binds .any e=true->SS bD e.on) (Cn:¬SS bD i):∀t∈s.reads,cu.getD t .undef=(F i).getD t .undef:=by
 intro t ht;have EW:i<ss.length:=(List.getElem?_eq_some_iff.1 hs).1;by_cases hw:∃(j:Nat) (r:aW),ss[j]? =some r/\r.dst=some t
 .obtain⟨j,r,hj,hd⟩:=hw;have G3:j<ss.length:=(List.getElem?_eq_some_iff.1 hj).1
  have head:i<=j->(F i).getD t .undef=(F 0).getD t .undef:=λhle=>by
   have:=T.gK (d:=t) (i:=0) i (by omega) λj' s' _ h2 h3 h4=>by have:=st.uniq j' j s' r t h3 hj h4 hd;omega
   simpa using this
  by_cases hji:j=i
  .subst hji;rw[D.w2 j r t hj hd Cn,head (Nat.le_refl _)]
  .rcases st.rd i j s r t (Ne.symm hji) hs hj hd ht with⟨h1,h2,h3⟩|⟨h1,h2⟩
   .have hSj:SS bD j:=mi st D.cl (i+1) i j (by omega) o ho zo h2;rw[D.w1 j r t hj hd hSj λhp=>?_]
    .have:=T.gK (d:=t) (i:=i) (ss.length-i) (by omega) λj' s' g1 _ g3 g4=>by
      have:=st.uniq j' j s' r t g3 hj g4 hd;omega
     rw[show i+(ss.length-i)=ss.length by omega] at this;exact this
    .rcases Nat.lt_or_ge j k with h|h
     .exact h
     .exfalso;obtain⟨q,hq,SI,WO⟩:=kx (by omega);by_cases e:k=j
      .exact WO (e▸hSj)
      .have:=h3 hp k q hq (by omega) SI;exact WO (mi st D.cl (i+1) i k (by omega) o ho zo this)
   .have hjo:∃o',ops[j]? =some o':=⟨_,Array.getElem?_eq_getElem (by rw[<-st.len];exact G3)⟩
    obtain⟨o',G5⟩:=hjo;have hnj:¬SS bD j:=λh=>Cn (mi st D.cl (j+1) j i (by omega) o' G5 (D.cl j o' G5 h) h2)
    rw[D.w2 j r t hj hd hnj,head (by omega)]
 .have jm:∀(j:Nat) (r:aW),ss[j]? =some r->r.dst≠some t:=λj r hj hd=>hw ⟨j,r,hj,hd⟩
  rw[D.w3 t jm];have:=T.gK (d:=t) (i:=0) i (by omega) λj' s' _ _ h3=>jm j' s' h3
  simpa using this.symm
theorem zA{id:Nat}{x:Nat}:∀(m:Nat),(∀j,x<=j->j<x+m->(H (j+1)).get id=(H j).get id)->(H (x+m)).get id=(H x).get id
 |0,_=>rfl
 |m+1,h=>by rw[show x+(m+1)=(x+m)+1 by omega,h (x+m) (by omega) (by omega)];exact zA m λj h1 h2=>h j h1 (by omega)
theorem DI.load(T:Tr C ss b F H)(st:za P ops ss b)(D:DI ops ss F H φ0 w0 d0 bD φ pe cu k a w)(kx:KX ss bD k){i:Nat}{o:Oper}{s:aW}(ho:ops[i]? =some o)(hs:ss[i]? =some s)
 (zo:∀e∈o.after,Region.binds .any e=true->SS bD e.on) (Cn:¬SS bD i) {n:Option Nat} {x:dU} {id off:Nat} (fg:s.op=.op (.ld n x)) (hx:x.ev (F i)=.ptr id off):(H k).get id=(H i).get id:=by
 have EW:i<ss.length:=(List.getElem?_eq_some_iff.1 hs).1;have hld:s.Kq=true:=by unfold aW.Kq;rw[fg]
 have fy:s.tN=false:=by unfold aW.tN;rw[fg]
 have one:∀j,j<ss.length->(∀r,ss[j]? =some r->r.tN=true->bt b i j=false/\bt b j i=false)->(H (j+1)).get id=(H j).get id:=λj hj hh=>by
  have hr:=List.getElem?_eq_getElem hj
  cases he:ss[j].tN with
  |false=>exact (T.CK hr he).get id
  |true=>obtain⟨g1,g2⟩:=hh _ hr he;exact T.ld i j s _ n x id off hs hr fg hx he g1 g2
 rcases Nat.le_total k i with hki|hki
 .have:=zA (H:=H) (id:=id) (x:=k) (i-k) λj h1 h2=>one j (by omega) λr hr he=>⟨?_,?_⟩
  .rw[show k+(i-k)=i by omega] at this;exact this.symm
  .cases hb:bt b i j with
   |false=>rfl
   |true=>have:=UG st (j+1) j i (by omega) ⟨_,Array.getElem?_eq_getElem (by rw[<-st.len];omega)⟩ hb;omega
  .cases hb:bt b j i with
   |false=>rfl
   |true=>
     exfalso;have hSj:=mi st D.cl (i+1) i j (by omega) o ho zo hb;have hp:=D.hi j r h1 hr he hSj;obtain⟨q,hq,SI,WO⟩:=kx (by omega);by_cases e:k=j
     .exact WO (e▸hSj)
     .have:=st.ldo i j s r hs hr hld hp (by omega) hb k q hq (by omega) SI;exact WO (mi st D.cl (i+1) i k (by omega) o ho zo this)
 .have hkn:=D.kn;have:=zA (H:=H) (id:=id) (x:=i) (k-i) λj h1 h2=>one j (by omega) λr hr he=>⟨?_,?_⟩
  .rw[show i+(k-i)=k by omega] at this;exact this
  .cases hb:bt b i j with
   |false=>rfl
   |true=>
     exfalso;have hSj:=D.lo j r (by omega) hr he;have hjo:j<ops.size:=by rw[<-st.len];omega
     have hoj:ops[j]? =some ops[j]:=Array.getElem?_eq_getElem hjo;exact Cn (mi st D.cl (j+1) j i (by omega) _ hoj (D.cl j _ hoj hSj) hb)
  .cases hb:bt b j i with
   |false=>rfl
   |true=>have:=UG st (i+1) i j (by omega) ⟨o,ho⟩ hb;omega
theorem tU{d:Option Nat}{t:Nat}(h:d≠some t)(cv:Value):(a.put d cv).tmps.getD t undef=a.tmps.getD t undef:=by
 cases d with
 |none=>rfl
 |some d=>
   have fy:d≠t:=λe=>h (by rw[e])
   simp[Act.put,Array.getElem?_setIfInBounds_ne fy]
theorem put_defers(d:Option Nat)(cv:Value):(a.put d cv).defers=a.defers:=by cases d<;>rfl
theorem DI.step(T:Tr C ss b F H)(st:za P ops ss b)(D:DI ops ss F H φ0 w0 d0 bD φ pe cu k a w){i k':Nat}{o:Oper}{s:aW}(ho:ops[i]? =some o)(hs:ss[i]? =some s)(hd:s.dst=o.dst)
 (zo:∀e∈o.after,Region.binds .any e=true->SS bD e.on) (Cn:¬SS bD i) (hk:(k'=k/\s.tN=false)\/(k'=k+1/\i=k)) {v:AV} (hF:F (i+1)=gP (F i) s.dst v) {φ':eL} {cv:Value} {w':World}
 (hf:FR φ' (H k') w' (gP cu s.dst v) (a.put o.dst cv).tmps) (hr:HR φ' (H k') w') (hx:Ext φ (H k) w φ' (H k') w'):
 DI ops ss F H φ0 w0 d0 (bD.setIfInBounds i true) φ' pe (gP cu s.dst v) k' (a.put o.dst cv) w':=by
 have EW:i<ss.length:=(List.getElem?_eq_some_iff.1 hs).1;have kU:i<bD.size:=by rw[D.sz];exact EW
 have S':=z6 kU;have hkn:=D.kn
 have hpi:∀j r,k'<=j->ss[j]? =some r->r.tN=true->j≠i:=λj r h1 h2 h3 e=>by
  rcases hk with⟨_,h⟩|⟨h,h'⟩
  .rw[e,hs] at h2;rw[<-Option.some.inj h2,h] at h3;cases h3
  .omega
 have pC:k<=k':=by rcases hk with⟨h,_⟩|⟨h,_⟩<;>omega
 refine⟨by simp[D.sz],λj o' h1 h2 e h3 h4=>(S' _).2 (.inr ?_),?_,λj r h1 h2 h3=>(S' j).2 ?_,λj r h1 h2 h3 h4=>?_,hr,hf,D.ex.trans hx.DE,by rw[pU];exact D.Y2,λj r d h1 h2 h3 h4=>?_,λj r d h1 h2 h3=>?_,λd h1=>?_,
  λj r h1 h2 h3 h4=>?_,λi1 j1 s1 r1 g1 g2 g3 g4 g5 g6 g7 g8 g9=>?_,λy hy=>?_,λy hy=>?_,by rw[put_defers];exact D.df⟩
 .rcases (S' j).1 h2 with rfl|h2
  .rw[ho] at h1;cases h1;exact zo e h3 h4
  .exact D.cl j o' h1 h2 e h3 h4
 .rcases hk with⟨h,_⟩|⟨h,h'⟩<;>omega
 .rcases Nat.lt_or_ge j k with h|h
  .exact .inr (D.lo j r h h2 h3)
  .rcases hk with⟨h',_⟩|⟨h',h''⟩
   .omega
   .exact .inl (by omega)
 .rcases (S' j).1 h4 with e|h4
  .exact absurd e (hpi j r h1 h2 h3)
  .exact D.hi j r (by omega) h2 h3 h4
 .by_cases e:j=i
  .subst e;rw[hs] at h1;cases h1
   have e1:(F ss.length).getD d .undef=(F (j+1)).getD d .undef:=by
    have:=T.gK (d:=d) (i:=j+1) (ss.length-(j+1)) (by omega) λj' r' g1 g2 g3 g4=>by have:=st.uniq j j' s r' d hs g3 h2 g4;omega
    rw[show j+1+(ss.length-(j+1))=ss.length by omega] at this;exact this
   rw[e1,hF,h2];exact Gu (by rw[D.Y2,T.len j (by omega)])
  .have h3':SS bD j:=((S' j).1 h3).resolve_left e;rw[iM (λe'=>e (st.uniq j i r s d h1 hs h2 e'))];refine D.w1 j r d h1 h2 h3' λhp=>?_
   have:=h4 hp;rcases hk with⟨h,_⟩|⟨h,h'⟩<;>omega
 .have e:j≠i:=λe=>h3 ((S' j).2 (.inl e))
  rw[iM (λe'=>e (st.uniq j i r s d h1 hs h2 e'))];exact D.w2 j r d h1 h2 λh=>h3 ((S' j).2 (.inr h))
 .rw[iM (h1 i s hs)];exact D.w3 d h1
 .have e:=hpi j r h1 h2 (yf h3);have h4':SS bD j:=((S' j).1 h4).resolve_left e;obtain⟨cs,vf,p1,p2,p3,p4,p5,p6⟩:=D.mU j r (by omega) h2 h3 h4';refine⟨cs,vf,p1,p2,p3.DE hx.DE (hx.gh.2 _ p4),by rw[hx.gh.1];exact p4,p5,λd g1 g2=>?_⟩;rw[tU λe'=>e (st.uniq j i r s d h2 hs g1 (hd.trans e'))];exact p6 d g1 g2
 .exact D.inj i1 j1 s1 r1 (by omega) (by omega) g3 g4 g5 g6 (((S' i1).1 g7).resolve_left (hpi i1 s1 g1 g3 (yf g5))) (((S' j1).1 g8).resolve_left (hpi j1 r1 g2 g4 (yf g6))) g9
 .rw[hx.gh.1] at hy;rcases D.gh y hy with h|⟨i1,s1,h1,h2,h3,h4,h5⟩
  .exact .inl h
  .refine .inr ⟨i1,s1,?_,h2,h3,(S' i1).2 (.inr h4),h5⟩;rcases hk with⟨h,_⟩|⟨h,h'⟩
   .omega
   .have:i1≠k:=λe=>Cn (by rw[h',<-e];exact h4)
    omega
 .obtain⟨g1,g2⟩:=D.XP y hy;exact⟨by rw[hx.gh.1];exact g1,(hx.gh.2 y g1).trans g2⟩
theorem DI.early(T:Tr C ss b F H)(st:za P ops ss b)(D:DI ops ss F H φ0 w0 d0 bD φ pe cu k a w){i:Nat}{o:Oper}{s:aW}(ho:ops[i]? =some o)(hs:ss[i]? =some s)(hd:s.dst=o.dst)
 (zo:∀e∈o.after,Region.binds .any e=true->SS bD e.on) (Cn:¬SS bD i) (hk:k<i) (hp:s.mU=true) {cs:List AV} {vf:Nat->AV} (hH:((H i).alloc (.row cs)).alike (H (i+1))) (hF:F (i+1)=gP (F i) s.dst (vf (H i).next))
 (hvf:(vf=λid=>.ptr id 0)\/∃n sz,vf=λid=>.vec id 0 n sz n) (wi:AV.aw cs<=(H k).next) {φ1:eL} {cv:Value} {w':World}
 (hf:FR φ1 ((H k).alloc (.row cs)) w' (gP cu s.dst (vf (H k).next)) (a.put o.dst cv).tmps) (hr:HR φ1 ((H k).alloc (.row cs)) w') (hx:Ext φ (H k) w φ1 ((H k).alloc (.row cs)) w'):
 DI ops ss F H φ0 w0 d0 (bD.setIfInBounds i true) ⟨φ.at_,λb=>φ.gh b\/b=(φ1 (H k).next).ib⟩ (λj=>if j=i then φ1 (H k).next else pe j) (gP cu s.dst .undef) k (a.put o.dst cv) w':=by
 have EW:i<ss.length:=(List.getElem?_eq_some_iff.1 hs).1;have kU:i<bD.size:=by rw[D.sz];exact EW
 have S':=z6 kU;obtain⟨g1,g2,g3,g4⟩:=Qw D.hr hr hx wi;have Z6:∀j,j≠i->(if j=i then φ1 (H k).next else pe j)=pe j:=λj hj=>if_neg hj
 refine⟨by simp[D.sz],λj o' h1 h2 e h3 h4=>(S' _).2 (.inr ?_),D.kn,λj r h1 h2 h3=>(S' j).2 (.inr (D.lo j r h1 h2 h3)),λj r h1 h2 h3 h4=>?_,g1,?_,D.ex.trans g2,by rw[pU];exact D.Y2,λj r d h1 h2 h3 h4=>?_,λj r d h1 h2 h3=>?_,λd h1=>?_,
  λj r h1 h2 h3 h4=>?_,λi1 j1 s1 r1 q1 q2 q3 q4 q5 q6 q7 q8 q9=>?_,λy hy=>?_,λy hy=>?_,by rw[put_defers];exact D.df⟩
 .rcases (S' j).1 h2 with rfl|h2
  .rw[ho] at h1;cases h1;exact zo e h3 h4
  .exact D.cl j o' h1 h2 e h3 h4
 .rcases (S' j).1 h4 with e|h4
  .subst e;rw[hs] at h2;cases h2;exact hp
  .exact D.hi j r h1 h2 h3 h4
 .rw[hd];exact (CZ (D.fr.DE g2) (RV.undef cv) o.dst).1
 .by_cases e:j=i
  .subst e;rw[hs] at h1;cases h1;have:=h4 hp;omega
  .have h3':SS bD j:=((S' j).1 h3).resolve_left e;rw[iM (λe'=>e (st.uniq j i r s d h1 hs h2 e'))];exact D.w1 j r d h1 h2 h3' h4
 .have e:j≠i:=λe=>h3 ((S' j).2 (.inl e))
  rw[iM (λe'=>e (st.uniq j i r s d h1 hs h2 e'))];exact D.w2 j r d h1 h2 λh=>h3 ((S' j).2 (.inr h))
 .rw[iM (h1 i s hs)];exact D.w3 d h1
 .by_cases e:j=i
  .subst e;rw[hs] at h2;cases h2;refine⟨cs,vf,hH,hF,?_,?_,?_,λd q1 q2=>?_⟩
   .simp only[if_true];exact g3
   .simp only[if_true];exact .inr trivial
   .simp only[if_true];exact λh=>g4 (D.XP _ h).1
   .simp only[if_true];have:=hf.2 d
    have e1:(gP cu s.dst (vf (H k).next)).getD d .undef=vf (H k).next:=by
     rw[q1];have LZ:d<cu.length:=by rw[D.Y2];exact q2
     simp[gP,LZ]
    rw[e1] at this;exact VAt.of hvf this
  .have h4':SS bD j:=((S' j).1 h4).resolve_left e;obtain⟨jt,vf',p1,p2,p3,p4,p5,p6⟩:=D.mU j r h1 h2 h3 h4';refine⟨jt,vf',p1,p2,?_,?_,?_,λd q1 q2=>?_⟩
   .dsimp only;rw[Z6 j e];exact p3.DE g2 (hx.gh.2 _ p4)
   .dsimp only;rw[Z6 j e];exact .inl p4
   .dsimp only;rw[Z6 j e];exact p5
   .dsimp only;rw[Z6 j e,tU λe'=>e (st.uniq j i r s d h2 hs q1 (hd.trans e'))];exact p6 d q1 q2
 .by_cases e1:i1=i
  .by_cases e2:j1=i
   .omega
   .exfalso;rw[if_pos e1,Z6 j1 e2] at q9;obtain⟨_,_,_,_,_,p4,_⟩:=D.mU j1 r1 q2 q4 q6 (((S' j1).1 q8).resolve_left e2);exact g4 (q9▸p4)
  .by_cases e2:j1=i
   .exfalso;rw[if_pos e2,Z6 i1 e1] at q9;obtain⟨_,_,_,_,_,p4,_⟩:=D.mU i1 s1 q1 q3 q5 (((S' i1).1 q7).resolve_left e1);exact g4 (q9▸p4)
   .rw[Z6 i1 e1,Z6 j1 e2] at q9;exact D.inj i1 j1 s1 r1 q1 q2 q3 q4 q5 q6 (((S' i1).1 q7).resolve_left e1) (((S' j1).1 q8).resolve_left e2) q9
 .rcases hy with hy|rfl
  .rcases D.gh y hy with h|⟨i1,s1,h1,h2,h3,h4,h5⟩
   .exact .inl h
   .refine .inr ⟨i1,s1,h1,h2,h3,(S' i1).2 (.inr h4),?_⟩;rw[Z6 i1 λe=>Cn (e▸h4)];exact h5
  .exact .inr ⟨i,s,by omega,hs,hp,(S' i).2 (.inl rfl),by simp⟩
 .obtain⟨p1,p2⟩:=D.XP y hy;exact⟨.inl p1,(hx.gh.2 y p1).trans p2⟩
theorem Ur{o:Oper}{s:aW}(hc:lH P ops o=some s):s.dst=o.dst:=by
 unfold lH at hc;split at hc
 .cases hc
 .split at hc
  .cases hc;rfl
  .obtain⟨t,_,rfl⟩:=Option.map_eq_some_iff.1 hc;rfl
theorem jM.Tx{Q:Program}{bD:Array Bool}{φ:eL}{pe:Nat->PE}{cu:List AV}{k:Nat}{a:Act}{w:World}(g:jM Q X φ0 (H 0) w0)(D:DI ops ss F H φ0 w0 d0 bD φ pe cu k a w):jM Q X φ (H k) w:=by
 obtain⟨w1,h1,h2⟩:=g;refine⟨w1,h1,λb hb=>?_⟩;obtain⟨g1,g2,g3⟩:=h2 b hb;refine⟨Nat.lt_of_lt_of_le g1 D.ex.size,?_⟩;rcases g2 with g2|g2
 .exact⟨.inl (D.XP b g2).1,(D.XP b g2).2.trans g3⟩
 .exact⟨.inr (D.ex.pr b g2).1,(D.ex.pr b g2).2.trans g3⟩
end
end
section
variable {X:World->Prop}
def CW(h h':ai):Prop:=h.wf->CL h h'/\h'.wf
theorem CW.refl(h:ai):CW h h:=λw=>⟨.refl _,w⟩
theorem CW.trans{h h1 h2:ai}(a:CW h h1)(b:CW h1 h2):CW h h2:=λw=>by obtain⟨c1,w1⟩:=a w;obtain⟨c2,w2⟩:=b w1;exact⟨c1.trans c2,w2⟩
theorem ago{fr:List AV}{h h':ai}{Co:xJ}{v:AV}(he:cf fr h Co=some (v,h'))(hw:h.wf):h'.wf:=by
 cases Co<;>simp only[cf] at he
 all_goals
  repeat' split at he
  all_goals first
   |(cases he;done)
   |(cases he;exact hw)
   |(cases he;exact ai.po _ hw)
   |(cases he;exact ai.BY _ _ (ai.wf_set _ _ hw))
   |(cases he;exact ai.po _ (ai.wf_set _ _ hw))
   |(obtain⟨_,_,e⟩:=Option.map_eq_some_iff.1 he;cases e;exact hw)
   |(obtain⟨_,_,e⟩:=Option.map_eq_some_iff.1 he;cases e;exact ai.po _ hw)
   |(obtain⟨_,_,e⟩:=Option.map_eq_some_iff.1 he;cases e;exact ai.BY _ _ (ai.BY _ _ (ai.wf_set _ _ hw)))
   |(obtain⟨p,_,e⟩:=Option.map_eq_some_iff.1 he;(repeat' split at e)<;>cases e<;>exact hw)
theorem agN{fr:List AV}{h h':ai}{Co:xJ}{v:AV}(he:cf fr h Co=some (v,h')):CW h h':=λw=>⟨afW he,ago he w⟩
def pw(C:Nat->List AV->ai->Option (AV×ai)):Prop:=∀f args h v h',C f args h=some (v,h')->CW h h'
section
variable {P:Program}{C:Nat->List AV->ai->Option (AV×ai)}{ops:Array Oper}{ss:List aW}{b:List Nat}
theorem Cj(hC:pw C){s:aW}{fr eD:List AV}{h h':ai}(he:dd C s fr h=some (eD,h')):CW h h':=by
 unfold dd at he;split at he
 .cases he
 .cases he;exact .refl _
 .split at he
  .obtain⟨⟨v,h1⟩,h2,e⟩:=Option.map_eq_some_iff.1 he;cases e;exact hC _ _ _ _ _ h2
  .split at he
   .obtain⟨⟨v,h1⟩,h2,e⟩:=Option.map_eq_some_iff.1 he;cases e;exact hC _ _ _ _ _ h2
   .cases he
  .obtain⟨⟨v,h1⟩,h2,e⟩:=Option.map_eq_some_iff.1 he;cases e;exact agN h2
theorem KB(hC:pw C):∀{ss:List aW} {fr eD:List AV} {h h':ai},dz C ss fr h=some (eD,h')->CW h h'
 |[],fr,eD,h,h',he=>by simp only[dz,Option.some.injEq,Prod.mk.injEq] at he;obtain⟨rfl,rfl⟩:=he;exact .refl _
 |s::ss,fr,eD,h,h',he=>by
   simp only[dz] at he;split at he
   .rename_i xC h1 h2;exact (Cj hC h2).trans (KB hC he)
   .cases he
theorem CL.XD{h h':ai}(c:CL {h with md:=h.next} h'):CL h {h' with md:=min h.md h'.md}:=⟨c.next,c.wl,λn h1 h2 h3=>c.le n h1 h2 h3,Nat.min_le_left _ _,λid h1 h2=>c.same id (by dsimp only at h1;omega) h2⟩
theorem CW.XD{h h':ai}(c:CW {h with md:=h.next} h'):CW h {h' with md:=min h.md h'.md}:=λw=>by obtain⟨c1,w1⟩:=c w;exact⟨c1.XD,w1⟩
theorem aap(hC:pw C):∀{ss:List aW} {fr eD:List AV} {h h':ai} {tr:List (Nat×ai×ai)},tL C ss fr h=some (eD,h',tr)->CW h h'
 |[],fr,eD,h,h',tr,he=>by simp only[tL,Option.some.injEq,Prod.mk.injEq] at he;obtain⟨rfl,rfl,_⟩:=he;exact .refl _
 |s::ss,fr,eD,h,h',tr,he=>by
   simp only[tL] at he;split at he
   .rename_i xC h1 h2;obtain⟨⟨fr2,h3,tr2⟩,h4,e⟩:=Option.map_eq_some_iff.1 he;cases e;exact (CW.XD (Cj hC h2)).trans (aap hC h4)
   .cases he
theorem x9{α β:Type}{f:α->Option β}:∀{l:List α} {r:List β},eV f l=some r->r.length=l.length/\∀(i:Nat) (x:α),l[i]? =some x->∃y,r[i]? =some y/\f x=some y
 |[],r,h=>by simp only[eV,Option.some.injEq] at h;subst h;exact⟨rfl,λi x hx=>by simp at hx⟩
 |x::l,r,h=>by
   unfold eV at h;split at h
   .rename_i y s h1 h2;cases h;obtain⟨g1,g2⟩:=x9 h2;refine⟨by simp[g1],λi z hz=>?_⟩
    cases i with
    |zero=>simp only[List.getElem?_cons_zero,Option.some.injEq] at hz;subst hz;exact⟨y,by simp,h1⟩
    |succ i=>exact g2 i z (by simpa using hz)
   .cases h
theorem Zm(hs:eV (lH P ops) ops.toList=some ss)(hd:HF ops ss b=true):za P ops ss b:=by
 obtain⟨hl,hg⟩:=x9 hs;unfold HF at hd;rw[Bool.and_eq_true,List.all_eq_true,List.all_eq_true] at hd;obtain⟨he,hp⟩:=hd;have ahg:∀(i:Nat) (o:Oper),ops[i]? =some o->BU b (o,i)=true:=λi o ho=>he (o,i) (List.mk_mem_zipIdx_iff_getElem?.2 (by rw[Array.getElem?_toList];exact ho))
 have pair:∀(i j:Nat) (s r:aW),ss[i]? =some s->ss[j]? =some r->i≠j->Al b ss.zipIdx s i r j=true/\(i==j)=false:=λi j s r h1 h2 fy=>by have:=hp (s,i) (List.mk_mem_zipIdx_iff_getElem?.2 h1);rw[List.all_eq_true] at this;exact⟨this (r,j) (List.mk_mem_zipIdx_iff_getElem?.2 h2),by simpa using fy⟩
 have ahh:∀(i j:Nat),(ss.zipIdx.all λq=>!(decide (q.2<j)&&q.1.tN)||bt b q.2 i)=true->∀(e:Nat) (q:aW),ss[e]? =some q->e<j->q.tN=true->bt b e i=true:=λi j h e q hq cR SI=>by rw[List.all_eq_true] at h;have:=h (q,e) (List.mk_mem_zipIdx_iff_getElem?.2 hq);simpa[cR,SI] using this
 refine⟨by rw[hl];simp,λi o ho=>hg i o (by rw[Array.getElem?_toList];exact ho),λi o ho=>?_,λi o ho e hem hb=>?_,λi j s r d h1 h2 h3 h4=>?_,λi j s r cR h1 h2 h3 h4=>?_,λi j s r h1 h2 h3 h4 cR hb=>?_,λi j s r d fy h1 h2 h3 h4=>?_⟩
 .have:=ahg i o ho;unfold BU at this;rw[Bool.and_eq_true] at this;simpa using this.1
 .have:=ahg i o ho;unfold BU at this;rw[Bool.and_eq_true,List.all_eq_true] at this;have:=this.2 e (by simpa using hem);simpa[hb] using this
 .refine Classical.byContradiction λfy=>?_
  obtain⟨g,g'⟩:=pair i j s r h1 h2 fy;unfold Al at g;rw[h3,h4] at g;simp[g'] at g
 .obtain⟨g,g'⟩:=pair i j s r h1 h2 (by omega);unfold Al at g;rw[g',Bool.false_or,Bool.and_eq_true,Bool.and_eq_true,Bool.and_eq_true] at g;have:=g.1.1.2;simpa[cR,h3,h4] using this
 .obtain⟨g,g'⟩:=pair i j s r h1 h2 (by omega);unfold Al at g;rw[g',Bool.false_or,Bool.and_eq_true,Bool.and_eq_true,Bool.and_eq_true] at g;have:=g.2;rw[Bool.or_eq_true] at this;rcases this with h|h
  .simp[h3,h4,cR,hb] at h
  .exact ahh i j h
 .obtain⟨g,g'⟩:=pair i j s r h1 h2 fy;unfold Al at g;rw[g',Bool.false_or,Bool.and_eq_true,Bool.and_eq_true,Bool.and_eq_true,h3] at g;have:=g.1.2;dsimp only at this;rw[Bool.or_eq_true] at this;rcases this with h|h
  .rw[List.contains_iff_mem.2 h4] at h;cases h
  .split at h
   .rename_i cR;rw[Bool.and_eq_true,Bool.or_eq_true] at h;refine .inl ⟨cR,h.1,λhpd=>?_⟩;rcases h.2 with h|h
    .rw[hpd] at h;cases h
    .exact ahh i j h
   .exact .inr ⟨by omega,h⟩
theorem G1{i j:Nat}{s r:aW}(h1:ss[i]? =some s)(h2:ss[j]? =some r)(hl:s.Kq=true)(he:r.tN=true)(b1:bt b i j=false)(b2:bt b j i=false):(i,j)∈qU b ss.zipIdx:=by unfold qU;refine List.mem_flatMap.2 ⟨(s,i),List.mk_mem_zipIdx_iff_getElem?.2 h1,?_⟩;dsimp only;rw[if_pos hl];exact List.mem_filterMap.2 ⟨(r,j),List.mk_mem_zipIdx_iff_getElem?.2 h2,by simp[he,b1,b2]⟩
theorem GW:∀{ss:List aW} {fr eD:List AV} {h h':ai},dz C ss fr h=some (eD,h')->
 ∃(F:Nat->List AV) (H:Nat->ai),F 0=fr/\H 0=h/\F ss.length=eD/\H ss.length=h'/\∀(i:Nat) (s:aW),ss[i]? =some s->dd C s (F i) (H i)=some (F (i+1),H (i+1))
 |[],fr,eD,h,h',he=>by simp only[dz,Option.some.injEq,Prod.mk.injEq] at he;obtain⟨rfl,rfl⟩:=he;exact⟨λ_=>fr,λ_=>h,rfl,rfl,rfl,rfl,λi s hs=>by simp at hs⟩
 |s::ss,fr,eD,h,h',he=>by
   simp only[dz] at he;split at he
   .rename_i xC h1 h2;obtain⟨F,H,g1,g2,g3,g4,g5⟩:=GW he;refine⟨λi=>match i with|0=>fr|i+1=>F i,λi=>match i with|0=>h|i+1=>H i,rfl,rfl,g3,g4,λi r hr=>?_⟩
    cases i with
    |zero=>simp only[List.getElem?_cons_zero,Option.some.injEq] at hr;subst hr;dsimp only;rw[g1,g2];exact h2
    |succ i=>exact g5 i r (by simpa using hr)
   .cases he
theorem Td:∀{ss:List aW} {fr eD:List AV} {h h':ai} {tr:List (Nat×ai×ai)},tL C ss fr h=some (eD,h',tr)->
 ∃(F:Nat->List AV) (H:Nat->ai),F 0=fr/\H 0=h/\F ss.length=eD/\H ss.length=h'/\
   ∀(i:Nat) (s:aW),ss[i]? =some s->∃ho:ai,dd C s (F i) {H i with md:=(H i).next}=some (F (i+1),ho)/\H (i+1)={ho with md:=min (H i).md ho.md}/\∃hb:ai,hb.get=(H i).get/\tr[i]? =some (BJ s (F i),hb,ho)
 |[],fr,eD,h,h',tr,he=>by simp only[tL,Option.some.injEq,Prod.mk.injEq] at he;obtain⟨rfl,rfl,_⟩:=he;exact⟨λ_=>fr,λ_=>h,rfl,rfl,rfl,rfl,λi s hs=>by simp at hs⟩
 |s::ss,fr,eD,h,h',tr,he=>by
   simp only[tL] at he;split at he
   .rename_i xC h1 h2;obtain⟨⟨fr2,h3,tr2⟩,h4,e⟩:=Option.map_eq_some_iff.1 he;cases e;obtain⟨F,H,g1,g2,g3,g4,g5⟩:=Td h4;refine⟨λi=>match i with|0=>fr|i+1=>F i,λi=>match i with|0=>h|i+1=>H i,rfl,rfl,g3,g4,λi r hr=>?_⟩
    cases i with
    |zero=>simp only[List.getElem?_cons_zero,Option.some.injEq] at hr;subst hr;dsimp only;rw[g1,g2];exact⟨h1,h2,rfl,h,rfl,rfl⟩
    |succ i=>obtain⟨ho,q1,q2,hb,qb,q3⟩:=g5 i r (by simpa using hr);exact⟨ho,q1,q2,hb,qb,by simpa using q3⟩
   .cases he
theorem Tr.of_steps{F:Nat->List AV}{H:Nat->ai}(wm:∀(i:Nat) (s:aW),ss[i]? =some s->dd C s (F i) (H i)=some (F (i+1),H (i+1)))(hp:qU b ss.zipIdx=[]):Tr C ss b F H:=by refine⟨λi s hs=>⟨H i,H (i+1),wm i s hs,ai.alike_refl _,ai.alike_refl _⟩,λi j s r n x id off h1 h2 h3 h4 h5 h6 h7=>?_⟩;have:=G1 (b:=b) h1 h2 (by unfold aW.Kq;rw[h3]) h5 h6 h7;rw[hp] at this;cases this
mutual
theorem AV.Mm:∀(a b:AV),a.I5 b=true->a=b:=λa b h=>by
 cases a<;>cases b<;>simp only[AV.I5,Bool.and_eq_true,beq_iff_eq,decide_eq_true_eq,Bool.false_eq_true] at h
 case bool.bool=>exact congrArg _ h
 case int.int=>obtain⟨rfl,rfl⟩:=h;rfl
 case str.str=>exact congrArg _ h
 case ptr.ptr=>rw[Nat.eq_of_beq_eq_true h.1,Nat.eq_of_beq_eq_true h.2]
 case ip.ip=>exact congrArg _ (AV.rH _ _ h)
 case sl.sl=>exact congrArg _ (AV.rH _ _ h)
 case vec.vec=>obtain⟨⟨⟨⟨h1,h2⟩,h3⟩,h4⟩,h5⟩:=h;rw[Nat.eq_of_beq_eq_true h1,Nat.eq_of_beq_eq_true h2,Nat.eq_of_beq_eq_true h3,Nat.eq_of_beq_eq_true h4,Nat.eq_of_beq_eq_true h5]
 case map.map=>exact congrArg _ (Nat.eq_of_beq_eq_true h)
 case fn.fn=>obtain⟨h1,h⟩:=h;rw[Nat.eq_of_beq_eq_true h1,AV.rH _ _ h]
 case iface.iface=>obtain⟨h1,h⟩:=h;rw[Nat.eq_of_beq_eq_true h1,AV.Mm _ _ h]
 case agg.agg=>exact congrArg _ (AV.rH _ _ h)
 case tuple.tuple=>exact congrArg _ (AV.rH _ _ h)
 all_goals rfl
theorem AV.rH:∀(a b:List AV),AV.Ap a b=true->a=b:=λa b h=>by
 cases a with
 |nil=>cases b with
   |nil=>rfl
   |cons y s=>simp[AV.Ap] at h
 |cons x r=>cases b with
   |nil=>simp[AV.Ap] at h
   |cons y s=>simp only[AV.Ap,Bool.and_eq_true] at h;rw[AV.Mm x y h.1,AV.rH r s h.2]
end
theorem TV{a b:Option bp}(h:Ps a b=true):a=b:=by
 unfold Ps at h;split at h
 .rw[AV.rH _ _ h]
 .cases h
theorem Vk{r:aW}{fr eD:List AV}{h h':ai}{id:Nat}(he:r.tN=true)(h0:0<BJ r fr)(fy:¬id+1=BJ r fr)(tp:dd C r fr h=some (eD,h')):h'.get id=h.get id:=by
 obtain⟨dst,op,guard⟩:=r;unfold BJ at h0 fy;unfold aW.tN at he
 cases op with
 |call f args=>simp at h0
 |ml x args=>simp at h0
 |op o=>
   cases o with
   |ld n x=>simp at he
   |st n x v=>
     dsimp only at h0 fy;unfold dd at tp;dsimp only at tp;split at tp
     .cases tp
     .cases tp;rfl
     .obtain⟨⟨v1,h1⟩,h2,e⟩:=Option.map_eq_some_iff.1 tp;cases e;simp only[cf] at h2;split at h2
      .rename_i tid off vs hx hv;rw[hx] at h0 fy;split at h2
       .rename_i cs tj;split at h2
        .cases h2;rw[ai.qX];exact ai.get_set_other (by dsimp only at fy;omega)
        .cases h2
       .cases h2
      .cases h2
   |_=>simp at h0
theorem Tr.ags(hC:pw C){F:Nat->List AV}{H:Nat->ai}{tr:List (Nat×ai×ai)}
 (wm:∀(i:Nat) (s:aW),ss[i]? =some s->∃ho:ai,dd C s (F i) {H i with md:=(H i).next}=some (F (i+1),ho)/\H (i+1)={ho with md:=min (H i).md ho.md}/\∃hb:ai,hb.get=(H i).get/\tr[i]? =some (BJ s (F i),hb,ho))
 (hw:(H 0).wf) (hp:K9 tr (qU b ss.zipIdx)=true):Tr C ss b F H:=by
 have wfs:∀j,j<=ss.length->(H j).wf:=λj=>by
  induction j with
  |zero=>exact λ_=>hw
  |succ j ih=>intro hj;obtain⟨ho,g1,g2,_⟩:=wm j _ (List.getElem?_eq_getElem (show j<ss.length by omega));have:=(CW.XD (Cj hC g1) (ih (by omega))).2;rw[g2];exact this
 refine⟨λi s hs=>?_,λi j s r n x id off h1 h2 h3 h4 h5 h6 h7=>?_⟩
 .obtain⟨ho,g1,g2,g3⟩:=wm i s hs;exact⟨_,ho,g1,⟨rfl,rfl⟩,by rw[g2];exact⟨rfl,rfl⟩⟩
 .have hm:=G1 (b:=b) h1 h2 (by unfold aW.Kq;rw[h3]) h5 h6 h7;unfold K9 at hp;rw[List.all_eq_true] at hp;have hp:=hp _ hm;obtain⟨ho,g1,g2,hb,gb,g3⟩:=wm i s h1;obtain⟨G5,g1',g2',BQ,gb',g3'⟩:=wm j r h2;dsimp only at hp;rw[g3,g3'] at hp;have e:BJ s (F i)=id+1:=by unfold BJ;rw[h3];dsimp only;rw[h4]
  rw[e] at hp;rw[g2'];rw[Bool.or_eq_true,Bool.or_eq_true] at hp;rcases hp with (hp|hp)|hp
  .have cR:id<G5.md:=by
    have:id+1<=G5.md:=by simpa using hp
    omega
   have c:=(Cj hC g1' (wfs j (by have:=(List.getElem?_eq_some_iff.1 h2).1;omega))).1;have iG:=c.md;exact c.same id cR (by dsimp only at iG|-;omega)
  .simp only[Bool.and_eq_true,decide_eq_true_eq,Bool.not_eq_true',beq_eq_false_iff_ne] at hp;have ho:=Vk h5 hp.1 hp.2 g1';exact ho
  .simp only[Bool.and_eq_true,Nat.add_sub_cancel] at hp;have ho:=TV hp.2;rw[gb'] at ho;exact ho.symm
end
end
section
section
variable {C:Nat->List AV->ai->Option (AV×ai)}
theorem rY(n0:Nat):∀(fr:List AV) (aB:List Nat),aB.Nodup->(∀id∈aB,n0<=id)->(az n0 fr aB).Nodup/\(∀id∈az n0 fr aB,n0<=id)/\(∀id∈aB,id∈az n0 fr aB)/\
 ∀v∈fr,∀id,v.top=some id->n0<=id->id∈az n0 fr aB
 |[],aB,h1,h2=>⟨h1,h2,λ_ h=>h,λv hv=>by cases hv⟩
 |v::r,aB,h1,h2=>by
   have skip:(∀id,v.top=some id->n0<=id->id∈aB)->az n0 (v::r) aB=az n0 r aB->(az n0 (v::r) aB).Nodup/\(∀id∈az n0 (v::r) aB,n0<=id)/\(∀id∈aB,id∈az n0 (v::r) aB)/\
    ∀u∈v::r,∀id,u.top=some id->n0<=id->id∈az n0 (v::r) aB:=λhv he=>by
    obtain⟨g1,g2,g3,g4⟩:=rY n0 r aB h1 h2;rw[he];refine⟨g1,g2,g3,λu hu id e hle=>?_⟩
    cases hu with
    |head=>exact g3 id (hv id e hle)
    |tail _ hu=>exact g4 u hu id e hle
   cases ht:v.top with
   |none=>exact skip (λid e=>by rw[ht] at e;cases e) (by simp only[az,ht])
   |some id=>
     by_cases hc:n0<=id/\aB.contains id=false
     .have hk:az n0 (v::r) aB=az n0 r (aB++[id]):=by simp only[az,ht];rw[if_pos hc]
      have hni:id∉aB:=λhm=>by have:=List.contains_iff_mem.2 hm;rw[hc.2] at this;cases this
      obtain⟨g1,g2,g3,g4⟩:=rY n0 r (aB++[id]) (by
       rw[List.nodup_append];refine⟨h1,by simp,λx hx y hy=>?_⟩;rw[List.mem_singleton] at hy;subst hy;exact λe=>hni (e▸hx)) (λx hx=>by
       rcases List.mem_append.1 hx with hx|hx
       .exact h2 x hx
       .rw[List.mem_singleton] at hx;rw[hx];exact hc.1)
      rw[hk];refine⟨g1,g2,λx hx=>g3 x (List.mem_append_left _ hx),λu hu x e hle=>?_⟩
      cases hu with
      |head=>
        have e':id=x:=by rw[ht] at e;exact Option.some.inj e
        exact g3 x (by rw[e'];simp)
      |tail _ hu=>exact g4 u hu x e hle
     .refine skip (λx e hle=>?_) (by simp only[az,ht];rw[if_neg hc]);have e':id=x:=by rw[ht] at e;exact Option.some.inj e
      subst e';by_cases hm:aB.contains id=false
      .exact absurd ⟨hle,hm⟩ hc
      .exact List.contains_iff_mem.1 (by simpa using hm)
theorem tT{h:ai}{n0:Nat}:∀{ks:List Nat} {os:List bp},ob h n0 ks=some os->os.length=ks.length/\∀(i:Nat) (id:Nat),ks[i]? =some id->∃o,os[i]? =some o/\h.get id=some o/\rP n0 o=true
 |[],os,he=>by simp only[ob,Option.some.injEq] at he;subst he;exact⟨rfl,λi id hi=>by simp at hi⟩
 |k::ks,os,he=>by
   simp only[ob] at he;split at he
   .rename_i o ng h1 h2;split at he
    .rename_i h3;cases he;obtain⟨g1,g2⟩:=tT h2;refine⟨by simp[g1],λi id hi=>?_⟩
     cases i with
     |zero=>simp only[List.getElem?_cons_zero,Option.some.injEq] at hi;subst hi;exact⟨o,by simp,h1,h3⟩
     |succ i=>exact g2 i id (by simpa using hi)
    .cases he
   .cases he
theorem DF{n0:Nat}{fr:List AV}{h:ai}(ER:h.wf):(JZ n0 fr h=(fr,h))\/∃os,ob h n0 (az n0 fr [])=some os/\n0<=h.wl/\n0<=h.next/\(∀v∈fr,v.top.isSome=true\/v.aK<=n0)/\
 (JZ n0 fr h).1=fr.map (ck n0 (az n0 fr []))/\(JZ n0 fr h).2.next=n0+os.length/\(JZ n0 fr h).2.wl=h.wl/\(JZ n0 fr h).2.md=h.md/\(JZ n0 fr h).2.wf/\
 (∀id,id<n0->(JZ n0 fr h).2.get id=h.get id)/\∀i,(JZ n0 fr h).2.get (n0+i)=os[i]?:=by
 unfold JZ;split
 .rename_i os Qf;split
  .rename_i hc;refine .inr ⟨os,Qf,hc.1,hc.2.1,λv hv=>?_,rfl,rfl,rfl,rfl,?_,λid cG=>?_,λi=>?_⟩
   .have:=List.all_eq_true.1 hc.2.2 v hv;simpa using this
   .unfold ai.wf at ER|-;simp only[List.length_append,List.length_reverse,List.length_drop,ER];omega
   .unfold ai.get;dsimp only;rw[if_pos (by omega),if_pos (by omega),List.getElem?_append_right (by simp;omega),List.getElem?_drop];congr 1;simp;omega
   .unfold ai.get;dsimp only;by_cases hi:i<os.length
    .rw[if_pos (by omega),List.getElem?_append_left (by simp;omega),List.getElem?_reverse (by omega)];congr 1;omega
    .rw[if_neg (by omega),List.getElem?_eq_none (by omega)]
  .exact .inl rfl
 .exact .inl rfl
theorem mD(n0:Nat):∀(a b:List AV) (aB:List Nat),az n0 (a++b) aB=az n0 b (az n0 a aB)
 |[],b,aB=>rfl
 |v::r,b,aB=>by
   rw[List.cons_append];simp only[az];split
   .split
    .exact mD n0 r b _
    .exact mD n0 r b _
   .exact mD n0 r b _
theorem yp{v:AV}:∀{os:List bp} {o:bp},o∈os->v∈jK o->v∈jN os
 |a::r,o,ho,hv=>by
   rw[jN,List.mem_append]
   cases ho with
   |head=>exact .inl hv
   |tail _ ho=>exact .inr (yp ho hv)
theorem H4{n0:Nat}{ks:List Nat}{v:AV}(h:v.aK<=n0):ck n0 ks v=v:=by cases v<;>simp only[ck]<;>simp only[AV.aK] at h<;>rw[p8,if_pos (by omega)]
theorem ED{n0:Nat}{ks:List Nat}{o:bp}(h:gV n0 o=true):qy n0 ks o=o:=by
 unfold gV at h;rw[List.all_eq_true] at h
 cases o with
 |row cs=>
   simp only[qy,bp.row.injEq];have:∀v∈cs,ck n0 ks v=v:=λv hv=>H4 (by simpa using h v hv)
   simpa using List.map_congr_left this
 |map es=>
   simp only[qy,bp.map.injEq]
   have:∀e∈es,(ck n0 ks e.1,ck n0 ks e.2)=e:=λe he=>by have h1:=h e.1 (by simp only[jK,List.mem_flatMap];exact⟨e,he,by simp⟩);have h2:=h e.2 (by simp only[jK,List.mem_flatMap];exact⟨e,he,by simp⟩);rw[H4 (by simpa using h1),H4 (by simpa using h2)]
   simpa using List.map_congr_left this
 |dead=>rfl
theorem DP{n0:Nat}{fr:List AV}{h:ai}(ER:h.wf):(I2 n0 fr h=(fr,h))\/∃ks os,ob h n0 ks=some os/\ks.Nodup/\(∀id∈ks,n0<=id)/\n0<=h.next/\(∀v∈fr,(v.top.isSome=true\/v.aK<=n0)/\∀id,v.top=some id->n0<=id->id∈ks)/\
 (∀id o,id<n0->h.get id=some o->∀v∈jK o,(v.top.isSome=true\/v.aK<=n0)/\∀id,v.top=some id->n0<=id->id∈ks)/\
 (I2 n0 fr h).1=fr.map (ck n0 ks)/\(I2 n0 fr h).2.next=n0+os.length/\(I2 n0 fr h).2.wl=h.wl/\(I2 n0 fr h).2.md=min h.md h.wl/\(I2 n0 fr h).2.wf/\
 (∀id,id<n0->(I2 n0 fr h).2.get id=(h.get id).map (qy n0 ks))/\(∀i,(I2 n0 fr h).2.get (n0+i)=os[i]?)/\
 ∀id o,id<n0->id<h.wl->h.get id=some o->gV n0 o=true:=by
 unfold I2;split
 .rename_i os Qf;split
  .rename_i hc;obtain⟨hc1,Oe,hc3,hc4⟩:=hc;rw[<-mD] at Qf|-;generalize hol:h.iF.drop (h.next-n0)=ol at *;have fZ:ol.length=n0:=by rw[<-hol,List.length_drop,ER];omega
   have tO:∀id,id<n0->h.get id=ol[n0-1-id]?:=λid cG=>by unfold ai.get;rw[if_pos (by omega),<-hol,List.getElem?_drop];congr 1;omega
   obtain⟨k1,k2,_,k4⟩:=rY n0 (fr++jN ol) [] List.nodup_nil (λid cG=>by cases cG);refine .inr ⟨_,os,Qf,k1,k2,hc1,λv hv=>⟨?_,λid=>k4 v (List.mem_append_left _ hv) id⟩,λid o cG hg v hv=>?_,rfl,rfl,rfl,rfl,?_,λid cG=>?_,λi=>?_,λid o cG hw hg=>?_⟩
   .have:=List.all_eq_true.1 Oe v hv;simpa[sD] using this
   .rw[tO id cG] at hg;have hm:=yp (List.mem_of_getElem? hg) hv;have:=List.all_eq_true.1 hc3 v hm;exact⟨by simpa[sD] using this,λWE=>k4 v (List.mem_append_right _ hm) WE⟩
   .unfold ai.wf;simp only[List.length_append,List.length_reverse,List.length_map,fZ];omega
   .rw[tO id cG];unfold ai.get;dsimp only;rw[if_pos (by omega),List.getElem?_append_right (by simp;omega),List.getElem?_map];congr 2;simp;omega
   .unfold ai.get;dsimp only;by_cases hi:i<os.length
    .rw[if_pos (by omega),List.getElem?_append_left (by simp;omega),List.getElem?_reverse (by omega)];congr 1;omega
    .rw[if_neg (by omega),List.getElem?_eq_none (by omega)]
   .rw[tO id cG] at hg;refine List.all_eq_true.1 hc4 o (List.mem_of_getElem? (i:=n0-1-id-(n0-h.wl)) ?_);rw[List.getElem?_drop,<-hg];congr 1;omega
  .exact .inl rfl
 .exact .inl rfl
theorem acG{he h:ai}{fr:List AV}(ER:h.wf)(c:CL he h):CL he (JZ he.next fr h).2:=by
 rcases DF (n0:=he.next) (fr:=fr) ER with e|⟨os,h1,h2,h3,h4,h5,h6,h7,h8,h9,gG,iH⟩
 .rw[e];exact c
 .refine⟨by rw[h6];omega,by rw[h7];exact c.wl,λn q1 q2 q3 id cG=>?_,by rw[h8];exact c.md,λid q1 q2=>?_⟩
  .have:=c.le n q1 (by rw[<-h7];exact q2) q3 id cG;unfold pK at this|-;rw[gG id (by omega)];exact this
  .rw[gG id q2];exact c.same id (by rw[<-h8];exact q1) q2
theorem adM{he h:ai}{fr:List AV}(ER:h.wf)(c:CL he h):CL he (I2 he.next fr h).2:=by
 rcases DP (n0:=he.next) (fr:=fr) ER with e|⟨ks,os,h1,_,_,h3,_,_,h5,h6,h7,h8,h9,gG,iH,h12⟩
 .rw[e];exact c
 .have ahj:∀id,id<he.next->id<h.wl->(I2 he.next fr h).2.get id=h.get id:=λid q1 q2=>by
   rw[gG id q1]
   cases hg:h.get id with
   |none=>rfl
   |some o=>rw[Option.map_some,ED (h12 id o q1 q2 hg)]
  refine⟨by rw[h6];omega,by rw[h7];exact c.wl,λn q1 q2 q3 id cG=>?_,by rw[h8];have:=c.md;omega,λid q1 q2=>?_⟩
  .rw[h7] at q2;have:=c.le n q1 q2 q3 id cG;unfold pK at this|-;rw[ahj id (by omega) (by omega)];exact this
  .rw[h8] at q1;rw[ahj id q2 (by omega)];exact c.same id (by omega) q2
theorem afg{he h:ai}{fr:List AV}(ER:h.wf)(c:CL he h):CL he (gc he.next fr h).2:=by
 unfold gc;split
 .exact acG ER c
 .exact adM ER c
theorem afC{n0:Nat}{h:ai}{fr:List AV}(ER:h.wf):(gc n0 fr h).2.wf:=by
 unfold gc;split
 .rcases DF (n0:=n0) (fr:=fr) ER with e|⟨os,_,_,_,_,_,_,_,_,h9,_⟩
  .rw[e];exact ER
  .exact h9
 .rcases DP (n0:=n0) (fr:=fr) ER with e|⟨ks,os,h1,_,_,h3,_,_,h5,h6,h7,h8,h9,_⟩
  .rw[e];exact ER
  .exact h9
theorem VU{he h:ai}{fr:List AV}(c:CW he h):CW he (gc he.next fr h).2:=λw=>by obtain⟨c1,w1⟩:=c w;exact⟨afg w1 c1,afC w1⟩
theorem Ip{B:List AV->ai->Option (Ex×List AV×ai)}(hB:∀fr h ex eD h',B fr h=some (ex,eD,h')->CW h h'){live:List Bool}{he:ai}:∀{m:Nat} {fr eD:List AV} {h h':ai} {ex:Ex},wu B live he.next m fr h=some (ex,eD,h')->CW he h->CW he h'
 |0,fr,eD,h,h',ex,tp,_=>by simp[wu] at tp
 |m+1,fr,eD,h,h',ex,tp,c=>by
   simp only[wu] at tp;have c1:=VU (fr:=clear live fr) c;split at tp
   .rename_i xC h1 h2;exact Ip hB tp (c1.trans (hB _ _ _ _ _ h2))
   .exact c1.trans (hB _ _ _ _ _ tp)
theorem CW.ajd{h h':ai}(c:CW {h with wl:=h.next} h'):CW h {h' with wl:=min h.wl h'.wl}:=λw=>by obtain⟨c1,w1⟩:=c w;exact⟨⟨c1.next,Nat.min_le_left _ _,λn h1 h2 h3=>c1.le n h1 (by dsimp only at h2;omega) h3,c1.md,c1.same⟩,w1⟩
theorem yx(hC:pw C){n:Nat}:∀{ac:bW} {fr eD:List AV} {h h':ai} {ex:Ex},aH C n ac fr h=some (ex,eD,h')->CW h h':=by
 intro ac
 induction ac with
 |skip=>intro fr eD h h' ex he;simp only[aH,Option.some.injEq,Prod.mk.injEq] at he;obtain⟨_,_,rfl⟩:=he;exact .refl _
 |exit id _=>intro fr eD h h' ex he;simp only[aH,Option.some.injEq,Prod.mk.injEq] at he;obtain⟨_,_,rfl⟩:=he;exact .refl _
 |ret _=>intro fr eD h h' ex he;simp only[aH,Option.some.injEq,Prod.mk.injEq] at he;obtain⟨_,_,rfl⟩:=he;exact .refl _
 |gA ops=>intro fr eD h h' ex he;simp only[aH,Option.map_eq_some_iff] at he;obtain⟨⟨xC,h1⟩,he,e⟩:=he;cases e;exact KB hC he
 |oE ops Xq=>
   intro fr eD h h' ex he;simp only[aH] at he;split at he
   .rename_i xC h1 tr htr;split at he
    .cases he;exact aap hC htr
    .cases he
   .cases he
 |seq a b Z7 ihb=>
   intro fr eD h h' ex he;simp only[aH] at he;split at he
   .rename_i xC h1 h2;exact (Z7 h2).trans (ihb he)
   .exact Z7 he
 |cond c a b Z7 ihb=>
   intro fr eD h h' ex he;simp only[aH] at he;split at he
   .split at he
    .exact Z7 he
    .exact ihb he
   .cases he
 |block id a Z7=>
   intro fr eD h h' ex he;simp only[aH] at he;split at he
   .rename_i i xC h1 h2;cases he;exact Z7 h2
   .exact Z7 he
 |loop live a Z7=>intro fr eD h h' ex he;simp only[aH] at he;obtain⟨⟨ex1,xC,h1⟩,h2,e⟩:=Option.map_eq_some_iff.1 he;cases e;exact CW.ajd (VU (he:={h with wl:=h.next}) (fr:=xC) (Ip (he:={h with wl:=h.next}) (λfr h ex eD h' he=>Z7 he) h2 (.refl _)))
end
end
section
variable {X:World->Prop}
section
variable {P:Program}{C:Nat->List AV->ai->Option (AV×ai)}
def adV:Ex->Exit
 |.normal=>.normal
 |.exit id=>.exit id
 |.ret=>.ret
theorem DJ{φ:eL}{h:ai}{w:World}:∀{live:List Bool} {fr:List AV} {tm:Array Value},FR φ h w fr tm->FR φ h w (clear live fr) tm:=by
 have len:∀(live:List Bool) (fr:List AV),(clear live fr).length=fr.length:=by
  intro live
  induction live with
  |nil=>intro fr;cases fr<;>rfl
  |cons b r ih=>intro fr;cases fr with
    |nil=>rfl
    |cons v vs=>simp[clear,ih]
 have get:∀(live:List Bool) (fr:List AV) (t:Nat),(clear live fr).getD t .undef=fr.getD t .undef\/(clear live fr).getD t .undef=.undef:=by
  intro live
  induction live with
  |nil=>intro fr t;cases fr<;>exact .inl rfl
  |cons b r ih=>intro fr t;cases fr with
    |nil=>exact .inl rfl
    |cons v vs=>
      cases t with
      |zero=>cases b<;>simp[clear]
      |succ t=>simpa[clear] using ih vs t
 intro live fr tm hf;refine⟨by rw[len];exact hf.1,λt=>?_⟩;rcases get live fr t with e|e
 .rw[e];exact hf.2 t
 .rw[e];exact .undef _
def abf(P:Program)(X:World->Prop)(C:Nat->List AV->ai->Option (AV×ai))(n:Nat)(ac:bW)(c:Code):Prop:=
 ∀⦃φ:eL⦄ ⦃h h':ai⦄ ⦃w:World⦄ ⦃fr eD:List AV⦄ ⦃a:Act⦄ ⦃ex:Ex⦄,aH C n ac fr h=some (ex,eD,h')->FR φ h w fr a.tmps->HR φ h w->jM P X φ h w->∀⦃Q:Exit->Act->World->Prop⦄,
   (∀φ' a' w',FR φ' h' w' eD a'.tmps->HR φ' h' w'->Ext φ h w φ' h' w'->a'.defers=a.defers->Q (adV ex) a' w')->c.wp P Q a w
theorem ac3{φ φe:eL}{h he:ai}{w we:World}{fr:List AV}{tm:Array Value}(hr:HR φ h w)(hf:FR φ h w fr tm)(hx:Ext φe he we φ h w)(zo:HR φe he we)(c:CL he h):
 ∃φ',HR φ' (JZ he.next fr h).2 w/\FR φ' (JZ he.next fr h).2 w (JZ he.next fr h).1 tm/\Ext φe he we φ' (JZ he.next fr h).2 w:=by
 rcases DF (n0:=he.next) (fr:=fr) hr.wf with e|⟨os,h1,h2,h3,h4,h5,h6,h7,h8,h9,gG,iH⟩
 .rw[e];exact⟨φ,hr,hf,hx⟩
 .rw[h5];generalize SO:he.next=n0 at *
  generalize hks:az n0 fr []=ks at *;generalize hg:(JZ n0 fr h).2=g at *;obtain⟨k1,k2,_,k4⟩:=rY n0 fr [] List.nodup_nil (λid cG=>by cases cG);rw[hks] at k1 k2 k4;obtain⟨o1,o2⟩:=tT h1;have hle:=c.le n0 (by omega) h2 (λid cG=>by have:=zo.PO id (by omega);rw[SO] at this;exact this)
  let φ':eL:=⟨λid=>if id<n0 then φ id else φ (ks.getD (id-n0) 0),φ.gh⟩
  have EX:∀id,id<n0->φ' id=φ id:=λid cG=>if_pos cG
  have new:∀(i:Nat) (id:Nat),ks[i]? =some id->φ' (n0+i)=φ id:=λi id hi=>by show (if n0+i<n0 then φ (n0+i) else φ (ks.getD (n0+i-n0) 0))=φ id;rw[if_neg (by omega),Nat.add_sub_cancel_left,List.getD_eq_getElem?_getD,hi];rfl
  have lv:∀id,live g id->∃nZ,live h nZ/\φ' id=φ nZ/\((id<n0/\nZ=id)\/(n0<=id/\ks[id-n0]? =some nZ)):=λid hl=>by
   obtain⟨o,ho,hd⟩:=hl;rcases Nat.lt_or_ge id n0 with cG|cG
   .rw[gG id cG] at ho;exact⟨id,⟨o,ho,hd⟩,EX id cG,.inl ⟨cG,rfl⟩⟩
   .have e:id=n0+(id-n0):=by omega
    rw[e,iH] at ho;have cR:=(List.getElem?_eq_some_iff.1 ho).1;have hk:=List.getElem?_eq_getElem (show id-n0<ks.length by omega);obtain⟨o',q1,q2,q3⟩:=o2 _ _ hk;rw[ho] at q1;cases q1;refine⟨_,⟨o,q2,hd⟩,?_,.inr ⟨cG,hk⟩⟩;have:=new (id-n0) _ hk;rw[<-e] at this;exact this
  have pr:∀b,Pr φ h w b->Pr φ' g w b:=λb hb=>⟨hb.1,λid hl=>by obtain⟨nZ,l0,e0,_⟩:=lv id hl;rw[e0];exact hb.2.1 nZ l0,hb.2.2⟩
  have mv:∀v cv,v.aK<=n0->fI φ h w v cv->fI φ' g w v cv:=λv cv hv LH=>LH.mono (λid q1 q2=>⟨EX id (by omega),by rw[h6];omega⟩) λb hb=>⟨pr b hb,rfl⟩
  have rowOf:∀id nZ cs,φ' id=φ nZ->h.get nZ=some (.row cs)->AV.aw cs<=n0->tS φ' g w id cs:=λid nZ cs e0 SP wi=>by obtain⟨cc,el,fz,r1,r2,r3,r4,r5,r6⟩:=hr.rows nZ cs SP;refine⟨cc,el,fz,by rw[e0];exact r1,by rw[e0];exact r2,by rw[e0];exact r3,r4,by rw[e0];exact r5,λj hj=>?_⟩;rw[e0];refine mv _ _ ?_ (r6 j hj);have:=AV.dk (List.getElem_mem hj);omega
  have mapOf:∀id nZ es,φ' id=φ nZ->h.get nZ=some (.map es)->(∀e∈es,e.1.aK<=n0/\e.2.aK<=n0)->yt φ' g w id es:=λid nZ es e0 SP wi=>by obtain⟨mX,AZ,r1,r2,r3⟩:=hr.maps nZ es SP;refine⟨mX,AZ,by rw[e0];exact r1,r2,λj hj=>?_⟩;have:=wi _ (List.getElem_mem hj);exact⟨mv _ _ this.1 (r3 j hj).1,mv _ _ this.2 (r3 j hj).2⟩
  have kept:∀id o,n0<=id->g.get id=some o->∃nZ,ks[id-n0]? =some nZ/\h.get nZ=some o/\rP n0 o=true/\φ' id=φ nZ:=λid o cG ho=>by
   have e:id=n0+(id-n0):=by omega
   have G5:=ho;rw[e,iH] at G5;have cR:=(List.getElem?_eq_some_iff.1 G5).1;have hk:=List.getElem?_eq_getElem (show id-n0<ks.length by omega);obtain⟨o',q1,q2,q3⟩:=o2 _ _ hk;rw[G5] at q1;cases q1;refine⟨_,hk,q2,q3,?_⟩;have:=new (id-n0) _ hk;rw[<-e] at this;exact this
  have Of:HR φ' g w:=by
   refine⟨h9,λid cs LI=>?_,λid es LI=>?_,λi j hi hj wj=>?_,λb hb=>⟨(hr.gh b hb).1,λid hl=>?_⟩⟩
   .rcases Nat.lt_or_ge id n0 with cG|cG
    .rw[gG id cG] at LI;exact rowOf id id cs (EX id cG) LI ((hle id cG).1 cs LI)
    .obtain⟨nZ,_,q2,q3,q4⟩:=kept id _ cG LI;exact rowOf id nZ cs q4 q2 (by simpa[rP] using q3)
   .rcases Nat.lt_or_ge id n0 with cG|cG
    .rw[gG id cG] at LI;exact mapOf id id es (EX id cG) LI ((hle id cG).2 es LI)
    .obtain⟨nZ,_,q2,q3,q4⟩:=kept id _ cG LI;refine mapOf id nZ es q4 q2 λe hem=>?_
     simp only[rP,List.all_eq_true] at q3;simpa using q3 e hem
   .obtain⟨i0,li,ei,ci⟩:=lv i hi;obtain⟨j0,lj,ej,cj⟩:=lv j hj;rw[ei,ej] at wj;have aea:=hr.inj i0 j0 li lj wj;rcases ci with⟨ci1,Z8⟩|⟨ci1,Z8⟩<;>rcases cj with⟨cj1,cj2⟩|⟨cj1,cj2⟩
    .omega
    .have:=k2 j0 (List.mem_of_getElem? cj2);omega
    .have:=k2 i0 (List.mem_of_getElem? Z8);omega
    .rw[aea] at Z8;obtain⟨x1,y1⟩:=List.getElem?_eq_some_iff.1 Z8;obtain⟨x2,y2⟩:=List.getElem?_eq_some_iff.1 cj2;have:=(List.getElem_inj (h₀:=x1) (h₁:=x2) k1).1 (y1.trans y2.symm);omega
   .obtain⟨nZ,l0,e0,_⟩:=lv id hl;rw[e0];exact (hr.gh b hb).2 nZ l0
  have idx:∀id,n0<=id->id∈ks->φ' (n0+ks.idxOf id)=φ id/\n0+ks.idxOf id<g.next:=λid cG hm=>by have cR:=List.idxOf_lt_length_of_mem hm;exact⟨new _ _ (by rw[List.getElem?_eq_getElem cR,List.getElem_idxOf]),by rw[h6];omega⟩
  have rid:∀v∈fr,∀id,v.top=some id->φ' (p8 n0 ks id)=φ id/\p8 n0 ks id<g.next:=λv hv id ht=>by
   unfold p8;split
   .rename_i cG;exact⟨EX id cG,by rw[h6];omega⟩
   .rename_i cG;exact idx id (by omega) (k4 v hv id ht (by omega))
  have val:∀v∈fr,∀cv,fI φ h w v cv->fI φ' g w (ck n0 ks v) cv:=λv hv cv LH=>by
   cases ht:v.top with
   |none=>
     have aec:v.aK<=n0:=by
      rcases h4 v hv with e|e
      .rw[ht] at e;cases e
      .exact e
     have e:ck n0 ks v=v:=by cases v<;>first|rfl|cases ht
     rw[e];exact mv v cv aec LH
   |some id=>
     obtain⟨q1,q2⟩:=rid v hv id ht;cases v<;>simp only[AV.top,Option.some.injEq,reduceCtorEq] at ht
     .subst ht;obtain⟨rfl,_⟩:=LH.vi;rw[<-q1];exact .ptr _ _ q2
     .subst ht;obtain⟨cap,ad,rfl,_,r2,r3,r4,r5⟩:=LH.lR;rw[<-q1] at r4 r5;exact .vec _ _ _ _ _ cap ad q2 r2 r3 r4 r5
     .subst ht;obtain⟨rfl,_⟩:=LH.Ci;rw[<-q1];exact .map _ q2
  refine⟨φ',Of,⟨by simp[hf.1],λt=>?_⟩,⟨hx.os,hx.tape,hx.output,hx.size,by rw[h6];omega,λid cG=>?_,λb hb=>⟨pr b (hx.pr b hb).1,(hx.pr b hb).2⟩,hx.gh⟩⟩
  .have:=hf.2 t;rw[List.getD_eq_getElem?_getD] at this|-;rw[List.getElem?_map]
   cases hv:fr[t]? with
   |none=>exact .undef _
   |some v=>rw[hv] at this;exact val v (List.mem_of_getElem? hv) _ this
  .rw[SO] at cG;exact (EX id cG).trans (hx.BK id (by omega))
theorem acE{φ φe:eL}{h he:ai}{w we:World}{fr:List AV}{tm:Array Value}(hr:HR φ h w)(hf:FR φ h w fr tm)(hx:Ext φe he we φ h w)(zo:HR φe he we):
 ∃φ',HR φ' (I2 he.next fr h).2 w/\FR φ' (I2 he.next fr h).2 w (I2 he.next fr h).1 tm/\Ext φe he we φ' (I2 he.next fr h).2 w:=by
 rcases DP (n0:=he.next) (fr:=fr) hr.wf with e|⟨ks,os,h1,k1,k2,h3,h4,h4o,h5,h6,h7,h8,h9,gG,iH,h12⟩
 .rw[e];exact⟨φ,hr,hf,hx⟩
 .rw[h5];generalize SO:he.next=n0 at *
  generalize hg:(I2 n0 fr h).2=g at *;obtain⟨o1,o2⟩:=tT h1
  let φ':eL:=⟨λid=>if id<n0 then φ id else φ (ks.getD (id-n0) 0),φ.gh⟩
  have EX:∀id,id<n0->φ' id=φ id:=λid cG=>if_pos cG
  have new:∀(i:Nat) (id:Nat),ks[i]? =some id->φ' (n0+i)=φ id:=λi id hi=>by show (if n0+i<n0 then φ (n0+i) else φ (ks.getD (n0+i-n0) 0))=φ id;rw[if_neg (by omega),Nat.add_sub_cancel_left,List.getD_eq_getElem?_getD,hi];rfl
  have lv:∀id,live g id->∃nZ,live h nZ/\φ' id=φ nZ/\((id<n0/\nZ=id)\/(n0<=id/\ks[id-n0]? =some nZ)):=λid hl=>by
   obtain⟨o,ho,hd⟩:=hl;rcases Nat.lt_or_ge id n0 with cG|cG
   .rw[gG id cG] at ho;obtain⟨o',G5,e⟩:=Option.map_eq_some_iff.1 ho;exact⟨id,⟨o',G5,λe'=>hd (by rw[<-e,e'];rfl)⟩,EX id cG,.inl ⟨cG,rfl⟩⟩
   .have e:id=n0+(id-n0):=by omega
    rw[e,iH] at ho;have cR:=(List.getElem?_eq_some_iff.1 ho).1;have hk:=List.getElem?_eq_getElem (show id-n0<ks.length by omega);obtain⟨o',q1,q2,q3⟩:=o2 _ _ hk;rw[ho] at q1;cases q1;refine⟨_,⟨o,q2,hd⟩,?_,.inr ⟨cG,hk⟩⟩;have:=new (id-n0) _ hk;rw[<-e] at this;exact this
  have pr:∀b,Pr φ h w b->Pr φ' g w b:=λb hb=>⟨hb.1,λid hl=>by obtain⟨nZ,l0,e0,_⟩:=lv id hl;rw[e0];exact hb.2.1 nZ l0,hb.2.2⟩
  have mv:∀v cv,v.aK<=n0->fI φ h w v cv->fI φ' g w v cv:=λv cv hv LH=>LH.mono (λid q1 q2=>⟨EX id (by omega),by rw[h6];omega⟩) λb hb=>⟨pr b hb,rfl⟩
  have rowOf:∀id nZ cs,φ' id=φ nZ->h.get nZ=some (.row cs)->AV.aw cs<=n0->tS φ' g w id cs:=λid nZ cs e0 SP wi=>by obtain⟨cc,el,fz,r1,r2,r3,r4,r5,r6⟩:=hr.rows nZ cs SP;refine⟨cc,el,fz,by rw[e0];exact r1,by rw[e0];exact r2,by rw[e0];exact r3,r4,by rw[e0];exact r5,λj hj=>?_⟩;rw[e0];refine mv _ _ ?_ (r6 j hj);have:=AV.dk (List.getElem_mem hj);omega
  have mapOf:∀id nZ es,φ' id=φ nZ->h.get nZ=some (.map es)->(∀e∈es,e.1.aK<=n0/\e.2.aK<=n0)->yt φ' g w id es:=λid nZ es e0 SP wi=>by obtain⟨mX,AZ,r1,r2,r3⟩:=hr.maps nZ es SP;refine⟨mX,AZ,by rw[e0];exact r1,r2,λj hj=>?_⟩;have:=wi _ (List.getElem_mem hj);exact⟨mv _ _ this.1 (r3 j hj).1,mv _ _ this.2 (r3 j hj).2⟩
  have kept:∀id o,n0<=id->g.get id=some o->∃nZ,ks[id-n0]? =some nZ/\h.get nZ=some o/\rP n0 o=true/\φ' id=φ nZ:=λid o cG ho=>by
   have e:id=n0+(id-n0):=by omega
   have G5:=ho;rw[e,iH] at G5;have cR:=(List.getElem?_eq_some_iff.1 G5).1;have hk:=List.getElem?_eq_getElem (show id-n0<ks.length by omega);obtain⟨o',q1,q2,q3⟩:=o2 _ _ hk;rw[G5] at q1;cases q1;refine⟨_,hk,q2,q3,?_⟩;have:=new (id-n0) _ hk;rw[<-e] at this;exact this
  have idx:∀id,n0<=id->id∈ks->φ' (n0+ks.idxOf id)=φ id/\n0+ks.idxOf id<g.next:=λid cG hm=>by have cR:=List.idxOf_lt_length_of_mem hm;exact⟨new _ _ (by rw[List.getElem?_eq_getElem cR,List.getElem_idxOf]),by rw[h6];omega⟩
  have rid:∀v:AV,(∀id,v.top=some id->n0<=id->id∈ks)->∀id,v.top=some id->φ' (p8 n0 ks id)=φ id/\p8 n0 ks id<g.next:=λv hv id ht=>by
   unfold p8;split
   .rename_i cG;exact⟨EX id cG,by rw[h6];omega⟩
   .rename_i cG;exact idx id (by omega) (hv id ht (by omega))
  have val:∀v:AV,((v.top.isSome=true\/v.aK<=n0)/\∀id,v.top=some id->n0<=id->id∈ks)->∀cv,fI φ h w v cv->fI φ' g w (ck n0 ks v) cv:=λv hv cv LH=>by
   cases ht:v.top with
   |none=>
     have aec:v.aK<=n0:=by
      rcases hv.1 with e|e
      .rw[ht] at e;cases e
      .exact e
     have e:ck n0 ks v=v:=by cases v<;>first|rfl|cases ht
     rw[e];exact mv v cv aec LH
   |some id=>
     obtain⟨q1,q2⟩:=rid v hv.2 id ht;cases v<;>simp only[AV.top,Option.some.injEq,reduceCtorEq] at ht
     .subst ht;obtain⟨rfl,_⟩:=LH.vi;rw[<-q1];exact .ptr _ _ q2
     .subst ht;obtain⟨cap,ad,rfl,_,r2,r3,r4,r5⟩:=LH.lR;rw[<-q1] at r4 r5;exact .vec _ _ _ _ _ cap ad q2 r2 r3 r4 r5
     .subst ht;obtain⟨rfl,_⟩:=LH.Ci;rw[<-q1];exact .map _ q2
  have Of:HR φ' g w:=by
   refine⟨h9,λid cs LI=>?_,λid es LI=>?_,λi j hi hj wj=>?_,λb hb=>⟨(hr.gh b hb).1,λid hl=>?_⟩⟩
   .rcases Nat.lt_or_ge id n0 with cG|cG
    .rw[gG id cG] at LI;obtain⟨o,ho,e⟩:=Option.map_eq_some_iff.1 LI;have LX:=h4o id o cG ho;cases o<;>simp only[qy,bp.row.injEq,reduceCtorEq] at e;rename_i cs0;subst e;obtain⟨cc,el,fz,r1,r2,r3,r4,r5,r6⟩:=hr.rows id cs0 ho;refine⟨cc,el,fz,by rw[EX id cG];exact r1,by rw[EX id cG];exact r2,by rw[EX id cG,List.length_map];exact r3,r4,by rw[EX id cG];exact r5,λj hj=>?_⟩;rw[EX id cG,List.getElem_map];rw[List.length_map] at hj;exact val _ (LX _ (by simp[jK])) _ (r6 j hj)
    .obtain⟨nZ,_,q2,q3,q4⟩:=kept id _ cG LI;exact rowOf id nZ cs q4 q2 (by simpa[rP] using q3)
   .rcases Nat.lt_or_ge id n0 with cG|cG
    .rw[gG id cG] at LI;obtain⟨o,ho,e⟩:=Option.map_eq_some_iff.1 LI;have LX:=h4o id o cG ho;cases o<;>simp only[qy,bp.map.injEq,reduceCtorEq] at e;rename_i es0;subst e;obtain⟨mX,AZ,r1,r2,r3⟩:=hr.maps id es0 ho;refine⟨mX,AZ,by rw[EX id cG];exact r1,by rw[List.length_map];exact r2,λj hj=>?_⟩;rw[List.length_map] at hj;have hm:es0[j]∈es0:=List.getElem_mem hj;rw[List.getElem_map];exact⟨val _ (LX _ (by simp only[jK,List.mem_flatMap];exact⟨_,hm,by simp⟩)) _ (r3 j hj).1,val _ (LX _ (by simp only[jK,List.mem_flatMap];exact⟨_,hm,by simp⟩)) _ (r3 j hj).2⟩
    .obtain⟨nZ,_,q2,q3,q4⟩:=kept id _ cG LI;refine mapOf id nZ es q4 q2 λe hem=>?_
     simp only[rP,List.all_eq_true] at q3;simpa using q3 e hem
   .obtain⟨i0,li,ei,ci⟩:=lv i hi;obtain⟨j0,lj,ej,cj⟩:=lv j hj;rw[ei,ej] at wj;have aea:=hr.inj i0 j0 li lj wj;rcases ci with⟨ci1,Z8⟩|⟨ci1,Z8⟩<;>rcases cj with⟨cj1,cj2⟩|⟨cj1,cj2⟩
    .omega
    .have:=k2 j0 (List.mem_of_getElem? cj2);omega
    .have:=k2 i0 (List.mem_of_getElem? Z8);omega
    .rw[aea] at Z8;obtain⟨x1,y1⟩:=List.getElem?_eq_some_iff.1 Z8;obtain⟨x2,y2⟩:=List.getElem?_eq_some_iff.1 cj2;have:=(List.getElem_inj (h₀:=x1) (h₁:=x2) k1).1 (y1.trans y2.symm);omega
   .obtain⟨nZ,l0,e0,_⟩:=lv id hl;rw[e0];exact (hr.gh b hb).2 nZ l0
  refine⟨φ',Of,⟨by simp[hf.1],λt=>?_⟩,⟨hx.os,hx.tape,hx.output,hx.size,by rw[h6];omega,λid cG=>?_,λb hb=>⟨pr b (hx.pr b hb).1,(hx.pr b hb).2⟩,hx.gh⟩⟩
  .have:=hf.2 t;rw[List.getD_eq_getElem?_getD] at this|-;rw[List.getElem?_map]
   cases hv:fr[t]? with
   |none=>exact .undef _
   |some v=>rw[hv] at this;exact val v (h4 v (List.mem_of_getElem? hv)) _ this
  .rw[SO] at cG;exact (EX id cG).trans (hx.BK id (by omega))
theorem aau{φ φe:eL}{h he:ai}{w we:World}{fr:List AV}{tm:Array Value}(hr:HR φ h w)(hf:FR φ h w fr tm)(hx:Ext φe he we φ h w)(zo:HR φe he we)(c:CL he h):
 ∃φ',HR φ' (gc he.next fr h).2 w/\FR φ' (gc he.next fr h).2 w (gc he.next fr h).1 tm/\Ext φe he we φ' (gc he.next fr h).2 w:=by
 unfold gc;split
 .exact ac3 hr hf hx zo c
 .exact acE hr hf hx zo
theorem pg{n:Nat}{ac:bW}{fr eD:List AV}{h h':ai}{ex:Ex}(hc:bW.gA [yW]=ac.strip)(he:aH C n ac fr h=some (ex,eD,h')):False:=by cases ac<;>simp[bW.strip] at hc;subst hc;simp[aH,dz,dd,yW,dR,cf] at he
end
end
section
theorem xP(sz:Nat):∀(n:Nat) (cs:List AV),(chunk sz n cs).length=n
 |0,_=>rfl
 |n+1,cs=>by simp[chunk,xP sz n]
theorem Aj{sz:Nat}:∀(n:Nat) (cs:List AV) (i:Nat) (hi:i<(chunk sz n cs).length),(chunk sz n cs)[i]=if sz=1 then (cs.drop (i*sz)).headD .undef else .agg ((cs.drop (i*sz)).take sz)
 |0,cs,i,hi=>by simp[chunk] at hi
 |n+1,cs,0,hi=>by simp[chunk]
 |n+1,cs,i+1,hi=>by simp only[chunk,List.getElem_cons_succ];rw[Aj n (cs.drop sz) i (by simpa[chunk] using hi),List.drop_drop];rw[show sz+i*sz=(i+1)*sz by rw[Nat.add_mul];omega]
theorem BA(sz:Nat):∀(n:Nat) (cs:List AV),AV.aw (chunk sz n cs)<=AV.aw cs
 |0,_=>by simp[chunk,AV.aw]
 |n+1,cs=>by
   have h1:=BA sz n (cs.drop sz);have h2:AV.aw (cs.drop sz)<=AV.aw cs:=AV.kI λv hv=>AV.dk (List.mem_of_mem_drop hv)
   simp only[chunk,AV.aw]
   have h3:(if sz=1 then cs.headD .undef else AV.agg (cs.take sz)).aK<=AV.aw cs:=by
    split
    .cases cs with
     |nil=>simp[AV.aK]
     |cons x r=>simp only[List.headD_cons,AV.aw];omega
    .simp only[AV.aK];exact AV.kI λv hv=>AV.dk (List.mem_of_mem_take hv)
   omega
section
variable {φ:eL}{h:ai}{w:World}
theorem yZ{F:AV->Option (AV×List Nat)}{nx:Nat}{pr zn:Nat->Prop}(hF:∀v cv v' eS,F v=some (v',eS)->RV φ nx pr w v cv->(∀id∈eS,zn (φ id).ib)->RV φ nx zn w v' cv):
 ∀(cs:List AV) (jt:List AV) (eS:List Nat) (f:Nat->Value),kY F cs=some (jt,eS)->(∀j (hj:j<cs.length),RV φ nx pr w cs[j] (f j))->(∀id∈eS,zn (φ id).ib)->
   jt.length=cs.length/\∀j (hj:j<jt.length),RV φ nx zn w jt[j] (f j)
 |[],jt,eS,f,he,_,_=>by simp only[kY,Option.some.injEq,Prod.mk.injEq] at he;obtain⟨rfl,rfl⟩:=he;exact⟨rfl,λj hj=>by simp at hj⟩
 |v::r,jt,eS,f,he,hv,tq=>by
   simp only[kY] at he;split at he
   .rename_i v' i r' j h1 h2;cases he;obtain⟨g1,g2⟩:=yZ hF r r' j (λk=>f (k+1)) h2 (λk hk=>hv (k+1) (Nat.succ_lt_succ hk)) (λid cG=>tq id (by simp[cG]));refine⟨by simp[g1],λk hk=>?_⟩
    cases k with
    |zero=>exact hF _ _ _ _ h1 (hv 0 (by simp)) (λid cG=>tq id (by simp[cG]))
    |succ k=>exact g2 k (by simpa using hk)
   .cases he
theorem uT{F:AV->Option (AV×List Nat)}{p:Nat->Prop}(hF:∀v v' eS,F v=some (v',eS)->∀id∈eS,p id):∀(cs jt:List AV) (eS:List Nat),kY F cs=some (jt,eS)->∀id∈eS,p id
 |[],jt,eS,he=>by simp only[kY,Option.some.injEq,Prod.mk.injEq] at he;obtain⟨rfl,rfl⟩:=he;intro id cG;cases cG
 |v::r,jt,eS,he=>by
   simp only[kY] at he;split at he
   .rename_i v' i r' j h1 h2;cases he;intro id cG;rcases List.mem_append.1 cG with cG|cG
    .exact hF _ _ _ h1 id cG
    .exact uT hF r r' j h2 id cG
   .cases he
theorem vJ{n0:Nat}:∀(d:Nat) (v v':AV) (eS:List Nat),jF h n0 d v=some (v',eS)->∀id∈eS,n0<=id/\live h id
 |0,v,v',eS,he=>by simp[jF] at he
 |d+1,v,v',eS,he=>by
   unfold jF at he;split at he
   .split at he
    .cases he;intro id cG;cases cG
    .rename_i cR;split at he
     .rename_i cs tj;split at he
      .split at he
       .rename_i jt Og h1;split at he
        .cases he;intro id cG
         cases cG with
         |head=>exact⟨by omega,_,Cb tj,λe=>by cases e⟩
         |tail _ cG=>exact uT (λv v' eS he=>vJ d v v' eS he) _ _ _ h1 id cG
        .cases he
       .cases he
      .cases he
     .cases he
   .obtain⟨⟨jt,Og⟩,h1,e⟩:=Option.map_eq_some_iff.1 he;cases e;exact uT (λv v' eS he=>vJ d v v' eS he) _ _ _ h1
   .obtain⟨⟨jt,Og⟩,h1,e⟩:=Option.map_eq_some_iff.1 he;cases e;exact uT (λv v' eS he=>vJ d v v' eS he) _ _ _ h1
   .cases he;intro id cG;cases cG
theorem Ij(hr:HR φ h w){n0:Nat}{zn:Nat->Prop}(SF:∀b,Pr φ h w b->zn b):∀(d:Nat) (v:AV) (cv:Value) (v':AV) (eS:List Nat),jF h n0 d v=some (v',eS)->fI φ h w v cv->(∀id∈eS,zn (φ id).ib)->RV φ h.next zn w v' cv
 |0,v,cv,v',eS,he,_,_=>by simp[jF] at he
 |d+1,v,cv,v',eS,he,hv,tq=>by
   have gK:RV φ h.next zn w v cv:=hv.mono (λ_ _ cG=>⟨rfl,cG⟩) λb hb=>⟨SF b hb,rfl⟩
   have ih:=λv cv v' eS=>Ij hr (n0:=n0) SF d v cv v' eS
   unfold jF at he;split at he
   .rename_i id off len sz lb;split at he
    .cases he;exact gK
    .split at he
     .rename_i cs tj;have hg:=Cb tj;split at he
      .rename_i hc;split at he
       .rename_i jt Og h1;split at he
        .rename_i Oe;cases he;obtain⟨c,el,fz,k1,k2,k3,k4,k5,k6⟩:=hr.rows id cs hg;obtain⟨cap,ad,rfl,cG,hl,xH,ze,ha⟩:=hv.lR;have fZ:((cs.drop off).take (len*sz)).length=len*sz:=by simp;omega
         obtain⟨g1,g2⟩:=yZ ih _ _ _ (λj=>c.getD ((φ id).base+off+j) default) h1 (λj hj=>by
          have kP:off+j<cs.length:=by omega
          have:=k6 (off+j) kP;rw[Nat.add_assoc];simpa using this) (λi hi=>tq i (by simp[hi]))
         rw[fZ] at g1;rcases Nat.eq_zero_or_pos len with h0|h0
         .subst h0;exact .slnil _ _
         .rw[ha (by omega)];have jn:=xP sz len jt
          have one:∀j (hj:j<jt.length),jt[j].cells=[jt[j]]:=λj hj=>by
           have q1:=g2 j hj;have q2:=k5 (off+j) (by omega);rw[<-Nat.add_assoc] at q2;generalize jt[j]=y at q1|-;cases y<;>try rfl
           obtain⟨fu,q3,_⟩:=q1.pL;rw[q3] at q2;cases q2
          have nh:∀i j (hi:i<(chunk sz len jt).length) (hj:j<sz),∃hk:i*sz+j<jt.length,((chunk sz len jt)[i]).cells[j]? =some jt[i*sz+j]:=λi j hi hj=>by
           rw[jn] at hi;have h2:(i+1)*sz<=len*sz:=Nat.mul_le_mul_right _ hi;rw[Nat.add_mul] at h2;refine⟨by omega,?_⟩;rw[Aj];split
           .rename_i h1;subst h1;obtain rfl:j=0:=by omega
            have hk:i*1<jt.length:=by omega
            have e:(jt.drop (i*1)).headD .undef=jt[i*1]:=by rw[List.drop_eq_getElem_cons hk];rfl
            rw[e,one];simp
           .simp only[AV.cells];rw[List.getElem?_take,if_pos hj,List.getElem?_drop,List.getElem?_eq_getElem]
          have ahk:∀i (hi:i<(chunk sz len jt).length),((chunk sz len jt)[i]).cells?.map List.length=some sz:=λi hi=>by
           have jE:i<len:=by omega
           have h2:(i+1)*sz<=len*sz:=Nat.mul_le_mul_right _ jE;rw[Nat.add_mul] at h2;rw[Aj];split
           .rename_i h1;subst h1;have hk:i*1<jt.length:=by omega
            have e:(jt.drop (i*1)).headD .undef=jt[i*1]:=by rw[List.drop_eq_getElem_cons hk];rfl
            rw[e];have:=List.all_eq_true.1 Oe.2 _ (List.getElem_mem hk);simpa using this
           .simp only[AV.cells?,Option.map_some,Option.some.injEq];simp;omega
          have key:=RV.sl (φ:=φ) (nx:=h.next) (pr:=zn) (w:=w) (chunk sz len jt) (φ id).ib ((φ id).base+off) cap sz (λi j=>if i*sz+j<len*sz then c.getD ((φ id).base+off+(i*sz+j)) default else default) (tq id (by simp)) (by omega)
           (by have:=BA sz len jt;omega) (λi j=>?_) ahk (λi j hi hj=>?_) λi hi j hj=>?_
          .rw[jn] at key;exact key
          .split
           .have:=k5 (off+(i*sz+j)) (by omega);rw[<-Nat.add_assoc] at this;exact this
           .rfl
          .obtain⟨hk,_⟩:=nh i j hi hj;have cR:(φ id).base+off+(i*sz+j)<c.size:=by omega
           have A0:i*sz+j<len*sz:=by omega
           rw[if_pos A0,Nat.add_assoc ((φ id).base+off)];unfold World.cell?;simp only[k1];simp[Array.getD,cR]
          .have hjs:j<sz:=by
            have q:=ahk i hi
            have:(chunk sz len jt)[i].cells.length=sz:=by generalize (chunk sz len jt)[i]=y at q|-;cases y<;>simp[AV.cells?] at q<;>simp[AV.cells,q]
            omega
           obtain⟨hk,e⟩:=nh i j hi hjs;rw[List.getElem?_eq_getElem hj] at e;have e:=Option.some.inj e;have A0:i*sz+j<len*sz:=by omega
           rw[e,if_pos A0];exact g2 _ hk
        .cases he
       .cases he
      .cases he
     .cases he
   .rename_i cs;obtain⟨⟨jt,Og⟩,h1,e⟩:=Option.map_eq_some_iff.1 he;cases e;obtain⟨fu,rfl,g1,g2,g3⟩:=hv.pL;obtain⟨q1,q2⟩:=yZ ih _ _ _ (λj=>fu.getD j default) h1 g3 tq;exact .agg _ _ (by dsimp only;omega) g2 q2
   .rename_i cs;obtain⟨⟨jt,Og⟩,h1,e⟩:=Option.map_eq_some_iff.1 he;cases e;obtain⟨fu,rfl,g1,g2⟩:=hv.vI;obtain⟨q1,q2⟩:=yZ ih _ _ _ (λj=>fu.getD j default) h1 g2 tq;exact .tuple _ _ (by dsimp only;omega) q2
   .cases he;exact gK
theorem Pr.Ht{eS:List Nat}{b:Nat}(hb:b<w.heap.size)(jm:∀id,live h id->(φ id).ib=b->id∈eS)(Cm:¬φ.gh b):Pr φ (kill h eS) w b:=
 ⟨hb,λi hi e=>by obtain⟨h1,h2⟩:=QU eS hi;exact h2 (jm i h1 e),Cm⟩
theorem KV(hr:HR φ h w){n:Nat}(hn:n<=h.next)(hle:∀id,id<n->pK h id n):
 HR φ (h.kz n) w/\(∀b,Pr φ h w b->Pr φ (h.kz n) w b)/\(∀id,n<=id->live h id->Pr φ (h.kz n) w (φ id).ib):=by
 have lv:∀i,live (h.kz n) i->i<n/\live h i:=λi ⟨o,hg,ho⟩=>by
  have cR:=ai.eK hg;simp only[ai.xd] at cR;have hi:i<n:=by omega
  rw[ai.rj hi] at hg;exact⟨hi,o,hg,ho⟩
 have pr:∀b,Pr φ h w b->Pr φ (h.kz n) w b:=λb hb=>⟨hb.1,λi hi=>hb.2.1 i (lv i hi).2,hb.2.2⟩
 have mv:∀v cv,v.aK<=n->fI φ h w v cv->fI φ (h.kz n) w v cv:=λv cv hv LH=>LH.mono (λid h1 h2=>⟨rfl,by simp only[ai.xd];omega⟩) λb hb=>⟨pr b hb,rfl⟩
 refine⟨⟨ai.Jd n hr.wf,λi cs hg=>?_,λi es hg=>?_,λi j hi hj e=>hr.inj i j (lv i hi).2 (lv j hj).2 e,λb hb=>⟨(hr.gh b hb).1,λi hi=>(hr.gh b hb).2 i (lv i hi).2⟩⟩,pr,λid cG hl=>⟨hr.gJ hl,λi hi e=>?_,λhg=>(hr.gh _ hg).2 id hl rfl⟩⟩
 .have hi:=(lv i ⟨_,hg,λe=>by cases e⟩).1;rw[ai.rj hi] at hg;obtain⟨c,el,fz,k1,k2,k3,k4,k5,k6⟩:=hr.rows i cs hg;refine⟨c,el,fz,k1,k2,k3,k4,k5,λj hj=>mv _ _ ?_ (k6 j hj)⟩;have h1:=(hle i hi).1 cs hg;have h2:=AV.dk (List.getElem_mem hj);omega
 .have hi:=(lv i ⟨_,hg,λe=>by cases e⟩).1;rw[ai.rj hi] at hg;obtain⟨mX,AZ,k1,k2,k3⟩:=hr.maps i es hg;refine⟨mX,AZ,k1,k2,λj hj=>?_⟩;have h1:=(hle i hi).2 es hg es[j] (List.getElem_mem hj);exact⟨mv _ _ h1.1 (k3 j hj).1,mv _ _ h1.2 (k3 j hj).2⟩
 .have cR:=(lv i hi).1;have:=hr.inj i id (lv i hi).2 hl e;omega
theorem RH{φ0:eL}{h0:ai}{w0:World}(hr:HR φ h w)(hx:Ext φ0 h0 w0 φ h w)(jn:CL {h0 with wl:=h0.next,md:=h0.next} h)(ZF:HR φ0 h0 w0){gK:Bool}{v:AV}{cv:Value}(hv:fI φ h w v cv):
 fI φ (finish gK h0 v h).2 w (finish gK h0 v h).1 cv/\HR φ (finish gK h0 v h).2 w/\Ext φ0 h0 w0 φ (finish gK h0 v h).2 w:=by
 have plain:fI φ {h with wl:=min h0.wl h.wl,md:=min h0.md h.md} w v cv/\HR φ {h with wl:=min h0.wl h.wl,md:=min h0.md h.md} w/\Ext φ0 h0 w0 φ {h with wl:=min h0.wl h.wl,md:=min h0.md h.md} w:=by obtain⟨a1,a2⟩:=hr.yN (min h0.wl h.wl) (min h0.md h.md);exact⟨hv.ext a2,a1,hx.trans a2⟩
 unfold finish
 cases gK with
 |true=>simpa using plain
 |false=>
   simp only[Bool.false_eq_true,if_false];split
   .exact plain
   .rename_i v' eS WG;have tq:=vJ 8 v v' eS WG;split
    .rename_i hc;obtain⟨t1,t2,t3⟩:=KV hr jn.next (jn.le h0.next (Nat.le_refl _) hc.1 ZF.PO)
     obtain⟨s1,s2⟩:=t1.yN h0.wl (if h.md<h0.next then min h0.md h.md else h0.md);have q:=Ij hr (zn:=Pr φ (h.kz h0.next) w) t2 8 v cv v' eS WG hv λid cG=>t3 id (tq id cG).1 (tq id cG).2
     have BR:min h.next h0.next=h0.next:=Nat.min_eq_right jn.next
     have akw:Ext φ0 h0 w0 φ (h.kz h0.next) w:=by refine⟨hx.os,hx.tape,hx.output,hx.size,?_,hx.BK,λb hb=>⟨t2 b (hx.pr b hb).1,(hx.pr b hb).2⟩,hx.gh⟩;simp only[ai.xd];omega
     refine⟨?_,s1,akw.trans s2⟩;refine (q.mono (λid h1 h2=>⟨rfl,?_⟩) λb hb=>⟨hb,rfl⟩:fI φ {h.kz h0.next with wl:=h0.wl,md:=(if h.md<h0.next then min h0.md h.md else h0.md)} w v' cv);show id<min h.next h0.next
     omega
    .obtain⟨k1,k2⟩:=PT eS hr;obtain⟨s1,s2⟩:=k1.yN (min h0.wl h.wl) (min h0.md h.md)
     have q:=Ij hr (zn:=Pr φ (kill h eS) w) (λb hb=>(k2.pr b hb).1) 8 v cv v' eS WG hv λid cG=>Pr.Ht (hr.gJ (tq id cG).2) (λi hi e=>(by rw[hr.inj i id hi (tq id cG).2 e];exact cG)) λhg=>(hr.gh _ hg).2 id (tq id cG).2 rfl
     have hnk:∀(eS:List Nat) (h:ai),(kill h eS).next=h.next:=by
      intro eS
      induction eS with
      |nil=>exact λh=>rfl
      |cons i r ih=>intro h;simp only[kill];rw[ih];simp
     refine⟨?_,s1,hx.trans (k2.trans s2)⟩;have q2:fI φ (kill h eS) w v' cv:=q.mono (λid _ h2=>⟨rfl,by rw[hnk];exact h2⟩) λb hb=>⟨hb,rfl⟩
     exact q2.ext s2
end
end
section
def qu(n:Nat):AV->Bool
 |.ptr id _=>decide (id<n)
 |.vec id _ _ _ _=>decide (id<n)
 |.map id=>decide (id<n)
 |v=>v.aK==0
def BN(n:Nat):bp->Bool
 |.row cs=>cs.all (qu n)
 |.map es=>es.all λe=>qu n e.1&&qu n e.2
 |.dead=>true
def Cs(os:List bp):ai:=⟨os.length,os.reverse,os.length,os.length⟩
theorem IC(os:List bp)(i:Nat):(Cs os).get i=os[i]?:=by
 unfold ai.get Cs;dsimp only;by_cases h:i<os.length
 .rw[if_pos h,List.getElem?_reverse (by omega),show os.length-1-(os.length-1-i)=i by omega]
 .rw[if_neg h,List.getElem?_eq_none (by omega)]
structure Fi(h:ai)(g:Nat->Nat)(os:List bp):Prop where
 obj:∀i o,os[i]? =some o->(∀_:o=.dead,False)->h.get (g i)=some (gB g o)/\BN os.length o=true
 inj:∀i j o o',os[i]? =some o->os[j]? =some o'->(∀_:o=.dead,False)->(∀_:o'=.dead,False)->g i=g j->i=j
theorem Av{g:Nat->Nat}{o:bp}(h:∀_:o=.dead,False):∀_:gB g o=.dead,False:=λe=>by
 cases o with
 |dead=>exact h rfl
 |row cs=>cases e
 |map es=>cases e
theorem RV.swap{φ φ':eL}{nx N9 m:Nat}{pr zn:Nat->Prop}{w:World}{a b:Nat->Nat}(hφ:∀i,i<m->φ' (b i)=φ (a i)/\b i<N9)(SF:∀x,pr x->zn x){v:AV}{cv:Value}(hl:qu m v=true)
 (h:RV φ nx pr w (sig a v) cv):RV φ' N9 zn w (sig b v) cv:=by
 have plain:sig a v=v->sig b v=v->v.aK=0->RV φ' N9 zn w (sig b v) cv:=λe1 e2 e3=>by rw[e1] at h;rw[e2];exact h.mono (λid cG _=>by omega) λx hx=>⟨SF x hx,rfl⟩
 cases v with
 |ptr id off=>obtain⟨rfl,_⟩:=RV.vi h;obtain⟨e,hb⟩:=hφ id (of_decide_eq_true hl);rw[<-e];exact .ptr _ _ hb
 |vec id off len sz lb=>obtain⟨cap,ad,rfl,_,h1,h2,h3,h4⟩:=RV.lR h;obtain⟨e,hb⟩:=hφ id (of_decide_eq_true hl);rw[<-e] at h3 h4;exact .vec _ _ _ _ _ cap ad hb h1 h2 h3 h4
 |map id=>obtain⟨rfl,_⟩:=RV.Ci h;obtain⟨e,hb⟩:=hφ id (of_decide_eq_true hl);rw[<-e];exact .map _ hb
 |_=>exact plain rfl rfl (by simpa[qu] using hl)
theorem Dt{v:AV}:sig (λi=>i) v=v:=by cases v<;>rfl
section
variable {φ:eL}{h:ai}{w:World}{g:Nat->Nat}{os:List bp}
def o8(φ:eL)(h:ai)(g:Nat->Nat)(os:List bp):eL:=⟨λi=>φ (g i),λb=>φ.gh b\/∃id,live h id/\(∀i o,os[i]? =some o->(∀_:o=.dead,False)->g i≠id)/\(φ id).ib=b⟩
theorem B9{i:Nat}(hl:live (Cs os) i):∃o,os[i]? =some o/\∀_:o=.dead,False:=by obtain⟨o,h1,h2⟩:=hl;rw[IC] at h1;exact⟨o,h1,h2⟩
theorem Fi.live(S:Fi h g os){i:Nat}(hl:Sz.live (Cs os) i):Sz.live h (g i):=by obtain⟨o,h1,h2⟩:=B9 hl;exact⟨_,(S.obj i o h1 h2).1,Av h2⟩
theorem H6(hr:HR φ h w)(S:Fi h g os){b:Nat}(hb:Pr φ h w b):Pr (o8 φ h g os) (Cs os) w b:=
 ⟨hb.1,λi hl=>hb.2.1 _ (S.live hl),λhc=>by
  rcases hc with hc|⟨id,hl,_,e⟩
  .exact hb.2.2 hc
  .exact hb.2.1 id hl e⟩
theorem abT(hr:HR φ h w)(S:Fi h g os):HR (o8 φ h g os) (Cs os) w:=by
 have swap:∀(v:AV) (cv:Value),qu os.length v=true->fI φ h w (sig g v) cv->fI (o8 φ h g os) (Cs os) w v cv:=λv cv hl hv=>by have:=RV.swap (φ':=o8 φ h g os) (N9:=os.length) (m:=os.length) (zn:=Pr (o8 φ h g os) (Cs os) w) (a:=g) (b:=λi=>i) (λi hi=>⟨rfl,hi⟩) (λx hx=>H6 hr S hx) hl hv;rw[Dt] at this;exact this
 refine⟨by simp[ai.wf,Cs],λi cs hg=>?_,λi es hg=>?_,λi j hi hj e=>?_,λb hb=>?_⟩
 .rw[IC] at hg;obtain⟨h1,h2⟩:=S.obj i _ hg λe=>by cases e
  obtain⟨c,el,fr,g1,g2,g3,g4,g5,g6⟩:=hr.rows (g i) _ h1;rw[List.length_map] at g3;refine⟨c,el,fr,g1,g2,g3,g4,g5,λj hj=>?_⟩;have:=g6 j (by simpa using hj);rw[List.getElem_map] at this;exact swap _ _ (List.all_eq_true.1 h2 _ (List.getElem_mem hj)) this
 .rw[IC] at hg;obtain⟨h1,h2⟩:=S.obj i _ hg λe=>by cases e
  obtain⟨mX,AZ,g1,g2,g3⟩:=hr.maps (g i) _ h1;refine⟨mX,AZ,g1,by simpa using g2,λj hj=>?_⟩;have:=g3 j (by simpa using hj);rw[List.getElem_map] at this;have h3:=List.all_eq_true.1 h2 _ (List.getElem_mem hj);rw[Bool.and_eq_true] at h3;exact⟨swap _ _ h3.1 this.1,swap _ _ h3.2 this.2⟩
 .have:=hr.inj _ _ (S.live hi) (S.live hj) e;obtain⟨o,h1,h2⟩:=B9 hi;obtain⟨o',h3,h4⟩:=B9 hj;exact S.inj i j o o' h1 h3 h2 h4 this
 .rcases hb with hb|⟨id,hl,hn,e⟩
  .exact⟨(hr.gh b hb).1,λi hi=>(hr.gh b hb).2 _ (S.live hi)⟩
  .refine⟨e▸hr.gJ hl,λi hi e2=>?_⟩;obtain⟨o,h1,h2⟩:=B9 hi;exact hn i o h1 h2 (hr.inj _ _ (S.live hi) hl (e2.trans e.symm))
theorem Gp(h:ai)(k:Nat)(o:bp):(zQ h k o).next=h.next:=by unfold zQ ai.set;split<;>rfl
theorem xi(h:ai)(k:Nat)(o:bp){i:Nat}(fy:i≠k):(zQ h k o).get i=h.get i:=by show ({h.set k o with wl:=_}:ai).get i=_;exact ai.get_set_other (Ne.symm fy)
theorem FA(h:ai)(k:Nat)(o:bp){o':bp}(hg:h.get k=some o'):(zQ h k o).get k=some o:=by show ({h.set k o with wl:=_}:ai).get k=_;exact ai.get_set_same hg
theorem rq(g:Nat->Nat):∀(ks:List Nat) (os:List bp) (h:ai),(pB g ks os h).next=h.next
 |[],_,h=>by unfold pB;rfl
 |k::ks,[],h=>by unfold pB;rfl
 |k::ks,o::os,h=>by
   show (pB g ks os (zQ h k (gB g o))).next=_
   rw[rq g ks os,Gp]
theorem wT(g:Nat->Nat):∀(ks:List Nat) (os:List bp) (h:ai) {i:Nat},i∉ks->(pB g ks os h).get i=h.get i
 |[],_,h,_,_=>by unfold pB;rfl
 |k::ks,[],h,_,_=>by unfold pB;rfl
 |k::ks,o::os,h,i,hi=>by simp only[List.mem_cons,not_or] at hi;show (pB g ks os (zQ h k (gB g o))).get i=_;rw[wT g ks os _ hi.2,xi _ _ _ hi.1]
theorem OC(g:Nat->Nat):∀(ks:List Nat) (os:List bp) (h:ai),ks.Nodup->(∀k∈ks,∃o,h.get k=some o)->∀(i k:Nat) (o:bp),ks[i]? =some k->os[i]? =some o->(pB g ks os h).get k=some (gB g o)
 |[],_,h,_,_,i,k,o,h1,_=>by simp at h1
 |k::ks,[],h,_,_,i,_,o,_,h2=>by simp at h2
 |k::ks,o::os,h,hn,hx,i,k',o',h1,h2=>by
   rw[List.nodup_cons] at hn;show (pB g ks os (zQ h k (gB g o))).get k'=_
   cases i with
   |zero=>simp only[List.getElem?_cons_zero,Option.some.injEq] at h1 h2;subst h1 h2;obtain⟨q,hq⟩:=hx k (by simp);rw[wT g ks os _ hn.1];exact FA _ _ _ hq
   |succ i=>
     simp only[List.getElem?_cons_succ] at h1 h2;refine OC g ks os _ hn.2 (λj hj=>?_) i k' o' h1 h2;obtain⟨q,hq⟩:=hx j (by simp[hj]);have fy:j≠k:=λe=>hn.1 (by rw[<-e];exact hj)
     exact⟨q,(xi _ _ _ fy).trans hq⟩
theorem Fu(g:Nat->Nat):∀(os:List bp) (h:ai),(xK g os h).next=h.next+os.length
 |[],h=>rfl
 |o::os,h=>by
   show (xK g os (h.alloc (gB g o))).next=_
   rw[Fu g os];show h.next+1+os.length=_
   simp only[List.length_cons];omega
theorem yP(g:Nat->Nat):∀(os:List bp) (h:ai) {i:Nat},i<h.next->(xK g os h).get i=h.get i
 |[],h,_,_=>rfl
 |o::os,h,i,hi=>by show (xK g os (h.alloc (gB g o))).get i=_;rw[yP g os _ (show i<h.next+1 by omega),ai.eF hi]
theorem JV(g:Nat->Nat):∀(os:List bp) (h:ai) {j:Nat} {o:bp},os[j]? =some o->(xK g os h).get (h.next+j)=some (gB g o)
 |[],h,j,o,hj=>by simp at hj
 |o::os,h,j,o',hj=>by
   show (xK g os (h.alloc (gB g o))).get (h.next+j)=_
   cases j with
   |zero=>simp only[List.getElem?_cons_zero,Option.some.injEq] at hj;subst hj;rw[yP g os _ (show h.next+0<h.next+1 by omega)];exact ai.gw
   |succ j=>have:=JV g os (h.alloc (gB g o)) (j:=j) (o:=o') (by simpa using hj);rw[<-this];show _=(xK g os (h.alloc (gB g o))).get (h.next+1+j);congr 1;omega
theorem PY(g:Nat->Nat):∀(os:List bp) {h:ai},h.wf->(xK g os h).wf
 |[],_,hw=>hw
 |o::os,h,hw=>PY g os (ai.po _ hw)
theorem Xz{h:ai}(k:Nat)(o:bp)(hw:h.wf):(zQ h k o).wf:=ai.wf_set k o hw
theorem OY(g:Nat->Nat):∀(ks:List Nat) (os:List bp) {h:ai},h.wf->(pB g ks os h).wf
 |[],_,_,hw=>by unfold pB;exact hw
 |k::ks,[],_,hw=>by unfold pB;exact hw
 |k::ks,o::os,h,hw=>OY g ks os (Xz k _ hw)
theorem O8{τ:List Nat}{ng:List bp}(hw:h.wf):(join h τ ng).wf:=PY _ _ (OY _ _ _ hw)
theorem Gx{τ:List Nat}{ng:List bp}:(join h τ ng).next=h.next+(ng.length-τ.length):=by unfold join;rw[Fu,rq,List.length_drop]
theorem DL{τ:List Nat}{ng:List bp}{i:Nat}(hi:i<h.next)(hn:i∉τ):(join h τ ng).get i=h.get i:=by unfold join;rw[yP _ _ _ (by rw[rq];exact hi),wT _ _ _ _ hn]
theorem Ix{τ:List Nat}{ng:List bp}(hn:τ.Nodup)(hx:∀k∈τ,∃o,h.get k=some o){i:Nat}{o:bp}(ho:ng[i]? =some o):(join h τ ng).get (nW h τ i)=some (gB (nW h τ) o):=by
 unfold join;by_cases hi:i<τ.length
 .have e:nW h τ i=τ[i]:=by unfold nW;rw[if_pos hi];simp[List.getD,hi]
  rw[e];obtain⟨q,hq⟩:=hx τ[i] (List.getElem_mem hi);rw[yP _ _ _ (by rw[rq];exact ai.eK hq)];exact OC _ _ _ _ hn hx i _ o (by simp[hi]) (by rw[List.getElem?_take_of_lt hi];exact ho)
 .have e:nW h τ i=h.next+(i-τ.length):=by unfold nW;rw[if_neg hi]
  rw[e];have:=JV (nW h τ) (ng.drop τ.length) (pB (nW h τ) τ (ng.take τ.length) h) (j:=i-τ.length) (o:=o) (by rw[List.getElem?_drop,show τ.length+(i-τ.length)=i by omega];exact ho);rw[rq] at this;exact this
def qH(m:Nat)(qs:List Nat)(i:Nat):Nat:=if i<m then i else qs.getD (i-m) 0
def pQ(φ φ1:eL)(n:Nat)(qs:List Nat):eL:=⟨λid=>if id<n then φ id else φ1 (qs.getD (id-n) 0),φ.gh⟩
section
variable {φ1:eL}{h1:ai}{w':World}{τ qs:List Nat}{ng:List bp}
theorem Zu(hr:HR φ h w)(S:Fi h (λi=>τ.getD i 0) os)(hτ:τ.length=os.length)(nY:∀o∈os,∀_:o=.dead,False)(hle:os.length<=ng.length)
 (hx:Ext (o8 φ h (λi=>τ.getD i 0) os) (Cs os) w φ1 h1 w') (mw:HR φ1 h1 w') (S1:Fi h1 (qH os.length qs) ng):
 HR (pQ φ φ1 h.next qs) (join h τ ng) w'/\Ext φ h w (pQ φ φ1 h.next qs) (join h τ ng) w'/\(∀b,Pr φ1 h1 w' b->Pr (pQ φ φ1 h.next qs) (join h τ ng) w' b):=by
 -- the objects of the small heap,in the great one
 have tO:∀k∈τ,∃o,h.get k=some o/\∀_:o=.dead,False:=λk hk=>by
  obtain⟨i,hi,rfl⟩:=List.getElem_of_mem hk;have jE:i<os.length:=by omega
  have ho:os[i]? =some os[i]:=List.getElem?_eq_getElem jE;have hn:=nY _ (List.getElem_mem jE);have:=(S.obj i _ ho hn).1;have e:τ.getD i 0=τ[i]:=by simp[List.getD,hi]
  rw[e] at this;exact⟨_,this,Av hn⟩
 have Fq:τ.Nodup:=by
  rw[List.nodup_iff_pairwise_ne,List.pairwise_iff_getElem];intro i j hi hj wj e;have jE:i<os.length:=by omega
  have kP:j<os.length:=by omega
  have e1:τ.getD i 0=τ[i]:=by simp[List.getD,hi]
  have e2:τ.getD j 0=τ[j]:=by simp[List.getD,hj]
  have:=S.inj i j _ _ (List.getElem?_eq_getElem jE) (List.getElem?_eq_getElem kP) (nY _ (List.getElem_mem jE)) (nY _ (List.getElem_mem kP)) (by rw[e1,e2];exact e);omega
 have cR:∀k∈τ,k<h.next:=λk hk=>by obtain⟨o,h1,_⟩:=tO k hk;exact ai.eK h1
 have hgx:∀k∈τ,∃o,h.get k=some o:=λk hk=>by obtain⟨o,h1,_⟩:=tO k hk;exact⟨o,h1⟩
 have BR:(join h τ ng).next=h.next+(ng.length-os.length):=by rw[Gx,hτ]
 have akx:∀i,i<ng.length->nW h τ i<(join h τ ng).next:=λi hi=>by
  rw[BR];unfold nW;split
  .rename_i hl;have e:τ.getD i 0=τ[i]:=by simp[List.getD,hl]
   rw[e];have:=cR _ (List.getElem_mem hl);omega
  .omega
 have IP:∀i,i<ng.length->(pQ φ φ1 h.next qs) (nW h τ i)=φ1 (qH os.length qs i):=λi hi=>by
  unfold nW qH;by_cases hl:i<τ.length
  .rw[if_pos hl,if_pos (by omega)];have e:τ.getD i 0=τ[i]:=by simp[List.getD,hl]
   have hk:=cR _ (List.getElem_mem hl);show (if τ.getD i 0<h.next then φ (τ.getD i 0) else _)=_;rw[if_pos (by rw[e];exact hk)];have:=hx.BK i (show i<os.length by omega);exact this.symm
  .rw[if_neg hl,if_neg (by omega)];show (if h.next+(i-τ.length)<h.next then _ else φ1 (qs.getD (h.next+(i-τ.length)-h.next) 0))=_;rw[if_neg (by omega),show h.next+(i-τ.length)-h.next=i-os.length by omega]
 -- what lies in the great heap after the call
 have Oh:∀id o,(join h τ ng).get id=some o->(id<h.next/\id∉τ/\h.get id=some o)\/∃i o',ng[i]? =some o'/\id=nW h τ i/\o=gB (nW h τ) o':=λid o hg=>by
  have cG:=ai.eK hg;rw[BR] at cG;by_cases hm:id∈τ
  .obtain⟨i,hi,rfl⟩:=List.getElem_of_mem hm;have jE:i<ng.length:=by omega
   have e:nW h τ i=τ[i]:=by unfold nW;rw[if_pos hi];simp[List.getD,hi]
   have:=Ix (ng:=ng) Fq hgx (List.getElem?_eq_getElem jE);rw[e,hg] at this;cases this;exact .inr ⟨i,_,List.getElem?_eq_getElem jE,e.symm,rfl⟩
  .by_cases hl:id<h.next
   .rw[DL hl hm] at hg;exact .inl ⟨hl,hm,hg⟩
   .have jE:id-h.next+τ.length<ng.length:=by omega
    have e:nW h τ (id-h.next+τ.length)=id:=by unfold nW;rw[if_neg (by omega)];omega
    have:=Ix (ng:=ng) Fq hgx (List.getElem?_eq_getElem jE);rw[e,hg] at this;cases this;exact .inr ⟨_,_,List.getElem?_eq_getElem jE,e.symm,rfl⟩
 have lv:∀id,live (join h τ ng) id->(id<h.next/\id∉τ/\live h id)\/∃i o',ng[i]? =some o'/\(∀_:o'=.dead,False)/\id=nW h τ i:=λid ⟨o,hg,ho⟩=>by
  rcases Oh id o hg with⟨a1,a2,a3⟩|⟨i,o',a1,a2,a3⟩
  .exact .inl ⟨a1,a2,o,a3,ho⟩
  .refine .inr ⟨i,o',a1,λe=>?_,a2⟩;subst e;exact ho a3
 have lv1:∀i o',ng[i]? =some o'->(∀_:o'=.dead,False)->live h1 (qH os.length qs i):=λi o' a1 a2=>⟨_,(S1.obj i o' a1 a2).1,Av a2⟩
 -- other objects' blocks are spoken of by none
 have gho:∀id,id∉τ->live h id->φ1.gh (φ id).ib:=λid hn hl=>by
  rw[hx.gh.1];refine .inr ⟨id,hl,λi o ho jm e=>hn ?_,rfl⟩;have hi:i<os.length:=(List.getElem?_eq_some_iff.1 ho).1;have jE:i<τ.length:=by omega
  have e1:τ.getD i 0=τ[i]:=by simp[List.getD,jE]
  have e2:τ[i]=id:=e1.symm.trans e;rw[<-e2];exact List.getElem_mem jE
 have pr1:∀b,Pr φ1 h1 w' b->Pr (pQ φ φ1 h.next qs) (join h τ ng) w' b:=λb hb=>by
  refine⟨hb.1,λid hl=>?_,λhg=>hb.2.2 (by rw[hx.gh.1];exact .inl hg)⟩;rcases lv id hl with⟨a1,a2,a3⟩|⟨i,o',a1,a2,rfl⟩
  .show (if id<h.next then φ id else _).ib≠b;rw[if_pos a1];intro e;exact hb.2.2 (e▸gho id a2 a3)
  .rw[IP i (List.getElem?_eq_some_iff.1 a1).1];exact hb.2.1 _ (lv1 i o' a1 a2)
 have ext:Ext φ h w (pQ φ φ1 h.next qs) (join h τ ng) w':=by refine⟨hx.os,hx.tape,hx.output,hx.size,by rw[BR];omega,λid cG=>if_pos cG,λb hb=>?_,rfl,λb hb=>hx.gh.2 b (.inl hb)⟩;obtain⟨g1,g2⟩:=hx.pr b (H6 hr S hb);exact⟨pr1 b g1,g2⟩
 have swap:∀(v:AV) (cv:Value),qu ng.length v=true->fI φ1 h1 w' (sig (qH os.length qs) v) cv->fI (pQ φ φ1 h.next qs) (join h τ ng) w' (sig (nW h τ) v) cv:=λv cv hl hv=>RV.swap (λi hi=>⟨IP i hi,akx i hi⟩) pr1 hl hv
 refine⟨⟨O8 hr.wf,λid cs hg=>?_,λid es hg=>?_,λi j hi hj e=>?_,λb hb=>?_⟩,ext,pr1⟩
 .rcases Oh id _ hg with⟨a1,a2,a3⟩|⟨i,o',a1,rfl,a3⟩
  .have hl:live h id:=⟨_,a3,λe=>by cases e⟩
   exact (hr.rows id cs a3).ext ext a1 (hx.gh.2 _ (by have:=gho id a2 hl;rw[hx.gh.1] at this;exact this))
  .cases o' with
   |dead=>cases a3
   |map es=>cases a3
   |row jt=>
     cases a3;have EW:=(List.getElem?_eq_some_iff.1 a1).1;obtain⟨b1,b2⟩:=S1.obj i _ a1 λe=>by cases e
     obtain⟨c,el,fr,g1,g2,g3,g4,g5,g6⟩:=mw.rows _ _ b1;have hp:=IP i EW;rw[List.length_map] at g3;refine⟨c,el,fr,by rw[hp];exact g1,by rw[hp];exact g2,by rw[hp,List.length_map];exact g3,g4,by rw[hp];exact g5,λj hj=>?_⟩;have kP:j<jt.length:=by simpa using hj
     have:=g6 j (by simpa using kP);rw[List.getElem_map] at this|-;rw[hp];exact swap _ _ (List.all_eq_true.1 b2 _ (List.getElem_mem kP)) this
 .rcases Oh id _ hg with⟨a1,a2,a3⟩|⟨i,o',a1,rfl,a3⟩
  .have hl:live h id:=⟨_,a3,λe=>by cases e⟩
   exact (hr.maps id es a3).ext ext a1 (hx.gh.2 _ (by have:=gho id a2 hl;rw[hx.gh.1] at this;exact this))
  .cases o' with
   |dead=>cases a3
   |row cs=>cases a3
   |map es'=>
     cases a3;have EW:=(List.getElem?_eq_some_iff.1 a1).1;obtain⟨b1,b2⟩:=S1.obj i _ a1 λe=>by cases e
     obtain⟨mX,AZ,g1,g2,g3⟩:=mw.maps _ _ b1;have hp:=IP i EW;rw[List.length_map] at g2;refine⟨mX,AZ,by rw[hp];exact g1,by rw[List.length_map];exact g2,λj hj=>?_⟩;have kP:j<es'.length:=by simpa using hj
     have:=g3 j (by simpa using kP);rw[List.getElem_map] at this|-;have b3:=List.all_eq_true.1 b2 _ (List.getElem_mem kP);rw[Bool.and_eq_true] at b3;exact⟨swap _ _ b3.1 this.1,swap _ _ b3.2 this.2⟩
 .rcases lv i hi with⟨a1,a2,a3⟩|⟨p,o,a1,a2,rfl⟩
  .have ei:(pQ φ φ1 h.next qs) i=φ i:=if_pos a1;rcases lv j hj with⟨b1,b2,b3⟩|⟨q,o',b1,b2,rfl⟩
   .have ej:(pQ φ φ1 h.next qs) j=φ j:=if_pos b1;rw[ei,ej] at e;exact hr.inj i j a3 b3 e
   .rw[ei,IP q (List.getElem?_eq_some_iff.1 b1).1] at e;exact absurd e.symm ((mw.gh _ (gho i a2 a3)).2 _ (lv1 q o' b1 b2))
  .rcases lv j hj with⟨b1,b2,b3⟩|⟨q,o',b1,b2,rfl⟩
   .have ej:(pQ φ φ1 h.next qs) j=φ j:=if_pos b1;rw[ej,IP p (List.getElem?_eq_some_iff.1 a1).1] at e;exact absurd e ((mw.gh _ (gho j b2 b3)).2 _ (lv1 p o a1 a2))
   .rw[IP p (List.getElem?_eq_some_iff.1 a1).1,IP q (List.getElem?_eq_some_iff.1 b1).1] at e;have:=mw.inj _ _ (lv1 p o a1 a2) (lv1 q o' b1 b2) e;rw[S1.inj p q o o' a1 b1 a2 b2 this]
 .refine⟨Nat.lt_of_lt_of_le (hr.gh b hb).1 hx.size,λid hl=>?_⟩;rcases lv id hl with⟨a1,a2,a3⟩|⟨i,o',a1,a2,rfl⟩
  .have ei:(pQ φ φ1 h.next qs) id=φ id:=if_pos a1;rw[ei];exact (hr.gh b hb).2 id a3
  .rw[IP i (List.getElem?_eq_some_iff.1 a1).1];exact (mw.gh b (by rw[hx.gh.1];exact .inl hb)).2 _ (lv1 i o' a1 a2)
end
end
end
end Sz
