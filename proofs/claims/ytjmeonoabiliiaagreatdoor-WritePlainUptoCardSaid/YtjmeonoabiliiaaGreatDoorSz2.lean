import Derived.Test.YtjmeonoabiliiaaGreatDoorSz1
import Derived.Laws.IdiomStrings
import Derived.LoopN
import Derived.Orders
set_option linter.all false
set_option maxHeartbeats 16000000
set_option maxRecDepth 100000
namespace Sz
open Go
section
variable {neg:Bool}{x:Operand}{o:Oper}
section
variable {P:Program}{φ:eJ}{h:af}{w:World}{fr:List AV}{a:Act}
theorem xC{t e:TypeId}(ht:P.underlying t=some (.slice e))(ad:Option Addr)(n c:Nat)(w:World):(Op.equal t (.slice ad n c) (.slice none 0 0)).run P w=.ok ad.isNone w:=by
 have h:∀d:Nat,(Op.equalIn (d+1) t (.slice ad n c) (.slice none 0 0)).run P w=.ok ad.isNone w:=λd=>by cases ad<;>simp[Op.equalIn,run_underlying ht]
 exact h 9999
theorem Mz{t e ty:TypeId}(ho:o.op=.binOp (if neg then .neq else .eql) t x (.const (.slice none 0 0)) ty)(ht:P.underlying t=some (.slice e)){ad:Option Addr}{n c:Nat}(hx:a.eval x=.slice ad n c)(w:World):
 (execOp a.eval o).run P w=.ok (.value (.bool (if neg then !ad.isNone else ad.isNone))) w:=by
 have k1:=xC ht ad n c w;have hy:a.eval (.const (.slice none 0 0))=.slice none 0 0:=rfl;have k2:eqGuard (if neg then .neq else .eql) t x (.const (.slice none 0 0)) (.slice ad n c) (.slice none 0 0)=Pure.pure ():=by cases neg<;>rfl
 have k3:∀op,op=.eql\/op=.neq->(binOp op t (.slice ad n c) (.slice none 0 0))=if op=.eql then (do pure (.bool (<-Op.equal t (.slice ad n c) (.slice none 0 0)))) else (do pure (.bool (!(<-Op.equal t (.slice ad n c) (.slice none 0 0))))):=λop dT=>by rcases dT with rfl|rfl<;>rfl
 unfold execOp;cases neg
 .simp only[Bool.false_eq_true,if_false] at ho k2|-;simp[ho,hx,hy,k2,k3 .eql (.inl rfl),k1]
 .simp only[if_true] at ho k2|-;have h3:=k3 .neq (.inr rfl);simp[ho,hx,hy,k2,h3,k1]
theorem Sf{t e ty:TypeId}(ho:o.op=.binOp (if neg then .neq else .eql) t x (.const (.slice none 0 0)) ty){x':dY}(hx:fZ x=some x')(ht:P.underlying t=some (.slice e))
 {v:AV} {h':af} (he:(match x'.ev fr with
  |.sl (_::_)=>some (AV.bool neg,h)
  |.vec _ _ (_+1) _ _=>some (.bool neg,h)
  |_=>none)=some (v,h')) (hf:FR φ h w fr a.tmps) (hr:HR φ h w):fB P (execOp a.eval o) φ h w v h':=by
 have g:=ch hx hf
 have fin:∀ad n c,a.eval x=.slice (some ad) n c->fB P (execOp a.eval o) φ h w (.bool neg) h:=λad n c hq=>by refine .pure (cv:=.bool neg) hr ?_ (.bool _);rw[Mz ho ht hq w];cases neg<;>rfl
 split at he
 .rename_i y ys e1;simp only[Option.some.injEq,Prod.mk.injEq] at he;obtain⟨rfl,rfl⟩:=he;rw[e1] at g;rcases g.tU with⟨_,_,q,_⟩|⟨b,o',cap,sz,vs,q,_⟩
  .cases q
  .exact fin _ _ _ q
 .rename_i id off n sz lb e1;simp only[Option.some.injEq,Prod.mk.injEq] at he;obtain⟨rfl,rfl⟩:=he;rw[e1] at g;obtain⟨cap,ad,q,_,hl,_,_,ha⟩:=g.kO;rw[ha (by omega)] at q;exact fin _ _ _ q
 .cases he
theorem BR{w':World}{x:Obj}(hr:HR φ h w)(hh:w'.heap=w.heap.push x)(ho:w'.os=w.os)(ht:w'.tape=w.tape)(tg:w'.output=w.output):HR φ h w'/\Ext φ h w φ h w':=by
 have e:Ext φ h w φ h w':=⟨ho,ht,tg,by rw[hh];simp,Nat.le_refl _,λ_ _=>rfl,λb hb=>⟨⟨by rw[hh];simp;have:=hb.1;omega,hb.2⟩,by rw[hh];exact getElem?_push_lt hb.1⟩,rfl,
  λb hb=>by rw[hh];exact getElem?_push_lt (hr.gh b hb).1⟩
 refine⟨⟨hr.wf,λi cs hi=>?_,λi es hi=>?_,λi j hi hj=>hr.inj i j hi hj,λb hb=>⟨by rw[hh];simp;have:=(hr.gh b hb).1;omega,(hr.gh b hb).2⟩⟩,e⟩
 .have hb:=hr.fA ⟨_,hi,λe=>by cases e⟩;exact (hr.rows i cs hi).ext e (af.dR hi) (by rw[hh];exact getElem?_push_lt hb)
 .have hb:=hr.fA ⟨_,hi,λe=>by cases e⟩;exact (hr.maps i es hi).ext e (af.dR hi) (by rw[hh];exact getElem?_push_lt hb)
theorem afr{t e:TypeId}{parts:Array (Nat×Operand)}(ho:o.op=.buildSlice t 0 parts)(hp:parts=#[])(ht:P.underlying t=some (.slice e)){i:TypeInfo}(hi:P.info? e=some i)(hr:HR φ h w):
 fB P (execOp a.eval o) φ h w .aF h:=by
 subst hp;obtain⟨r1,r2⟩:=BR (w':=w.alloc (.cells #[] e)) hr rfl rfl rfl rfl;refine⟨.slice (some ⟨w.heap.size,0,none⟩) 0 0,w.alloc (.cells #[] e),φ,.inl ?_,.aF _,r1,r2⟩;unfold execOp;simp[ho,Instr.buildSlice,run_underlying ht,jG hi,newRow,Array.range_zero',Instr.fill]
end
end
section
variable {x:Operand}{o:Oper}{x':dY}
section
variable {P:Program}{φ:eJ}{h:af}{w:World}{fr:List AV}{a:Act}
theorem OM{nx:Nat}{pr:Nat->Prop}:∀(l:List AV) (s:List UInt8) (f:Nat->Value),bytesOf l=some s->(∀j,j<l.length->RV φ nx pr w (l.getD j .undef) (f j))->
 ∃ns:List Int,(List.range l.length).map f=ns.map (Value.int .u8)/\ns.map (λn=>UInt8.ofNat n.toNat)=s:=by
 intro l
 induction l with
 |nil=>intro s f hs _;simp only[bytesOf,Option.some.injEq] at hs;subst hs;exact⟨[],rfl,rfl⟩
 |cons x r ih=>
   intro s f hs hv;have hx:=hv 0 (by simp)
   cases x with
   |int k n=>
     cases k<;>simp only[bytesOf] at hs<;>first|(cases hs;done)|skip
     obtain⟨s',h1,rfl⟩:=Option.map_eq_some_iff.1 hs
     obtain⟨ns,e1,e2⟩:=ih s' (λj=>f (j+1)) h1 λj hj=>by have:=hv (j+1) (by simpa using hj);simpa using this
     refine⟨n::ns,?_,by simp[e2]⟩;have h0:f 0=.int .u8 n:=RV.dS (by simpa using hx);rw[List.length_cons,List.range_succ_eq_map,List.map_cons,List.map_map,h0,List.map_cons,<-e1];rfl
   |_=>simp[bytesOf] at hs
theorem AH:∀(ns:List Int) (r:ByteArray),(ns.foldl (λr n=>r.push (UInt8.ofNat n.toNat)) r).data.toList=r.data.toList++ns.map λn=>UInt8.ofNat n.toNat
 |[],r=>by simp
 |n::ns,r=>by rw[List.foldl_cons,AH ns];simp[ByteArray.push]
theorem aby{s d e:TypeId}(ho:o.op=.convert s d x)(hx:fZ x=some x')(hs:P.underlying s=some .string)(hd:P.underlying d=some (.slice e))(he:P.underlying e=some (.int .u8))
 {b:List UInt8} (hv:x'.ev fr=.str b) (hf:FR φ h w fr a.tmps) (hr:HR φ h w):fB P (execOp a.eval o) φ h w (.sl (b.map λc=>.int .u8 c.toNat)) h:=by
 have g:=ch hx hf;rw[hv] at g;obtain⟨c,q1,q2⟩:=g.fS;have rG:=run_bytes_of_string (P:=P) w s d e c hs hd he;generalize hg:grownCap w c.size 0 e=cap at rG;have kI:c.size<=cap:=by rw[<-hg];exact vl _ _ _ _
 obtain⟨r1,r2⟩:=BR (w':=w.drew.alloc (.cells (bytesRow c cap) e ((bytesRow c cap).size,(bytesRow c cap).size+1))) hr rfl rfl rfl rfl;refine⟨.slice (some ⟨w.heap.size,0,none⟩) c.size cap,w.drew.alloc (.cells (bytesRow c cap) e ((bytesRow c cap).size,(bytesRow c cap).size+1)),φ,.inl ?_,?_,r1,r2⟩
 .unfold execOp;simp[ho,q1,rG]
 .have dI:(b.map λc=>AV.int .u8 c.toNat).length=c.size:=by
   rw[List.length_map,<-q2];simp
  rw[<-dI]
  have iE:(bytesRow c cap).size=cap:=by unfold bytesRow;simp;have:c.data.size=c.size:=rfl;omega
  have hc:∀i,i<b.length->(bytesRow c cap)[i]? =some (.int .u8 ((b.getD i 0).toNat:Int)):=λi hi=>by
   have iO:i<c.data.size:=by
    have h1:c.data.toList.length=b.length:=by rw[q2]
    rw[Array.length_toList] at h1;omega
   unfold bytesRow;rw[Array.getElem?_append_left (by simpa using iO)]
   have h2:b.getD i 0=c.data[i]:=by rw[<-q2,List.getD_eq_getElem?_getD,Array.getElem?_toList,Array.getElem?_eq_getElem iO,Option.getD_some]
   rw[h2,Array.getElem?_map,Array.getElem?_eq_getElem iO,Option.map_some]
  refine .sl _ w.heap.size 0 cap 1 (λi _=>.int .u8 ((b.getD i 0).toNat:Int)) ⟨?_,?_,?_⟩ (by rw[dI];exact kI) ?_ (λ_ _=>rfl) ?_ ?_ ?_
  .show w.heap.size<(w.heap.push _).size;simp
  .intro id hl e;have:=hr.fA hl;omega
  .intro DR;have:=(hr.gh _ DR).1;omega
  .have:∀l:List UInt8,AV.ah (l.map λc=>AV.int .u8 c.toNat)=0:=by
    intro l
    induction l with
    |nil=>rfl
    |cons x r ih=>simp[AV.ah,AV.aJ,ih]
   exact this b
  .intro i hi;simp[AV.cells?]
  .intro i j hi hj;have hj0:j=0:=by omega
   subst hj0;have iO:i<b.length:=by simpa using hi
   have hb:(w.drew.alloc (.cells (bytesRow c cap) e ((bytesRow c cap).size,(bytesRow c cap).size+1))).heap[w.heap.size]? =some (.cells (bytesRow c cap) e ((bytesRow c cap).size,(bytesRow c cap).size+1)):=by show (w.heap.push _)[w.heap.size]? =_;simp
   unfold World.cell?;simp only[hb,Nat.zero_add,Nat.mul_one,Nat.add_zero];exact hc i iO
  .intro i hi j hj;have iO:i<b.length:=by simpa using hi
   simp only[List.getElem_map,AV.cells] at hj|-;have hj0:j=0:=by simpa using hj
   subst hj0;have:b.getD i 0=b[i]:=by simp[List.getD,iO]
   rw[this];exact .int _ _
theorem Q5{s d e:TypeId}(ho:o.op=.convert s d x)(hx:fZ x=some x')(hs:P.underlying s=some (.slice e))(hd:P.underlying d=some .string)(he:P.underlying e=some (.int .u8))
 {n:Nat} {cs:List AV} (hv:aG h 1 (x'.ev fr)=some (n,cs)) (uX:∀s,x'.ev fr≠.str s) {b:List UInt8} (hb:bytesOf cs=some b) (hf:FR φ h w fr a.tmps) (hr:HR φ h w):fB P (execOp a.eval o) φ h w (.str b) h:=by
 have g:=ch hx hf
 have oG:∃ad cap,a.eval x=.slice ad n cap:=by
  cases hq:x'.ev fr with
  |aF=>rw[hq] at g hv;obtain⟨ad,q⟩:=g.nh;simp only[aG,Option.some.injEq,Prod.mk.injEq] at hv;exact⟨ad,0,by rw[q,<-hv.1]⟩
  |sl xs=>
    rw[hq] at g hv
    have hn:xs.length=n:=by
     simp only[aG] at hv;split at hv
     .cases hv;rfl
     .cases hv
    rcases g.tU with⟨ad,cap,e1,q⟩|⟨b,o',cap,sz,vs,q,_⟩
    .subst e1;exact⟨ad,cap,by rw[q,<-hn];rfl⟩
    .exact⟨_,cap,by rw[q,hn]⟩
  |vec id off len sz lb=>
    rw[hq] at g hv;obtain⟨cap,ad,q,_⟩:=g.kO
    have hn:len=n:=by
     simp only[aG] at hv;split at hv
     .split at hv
      .cases hv;rfl
      .cases hv
     .cases hv
    exact⟨ad,cap,by rw[q,hn]⟩
  |str s=>exact absurd hq (uX s)
  |_=>rw[hq] at hv;simp[aG] at hv
 obtain⟨ad,cap,q⟩:=oG;obtain⟨n1,f,n2,_,n4⟩:=IM (P:=P) hv g hr (by omega);rw[Nat.mul_one] at n1 n2 n4;obtain⟨ns,e1,e2⟩:=OM (φ:=φ) (w:=w) cs b f hb λj hj=>(n2 j (by omega)).1
 have hl:=n4 w rfl;rw[q] at hl;rw[n1] at e1;rw[e1] at hl;have hcv:=run_convert_bytes_string (P:=P) w s d e ad n cap hs he hd
 cases ad with
 |none=>
   simp[Builtin.firstCells] at hl
   have am7:ns=[]:=by
    cases ns with
    |nil=>rfl
    |cons _ _=>simp at hl
   subst am7;refine .pure (cv:=.string .empty) hr ?_ (.yi (by rw[<-e2];rfl));unfold execOp;simp[ho,q,hcv,Conv.bytesToString]
 |some ad=>
   simp only[Builtin.firstCells,Nat.mul_one] at hl;have hb2:=run_bytesToString (P:=P) w ad n cap ns hl;refine .pure (cv:=.string (ns.foldl (λr n=>r.push (UInt8.ofNat n.toNat)) ByteArray.empty)) hr ?_ (.yi ?_)
   .unfold execOp;simp[ho,q,hcv,hb2]
   .rw[AH,e2];rfl
theorem Gg{nx:Nat}{pr:Nat->Prop}{q q0:IntKind}{n:Int}:∀(es:List (AV×AV)) (l:List MapEntry) (i:Nat),l.length=es.length->
 (∀j (hj:j<es.length),RV φ nx pr w es[j].1 (l.getD j default).key/\RV φ nx pr w es[j].2 (l.getD j default).val)->∀r,oX 1 (.int q0 n) es=some r->
 ∃r',Instr.findNow (.int q) (.int q0 n) l i=some r'/\((r=none/\r'=none)\/∃v j cv,r=some v/\r'=some (j,cv)/\RV φ nx pr w v cv)
 |[],l,i,hl,_,r,hr=>by
   simp only[oX,Option.some.injEq] at hr
   cases l with
   |nil=>exact⟨none,rfl,.inl ⟨hr.symm,rfl⟩⟩
   |cons _ _=>simp at hl
 |(k',v')::es,[],i,hl,_,r,hr=>by simp at hl
 |(k',v')::es,e::l,i,hl,hv,r,hr=>by
   obtain⟨g1,g2⟩:=hv 0 (by simp);simp only[List.getElem_cons_zero,List.getD_cons_zero] at g1 g2;simp only[oX] at hr
   cases k' with
   |int k b=>
     have hk:=g1.dS;by_cases e1:q0=k
     .subst e1;by_cases e2:n=b
      .subst e2;simp only[iC,if_true,decide_true,Option.some.injEq] at hr;refine⟨some (i,e.val),by simp[Instr.findNow,Instr.sameNow,hk],.inr ⟨v',i,e.val,hr.symm,rfl,g2⟩⟩
      .simp only[iC,if_true,decide_eq_false e2] at hr
       obtain⟨r',h1,h2⟩:=Gg (q:=q) es l (i+1) (by simpa using hl) (λj hj=>by have:=hv (j+1) (by simpa using hj);simpa using this) r hr
       have e3:(n==b)=false:=by simpa using e2
       exact⟨r',by simp[Instr.findNow,Instr.sameNow,hk,e3,h1],h2⟩
     .simp[iC,e1] at hr
   |_=>simp[iC] at hr
def aid(ok:Bool)(z:AV):Option AV->AV
 |some v=>if ok then .tuple [v,.bool true] else v
 |none=>if ok then .tuple [z,.bool false] else z
theorem Eu{id:Nat}{es:List (AV×AV)}(h1:h.iq id=some es):h.get id=some (.map es):=by
 unfold af.iq at h1;split at h1
 .rename_i h2;cases h1;exact h2
 .cases h1
theorem agh{t kt e:TypeId}{q:IntKind}{m k:Operand}{ok:Bool}(ho:o.op=.lookup t m k ok){m' k':dY}(hm:fZ m=some m')(hk:fZ k=some k')
 (ht:P.underlying t=some (.map kt e)) (hq:P.underlying kt=some (.int q)) {z:AV} (hz:zeroV P e=some z) {es:List (AV×AV)} (VF:(m'.ev fr=.kq/\es=[])\/∃id,m'.ev fr=.map id/\h.iq id=some es)
 {r:Option AV} (hl:oX 1 (k'.ev fr) es=some r) (hkv:(∃q0 n,k'.ev fr=.int q0 n)\/es=[]) (hf:FR φ h w fr a.tmps) (hr:HR φ h w):
 fB P (execOp a.eval o) φ h w (aid ok z r) h:=by
 have g1:=ch hm hf;have g2:=ch hk hf;obtain⟨zv,hz1,hz2⟩:=Option.bind_eq_some_iff.1 hz;obtain⟨inf,hi,Kx⟩:=Option.bind_eq_some_iff.1 hz1;have hzr:fe φ h w z zv:=Ed hz2
 have pair:∀(v:AV) (cv:Value) (b:Bool),fe φ h w v cv->fe φ h w (if ok then .tuple [v,.bool b] else v) (if ok then .tuple #[cv,.bool b] else cv):=λv cv b hv=>by
  cases ok with
  |false=>exact hv
  |true=>
    refine .tuple _ _ rfl λj hj=>?_
    match j,hj with
    |0,_=>exact hv
    |1,_=>exact .bool b
 generalize hkc:a.eval k=kc at g2
 have hck:∀em,(Instr.checkKey em 10000 kt kc).run P w=.ok () w:=λem=>by unfold Instr.checkKey;simp[run_underlying hq]
 have ajJ:∀l:List MapEntry,l.length=es.length->(∀j (hj:j<es.length),fe φ h w es[j].1 (l.getD j default).key/\fe φ h w es[j].2 (l.getD j default).val)->
  ∃r',Instr.findNow (.int q) kc l 0=some r'/\((r=none/\r'=none)\/∃v j cv,r=some v/\r'=some (j,cv)/\fe φ h w v cv):=λl dI yN=>by
  rcases hkv with⟨q0,n,e1⟩|rfl
  .rw[e1] at g2 hl;rw[g2.dS];exact Gg (q:=q) es l 0 dI yN r hl
  .simp only[oX,Option.some.injEq] at hl
   cases l with
   |nil=>exact⟨none,rfl,.inl ⟨hl.symm,rfl⟩⟩
   |cons _ _=>simp at dI
 have fin:∀(l:List MapEntry) (mo:Option Nat),a.eval m=.map mo->(∃ZM:Array MapEntry,ZM.toList=l/\(match mo with|none=>ZM=#[]|some b=>∃pB,w.heap[b]? =some (.map ZM pB)))->l.length=es.length->
  (∀j (hj:j<es.length),fe φ h w es[j].1 (l.getD j default).key/\fe φ h w es[j].2 (l.getD j default).val)->
  fB P (execOp a.eval o) φ h w (aid ok z r) h:=λl mo hmo VH dI yN=>by
  obtain⟨r',f1,f2⟩:=ajJ l dI yN;obtain⟨ZM,am9,VH⟩:=VH
  have hfk:(Instr.findKey kt kc ZM.toList).run P w=.ok r' w:=by unfold Instr.findKey;rw[am9];simp[run_underlying hq,f1]
  rcases f2 with⟨rfl,rfl⟩|⟨v,j,cv,rfl,rfl,hv⟩
  .refine .pure (cv:=if ok then .tuple #[zv,.bool false] else zv) hr ?_ (by cases ok<;>exact pair z zv false hzr);unfold execOp
   cases mo with
   |none=>subst VH;simp[ho,hmo,hkc,Instr.lookup,run_underlying ht,hck,hfk,zeroValue,typeInfo,hi,Kx]
   |some b=>
     obtain⟨pB,hb⟩:=VH;have hg:(getObj b).run P w=.ok (.map ZM pB) w:=by simp[getObj,Sem.run,hb]
     simp[ho,hmo,hkc,Instr.lookup,run_underlying ht,hg,hck,hfk,zeroValue,typeInfo,hi,Kx]
  .refine .pure (cv:=if ok then .tuple #[cv,.bool true] else cv) hr ?_ (by cases ok<;>exact pair v cv true hv);unfold execOp
   cases mo with
   |none=>subst VH;simp[ho,hmo,hkc,Instr.lookup,run_underlying ht,hck,hfk]
   |some b=>
     obtain⟨pB,hb⟩:=VH;have hg:(getObj b).run P w=.ok (.map ZM pB) w:=by simp[getObj,Sem.run,hb]
     simp[ho,hmo,hkc,Instr.lookup,run_underlying ht,hg,hck,hfk]
 rcases VF with⟨e1,rfl⟩|⟨id,e1,e2⟩
 .rw[e1] at g1;exact fin [] none g1.Ah ⟨#[],rfl,rfl⟩ rfl λj hj=>by simp at hj
 .rw[e1] at g1;obtain⟨gn,pB,m1,m2,m3⟩:=hr.maps id es (Eu e2);refine fin gn.toList (some (φ id).gA) g1.uo.1 ⟨gn,rfl,pB,m1⟩ (by simpa using m2) λj hj=>?_
  have:=m3 j hj;simpa[Array.getD_eq_getD_getElem?,List.getD] using this
end
end
section
variable {n:Int}{o:Oper}{b:Nat}
section
variable {P:Program}{φ:eJ}{h:af}{w:World}{fr:List AV}{a:Act}
theorem J7(h0:0<=n)(h1:n<128):Utf8.encode n=⟨#[UInt8.ofNat n.toNat]⟩:=by
 have hv:Utf8.valid n=true:=by unfold Utf8.valid;simp;omega
 unfold Utf8.encode;simp only[hv,if_true];rw[if_pos (by omega)]
theorem ab6{s d:TypeId}{x:Operand}(ho:o.op=.convert s d x){x':dY}(hx:fZ x=some x'){k0:IntKind}(hs:P.underlying s=some (.int k0))(hd:P.underlying d=some .string)
 {k':IntKind} (hv:x'.ev fr=.int k' n) (h0:0<=n) (h1:n<128) (hf:FR φ h w fr a.tmps) (hr:HR φ h w):fB P (execOp a.eval o) φ h w (.str [UInt8.ofNat n.toNat]) h:=by
 have g:=ch hx hf;rw[hv] at g;exact .pure (cv:=.string (Utf8.encode n)) hr (by unfold execOp;simp[ho,g.dS,convert,run_underlying hs,run_underlying hd,Conv.intToString]) (.yi (by rw[J7 h0 h1]))
def OQ(w:World)(b:Nat)(o:Obj):World:={w with heap:=w.heap.setIfInBounds b o}
theorem UJ{w:World}{o:Obj}(hb:b<w.heap.size):(OQ w b o).heap[b]? =some o:=by unfold OQ;simp[hb]
theorem P2{w:World}{c:Nat}{o:Obj}(hb:c≠b):(OQ w b o).heap[c]? =w.heap[c]?:=by unfold OQ;simp[Array.getElem?_setIfInBounds_ne (λe=>hb e.symm)]
theorem Sa{nx:Nat}{pr:Nat->Prop}{q:IntKind}{k v:AV}{kc:Value}(hk:RV φ nx pr w k kc):∀(es:List (AV×AV)) (l:List MapEntry) (i:Nat),l.length=es.length->
 (∀j (hj:j<es.length),RV φ nx pr w es[j].1 (l.getD j default).key)->∀uW,vP 1 k v es=some uW->
 (Instr.findNow (.int q) kc l i=some none/\uW=es++[(k,v)])\/
 ∃j cv,Instr.findNow (.int q) kc l i=some (some (i+j,cv))/\j<es.length/\(l.getD j default).key=kc/\(∃q0 n,kc=.int q0 n)/\uW=es.set j (k,v)
 |[],l,i,hl,_,uW,hr=>by
   simp only[vP,Option.some.injEq] at hr
   cases l with
   |nil=>exact .inl ⟨rfl,hr.symm⟩
   |cons _ _=>simp at hl
 |(k',v')::es,[],i,hl,_,uW,hr=>by simp at hl
 |(k',v')::es,e::l,i,hl,hv,uW,hr=>by
   have g1:=hv 0 (by simp);simp only[List.getElem_cons_zero,List.getD_cons_zero] at g1;simp only[vP] at hr
   cases k with
   |int q0 n=>
     have hkc:=hk.dS
     cases k' with
     |int k1 b=>
       have hk1:=g1.dS;by_cases e1:q0=k1
       .subst e1;by_cases e2:n=b
        .subst e2;simp only[iC,if_true,decide_true,Option.some.injEq] at hr;exact .inr ⟨0,e.val,by simp[Instr.findNow,Instr.sameNow,hk1,hkc],by simp,by simp[hk1,hkc],⟨_,_,hkc⟩,by simp[<-hr]⟩
        .simp only[iC,if_true,decide_eq_false e2] at hr;obtain⟨r,h1,rfl⟩:=Option.map_eq_some_iff.1 hr;have e3:(n==b)=false:=by simpa using e2
         rcases Sa (q:=q) hk es l (i+1) (by simpa using hl) (λj hj=>by have:=hv (j+1) (by simpa using hj);simpa using this) r h1 with⟨f1,rfl⟩|⟨j,cv,f1,f2,f3,f4,rfl⟩
         .exact .inl ⟨by subst hkc;simp[Instr.findNow,Instr.sameNow,hk1,e3,f1],rfl⟩
         .exact .inr ⟨j+1,cv,by subst hkc;simp[Instr.findNow,Instr.sameNow,hk1,e3,f1];omega,by simpa using f2,by simpa using f3,f4,by simp⟩
       .simp[iC,e1] at hr
     |_=>simp[iC] at hr
   |_=>cases k'<;>simp[iC] at hr
theorem aeS{t kt e:TypeId}{q:IntKind}{m k v:Operand}(ho:o.op=.mapUpdate t m k v){m' k' v':dY}(hm:fZ m=some m')(hk:fZ k=some k')(hv:fZ v=some v')
 (ht:P.underlying t=some (.map kt e)) (hq:P.underlying kt=some (.int q)) {id:Nat} (bX:m'.ev fr=.map id) {es uW:List (AV×AV)} (VF:h.iq id=some es)
 (hu:vP 1 (k'.ev fr) (v'.ev fr) es=some uW) (hf:FR φ h w fr a.tmps) (hr:HR φ h w):
 fB P (execOp a.eval o) φ h w .undef (((h.set id (.map uW)).mark id (v'.ev fr)).mark id (k'.ev fr)):=by
 have g0:=ch hm hf;have g1:=ch hk hf;have g2:=ch hv hf;rw[bX] at g0;have hmv:=g0.uo.1;have hg:=Eu VF;obtain⟨gn,pB,m1,m2,m3⟩:=hr.maps id es hg
 have hck:∀em,(Instr.checkKey em 10000 kt (a.eval k)).run P w=.ok () w:=λem=>by unfold Instr.checkKey;simp[run_underlying hq]
 have hgo:(getObj (φ id).gA).run P w=.ok (.map gn pB) w:=by simp[getObj,Sem.run,m1]
 -- behind the write
 have fin:∀(Gk:Array MapEntry) (acE:Nat),Gk.size=uW.length->
  (∀j (hj:j<uW.length),fe φ h w uW[j].1 (Gk.getD j default).key/\fe φ h w uW[j].2 (Gk.getD j default).val)->
  (Instr.mapUpdate t (a.eval m) (a.eval k) (a.eval v)).run P w=.ok () (OQ w (φ id).gA (.map Gk acE))->
  fB P (execOp a.eval o) φ h w .undef (((h.set id (.map uW)).mark id (v'.ev fr)).mark id (k'.ev fr)):=λGk acE dI yN rG=>by
  have cY:(φ id).gA<w.heap.size:=hr.fA ⟨_,hg,λe=>by cases e⟩;obtain⟨t1,t2⟩:=L5 (w':=OQ w (φ id).gA (.map Gk acE)) (o':=.map uW) hr hg (λe=>by cases e) (by simp[OQ]) (λb hb=>P2 hb) rfl rfl rfl
  have AO:=t2 (λcs e=>by cases e) λes2 e=>by cases e;exact⟨Gk,acE,UJ cY,dI,λj hj=>⟨(yN j hj).1.ext t1,(yN j hj).2.ext t1⟩⟩
  obtain⟨n1,n2⟩:=AO.mark id (v'.ev fr);obtain⟨n3,n4⟩:=n1.mark id (k'.ev fr);refine⟨undef,_,φ,.inr ⟨?_,rfl⟩,.undef _,n3,(t1.trans n2).trans n4⟩;unfold execOp;simp[ho,rG]
 rcases Sa (q:=q) g1 es gn.toList 0 (by simpa using m2) (λj hj=>by have:=(m3 j hj).1;simpa[Array.getD_eq_getD_getElem?,List.getD] using this) uW hu with⟨f1,rfl⟩|⟨j,cv,f1,f2,f3,⟨q0,n,f4⟩,rfl⟩
 .refine fin (gn.push {key:=a.eval k,val:=a.eval v,born:=pB}) (pB+1) (by simp[m2]) (λj hj=>?_) ?_
  .by_cases hl:j<es.length
   .have:=m3 j hl
    have e1:(gn.push {key:=a.eval k,val:=a.eval v,born:=pB}).getD j default=gn.getD j default:=by
     have:j<gn.size:=by omega
     rw[Array.getD_eq_getD_getElem?,Array.getD_eq_getD_getElem?,Array.getElem?_push_lt this,Array.getElem?_eq_getElem this]
    rw[e1];simpa[hl] using this
   .have jC:j=es.length:=by simp at hj;omega
    subst jC
    have e1:(gn.push {key:=a.eval k,val:=a.eval v,born:=pB}).getD es.length default={key:=a.eval k,val:=a.eval v,born:=pB}:=by rw[Array.getD_eq_getD_getElem?,<-m2];simp
    rw[e1];simpa using ⟨g1,g2⟩
  .have hfk:(Instr.findKey kt (a.eval k) gn.toList).run P w=.ok none w:=by
    unfold Instr.findKey;simp[run_underlying hq,f1]
   simp[Instr.mapUpdate,run_underlying ht,hmv,hgo,hck,hfk,setObj,Sem.run];rw[show φ.at_ id=φ id from rfl,m1];rfl
 .have Gj:j<gn.size:=by omega
  rw[Nat.zero_add] at f1
  have ana:(gn[j]).key=a.eval k:=by have:=f3;simpa[List.getD,Gj] using this
  refine fin (gn.modify j λe=>{e with key:=a.eval k,val:=a.eval v}) pB (by simp[m2]) (λi hi=>?_) ?_
  .have iO:i<es.length:=by simpa using hi
   have hie:i<gn.size:=by omega
   by_cases uA:i=j
   .subst uA
    have e1:(gn.modify i λe=>{e with key:=a.eval k,val:=a.eval v}).getD i default={gn[i] with key:=a.eval k,val:=a.eval v}:=by rw[Array.getD_eq_getD_getElem?,Array.getElem?_eq_getElem (by simpa using hie),Array.getElem_modify_self];rfl
    rw[e1];simpa using ⟨g1,g2⟩
   .have e1:(gn.modify j λe=>{e with key:=a.eval k,val:=a.eval v}).getD i default=gn.getD i default:=by
     rw[Array.getD_eq_getD_getElem?,Array.getD_eq_getD_getElem?,Array.getElem?_eq_getElem (by simpa using hie),Array.getElem_modify_of_ne (λe=>uA e.symm),Array.getElem?_eq_getElem hie]
    rw[e1];have:=m3 i iO;rw[List.getElem_set_ne (λe=>uA e.symm)];exact this
  .have hfk:(Instr.findKey kt (a.eval k) gn.toList).run P w=.ok (some (j,cv)) w:=by
    unfold Instr.findKey;simp[run_underlying hq,f1]
   have qS:(Instr.keyThatStays (a.eval k) (a.eval k)).run P w=.ok (a.eval k) w:=by unfold Instr.keyThatStays;rw[f4];simp[Instr.sameBits]
   simp[Instr.mapUpdate,run_underlying ht,hmv,hgo,hck,hfk,Gj,ana,qS,setObj,Sem.run];rw[show φ.at_ id=φ id from rfl,m1];rfl
end
end
section
variable {o:Oper}
section
variable {P:Program}{φ:eJ}{h:af}{w:World}{fr:List AV}{a:Act}
theorem vO:∀{l:List AV} {s:List UInt8},bytesOf l=some s->∀i (hi:i<l.length),∃n,l[i]=.int .u8 n
 |[],_,_,i,hi=>by simp at hi
 |x::r,s,h,i,hi=>by
   cases x with
   |int k n=>
     cases k<;>simp only[bytesOf] at h<;>first|(cases h;done)|skip
     obtain⟨s',h1,rfl⟩:=Option.map_eq_some_iff.1 h
     cases i with
     |zero=>exact⟨n,rfl⟩
     |succ i=>exact vO h1 i (by simpa using hi)
   |_=>simp[bytesOf] at h
theorem aee{t e:TypeId}{len:Nat}{parts:Array (Nat×Operand)}(ho:o.op=.buildSlice t len parts)(ht:P.underlying t=some (.slice e)){i:TypeInfo}(hi:P.info? e=some i)
 {z:List AV} (hz:oY P e=some z) {ps:List (Nat×dY)} (AL:dP (λp:Nat×Operand=>(fZ p.2).map λx=>(p.1,x)) parts.toList=some ps) (h1:i.size=1) (dI:len<=2^24) (CP:z.length=1) {cs:List AV}
 (he:nf ((List.range (len*1)).map λj=>z.getD (j%1) .undef) (ps.map λp=>(p.1*1,1,p.2.ev fr))=some cs) {b:List UInt8} (hb:bytesOf cs=some b) (hf:FR φ h w fr a.tmps) (hr:HR φ h w):
 fB P (execOp a.eval o) φ h w (.sl cs) h:=by
 obtain⟨i',zv,iO,Kx,k1,k2,k3⟩:=pK (φ:=φ) hz;obtain rfl:i=i':=by rw[hi] at iO;exact Option.some.inj iO
 have g1:=oi AL;rw[<-h1] at he;have apB:=CP;have aoK:=dI;replace CP:z.length=i.size:=by omega
 replace dI:len*i.size<=2^24:=by rw[h1];omega
 let zz:Array Value:=if len*i.size=0 then #[] else zv.cells
 have ZF:tK φ h.next (Pr φ h w) w ((List.range (len*i.size)).map λj=>z.getD (j%i.size) .undef) ((Array.range (len*i.size)).map (zz[· % zz.size]!)):=by
  refine⟨by simp,λj=>?_,λj hj=>?_⟩
  .by_cases hj:j<len*i.size
   .have lP:0<i.size:=Nat.pos_of_ne_zero λe=>by simp[e] at hj
    have ZG:zz=zv.cells:=if_neg (by omega);have hm:j%i.size<i.size:=Nat.mod_lt _ lP;have:=k2 (j%i.size);simp only[ZG,k1,CP];simpa[Array.getD,hj,k1,CP,hm] using this
   .simp[Array.getD,hj];rfl
  .have jC:j<len*i.size:=by simpa using hj
   have lP:0<i.size:=Nat.pos_of_ne_zero λe=>by simp[e] at jC
   have ZG:zz=zv.cells:=if_neg (by omega);have hm:j%i.size<z.length:=by rw[CP];exact Nat.mod_lt _ lP
   have:=k3 h.next (Pr φ h w) w (j%i.size) hm
   simp only[ZG,k1,CP];have hm':j%i.size<i.size:=by omega
   simpa[Array.getD,jC,k1,CP,hm,hm',List.getD] using this
 obtain⟨c',e1,e2,e3,e4⟩:=Dq (φ:=φ) (nx:=h.next) (pr:=Pr φ h w) (w:=w) (λk=>some (k*i.size,i.size)) (ps.map λp=>(p.1*i.size,i.size,p.2.ev fr)) ((parts.map λ(i,x)=>(i,a.eval x)).toList) _ _ cs ZF
  (by simp[g1]) (λj hj jC=>by
   have VE:j<ps.length:=by simpa using hj
   have DO:j<parts.toList.length:=by simpa using jC
   have q:=mj AL j DO VE;obtain⟨x',q1,q2⟩:=Option.map_eq_some_iff.1 q;have q3:=ch q1 hf;have q4:ps[j]=((parts.toList[j]).1,x'):=q2.symm;exact⟨by simp[q4],by simpa[q4] using q3⟩) he
 have dq:cs.length=len:=by
  have:c'.size=len*i.size:=by have:=lQ _ _ _ _ e1;simpa using this
  rw[h1,Nat.mul_one] at this;omega
 obtain⟨r1,r2⟩:=BR (w':=w.alloc (.cells c' e)) hr rfl rfl rfl rfl;refine⟨.slice (some ⟨w.heap.size,0,none⟩) len len,w.alloc (.cells c' e),φ,.inl ?_,?_,r1,r2⟩
 .unfold execOp;have amV:¬(len*i.size > 2^24):=by rw[h1];omega
  by_cases h0:len*i.size=0
  .simp only[zz,h0,if_true] at e1;have NY:¬(16777216<len*i.size):=by omega
   simp[Array.range_zero'] at e1;simp[ho,Instr.buildSlice,run_underlying ht,jG hi,h0,newRow,Array.range_zero',e1]
  .simp only[zz,h0,if_false] at e1;have NY:¬(16777216<len*i.size):=by omega
   simp at e1;simp[ho,Instr.buildSlice,run_underlying ht,jG hi,zeroValue,typeInfo,hi,Kx,NY,h0,newRow,e1]
 .have nQ:c'.size=cs.length:=by
   have:c'.size=len*i.size:=by have:=lQ _ _ _ _ e1;simpa using this
   rw[this,h1,dq];omega
  have hint:∀k (hk:k<cs.length),∃n,cs[k]=.int .u8 n/\c'.getD k default=.int .u8 n:=λk hk=>by obtain⟨n,e⟩:=vO hb k hk;have:=e4 k hk;rw[e] at this;exact⟨n,e,this.dS⟩
  rw[<-dq];refine .sl _ w.heap.size 0 cs.length 1 (λk _=>c'.getD k default) ⟨?_,?_,?_⟩ (Nat.le_refl _) ?_ (λk _=>e3 k) ?_ ?_ ?_
  .show w.heap.size<(w.heap.push _).size;simp
  .intro id hl e;have:=hr.fA hl;omega
  .intro DR;have:=(hr.gh _ DR).1;omega
  .have:∀{l:List AV} {s:List UInt8},bytesOf l=some s->AV.ah l=0:=by
    intro l
    induction l with
    |nil=>intro s _;rfl
    |cons x r ih=>
      intro s h
      cases x with
      |int k n=>
        cases k<;>simp only[bytesOf] at h<;>first|(cases h;done)|skip
        obtain⟨s',h1,rfl⟩:=Option.map_eq_some_iff.1 h;simp[AV.ah,AV.aJ,ih h1]
      |_=>simp[bytesOf] at h
   exact this hb
  .intro k hk;obtain⟨n,e,_⟩:=hint k hk;rw[e];rfl
  .intro k j hk hj;have hj0:j=0:=by omega
   subst hj0
   have hb:(w.alloc (.cells c' e)).heap[w.heap.size]? =some (.cells c' e):=by show (w.heap.push _)[w.heap.size]? =_;simp
   unfold World.cell?;simp only[hb,Nat.zero_add,Nat.mul_one,Nat.add_zero];rw[Array.getD_eq_getD_getElem?,Array.getElem?_eq_getElem (by omega)];rfl
  .intro k hk j hj;obtain⟨n,e,e'⟩:=hint k hk;simp only[e,AV.cells] at hj|-;have hj0:j=0:=by simpa using hj
   subst hj0;rw[e'];exact .int _ _
theorem aco{s d e:TypeId}{x:Operand}(ho:o.op=.convert s d x){x':dY}(hx:fZ x=some x')(hs:P.underlying s=some (.slice e))(hd:P.underlying d=some .string)(he:P.underlying e=some (.int .u8))
 {cs:List AV} (hv:x'.ev fr=.sl cs) {b:List UInt8} (hb:bytesOf cs=some b) (hf:FR φ h w fr a.tmps) (hr:HR φ h w):fB P (execOp a.eval o) φ h w (.str b) h:=by
 have iF:cs.all (λx=>(x.cells?.map List.length)==some 1)=true:=by rw[List.all_eq_true];intro x hx;obtain⟨i,hi,rfl⟩:=List.getElem_of_mem hx;obtain⟨n,e⟩:=vO hb i hi;rw[e];rfl
 have DS:∀{l:List AV} {s:List UInt8},bytesOf l=some s->l.flatMap AV.cells=l:=by
  intro l
  induction l with
  |nil=>intro s _;rfl
  |cons x r ih=>
    intro s h
    cases x with
    |int k n=>
      cases k<;>simp only[bytesOf] at h<;>first|(cases h;done)|skip
      obtain⟨s',h1,rfl⟩:=Option.map_eq_some_iff.1 h;rw[List.flatMap_cons,ih h1];rfl
    |_=>simp[bytesOf] at h
 refine Q5 ho hx hs hd he (n:=cs.length) (cs:=cs) ?_ (λs=>by rw[hv];exact λh=>by cases h) hb hf hr;rw[hv];simp only[aG];rw[if_pos iF,DS hb]
end
end
section
variable {o:Oper}{DT:B6}
section
variable {P:Program}{φ:eJ}{h:af}{w:World}{fr:List AV}{a:Act}
theorem aeX{v:AV}{h':af}(hc:dt P o.op=some DT)(he:bG fr h DT=some (v,h'))(hf:FR φ h w fr a.tmps)(hr:HR φ h w):fB P (execOp a.eval o) φ h w v h':=by
 cases dT:o.op with
 |move x=>rw[dT] at hc;simp only[dt,Option.map_eq_some_iff] at hc;obtain⟨x',hx,rfl⟩:=hc;simp only[bG,Option.some.injEq,Prod.mk.injEq] at he;obtain⟨rfl,rfl⟩:=he;exact X6 (.inl dT) hx hf hr
 |assign x=>rw[dT] at hc;simp only[dt,Option.map_eq_some_iff] at hc;obtain⟨x',hx,rfl⟩:=hc;simp only[bG,Option.some.injEq,Prod.mk.injEq] at he;obtain⟨rfl,rfl⟩:=he;exact X6 (.inr dT) hx hf hr
 |pick c x y=>
   rw[dT] at hc;simp only[dt] at hc;split at hc
   .rename_i c' x' y' h1 h2 h3;cases hc;simp only[bG] at he;split at he
    .rename_i b hb;cases he;exact aas dT h1 h2 h3 hb hf hr
    .cases he
   .cases hc
 |alloc t=>rw[dT] at hc;simp only[dt,Option.map_eq_some_iff] at hc;obtain⟨z,hz,rfl⟩:=hc;simp only[bG,dY.ev,AV.cells?,Option.some.injEq,Prod.mk.injEq] at he;obtain⟨rfl,rfl⟩:=he;exact Wb dT hz hr
 |box t x=>
   rw[dT] at hc;simp only[dt,Option.map_eq_some_iff] at hc;obtain⟨x',hx,rfl⟩:=hc;simp only[bG] at he;split at he
   .rename_i cs nQ;cases he;exact afl dT hx nQ hf hr
   .cases he
 |build t parts=>
   rw[dT] at hc;simp only[dt] at hc;split at hc
   .rename_i fs z h1 h2;split at hc
    .rename_i places h3;obtain⟨ps,AL,rfl⟩:=Option.map_eq_some_iff.1 hc;simp only[bG,Option.map_eq_some_iff] at he;obtain⟨cs,nQ,e⟩:=he;cases e;exact aeC dT h1 h2 h3 AL nQ hf hr
    .cases hc
   .cases hc
 |buildSlice t len parts=>
   rw[dT] at hc;simp only[dt] at hc;split at hc
   .rename_i h0;split at hc
    .rename_i e h1;obtain⟨i,hi,rfl⟩:=Option.map_eq_some_iff.1 hc;simp only[bG,Option.some.injEq,Prod.mk.injEq] at he;obtain⟨rfl,rfl⟩:=he;obtain⟨rfl,hp⟩:=h0;exact afr dT (by simpa using hp) h1 hi hr
    .cases hc
   split at hc
   .rename_i e h1;split at hc
    .rename_i i z ps h2 h3 h4;split at hc
     .rename_i h5;cases hc;simp only[bG,Option.map_eq_some_iff] at he;obtain⟨cs,nQ,e⟩:=he;cases e;exact agc dT h1 h2 h3 h4 h5.1 h5.2 nQ hf hr
     .cases hc
    .cases hc
   .cases hc
 |load t x=>
   rw[dT] at hc;simp only[dt] at hc;split at hc
   .rename_i x' n h1 h2;cases hc;simp only[bG,Option.map_eq_some_iff] at he;obtain⟨v',hv,e⟩:=he;cases e;exact ah3 dT h1 h2 hv hf hr
   .cases hc
 |store t x y=>
   rw[dT] at hc;simp only[dt] at hc;split at hc
   .rename_i x' y' i h1 h2 h3;cases hc;simp only[bG] at he;split at he
    .rename_i id off vs h4 h5;split at he
     .rename_i cs h6;split at he
      .rename_i h7;cases he;exact aiZ dT h1 h2 h3 h4 h5 h6 h7.1 h7.2 hf hr
      .cases he
     .cases he
    .cases he
   .cases hc
 |nilCheck x=>
   rw[dT] at hc;simp only[dt,Option.map_eq_some_iff] at hc;obtain⟨x',hx,rfl⟩:=hc;simp only[bG] at he;split at he
   .rename_i hn;cases he;exact aeb dT hx hn hf hr
   .cases he
 |binOp op t x y ty=>
   rw[dT] at hc;simp only[dt,R6] at hc;split at hc
   .rename_i x' y' h1 h2
    have acF:∀k,wv op k x' y' y=some DT->((k=0/\∃e,P.underlying t=some (.pointer e))\/(k=1/\∃ms,P.underlying t=some (.interface ms))\/(k=2/\∃ps rs v,P.underlying t=some (.func ps rs v))\/(k=3/\∃kk e,P.underlying t=some (.map kk e)))->
     fB P (execOp a.eval o) φ h w v h':=λk hk ht=>by
     unfold wv at hk;split at hk
     .rename_i Oi
      have key:∀neg,o.op=.binOp (if neg then .neq else .eql) t x y ty->DT=.peq k neg x' y'->fB P (execOp a.eval o) φ h w v h':=λneg ho ha=>by
       subst ha;simp only[bG] at he;split at he
       .rename_i p h4 h5;cases he;exact af4 ho h1 h2 Oi ht h4 h5 hf hr
       .cases he
      split at hk
      .cases hk;exact key false dT rfl
      .cases hk;exact key true dT rfl
      .cases hk
     .cases hk
    split at hc
    .rename_i k hk;cases hc;simp only[bG,Option.map_eq_some_iff] at he;obtain⟨v',hv,e⟩:=he;cases e;exact Wm dT h1 h2 hv hf hr
    .rename_i hk;cases hc;simp only[bG,Option.map_eq_some_iff] at he;obtain⟨v',hv,e⟩:=he;cases e;exact Wm dT h1 h2 hv hf hr
    .rename_i ht
     have key:∀neg,o.op=.binOp (if neg then .neq else .eql) t x y ty->DT=.beq neg x' y'->fB P (execOp a.eval o) φ h w v h':=λneg ho ha=>by
      subst ha;simp only[bG] at he;split at he
      .rename_i b1 b2 h4 h5;cases he;exact afI ho h1 h2 ht h4 h5 hf hr
      .cases he
     split at hc
     .cases hc;exact key false dT rfl
     .cases hc;exact key true dT rfl
     .cases hc
    .rename_i fs ht;split at hc
     .rename_i ks hks;split at hc
      .rename_i hg
       have key:∀neg,o.op=.binOp (if neg then .neq else .eql) t x y ty->DT=.ceq ks neg x' y'->fB P (execOp a.eval o) φ h w v h':=λneg ho ha=>by
        subst ha;simp only[bG] at he;split at he
        .rename_i l m h4 h5;obtain⟨r,N1,e⟩:=Option.map_eq_some_iff.1 he;cases e;exact afM ho h1 h2 ht hks hg.1 hg.2 h4 h5 N1 hf hr
        .cases he
       split at hc
       .cases hc;exact key false dT rfl
       .cases hc;exact key true dT rfl
       .cases hc
      .cases hc
     .cases hc
    .rename_i e ht;exact acF 0 hc (.inl ⟨rfl,e,ht⟩)
    .rename_i e ht;exact acF 1 hc (.inr (.inl ⟨rfl,e,ht⟩))
    .rename_i p1 p2 p3 ht;exact acF 2 hc (.inr (.inr (.inl ⟨rfl,p1,p2,p3,ht⟩)))
    .rename_i p1 p2 ht;exact acF 3 hc (.inr (.inr (.inr ⟨rfl,p1,p2,ht⟩)))
    .rename_i e ht;split at hc
     .cases hc;simp only[bG] at he;exact Sf (neg:=false) dT h1 ht he hf hr
     .cases hc;simp only[bG] at he;exact Sf (neg:=true) dT h1 ht he hf hr
     .cases hc
    .cases hc
   .cases hc
 |unOp op t x=>
   rw[dT] at hc;simp only[dt,Option.map_eq_some_iff] at hc;obtain⟨x',hx,rfl⟩:=hc
   have key:∀v',(match (generalizing:=false) op,x'.ev fr with
    |.not,.bool b=>some (AV.bool (!b))
    |.neg,.int k n=>some (.int k (k.wrap (0-n)))
    |.xor,.int k n=>some (.int k (H0 .xor k (if k.signed then -1 else k.max) n))
    |_,_=>none)=some v'->v=v'->h'=h->fB P (execOp a.eval o) φ h w v h':=λv' hv e1 e2=>by
    subst e1 e2;exact ajk dT hx hv hf hr
   simp only[bG] at he;split at he
   .rename_i b hb;cases he;exact key _ (by rw[hb]) rfl rfl
   .rename_i k n hb;cases he;exact key _ (by rw[hb]) rfl rfl
   .rename_i k n hb;cases he;exact key _ (by rw[hb]) rfl rfl
   .cases he
 |convert s d x=>
   rw[dT] at hc;simp only[dt,Ma] at hc;split at hc
   .rename_i x' k0 k h1 h2 h3;cases hc;simp only[bG] at he;split at he
    .rename_i k' n h4;cases he;exact ad2 dT h1 h2 h3 h4 hf hr
    .cases he
   .rename_i x' k0 h1 h2 h3;cases hc;simp only[bG] at he;split at he
    .rename_i k' n h4;split at he
     .rename_i h5;cases he;exact ab6 dT h1 h2 h3 h4 h5.1 h5.2 hf hr
     .cases he
    .cases he
   .rename_i x' h1 h2 h3;cases hc;simp only[bG] at he;split at he
    .rename_i s h4;cases he;exact abZ dT h1 h2 h3 h4 hf hr
    .cases he
   .rename_i x' e h1 h2 h3;split at hc
    .rename_i h5;cases hc;simp only[bG] at he;split at he
     .rename_i s h4;cases he;exact aby dT h1 h2 h3 h5 h4 hf hr
     .cases he
    .cases hc
   .rename_i x' e h1 h2 h3;split at hc
    .rename_i h5;cases hc;simp only[bG] at he;split at he
     .cases he
     .rename_i n cs h4 h6;obtain⟨s,h7,e⟩:=Option.map_eq_some_iff.1 he;cases e;exact Q5 dT h1 h2 h3 h5 h4 h6 h7 hf hr
     .cases he
    .cases hc
   .cases hc
 |makeInterface t x=>
   rw[dT] at hc;simp only[dt] at hc;split at hc
   .cases hc
   .rename_i x' d h1 h2 h3;cases hc;simp only[bG,Option.some.injEq,Prod.mk.injEq] at he;obtain⟨rfl,rfl⟩:=he;exact ad0 dT h2 h3 (λms e=>h1 ms e) hf hr
   .cases hc
 |makeFunc f first aO=>
   rw[dT] at hc
   cases f with
   |func f=>
     simp only[dt] at hc;split at hc
     .rename_i h1;obtain⟨cs,h2,rfl⟩:=Option.map_eq_some_iff.1 hc;simp only[bG,Option.some.injEq,Prod.mk.injEq] at he;obtain⟨rfl,rfl⟩:=he;exact aei dT h1 h2 hf hr
     .cases hc
   |_=>simp[dt] at hc
 |makeMap t r=>
   rw[dT] at hc
   cases r with
   |none=>simp only[dt,Option.some.injEq] at hc;subst hc;simp only[bG,Option.some.injEq,Prod.mk.injEq] at he;obtain⟨rfl,rfl⟩:=he;exact afE dT hr
   |some r=>simp[dt] at hc
 |makeSlice t l c=>
   rw[dT] at hc;simp only[dt] at hc;split at hc
   .rename_i e l' c' h1 h2 h3;split at hc
    .rename_i i z h4 h5;split at hc
     .rename_i h6;cases hc;simp only[bG] at he;split at he
      .rename_i m n h7 h8;split at he
       .rename_i h9;cases he;exact ae4 dT h2 h3 h1 h4 h5 h6 h7 h8 h9 hf hr
       .cases he
      .cases he
     .cases hc
    .cases hc
   .cases hc
 |slice t x lo hi mx=>
   rw[dT] at hc;simp only[dt] at hc;split at hc
   .rename_i x' VD iO h1 h2 h3 h4 h5;cases hc
    have GA:mx=none:=by
     cases mx with
     |none=>rfl
     |some m=>simp[CY] at h5
    subst GA;simp only[bG] at he;split at he
    .rename_i s h6;obtain⟨⟨l,u⟩,h7,e⟩:=Option.map_eq_some_iff.1 he;cases e;exact ad9 dT h2 h3 h4 h1 h6 h7 hf hr
    .cases he
   .rename_i e x' VD iO mx' h1 h2 h3 h4 h5;obtain⟨i,iO,rfl⟩:=Option.map_eq_some_iff.1 hc;simp only[bG] at he;exact aex dT h2 h3 h4 h5 h1 iO he hf hr
   .cases hc
 |fieldAddr s x k=>
   rw[dT] at hc;simp only[dt] at hc;split at hc
   .rename_i fs x' h1 h2;split at hc
    .rename_i fd h3;split at hc
     .rename_i i h4;split at hc
      .rename_i h5;cases hc;simp only[bG] at he
       have key:∀v',(match x'.ev fr with|.ptr id o=>some (AV.ptr id (o+fd.offset))|.ip cs=>some (.ip (cs.drop fd.offset))|_=>none)=some v'->v=v'->h'=h->fB P (execOp a.eval o) φ h w v h':=λv' hv e1 e2=>by subst e1 e2;exact afD dT h2 h1 h3 h4 h5 hv hf hr
       split at he
       .rename_i id oo hb;cases he;exact key _ (by rw[hb]) rfl rfl
       .rename_i cs hb;cases he;exact key _ (by rw[hb]) rfl rfl
       .cases he
      .cases hc
     .cases hc
    .cases hc
   .cases hc
 |field t x k=>
   rw[dT] at hc;simp only[dt] at hc;split at hc
   .rename_i fs x' h1 h2;split at hc
    .rename_i fd h3;obtain⟨n,h4,rfl⟩:=Option.map_eq_some_iff.1 hc;simp only[bG] at he;split at he
     .rename_i cs h5
      cases n with
      |none=>simp only[Option.map_eq_some_iff] at he;obtain⟨v',hv,e⟩:=he;cases e;exact Xn dT h2 h1 h3 h4 h5 hv hf hr
      |some n=>
        dsimp only at he;split at he
        .rename_i h6;cases he;exact Xn dT h2 h1 h3 h4 h5 (by dsimp only;rw[if_pos h6]) hf hr
        .cases he
     .cases he
    .cases hc
   .cases hc
 |indexAddr t x i=>
   rw[dT] at hc;simp only[dt] at hc;split at hc
   .rename_i e x' i' h1 h2 h3;obtain⟨inf,h4,rfl⟩:=Option.map_eq_some_iff.1 hc;simp only[bG] at he;exact aeI dT h2 h3 h1 h4 he hf hr
   .cases hc
 |index t x i=>
   rw[dT] at hc;simp only[dt] at hc;split at hc
   .rename_i x' i' h1 h2 h3;cases hc;simp only[bG] at he;split at he
    .rename_i s k n h4 h5;split at he
     .rename_i h0;obtain⟨b,hb,e⟩:=Option.map_eq_some_iff.1 he;cases e;exact aev dT h2 h3 h1 h4 h5 h0 hb hf hr
     .cases he
    .cases he
   .cases hc
 |lookup t m k ok=>
   rw[dT] at hc;simp only[dt] at hc;split at hc
   .rename_i kt e m' k' h1 h2 h3;split at hc
    .rename_i q z h4 h5;cases hc;simp only[bG] at he;split at he
     .rename_i es h6;obtain⟨r,h7,e1⟩:=Option.map_eq_some_iff.1 he
      have hint:(∃q0 n,k'.ev fr=.int q0 n)\/es=[]:=by
       cases es with
       |nil=>exact .inr rfl
       |cons p l=>refine .inl ?_;obtain⟨k1,v1⟩:=p;cases hkv:k'.ev fr<;>rw[hkv] at h7<;>cases k1<;>simp[oX,iC] at h7;exact⟨_,_,rfl⟩
      have VF:(m'.ev fr=.kq/\es=[])\/∃id,m'.ev fr=.map id/\h.iq id=some es:=by
       split at h6
       .rename_i h8;cases h6;exact .inl ⟨h8,rfl⟩
       .rename_i id h8;exact .inr ⟨id,h8,h6⟩
       .cases h6
      have:=agh (ok:=ok) dT h2 h3 h1 h4 h5 VF h7 hint hf hr;cases r<;>cases e1<;>exact this
     .cases he
    .cases hc
   .cases hc
 |mapUpdate t m k v0=>
   rw[dT] at hc;simp only[dt] at hc;split at hc
   .rename_i kt e m' k' v' h1 h2 h3 h4;split at hc
    .rename_i q h5;cases hc;simp only[bG] at he;split at he
     .rename_i id h6;split at he
      .rename_i es h7;obtain⟨uW,h8,e1⟩:=Option.map_eq_some_iff.1 he;cases e1;exact aeS dT h2 h3 h4 h1 h5 h6 h7 h8 hf hr
      .cases he
     .cases he
    .cases hc
   .cases hc
 |extract x i=>
   rw[dT] at hc;simp only[dt,Option.map_eq_some_iff] at hc;obtain⟨x',hx,rfl⟩:=hc;simp only[bG] at he;split at he
   .rename_i vs h1;obtain⟨v',hv,e⟩:=Option.map_eq_some_iff.1 he;cases e;exact aes dT hx h1 hv hf hr
   .cases he
 |call c=>
   rw[dT] at hc;obtain⟨callee,args,zU⟩:=c
   cases callee with
   |value f=>simp[dt] at hc
   |invoke r m=>simp[dt] at hc
   |builtin b=>
     obtain⟨args⟩:=args;obtain⟨zU⟩:=zU;simp only[dt] at hc;split at hc
     .rename_i x t;split at hc
      .rename_i ht;obtain⟨x',hx,rfl⟩:=Option.map_eq_some_iff.1 hc;simp only[bG] at he;split at he
       .rename_i s hs;cases he;exact abW dT hx ht hs hf hr
       .cases he
      .rename_i ht;obtain⟨x',hx,rfl⟩:=Option.map_eq_some_iff.1 hc;simp only[bG] at he;exact abR dT hx ht he hf hr
      .rename_i ht;obtain⟨x',hx,rfl⟩:=Option.map_eq_some_iff.1 hc;simp only[bG] at he;exact abD dT hx ht he hf hr
      .cases hc
     .rename_i x t;split at hc
      .rename_i e x' h1 h2;split at hc
       .rename_i i z h3 h4;split at hc
        .rename_i h5;cases hc;simp only[bG] at he;exact afV dT h2 h1 h3 h4 h5 he hf hr
        .cases hc
       .cases hc
      .cases hc
     .rename_i x y;split at hc
      .rename_i x' y' h1 h2;cases hc;simp only[bG] at he;split at he
       .rename_i h3 h4;cases he;exact aiB dT h1 h2 h3 h4 hf hr
       .cases he
      .cases hc
     .rename_i x y;split at hc
      .rename_i x' y' h1 h2;cases hc;simp only[bG] at he;split at he
       .rename_i h3 h4;cases he;exact ahH dT h1 h2 h3 h4 hf hr
       .cases he
      .cases hc
     .rename_i x y t u;split at hc
      .cases hc
      .rename_i e du x' y' hni h1 h2 h3 h4;split at hc
       .rename_i i z h5 h6;split at hc
        .rename_i h7;cases hc;simp only[bG] at he;split at he
         .cases he
         .rename_i n news h8;exact aed dT h3 h4 h1 h2 (λk e=>hni k e) h5 h6 h7.1 h7.2 h8 he hf hr
        .cases hc
       .cases hc
      .cases hc
     .cases hc
 |_=>rw[dT] at hc;simp[dt] at hc
theorem ajo{v:AV}{h':af}(hc:rp P o.op=some DT)(he:bG fr h DT=some (v,h'))(hf:FR φ h w fr a.tmps)(hr:HR φ h w):fB P (execOp a.eval o) φ h w v h':=by
 unfold rp at hc;split at hc
 .rename_i b hb;cases hc;exact aeX hb he hf hr
 .cases hc;simp[bG] at he
theorem WG{ops:Array Oper}{v:AV}{h':af}(hc:rp P o.op=some DT\/Am P ops o=some DT)(he:bG fr h DT=some (v,h'))(hf:FR φ h w fr a.tmps)(hr:HR φ h w):fB P (execOp a.eval o) φ h w v h':=by
 rcases hc with hc|hc
 .exact ajo hc he hf hr
 unfold Am at hc;split at hc
 .rename_i t len parts dT;split at hc
  .rename_i e h1;split at hc
   .rename_i i z ps h2 h3 h4;split at hc
    .rename_i h5;cases hc;simp only[bG] at he;split at he
     .rename_i cs nQ;split at he
      .rename_i hb;cases he;obtain⟨b,hb⟩:=Option.isSome_iff_exists.1 hb;exact aee dT h1 h2 h3 h4 h5.1 h5.2.1 h5.2.2.1 nQ hb hf hr
      .cases he
     .cases he
    .cases hc
   .cases hc
  .cases hc
 .rename_i s d x dT;split at hc
  .rename_i u e h1 h2 h3;split at hc
   .rename_i h4;split at hc
    .cases hc;simp only[bG] at he;split at he
     .rename_i cs nQ;obtain⟨b,hb,e⟩:=Option.map_eq_some_iff.1 he;cases e;exact aco dT h1 h2 h3 h4 nQ hb hf hr
     .cases he
    .cases hc
   .cases hc
  .cases hc
 .cases hc
end
end
section
variable {X:World->Prop}
def bZ.strip:bZ->bZ
 |.seq a b=>.seq a.strip b.strip
 |.cond c a b=>.cond c a.strip b.strip
 |.block id a=>.block id a.strip
 |.loop _ a=>.loop [] a.strip
 |.exit id _=>.exit id []
 |.ret _=>.ret []
 |c=>c
def lL(φ:eJ)(h:af)(w:World)(v:AV)(h':af):Ending->World->Prop:=λe w'=>∃φ' cv,e=.returned cv/\fe φ' h' w' v cv/\HR φ' h' w'/\Ext φ h w φ' h' w'
def kU(φ:eJ)(h:af)(w:World)(args:List AV)(aV:Array Value):Prop:=aV.size=args.length/\∀j (hj:j<args.length),fe φ h w args[j] (aV.getD j default)
def lY(P:Program)(X:World->Prop)(C:Nat->List AV->af->Option (AV×af)):Prop:=
 ∀f args h v h',C f args h=some (v,h')->∀φ w aV,HR φ h w->ir P X φ h w->kU φ h w args aV->
   ((callFunc f aV).run P w=.ok (.enter f aV) w/\Calls P f aV w (lL φ h w v h'))\/
   ∃cv w' φ',(callFunc f aV).run P w=.ok (.value cv) w'/\fe φ' h' w' v cv/\HR φ' h' w'/\Ext φ h w φ' h' w'
variable {φ:eJ}{a:Act}{o:Oper}
section
variable {P:Program}{C:Nat->List AV->af->Option (AV×af)}
theorem tH{h:af}{w:World}{fr:List AV}(hf:FR φ h w fr a.tmps){v:AV}{cv:Value}(hv:fe φ h w v cv)(d:Option Nat):
 FR φ h w (gw fr d v) (a.put d cv).tmps/\(a.put d cv).defers=a.defers:=by
 cases d with
 |none=>exact⟨hf,rfl⟩
 |some d=>exact⟨hf.put hv d,rfl⟩
theorem TA{h h':af}{w:World}{fr:List AV}{v:AV}{f:Nat}{aV:Array Value}{args:List AV}(hC:lY P X C)(hc:C f args h=some (v,h'))(hr:HR φ h w)(hG:ir P X φ h w)(ha:kU φ h w args aV)
 (hf:FR φ h w fr a.tmps) (rG:(execOp a.eval o).run P w=(callFunc f aV).run P w) {K:Act->World->Prop} {Q:Exit->Act->World->Prop}
 (hK:∀φ' cv w',FR φ' h' w' (gw fr o.dst v) (a.put o.dst cv).tmps->HR φ' h' w'->Ext φ h w φ' h' w'->K (a.put o.dst cv) w'):o.wp P a w K Q:=by
 unfold Oper.wp;rw[rG];rcases hC f args h v h' hc φ w aV hr hG ha with⟨e1,e2⟩|⟨cv,w',φ',e1,e2,e3,e4⟩
 .rw[e1,Oper.upon_enter];refine e2.mono λe w' he=>?_
  obtain⟨φ',cv,rfl,g1,g2,g3⟩:=he;obtain⟨p1,p2⟩:=tH (hf.ext g3) g1 o.dst;exact hK φ' _ w' p1 g2 g3
 .rw[e1,Oper.upon_value];obtain⟨p1,p2⟩:=tH (hf.ext e4) e2 o.dst;exact hK φ' _ w' p1 e3 e4
theorem Ll{h:af}{w:World}{fr:List AV}{xs:Array Operand}{xs':List dY}(hx:nH xs=some xs')(hf:FR φ h w fr a.tmps):kU φ h w (xs'.map (·.ev fr)) (xs.map a.eval):=by
 obtain⟨g1,g2⟩:=RQ hx hf;refine⟨by simpa using g1,λj hj=>?_⟩;have jC:j<xs'.length:=by simpa using hj
 have:=g2 j jC;simpa[List.getD,jC] using this
theorem As(hC:lY P X C){ops:Array Oper}{s:aQ}(hs:im P ops o=some s){h h':af}{w:World}{fr de:List AV}(he:cK C s fr h=some (de,h'))
 (hf:FR φ h w fr a.tmps) (hr:HR φ h w) (hG:ir P X φ h w) {K:Act->World->Prop} {Q:Exit->Act->World->Prop}
 (hK:∀φ' cv w',FR φ' h' w' de (a.put o.dst cv).tmps->HR φ' h' w'->Ext φ h w φ' h' w'->K (a.put o.dst cv) w'):
 if Region.wanted o (yielded ops a.tmps) then o.wp P a w K Q else K (a.put o.dst undef) w:=by
 unfold im at hs;split at hs
 .cases hs
 .rename_i DT N2
  -- the guard
  have QN:∃b,cW fr s.guard=some b/\Region.wanted o (yielded ops a.tmps)=!b:=by
   unfold cK at he
   cases hu:cW fr s.guard with
   |none=>rw[hu] at he;cases he
   |some b=>
     refine⟨b,rfl,?_⟩;split at hs
     .rename_i hg;cases hs;simp only[cW,Option.some.injEq] at hu;subst hu;simp[Region.wanted,hg]
     .rename_i j want hg;obtain⟨t,ht,rfl⟩:=Option.map_eq_some_iff.1 hs;simp only[cW] at hu;split at hu
      .rename_i b' B2;cases hu;obtain⟨cY,e⟩:=List.getElem?_eq_some_iff.1 B2;have Gl:t<a.tmps.size:=by rw[hf.1];exact cY
       have:=hf.2 t;rw[List.getD_eq_getElem?_getD,B2,Option.getD_some] at this;have hv:=this.gM
       have mg:a.tmps[t]? =some (.bool b'):=by rw[Array.getD_eq_getD_getElem?,Array.getElem?_eq_getElem Gl,Option.getD_some] at hv;rw[Array.getElem?_eq_getElem Gl,hv]
       have hy:yielded ops a.tmps j=some b':=by unfold yielded;rw[ht];simp[mg]
       simp only[Region.wanted,hg,hy];cases b'<;>cases want<;>rfl
      .rename_i B2;cases hu;obtain⟨cY,e⟩:=List.getElem?_eq_some_iff.1 B2;have Gl:t<a.tmps.size:=by rw[hf.1];exact cY
       have:=hf.2 t;rw[List.getD_eq_getElem?_getD,B2,Option.getD_some] at this;obtain⟨eY,hv,hl,_⟩:=this.sa
       have mg:a.tmps[t]? =some (.tuple eY):=by rw[Array.getD_eq_getD_getElem?,Array.getElem?_eq_getElem Gl,Option.getD_some] at hv;rw[Array.getElem?_eq_getElem Gl,hv]
       have hy:yielded ops a.tmps j=none:=by unfold yielded;rw[ht];simp[mg]
       simp only[Region.wanted,hg,hy];rfl
      .cases hu
  obtain⟨b,hb,hw⟩:=QN
  have QO:s.dst=o.dst/\s.op=DT:=by
   split at hs
   .cases hs;exact⟨rfl,rfl⟩
   .obtain⟨t,ht,rfl⟩:=Option.map_eq_some_iff.1 hs;exact⟨rfl,rfl⟩
  unfold cK at he;rw[hb] at he;rw[hw]
  cases b with
  |true=>simp only[Option.some.injEq,Prod.mk.injEq] at he;obtain⟨rfl,rfl⟩:=he;rw[if_neg (by simp)];rw[QO.1] at hK;obtain⟨p1,p2⟩:=tH hf (RV.tuple [] #[] rfl λj hj=>by simp at hj:fe φ h w (.tuple []) undef) o.dst;exact hK φ _ w p1 hr (.refl _ _ _)
  |false=>
    rw[if_pos (by simp)];simp only[QO.2] at he;rw[QO.1] at he
    have QP:∀xE,(rp P o.op=some xE\/Am P ops o=some xE)->(bG fr h xE).map (λp=>(gw fr o.dst p.1,p.2))=some (de,h')->o.wp P a w K Q:=λxE N2 he=>by
     obtain⟨⟨v,h1⟩,hv,e⟩:=Option.map_eq_some_iff.1 he;cases e;obtain⟨cv,w',φ',e1,e2,e3,e4⟩:=WG N2 hv hf hr;obtain⟨p1,p2⟩:=tH (hf.ext e4) e2 o.dst;have:=hK φ' _ w' p1 e3 e4;unfold Oper.wp;rcases e1 with e1|⟨e1,rfl⟩
     .rw[e1,Oper.upon_value];exact this
     .rw[e1,Oper.upon_skip];exact this
    have Gm:∀(f0:Operand) (iz:Array Operand) (zU:Array TypeId) (x':dY) (args:List dY) (f:Nat) (aO:List AV) (v:AV) (h1:af),o.op=.call {callee:=.value f0,args:=iz,argTypes:=zU}->fZ f0=some x'->
     nH iz=some args->x'.ev fr=.fn f aO->C f (args.map (·.ev fr)++aO) h=some (v,h1)->(gw fr o.dst v,h1)=(de,h')->o.wp P a w K Q:=λf0 iz zU x' args f aO v h1 dT hx has AU Gn e=>by
     cases e;have g:=ch hx hf;rw[AU] at g;obtain⟨eY,q1,q2,q3⟩:=g.D5;have ga:=Ll has hf;refine TA (aV:=iz.map a.eval++eY) hC Gn hr hG ⟨by simp[ga.1,q2],λj hj=>?_⟩ hf ?_ hK
     .by_cases VE:j<(args.map (·.ev fr)).length
      .have:=ga.2 j VE;rw[List.getElem_append_left VE];have DO:j<(iz.map a.eval).size:=by rw[ga.1];exact VE
       rw[Array.getD_eq_getD_getElem?] at this|-;rw[Array.getElem?_append_left DO];exact this
      .have hj3:j-(args.map (·.ev fr)).length<aO.length:=by simp at hj VE|-;omega
       have:=q3 _ hj3;rw[List.getElem_append_right (by omega)];rw[Array.getD_eq_getD_getElem?] at this|-;rw[Array.getElem?_append_right (by rw[ga.1];omega),ga.1];exact this
     .unfold execOp;simp[dT,resolve,q1,Deferred.ofValue,invoke]
    have hinv:∀s',vZ P ops o=some s'->(∃xE,(rp P o.op=some xE\/Am P ops o=some xE)/\s'=.op xE)\/∃f0 iz zU x' args,o.op=.call {callee:=.value f0,args:=iz,argTypes:=zU}/\fZ f0=some x'/\nH iz=some args/\
     ((∃g,x'=.const (.fn g [])/\s'=.call g args)\/s'=.lM x' args):=λs' xW=>by
     unfold vZ at xW;split at xW
     .rename_i xE h1;cases xW;exact .inl ⟨xE,.inr h1,rfl⟩
     unfold JY at xW;split at xW
     .rename_i f0 iz zU dT;split at xW
      .rename_i g as h1 h2;cases xW;exact .inr ⟨f0,iz,zU,_,as,dT,h1,h2,.inl ⟨g,rfl,rfl⟩⟩
      .rename_i f' as h1 h2 h3;cases xW;exact .inr ⟨f0,iz,zU,_,as,dT,by assumption,by assumption,.inr rfl⟩
      .cases xW;exact .inl ⟨.die,.inl (by rw[dT];rfl),rfl⟩
     .obtain⟨xE,h1,rfl⟩:=Option.map_eq_some_iff.1 xW;exact .inl ⟨xE,.inl h1,rfl⟩
    rcases hinv DT N2 with⟨xE,h1,rfl⟩|⟨f0,iz,zU,x',args,dT,hx,has,xW⟩
    .exact QP xE h1 he
    .rcases xW with⟨g,rfl,rfl⟩|rfl
     .dsimp only at he;obtain⟨⟨v,h1⟩,hv,e⟩:=Option.map_eq_some_iff.1 he;exact Gm f0 iz zU _ args g [] v h1 dT hx has rfl (by simpa using hv) e
     .dsimp only at he;split at he
      .rename_i f aO AU;obtain⟨⟨v,h1⟩,hv,e⟩:=Option.map_eq_some_iff.1 he;exact Gm f0 iz zU _ args f aO v h1 dT hx has AU hv e
      .cases he
theorem Nx(hC:lY P X C){ops:Array Oper}{Q:Exit->Act->World->Prop}:∀{l:List Oper} {ss:List aQ},dP (im P ops) l=some ss->∀{φ:eJ} {h h':af} {w:World} {fr de:List AV} {a:Act},
 cS C ss fr h=some (de,h')->FR φ h w fr a.tmps->HR φ h w->ir P X φ h w->
 (∀φ' a' w',FR φ' h' w' de a'.tmps->HR φ' h' w'->Ext φ h w φ' h' w'->a'.defers=a.defers->Q .normal a' w')->wpList P ops Q l a w
 |[],ss,hs,φ,h,h',w,fr,de,a,he,hf,hr,hG,hQ=>by simp only[dP,Option.some.injEq] at hs;subst hs;simp only[cS,Option.some.injEq,Prod.mk.injEq] at he;obtain⟨rfl,rfl⟩:=he;exact wpList_nil (hQ φ a w hf hr (.refl _ _ _) rfl)
 |o::l,ss,hs,φ,h,h',w,fr,de,a,he,hf,hr,hG,hQ=>by
   unfold dP at hs;split at hs
   .rename_i s ss' h1 h2;cases hs;simp only[cS] at he;split at he
    .rename_i th KJ N3;refine wpList_step λK hK=>?_
     refine As hC h1 N3 hf hr hG λφ1 cv w1 f1 r1 e1=>hK _ _ ?_
     have d1:(a.put o.dst cv).defers=a.defers:=by cases o.dst<;>rfl
     exact Nx hC h2 he f1 r1 (hG.ext e1) λφ2 a2 w2 f2 r2 e2 d2=>hQ φ2 a2 w2 f2 r2 (e1.trans e2) (d2.trans d1)
    .cases he
   .cases hs
end
end
section
def pD(h:af)(id n:Nat):Prop:=(∀cs,h.get id=some (.row cs)->AV.ah cs<=n)/\∀es,h.get id=some (.map es)->∀e∈es,e.1.aJ<=n/\e.2.aJ<=n
structure CL(h h':af):Prop where
 next:h.next<=h'.next
 wl:h'.wl<=h.wl
 le:∀n,n<=h.next->n<=h'.wl->(∀id,id<n->pD h id n)->∀id,id<n->pD h' id n
 md:h'.md<=h.md
 same:∀id,id<h'.md->id<h.next->h'.get id=h.get id
variable (h:af)(id:Nat)(o:aT)
theorem CL.refl:CL h h:=⟨Nat.le_refl _,Nat.le_refl _,λ_ _ _ k=>k,Nat.le_refl _,λ_ _ _=>rfl⟩
theorem CL.trans{h h1 h2:af}(a:CL h h1)(b:CL h1 h2):CL h h2:=
 ⟨Nat.le_trans a.next b.next,Nat.le_trans b.wl a.wl,λn hn hw k=>b.le n (Nat.le_trans hn a.next) hw (a.le n hn (Nat.le_trans hw b.wl) k),Nat.le_trans b.md a.md,
  λid h1 h2=>(b.same id h1 (Nat.lt_of_lt_of_le h2 a.next)).trans (a.same id (Nat.lt_of_lt_of_le h1 b.md) h2)⟩
theorem af.xj:(h.set id o).md<=h.md:=by
 unfold af.set;split
 .exact Nat.min_le_left _ _
 .exact Nat.le_refl _
@[simp] theorem af.wG(v:AV):(h.mark id v).md=h.md:=by unfold af.mark;split<;>rfl
theorem af.tP(i:Nat)(hi:i<(h.set id o).md):(h.set id o).get i=h.get i:=by
 by_cases e:id=i
 .subst e;unfold af.set at hi|-;by_cases cY:id<h.next
  .rw[if_pos cY] at hi;dsimp only at hi;omega
  .rw[if_neg cY]
 .exact af.get_set_other e
theorem CL.alloc:CL h (h.alloc o):=
 ⟨by simp,Nat.le_refl _,λn hn _ k id bX=>by have:=k id bX;unfold pD at this|-;rw[af.dd (by omega)];exact this,Nat.le_refl _,λid _ h2=>af.dd h2⟩
theorem CL.kill:CL h (h.set id .dead):=
 ⟨by simp,by simp,λn hn _ k i hi=>by
  have:=k i hi;by_cases e:id=i
  .subst e;unfold pD
   cases hg:h.get id with
   |none=>
     have:(h.set id .dead).get id=none:=by
      unfold af.set;split
      .rename_i cY;unfold af.get at hg|-;simp only[cY,if_true] at hg|-;rw[List.getElem?_eq_none_iff] at hg;exact List.getElem?_eq_none (by simpa using hg)
      .exact hg
     rw[this];exact⟨λ_ e=>(by cases e),λ_ e=>(by cases e)⟩
   |some o=>rw[af.get_set_same hg];exact⟨λ_ e=>(by cases e),λ_ e=>(by cases e)⟩
  .unfold pD at this|-;rw[af.get_set_other e];exact this,af.xj _ _ _,λi h1 _=>af.tP h id .dead i h1⟩
theorem JD(v:AV):(h.mark id v).wl<=h.wl/\(id+1<v.aJ->(h.mark id v).wl<=id):=by
 unfold af.mark;split
 .dsimp only;exact⟨by omega,λ_=>by omega⟩
 .rename_i hn;exact⟨Nat.le_refl _,λe=>absurd e hn⟩
theorem Ak(a b:List AV):AV.ah (a++b)=max (AV.ah a) (AV.ah b):=by
 induction a with
 |nil=>simp[AV.ah]
 |cons x r ih=>simp only[List.cons_append,AV.ah,ih];omega
theorem Cg(vs:List AV):∀(cs:List AV) (k n:Nat),AV.ah cs<=n->AV.ah vs<=n->AV.ah (putAt cs k vs)<=n:=by
 induction vs with
 |nil=>intro cs k n h _;exact h
 |cons v r ih=>
   intro cs k n h h2;simp only[AV.ah] at h2;rw[putAt];refine ih _ _ _ (AV.kB λx hx=>?_) (by omega);rcases List.mem_or_eq_of_mem_set hx with hx|rfl
   .have:=AV.cR hx;omega
   .omega
variable {cs:List AV}
theorem CL.write{h:af}{id:Nat}(hg:h.get id=some (.row cs))(vs:List AV)(k:Nat)(v:AV)(hv:AV.ah vs<=v.aJ):CL h ((h.set id (.row (putAt cs k vs))).mark id v):=by
 obtain⟨w1,w2⟩:=JD (h.set id (.row (putAt cs k vs))) id v;refine⟨by simp,by simpa using w1,λn hn hw q i hi=>?_,by rw[af.wG];exact af.xj _ _ _,λi h1 _=>by rw[af.lN];rw[af.wG] at h1;exact af.tP _ _ _ i h1⟩;have:=q i hi;unfold pD at this|-;rw[af.lN];by_cases e:id=i
 .subst e;rw[af.get_set_same hg]
  have hle:v.aJ<=n:=by
   by_cases cY:id+1<v.aJ
   .have:=w2 cY;omega
   .omega
  exact⟨λiN e=>(by cases e;exact Cg vs cs k n (this.1 cs hg) (by omega)),λ_ e=>(by cases e)⟩
 .rw[af.get_set_other e];exact this
variable {v:AV}
theorem tQ(h:v.cells? =some cs):AV.ah cs=v.aJ:=by cases v<;>simp[AV.cells?] at h<;>subst h<;>simp[AV.aJ,AV.ah]
theorem Ag{h:af}{id:Nat}(he:h.row id=some cs):h.get id=some (.row cs):=by
 unfold af.row at he;split at he
 .rename_i g;cases he;exact g
 .cases he
variable {es:List (AV×AV)}
theorem SV{h:af}{id:Nat}(he:h.iq id=some es):h.get id=some (.map es):=by
 unfold af.iq at he;split at he
 .rename_i g;cases he;exact g
 .cases he
theorem Ir{kd:Nat}{k v:AV}{n:Nat}(hk:k.aJ<=n)(hv:v.aJ<=n):∀(es uW:List (AV×AV)),vP kd k v es=some uW->(∀e∈es,e.1.aJ<=n/\e.2.aJ<=n)->∀e∈uW,e.1.aJ<=n/\e.2.aJ<=n
 |[],uW,he,_=>by simp only[vP,Option.some.injEq] at he;subst he;intro e h;simp at h;subst h;exact⟨hk,hv⟩
 |(k',v')::r,uW,he,VF=>by
   simp only[vP] at he;split at he
   .cases he;intro e h
    cases h with
    |head=>exact⟨hk,hv⟩
    |tail _ h=>exact VF e (List.mem_cons_of_mem _ h)
   .obtain⟨r',N1,rfl⟩:=Option.map_eq_some_iff.1 he;intro e h
    cases h with
    |head=>exact VF _ (by simp)
    |tail _ h=>exact Ir hk hv r r' N1 (λe h=>VF e (List.mem_cons_of_mem _ h)) e h
   .cases he
theorem CL.Z4{h:af}{id kd:Nat}{uW:List (AV×AV)}{k:AV}(hg:h.get id=some (.map es))(hm:vP kd k v es=some uW):CL h (((h.set id (.map uW)).mark id v).mark id k):=by
 obtain⟨w1,w2⟩:=JD (h.set id (.map uW)) id v;obtain⟨w3,w4⟩:=JD ((h.set id (.map uW)).mark id v) id k;refine⟨by simp,by simp at w1;omega,λn hn hw q i hi=>?_,by rw[af.wG,af.wG];exact af.xj _ _ _,λi h1 _=>by rw[af.lN,af.lN];rw[af.wG,af.wG] at h1;exact af.tP _ _ _ i h1⟩;have:=q i hi;unfold pD at this|-;rw[af.lN,af.lN];by_cases e:id=i
 .subst e;rw[af.get_set_same hg]
  have hv:v.aJ<=n:=by
   by_cases cY:id+1<v.aJ
   .have:=w2 cY;omega
   .omega
  have hk:k.aJ<=n:=by
   by_cases cY:id+1<k.aJ
   .have:=w4 cY;omega
   .omega
  exact⟨λ_ e=>(by cases e),λes2 e=>by cases e;exact Ir hk hv es uW hm (this.2 es hg)⟩
 .rw[af.get_set_other e];exact this
theorem rK(z:List AV)(n:Nat):AV.ah (List.replicate n z).flatten<=AV.ah z:=by
 induction n with
 |zero=>simp[AV.ah]
 |succ n ih=>rw[List.replicate_succ,List.flatten_cons,Ak];omega
theorem aiL{fr:List AV}{h h':af}{DT:B6}(he:bG fr h DT=some (v,h')):CL h h':=by
 cases DT<;>simp only[bG] at he
 case st n x y=>
  split at he
  .rename_i id off vs h1 h2;split at he
   .rename_i cs h3;split at he
    .cases he;exact .write (Ag h3) vs off _ (by rw[tQ h2];exact Nat.le_refl _)
    .cases he
   .cases he
  .cases he
 case Z4 kd m k y=>
  split at he
  .split at he
   .rename_i es h1;obtain⟨uW,h2,e⟩:=Option.map_eq_some_iff.1 he;cases e;exact .Z4 (SV h1) h2
   .cases he
  .cases he
 case app sz bytes x y=>
  split at he
  .cases he
  .split at he
   .split at he
    .cases he;exact .refl _
    .split at he
     .cases he;exact .alloc _ _
     .cases he
   .split at he
    .rename_i cs h1;split at he
     .split at he
      .cases he;exact .refl _
      .split at he
       .cases he;exact .write (Ag h1) _ _ _ (by simp[AV.aJ])
       .split at he
        .cases he;exact (CL.kill _ _).trans (.alloc _ _)
        .cases he
     .cases he
    .cases he
   .cases he
 case clr z x=>
  split at he
  .cases he;exact .refl _
  .split at he
   .rename_i cs h1;split at he
    .cases he;exact .write (Ag h1) _ _ _ (by simp only[AV.aJ];exact rK _ _)
    .cases he
   .cases he
  .cases he
 all_goals
  repeat' split at he
  all_goals first
   |(cases he;done)
   |(cases he;exact .refl _)
   |(cases he;exact .alloc _ _)
   |(obtain⟨_,_,e⟩:=Option.map_eq_some_iff.1 he;cases e;exact .refl _)
   |(obtain⟨_,_,e⟩:=Option.map_eq_some_iff.1 he;cases e;exact .alloc _ _)
   |(obtain⟨p,_,e⟩:=Option.map_eq_some_iff.1 he;(repeat' split at e)<;>cases e<;>exact .refl _)
end
section
def af.alike(h h':af):Prop:=h'.next=h.next/\h'.gm=h.gm
theorem af.alike_refl(h:af):h.alike h:=⟨rfl,rfl⟩
theorem af.alike.symm{h h':af}(a:h.alike h'):h'.alike h:=⟨a.1.symm,a.2.symm⟩
theorem af.alike.trans{h h1 h2:af}(a:h.alike h1)(b:h1.alike h2):h.alike h2:=⟨b.1.trans a.1,b.2.trans a.2⟩
theorem af.alike.get{h h':af}(a:h.alike h')(id:Nat):h'.get id=h.get id:=by unfold af.get;rw[a.1,a.2]
theorem af.alike.alloc{h h':af}(a:h.alike h')(o:aT):(h.alloc o).alike (h'.alloc o):=by unfold af.alike af.alloc;dsimp only;rw[a.1,a.2];exact⟨rfl,rfl⟩
theorem HR.alike{φ:eJ}{h h':af}{w:World}(hr:HR φ h w)(a:h.alike h'):HR φ h' w/\Ext φ h w φ h' w:=by obtain⟨n,o,x,y⟩:=h';obtain⟨a1,a2⟩:=a;dsimp only at a1 a2;subst a1 a2;exact hr.uK x y
variable {o:B6}{s:aQ}
section
variable {fr de:List AV}{h h':af}
theorem Ps{l:List dY}(hx:∀x∈l,x.ev de=x.ev fr):l.map (·.ev de)=l.map (·.ev fr):=List.map_congr_left hx
theorem sh{l:Option dY}(hx:∀x∈l.toList,x.ev de=x.ev fr):l.map (·.ev de)=l.map (·.ev fr):=by
 cases l with
 |none=>rfl
 |some x=>simp[hx x (by simp)]
theorem Qi(hx:∀x∈o.nH,x.ev de=x.ev fr):bG de h o=bG fr h o:=by
 cases o<;>simp only[B6.nH] at hx
 case Sm z ps=>simp only[bG];rw[show (ps.map λp=>(p.1,p.2.1,p.2.2.ev de))=ps.map λp=>(p.1,p.2.1,p.2.2.ev fr) from List.map_congr_left λp hp=>by rw[hx _ (List.mem_map.2 ⟨p,hp,rfl⟩)]]
 case AS sz n z ps=>simp only[bG];rw[show (ps.map λp=>(p.1*sz,sz,p.2.ev de))=ps.map λp=>(p.1*sz,sz,p.2.ev fr) from List.map_congr_left λp hp=>by rw[hx _ (List.mem_map.2 ⟨p,hp,rfl⟩)]]
 case fsl n z ps=>simp only[bG];rw[show (ps.map λp=>(p.1*1,1,p.2.ev de))=ps.map λp=>(p.1*1,1,p.2.ev fr) from List.map_congr_left λp hp=>by rw[hx _ (List.mem_map.2 ⟨p,hp,rfl⟩)]]
 case VR f aO=>simp only[bG];rw[Ps hx]
 case mkm=>rfl
 case bs0=>rfl
 case die=>rfl
 case YP x lo hi=>
  have h1:=hx x (by simp);have h2:=sh (l:=lo) λy hy=>hx y (by simp[Option.mem_toList.1 hy])
  have h3:=sh (l:=hi) λy hy=>hx y (by simp[Option.mem_toList.1 hy])
  simp only[bG];rw[h1,h2,h3]
 case slv sz x lo hi m3=>
  have h1:=hx x (by simp);have h2:=sh (l:=lo) λy hy=>hx y (by simp[Option.mem_toList.1 hy])
  have h3:=sh (l:=hi) λy hy=>hx y (by simp[Option.mem_toList.1 hy])
  have h4:=sh (l:=m3) λy hy=>hx y (by simp[Option.mem_toList.1 hy])
  simp only[bG];rw[h1,h2,h3,h4]
 case pick c x y=>simp only[bG];rw[hx c (by simp),hx x (by simp),hx y (by simp)]
 case Z4 kd m k v=>simp only[bG];rw[hx m (by simp),hx k (by simp),hx v (by simp)]
 all_goals first
  |(rename_i x;simp only[bG];rw[hx x (by simp)];done)
  |(rename_i x _;simp only[bG];rw[hx x (by simp)];done)
  |(rename_i x y;simp only[bG];rw[hx x (by simp),hx y (by simp)];done)
  |skip
theorem Zv(hs:o.still=true){v:AV}{h1:af}(he:bG fr h o=some (v,h1)):h1=h/\∀h2,bG fr h2 o=some (v,h2):=by
 cases o<;>simp only[B6.still,Bool.false_eq_true] at hs<;>simp only[bG] at he|-
 case mx x y=>
  split at he
  .rename_i k a k' b e1 e2;simp only[Option.some.injEq,Prod.mk.injEq] at he;obtain⟨rfl,rfl⟩:=he;exact⟨rfl,λ_=>rfl⟩
  .cases he
 case mn x y=>
  split at he
  .rename_i k a k' b e1 e2;simp only[Option.some.injEq,Prod.mk.injEq] at he;obtain⟨rfl,rfl⟩:=he;exact⟨rfl,λ_=>rfl⟩
  .cases he
 all_goals
  repeat' split at he
  all_goals first
   |(cases he;done)
   |(simp only[Option.some.injEq,Prod.mk.injEq] at he;obtain⟨rfl,rfl⟩:=he;exact⟨rfl,λh2=>by simp_all⟩)
   |(obtain⟨p,hp,e⟩:=Option.map_eq_some_iff.1 he;simp only[Prod.mk.injEq] at e;obtain⟨e1,rfl⟩:=e;exact⟨rfl,λh2=>by simp_all⟩)
   |skip
theorem ub{x:dY}(hx:∀t∈x.tmps,de.getD t .undef=fr.getD t .undef):x.ev de=x.ev fr:=by
 cases x with
 |const v=>rfl
 |tmp t=>exact hx t (by simp[dY.tmps])
theorem Ai{l:List AV}{t:Nat}{v:AV}(h:l.getD t .undef=v)(hv:v≠.undef):l[t]? =some v:=by
 rw[List.getD_eq_getElem?_getD] at h
 cases hx:l[t]? with
 |none=>rw[hx] at h;exact absurd h.symm hv
 |some x=>rw[hx] at h;simpa using h
theorem vV{g:Option (Nat×Bool)}(hx:∀t b,g=some (t,b)->de.getD t .undef=fr.getD t .undef){b:Bool}(he:cW fr g=some b):cW de g=some b:=by
 unfold cW at he|-
 cases g with
 |none=>exact he
 |some p=>
   obtain⟨t,want⟩:=p;have e:=hx t want rfl;dsimp only at he|-;split at he
   .rename_i b' hb;rw[List.getD_eq_getElem?_getD (l:=fr),hb] at e;rw[Ai e (by simp)];exact he
   .rename_i hb;rw[List.getD_eq_getElem?_getD (l:=fr),hb] at e;rw[Ai e (by simp)];exact he
   .cases he
variable {C:Nat->List AV->af->Option (AV×af)}
theorem nq(hx:∀t∈s.reads,de.getD t .undef=fr.getD t .undef){th:List AV}(he:cK C s fr h=some (th,h')):
 ∃v,th=gw fr s.dst v/\cK C s de h=some (gw de s.dst v,h'):=by
 have B3:∀x∈s.op.nH,x.ev de=x.ev fr:=λx hxm=>ub λt ht=>hx t (List.mem_append_right _ (List.mem_flatMap.2 ⟨x,hxm,ht⟩))
 have hg:∀t b,s.guard=some (t,b)->de.getD t .undef=fr.getD t .undef:=λt b e=>hx t (List.mem_append_left _ (by rw[e];simp))
 unfold cK at he|-;split at he
 .cases he
 .rename_i hu;rw[vV hg hu];simp only[Option.some.injEq,Prod.mk.injEq] at he;obtain⟨rfl,rfl⟩:=he;exact⟨_,rfl,rfl⟩
 .rename_i hu;rw[vV hg hu];dsimp only
  cases dT:s.op with
  |op o=>rw[dT] at he B3;dsimp only at he|-;obtain⟨⟨v,h1⟩,hv,e⟩:=Option.map_eq_some_iff.1 he;cases e;rw[Qi B3,hv];exact⟨v,rfl,rfl⟩
  |call f args=>rw[dT] at he B3;dsimp only at he|-;obtain⟨⟨v,h1⟩,hv,e⟩:=Option.map_eq_some_iff.1 he;cases e;rw[Ps (l:=args) B3,hv];exact⟨v,rfl,rfl⟩
  |lM x args=>
    rw[dT] at he B3;dsimp only at he|-;rw[B3 x (by simp[Sd.nH])];rw[Ps λy hy=>B3 y (by simp[Sd.nH,hy])];split at he
    .rename_i f aO hf;obtain⟨⟨v,h1⟩,hv,e⟩:=Option.map_eq_some_iff.1 he;cases e;rw[hv];exact⟨v,rfl,rfl⟩
    .cases he
theorem tw(hs:s.uy=false){th:List AV}(he:cK C s fr h=some (th,h')){h2:af}
 (hld:∀n x id off,s.op=.op (.ld n x)->x.ev fr=.ptr id off->h2.get id=h.get id):h'=h/\cK C s fr h2=some (th,h2):=by
 unfold cK at he|-;split at he
 .cases he
 .rename_i hu;simp only[Option.some.injEq,Prod.mk.injEq] at he;obtain⟨rfl,rfl⟩:=he;exact⟨rfl,rfl⟩
 .rename_i hu
  cases dT:s.op with
  |op o=>
    rw[dT] at he;dsimp only at he|-;obtain⟨⟨v,h1⟩,hv,e⟩:=Option.map_eq_some_iff.1 he;simp only[Prod.mk.injEq] at e;obtain⟨rfl,rfl⟩:=e;by_cases hl:∃n x,o=.ld n x
    .obtain⟨n,x,rfl⟩:=hl;simp only[bG] at hv|-;obtain⟨v',NX,e⟩:=Option.map_eq_some_iff.1 hv;simp only[Prod.mk.injEq] at e;obtain⟨rfl,rfl⟩:=e;refine⟨rfl,?_⟩
     have:Sv h2 n (x.ev fr)=Sv h n (x.ev fr):=by
      cases hx:x.ev fr with
      |ptr id off=>have:=hld n x id off dT hx;simp only[Sv,af.row,this]
      |_=>rfl
     rw[this,NX];rfl
    .have qS:o.still=true:=by
      unfold aQ.uy at hs;rw[dT] at hs;cases o<;>first|exact (hl ⟨_,_,rfl⟩).elim|simpa using hs
     obtain⟨rfl,g⟩:=Zv qS hv;refine⟨rfl,?_⟩;rw[g h2];rfl
  |call f args=>unfold aQ.uy at hs;rw[dT] at hs;cases hs
  |lM x args=>unfold aQ.uy at hs;rw[dT] at hs;cases hs
theorem Cv:∀(parts:List (Nat×Nat×AV)) (z cs:List AV) (n:Nat),nf z parts=some cs->AV.ah z<=n->(∀p∈parts,p.2.2.aJ<=n)->AV.ah cs<=n
 |[],z,cs,n,he,hz,_=>by simp only[nf,Option.some.injEq] at he;subst he;exact hz
 |(off,sz,v)::r,z,cs,n,he,hz,hp=>by
   simp only[nf] at he;split at he
   .rename_i c hc;split at he
    .refine Cv r _ cs n he ?_ λp hpm=>hp p (List.mem_cons_of_mem _ hpm)
     refine Cg c _ _ _ hz ?_;rw[tQ hc];exact hp _ List.mem_cons_self
    .cases he
   .cases he
theorem Cq(hs:s.nj=true){th:List AV}(he:cK C s fr h=some (th,h')):
 ∃cs,∃vf:Nat->AV,h'=h.alloc (.row cs)/\th=gw fr s.dst (vf h.next)/\((vf=λid=>.ptr id 0)\/∃n sz,vf=λid=>.vec id 0 n sz n)/\
   ∀(de:List AV) (h2:af),(∀x∈s.op.nH,x.ev de=x.ev fr)->cK C s de h2=some (gw de s.dst (vf h2.next),h2.alloc (.row cs))/\
     ∀(φ:eJ) (w:World) (tm:Array Value),FR φ h2 w de tm->AV.ah cs<=h2.next:=by
 have N4:∀(de:List AV) (h2:af) (φ:eJ) (w:World) (tm:Array Value),FR φ h2 w de tm->∀x:dY,x.low=true->(x.ev de).aJ<=h2.next:=λde h2 φ w tm hf x hx=>by
  cases x with
  |tmp t=>exact (hf.2 t).DH
  |const v=>
    have:v.aJ=0:=by simpa[dY.low] using hx
    show v.aJ<=_;omega
 unfold aQ.nj at hs;split at hs
 .rename_i x hg dT;unfold cK at he;rw[hg,dT] at he;simp only[cW,bG] at he;split at he
  .rename_i cs nQ;simp only[Option.map_some,Option.some.injEq,Prod.mk.injEq] at he;obtain⟨rfl,rfl⟩:=he;refine⟨cs,λid=>.ptr id 0,rfl,rfl,.inl rfl,λde h2 hx=>?_⟩;have e:=hx x (by rw[dT];simp[Sd.nH,B6.nH]);refine⟨?_,λφ w tm hf=>?_⟩
   .unfold cK;rw[hg,dT];simp only[cW,bG];rw[e,nQ];rfl
   .rw[tQ nQ,<-e];exact N4 de h2 φ w tm hf x hs
  .cases he
 .rename_i sz n zero parts hg dT;simp only[Bool.and_eq_true,beq_iff_eq,List.all_eq_true] at hs;unfold cK at he;rw[hg,dT] at he;simp only[cW,bG,Option.map_map] at he;obtain⟨cs,nQ,e⟩:=Option.map_eq_some_iff.1 he;simp only[Function.comp,Prod.mk.injEq] at e;obtain⟨rfl,rfl⟩:=e;refine⟨cs,λid=>.vec id 0 n sz n,rfl,rfl,.inr ⟨n,sz,rfl⟩,λde h2 hx=>?_⟩
  have e:(parts.map λp=>(p.1*sz,sz,p.2.ev de))=parts.map λp=>(p.1*sz,sz,p.2.ev fr):=List.map_congr_left λp hp=>by rw[hx p.2 (by rw[dT];exact List.mem_map.2 ⟨p,hp,rfl⟩)]
  refine⟨?_,λφ w tm hf=>?_⟩
  .unfold cK;rw[hg,dT];simp only[cW,bG,Option.map_map];rw[e,nQ];rfl
  .refine Cv _ _ _ _ nQ (by omega) λp hp=>?_
   obtain⟨q,hq,rfl⟩:=List.mem_map.1 hp;rw[<-hx q.2 (by rw[dT];exact List.mem_map.2 ⟨q,hq,rfl⟩)];exact N4 de h2 φ w tm hf q.2 (hs.2 q hq)
 .cases hs
end
end
section
structure RB(φ:eJ)(h:af)(w:World)(φ':eJ)(h':af)(w':World):Prop where
 os:w'.os=w.os
 tape:w'.tape=w.tape
 output:w'.output=w.output
 size:w.heap.size<=w'.heap.size
 next:h.next<=h'.next
 CD:∀id,id<h.next->φ' id=φ id
 pr:∀b,Pr φ h w b->Pr φ' h' w' b/\w'.heap[b]? =w.heap[b]?
variable {cv:Value}{e:PE}{cs:List AV}
section
variable {φ φ1 φ2 φ':eJ}{h h1 h2 h':af}{w w1 w2 w':World}
theorem Ext.E8(e:Ext φ h w φ' h' w'):RB φ h w φ' h' w':=⟨e.os,e.tape,e.output,e.size,e.next,e.CD,e.pr⟩
theorem RB.refl(φ:eJ)(h:af)(w:World):RB φ h w φ h w:=(Ext.refl φ h w).E8
theorem RB.trans(a:RB φ h w φ1 h1 w1)(b:RB φ1 h1 w1 φ2 h2 w2):RB φ h w φ2 h2 w2:=
 ⟨b.os.trans a.os,b.tape.trans a.tape,b.output.trans a.output,Nat.le_trans a.size b.size,Nat.le_trans a.next b.next,
  λid bX=>(b.CD id (Nat.lt_of_lt_of_le bX a.next)).trans (a.CD id bX),λx hx=>by obtain⟨h1,e1⟩:=a.pr x hx;obtain⟨h2,e2⟩:=b.pr x h1;exact⟨h2,e2.trans e1⟩⟩
theorem RV.E8{v:AV}(hv:fe φ h w v cv)(e:RB φ h w φ' h' w'):fe φ' h' w' v cv:=hv.mono (λid _ bX=>⟨e.CD id bX,Nat.lt_of_lt_of_le bX e.next⟩) e.pr
theorem FR.E8{fr:List AV}{tm:Array Value}(hf:FR φ h w fr tm)(e:RB φ h w φ' h' w'):FR φ' h' w' fr tm:=⟨hf.1,λt=>(hf.2 t).E8 e⟩
theorem HR.R7(hr:HR φ h w):∀id,id<h.next->pD h id h.next:=λid _=>by
 refine⟨λcs hg=>?_,λes hg e he=>?_⟩
 .obtain⟨c,el,fz,k1,k2,k3,k4,k5,k6⟩:=hr.rows id cs hg;refine AV.kB λv hv=>?_
  obtain⟨j,hj,rfl⟩:=List.getElem_of_mem hv;exact (k6 j hj).DH
 .obtain⟨gn,pB,k1,k2,k3⟩:=hr.maps id es hg;obtain⟨j,hj,rfl⟩:=List.getElem_of_mem he;exact⟨(k3 j hj).1.DH,(k3 j hj).2.DH⟩
def Oo(φ:eJ)(h:af)(w:World)(e:PE)(cs:List AV):Prop:=
 ∃c el fr,w.heap[e.gA]? =some (.cells c el fr)/\e.base+e.room<=c.size/\cs.length<=e.room/\
   (∀o,o<c.size->¬(fr.1<=o/\o<fr.2))/\
   (∀j,j<e.room->(c.getD (e.base+j) default).oneCell'=true)/\
   ∀j (hj:j<cs.length),fe φ h w cs[j] (c.getD (e.base+j) default)
theorem Oo.E8(g:Oo φ h w e cs)(x:RB φ h w φ' h' w')(hb:w'.heap[e.gA]? =w.heap[e.gA]?):Oo φ' h' w' e cs:=by obtain⟨c,el,fr,h1,h2,h3,h4,h5,h6⟩:=g;exact⟨c,el,fr,hb.trans h1,h2,h3,h4,h5,λj hj=>(h6 j hj).E8 x⟩
theorem aa8(hr:HR φ h w)(hg:Oo φ h w e cs)(DR:φ.gh e.gA):
 HR ⟨λid=>if id=h.next then e else φ id,λb=>φ.gh b/\b≠e.gA⟩ (h.alloc (.row cs)) w/\
 RB φ h w ⟨λid=>if id=h.next then e else φ id,λb=>φ.gh b/\b≠e.gA⟩ (h.alloc (.row cs)) w:=by
 obtain⟨g1,g2⟩:=hr.gh _ DR
 have x:RB φ h w ⟨λid=>if id=h.next then e else φ id,λb=>φ.gh b/\b≠e.gA⟩ (h.alloc (.row cs)) w:=by
  refine⟨rfl,rfl,rfl,Nat.le_refl _,by simp,λid bX=>by simp[Nat.ne_of_lt bX],λb hb=>⟨⟨hb.1,λid hl=>?_,λhc=>hb.2.2 hc.1⟩,rfl⟩⟩;rcases gK hl with rfl|⟨hl,cY⟩
  .simp only[if_true];exact λe'=>hb.2.2 (e'▸DR)
  .simp only[Nat.ne_of_lt cY,if_false];exact hb.2.1 id hl
 refine⟨⟨af.oz _ hr.wf,λid iN B4=>?_,λid es B4=>?_,λi j hi hj uA=>?_,λb hb=>⟨(hr.gh b hb.1).1,λid hl=>?_⟩⟩,x⟩
 .have cY:=af.dR B4;simp only[af.ma] at cY;rcases Nat.lt_or_ge id h.next with bX|bX
  .rw[af.dd bX] at B4;have hk:Oo φ h w (φ id) iN:=hr.rows id iN B4;have:=hk.E8 x rfl;unfold u5;simp only[Nat.ne_of_lt bX,if_false];exact this
  .obtain rfl:id=h.next:=by omega
   rw[af.fg] at B4;cases B4;have:=hg.E8 x rfl;unfold u5;simp only[if_true];exact this
 .have cY:=af.dR B4;simp only[af.ma] at cY;rcases Nat.lt_or_ge id h.next with bX|bX
  .rw[af.dd bX] at B4;obtain⟨en,pB,k1,k2,k3⟩:=hr.maps id es B4;refine⟨en,pB,?_,k2,λj hj=>⟨(k3 j hj).1.E8 x,(k3 j hj).2.E8 x⟩⟩;simp only[Nat.ne_of_lt bX,if_false];exact k1
  .obtain rfl:id=h.next:=by omega
   rw[af.fg] at B4;cases B4
 .rcases gK hi with rfl|⟨hi,qo⟩<;>rcases gK hj with rfl|⟨hj,Gj⟩
  .rfl
  .simp only[if_true,Nat.ne_of_lt Gj,if_false] at uA;exact absurd uA.symm (g2 j hj)
  .simp only[if_true,Nat.ne_of_lt qo,if_false] at uA;exact absurd uA (g2 i hi)
  .simp only[Nat.ne_of_lt qo,Nat.ne_of_lt Gj,if_false] at uA;exact hr.inj i j hi hj uA
 .rcases gK hl with rfl|⟨hl,cY⟩
  .simp only[if_true];exact λe'=>hb.2 e'.symm
  .simp only[Nat.ne_of_lt cY,if_false];exact (hr.gh b hb.1).2 id hl
theorem SX(hr:HR φ h w)(mH:HR φ1 (h.alloc (.row cs)) w')(hx:Ext φ h w φ1 (h.alloc (.row cs)) w')(wi:AV.ah cs<=h.next):
 HR ⟨φ.at_,λb=>φ.gh b\/b=(φ1 h.next).gA⟩ h w'/\RB φ h w ⟨φ.at_,λb=>φ.gh b\/b=(φ1 h.next).gA⟩ h w'/\
 Oo ⟨φ.at_,λb=>φ.gh b\/b=(φ1 h.next).gA⟩ h w' (φ1 h.next) cs/\¬φ.gh (φ1 h.next).gA:=by
 have acI:live (h.alloc (.row cs)) h.next:=⟨_,af.fg,λe=>by cases e⟩
 have agC:∀id,live h id->live (h.alloc (.row cs)) id/\φ1 id=φ id/\id<h.next:=λid ⟨o,hg,ho⟩=>by have cY:=af.dR hg;exact⟨⟨o,by rw[af.dd cY];exact hg,ho⟩,hx.CD id cY,cY⟩
 have hng:¬φ.gh (φ1 h.next).gA:=λhb=>(mH.gh _ (by rw[hx.gh.1];exact hb)).2 _ acI rfl
 have pr2:∀b,Pr φ1 (h.alloc (.row cs)) w' b->Pr ⟨φ.at_,λb=>φ.gh b\/b=(φ1 h.next).gA⟩ h w' b:=λb hb=>
  ⟨hb.1,λid hl=>by
   obtain⟨q1,q2,_⟩:=agC id hl;have:=hb.2.1 id q1;rw[q2] at this;exact this,λhc=>by
   rcases hc with hc|rfl
   .exact hb.2.2 (by rw[hx.gh.1];exact hc)
   .exact hb.2.1 _ acI rfl⟩
 have mv:∀v cv,v.aJ<=h.next->fe φ1 (h.alloc (.row cs)) w' v cv->fe ⟨φ.at_,λb=>φ.gh b\/b=(φ1 h.next).gA⟩ h w' v cv:=λv cv hv N5=>N5.mono (λid h1 h2=>⟨(hx.CD id (by omega)).symm,by omega⟩) λb hb=>⟨pr2 b hb,rfl⟩
 have hle:=hr.R7;refine⟨⟨hr.wf,λid iN hg=>?_,λid es hg=>?_,λi j hi hj=>hr.inj i j hi hj,λb hb=>?_⟩,⟨hx.os,hx.tape,hx.output,hx.size,Nat.le_refl _,λ_ _=>rfl,λb hb=>?_⟩,?_,hng⟩
 .have cY:=af.dR hg;obtain⟨c,el,fz,k1,k2,k3,k4,k5,k6⟩:=mH.rows id iN (by rw[af.dd cY];exact hg);rw[hx.CD id cY] at k1 k2 k3 k5 k6;refine⟨c,el,fz,k1,k2,k3,k4,k5,λj hj=>mv _ _ ?_ (k6 j hj)⟩;have h1:=(hle id cY).1 iN hg;have h2:=AV.cR (List.getElem_mem hj);omega
 .have cY:=af.dR hg;obtain⟨gn,pB,k1,k2,k3⟩:=mH.maps id es (by rw[af.dd cY];exact hg);rw[hx.CD id cY] at k1;refine⟨gn,pB,k1,k2,λj hj=>?_⟩;have h1:=(hle id cY).2 es hg es[j] (List.getElem_mem hj);exact⟨mv _ _ h1.1 (k3 j hj).1,mv _ _ h1.2 (k3 j hj).2⟩
 .rcases hb with hb|rfl
  .obtain⟨q1,q2⟩:=mH.gh b (by rw[hx.gh.1];exact hb)
   exact⟨q1,λid hl=>by obtain⟨r1,r2,_⟩:=agC id hl;have:=q2 id r1;rw[r2] at this;exact this⟩
  .refine⟨mH.fA acI,λid hl e=>?_⟩;obtain⟨r1,r2,r3⟩:=agC id hl;have e':(φ1 id).gA=(φ1 h.next).gA:=by rw[r2];exact e
   have:=mH.inj id h.next r1 acI e'
   omega
 .obtain⟨q1,q2⟩:=hx.pr b hb;exact⟨pr2 b q1,q2⟩
 .obtain⟨c,el,fz,k1,k2,k3,k4,k5,k6⟩:=mH.rows h.next cs af.fg
  refine⟨c,el,fz,k1,k2,k3,k4,k5,λj hj=>mv _ _ ?_ (k6 j hj)⟩;have h2:=AV.cR (List.getElem_mem hj);omega
def VAt(e:PE)(vf:Nat->AV)(cv:Value):Prop:=∀(φ:eJ) (nx:Nat) (pr:Nat->Prop) (w:World) (id:Nat),φ id=e->id<nx->RV φ nx pr w (vf id) cv
theorem VAt.of{vf:Nat->AV}(hvf:(vf=λid=>.ptr id 0)\/∃n sz,vf=λid=>.vec id 0 n sz n){nx:Nat}{pr:Nat->Prop}{id:Nat}(hv:RV φ nx pr w (vf id) cv):VAt (φ id) vf cv:=by
 intro φ' SI AT w' VC he cY;rcases hvf with rfl|⟨n,sz,rfl⟩
 .obtain⟨rfl,_⟩:=hv.wH;dsimp only;rw[<-he];exact .ptr VC 0 cY
 .obtain⟨cap,a,rfl,h1,h2,h3,h4,h5⟩:=hv.kO;rw[<-he] at h4 h5;exact .vec VC 0 n sz n cap a cY h2 h3 h4 h5
end
end
section
def SS(aR:Array Bool)(i:Nat):Prop:=aR.getD i false=true
theorem vq{aR:Array Bool}{i:Nat}(hi:i<aR.size)(j:Nat):SS (aR.setIfInBounds i true) j↔j=i\/SS aR j:=by
 unfold SS;by_cases h:i=j
 .subst h;simp[hi]
 .rw[getD_set_ne false h];constructor
  .exact .inr
  .rintro (e|e)
   .exact absurd e.symm h
   .exact e
def Z7(n:Nat)(aR:Array Bool):Nat:=(List.range n).countP λi=>!aR.getD i false
theorem Iv{α:Type}{p q:α->Bool}:∀{l:List α},(∀x∈l,q x=true->p x=true)->(∃x∈l,p x=true/\q x=false)->l.countP q<l.countP p
 |[],_,h=>by obtain⟨x,hx,_⟩:=h;cases hx
 |y::l,h,⟨x,hx,h1,h2⟩=>by
   have hle:l.countP q<=l.countP p:=List.countP_mono_left λz hz hq=>h z (List.mem_cons_of_mem _ hz) hq
   rw[List.countP_cons,List.countP_cons];by_cases e:x=y
   .subst e;simp[h1,h2];omega
   .have Ky:x∈l:=by
     cases hx with
     |head=>exact absurd rfl e
     |tail _ h=>exact h
    have:=Iv (l:=l) (λz hz=>h z (List.mem_cons_of_mem _ hz)) ⟨x,Ky,h1,h2⟩;have hy:=h y List.mem_cons_self;cases hq:q y
    .simp;omega
    .simp[hy hq];omega
theorem Q9{n:Nat}{aR:Array Bool}{i:Nat}(hi:i<n)(hs:i<aR.size)(uX:¬SS aR i):Z7 n (aR.setIfInBounds i true)<Z7 n aR:=by
 refine Iv (λj _ hj=>?_) ⟨i,List.mem_range.2 hi,?_,?_⟩
 .simp only[Bool.not_eq_true'] at hj|-;cases hx:aR.getD j false
  .rfl
  .have:SS (aR.setIfInBounds i true) j:=(vq hs j).2 (.inr hx);rw[show _=true from this] at hj;exact hj
 .simp only[Bool.not_eq_true'];cases hx:aR.getD i false
  .rfl
  .exact absurd hx uX
 .have:SS (aR.setIfInBounds i true) i:=(vq hs i).2 (.inl rfl);rw[show _=true from this];rfl
theorem LL{n:Nat}{aR:Array Bool}(h:Z7 n aR=0){i:Nat}(hi:i<n):SS aR i:=by unfold Z7 at h;rw[List.countP_eq_zero] at h;have:=h i (List.mem_range.2 hi);simpa[SS] using this
section
variable {P:Program}{C:Nat->List AV->af->Option (AV×af)}{ops:Array Oper}{ss:List aQ}{b:List Nat}
structure xU(P:Program)(ops:Array Oper)(ss:List aQ)(b:List Nat):Prop where
 len:ss.length=ops.size
 comp:∀(i:Nat) (o:Oper),ops[i]? =some o->∃s:aQ,ss[i]? =some s/\im P ops o=some s
 bef:∀(i:Nat) (o:Oper),ops[i]? =some o->b.getD i 0=Cc b o.after.toList
 back:∀(i:Nat) (o:Oper),ops[i]? =some o->∀e∈o.after,Region.binds .any e=true->e.on<i
 uniq:∀(i j:Nat) (s r:aQ) (d:Nat),ss[i]? =some s->ss[j]? =some r->s.dst=some d->r.dst=some d->i=j
 ord:∀(i j:Nat) (s r:aQ),i<j->ss[i]? =some s->ss[j]? =some r->s.uy=true->r.uy=true->bt b i j=true\/r.nj=true
 ldo:∀(i j:Nat) (s r:aQ),ss[i]? =some s->ss[j]? =some r->s.MH=true->r.nj=true->j<i->bt b j i=true->∀(e:Nat) (q:aQ),ss[e]? =some q->e<j->q.uy=true->bt b e i=true
 rd:∀(i j:Nat) (s r:aQ) (d:Nat),i≠j->ss[i]? =some s->ss[j]? =some r->r.dst=some d->d∈s.reads->
  (j<i/\bt b j i=true/\(r.nj=true->∀(e:Nat) (q:aQ),ss[e]? =some q->e<j->q.uy=true->bt b e i=true))\/(i<j/\bt b i j=true)
theorem qD{i:Nat}:∀{l:List Edge},(Cc b l).testBit i=true->∃e∈l,Region.binds .any e=true/\(e.on=i\/bt b i e.on=true)
 |[],h=>by simp[Cc] at h
 |e::r,h=>by
   unfold Cc at h;split at h
   .rename_i hb;rw[Nat.testBit_or,Nat.testBit_or,Nat.testBit_two_pow,Bool.or_eq_true,Bool.or_eq_true] at h;rcases h with (h|h)|h
    .exact⟨e,by simp,hb,.inl (by simpa using h)⟩
    .exact⟨e,by simp,hb,.inr h⟩
    .obtain⟨e',h1,h2⟩:=qD h;exact⟨e',List.mem_cons_of_mem _ h1,h2⟩
   .obtain⟨e',h1,h2⟩:=qD h;exact⟨e',List.mem_cons_of_mem _ h1,h2⟩
def Zm(ops:Array Oper)(S:Nat->Prop):Prop:=∀(j:Nat) (o:Oper),ops[j]? =some o->S j->∀e∈o.after,Region.binds .any e=true->S e.on
theorem kN(st:xU P ops ss b){S:Nat->Prop}(hc:Zm ops S):∀(n j i:Nat),j<n->∀o,ops[j]? =some o->(∀e∈o.after,Region.binds .any e=true->S e.on)->bt b i j=true->S i
 |0,j,i,hj,_,_,_,_=>by omega
 |n+1,j,i,hj,o,ho,he,hb=>by
   unfold bt at hb;rw[st.bef j o ho] at hb;obtain⟨e,h1,h2,h3⟩:=qD hb;have KJ:e∈o.after:=by simpa using h1
   rcases h3 with rfl|h3
   .exact he e KJ h2
   .have cY:=st.back j o ho e KJ h2;have hjs:j<ops.size:=(Array.getElem?_eq_some_iff.1 ho).1;have hoe:ops[e.on]? =some ops[e.on]:=Array.getElem?_eq_getElem (by omega);exact kN st hc n e.on i (by omega) _ hoe (hc e.on _ hoe (he e KJ h2)) h3
structure Tr(C:Nat->List AV->af->Option (AV×af))(ss:List aQ)(b:List Nat)(F:Nat->List AV)(H:Nat->af):Prop where
 st:∀(i:Nat) (s:aQ),ss[i]? =some s->∃AM tg,cK C s (F i) AM=some (F (i+1),tg)/\(H i).alike AM/\tg.alike (H (i+1))
 ld:∀(i j:Nat) (s r:aQ) (n:Option Nat) (x:dY) (id off:Nat),ss[i]? =some s->ss[j]? =some r->s.op=.op (.ld n x)->x.ev (F i)=.ptr id off->r.uy=true->bt b i j=false->bt b j i=false->(H (j+1)).get id=(H j).get id
variable {F:Nat->List AV}{H:Nat->af}
theorem Tr.put(T:Tr C ss b F H){i:Nat}{s:aQ}(hs:ss[i]? =some s):∃v,F (i+1)=gw (F i) s.dst v:=by obtain⟨AM,tg,e,_⟩:=T.st i s hs;obtain⟨v,e1,_⟩:=nq (de:=F i) (λ_ _=>rfl) e;exact⟨v,e1⟩
theorem qE(fr:List AV)(d:Option Nat)(v:AV):(gw fr d v).length=fr.length:=by cases d<;>simp[gw]
theorem iA{fr:List AV}{d:Option Nat}{v:AV}{t:Nat}(h:d≠some t):(gw fr d v).getD t .undef=fr.getD t .undef:=by
 cases d with
 |none=>rfl
 |some d=>
   have eR:d≠t:=λe=>h (by rw[e])
   simp[gw,List.getD_eq_getElem?_getD,List.getElem?_set_ne eR]
theorem H8{fr de:List AV}{d:Nat}{v:AV}(hl:de.length=fr.length):(gw de (some d) v).getD d .undef=(gw fr (some d) v).getD d .undef:=by simp[gw,List.getD_eq_getElem?_getD,List.getElem?_set,hl]
theorem Tr.len(T:Tr C ss b F H):∀i,i<=ss.length->(F i).length=(F 0).length
 |0,_=>rfl
 |i+1,hi=>by obtain⟨v,e⟩:=T.put (List.getElem?_eq_getElem (show i<ss.length by omega));rw[e,qE];exact T.len i (by omega)
theorem Tr.gB(T:Tr C ss b F H){d i:Nat}:∀(m:Nat),i+m<=ss.length->(∀(j:Nat) (s:aQ),i<=j->j<i+m->ss[j]? =some s->s.dst≠some d)->(F (i+m)).getD d .undef=(F i).getD d .undef
 |0,_,_=>rfl
 |m+1,hl,fW=>by have hs:=List.getElem?_eq_getElem (show i+m<ss.length by omega);obtain⟨v,e⟩:=T.put hs;rw[show i+(m+1)=(i+m)+1 by omega,e,iA (fW (i+m) _ (by omega) (by omega) hs)];exact T.gB m (by omega) λj s h1 h2=>fW j s h1 (by omega)
theorem Tr.Ei(T:Tr C ss b F H){i:Nat}{s:aQ}(hs:ss[i]? =some s)(he:s.uy=false):(H i).alike (H (i+1)):=by
 obtain⟨AM,tg,e,a1,a2⟩:=T.st i s hs;obtain⟨rfl,_⟩:=tw he e (h2:=AM) λ_ _ _ _ _ _=>rfl
 exact a1.trans a2
def afj(F:Nat->List AV)(H:Nat->af)(φ0 φ:eJ)(pe:Nat->PE)(k:Nat)(a:Act)(w:World)(i:Nat)(s:aQ):Prop:=
 ∃cs,∃vf:Nat->AV,((H i).alloc (.row cs)).alike (H (i+1))/\F (i+1)=gw (F i) s.dst (vf (H i).next)/\Oo φ (H k) w (pe i) cs/\φ.gh (pe i).gA/\¬φ0.gh (pe i).gA/\
   ∀d,s.dst=some d->d<(F 0).length->VAt (pe i) vf (a.tmps.getD d undef)
structure DI(ops:Array Oper)(ss:List aQ)(F:Nat->List AV)(H:Nat->af)(φ0:eJ)(w0:World)(d0:List Deferred)(aR:Array Bool)(φ:eJ)(pe:Nat->PE)(cu:List AV)(k:Nat)(a:Act)(w:World):Prop where
 sz:aR.size=ss.length
 cl:Zm ops (SS aR)
 kn:k<=ss.length
 lo:∀(i:Nat) (s:aQ),i<k->ss[i]? =some s->s.uy=true->SS aR i
 hi:∀(i:Nat) (s:aQ),k<=i->ss[i]? =some s->s.uy=true->SS aR i->s.nj=true
 hr:HR φ (H k) w
 fr:FR φ (H k) w cu a.tmps
 ex:RB φ0 (H 0) w0 φ (H k) w
 Z5:cu.length=(F 0).length
 w1:∀(i:Nat) (s:aQ) (d:Nat),ss[i]? =some s->s.dst=some d->SS aR i->(s.nj=true->i<k)->cu.getD d .undef=(F ss.length).getD d .undef
 w2:∀(i:Nat) (s:aQ) (d:Nat),ss[i]? =some s->s.dst=some d->¬SS aR i->cu.getD d .undef=(F 0).getD d .undef
 w3:∀d:Nat,(∀(i:Nat) (s:aQ),ss[i]? =some s->s.dst≠some d)->cu.getD d .undef=(F 0).getD d .undef
 nj:∀(i:Nat) (s:aQ),k<=i->ss[i]? =some s->s.nj=true->SS aR i->afj F H φ0 φ pe k a w i s
 inj:∀(i j:Nat) (s r:aQ),k<=i->k<=j->ss[i]? =some s->ss[j]? =some r->s.nj=true->r.nj=true->SS aR i->SS aR j->(pe i).gA=(pe j).gA->i=j
 gh:∀x,φ.gh x->φ0.gh x\/∃(i:Nat) (s:aQ),k<=i/\ss[i]? =some s/\s.nj=true/\SS aR i/\x=(pe i).gA
 Wg:∀x,φ0.gh x->φ.gh x/\w.heap[x]? =w0.heap[x]?
 df:a.defers=d0
theorem zJ{s:aQ}(h:s.nj=true):s.uy=true:=by
 unfold aQ.nj at h;unfold aQ.uy;split at h
 .rename_i dT;rw[dT];rfl
 .rename_i dT;rw[dT];rfl
 .cases h
theorem FR.afs{φ:eJ}{h:af}{w:World}{fr:List AV}{tm:Array Value}(hf:FR φ h w fr tm){d:Nat}{v:AV}(hv:fe φ h w v (tm.getD d undef)):FR φ h w (fr.set d v) tm:=by
 have:=hf.put hv d
 have e:tm.setIfInBounds d (tm.getD d undef)=tm:=by
  apply Array.ext
  .simp
  .intro j h1 h2;rw[Array.getElem_setIfInBounds];split
   .rename_i e;subst e;simp[Array.getD,h2]
   .rfl
 rw[e] at this;exact this
variable {φ0:eJ}{w0:World}{d0:List Deferred}
theorem DI.advance(T:Tr C ss b F H)(st:xU P ops ss b):∀(m:Nat) {aR:Array Bool} {φ:eJ} {pe:Nat->PE} {cu:List AV} {k:Nat} {a:Act} {w:World},ss.length<=k+m->DI ops ss F H φ0 w0 d0 aR φ pe cu k a w->
 ∃φ' cu' k',DI ops ss F H φ0 w0 d0 aR φ' pe cu' k' a w/\(k'<ss.length->∃s:aQ,ss[k']? =some s/\s.uy=true/\¬SS aR k')
 |m,aR,φ,pe,cu,k,a,w,hm,D=>by
   rcases Nat.lt_or_ge k ss.length with hk|hk
   case inr=>exact⟨φ,cu,k,D,λh=>by omega⟩
   have hs:=List.getElem?_eq_getElem hk;by_cases hS:ss[k].uy=true/\¬SS aR k
   .exact⟨φ,cu,k,D,λ_=>⟨_,hs,hS.1,hS.2⟩⟩
   .cases m with
    |zero=>omega
    |succ m=>
      by_cases he:ss[k].uy=true
      .have hSk:SS aR k:=Classical.byContradiction λh=>hS ⟨he,h⟩
       have hp:=D.hi k _ (Nat.le_refl _) hs he hSk;obtain⟨cs,vf,q1,q2,q3,q4,q5,q6⟩:=D.nj k _ (Nat.le_refl _) hs hp hSk;obtain⟨r1,r2⟩:=aa8 D.hr q3 q4;obtain⟨r3,r4⟩:=r1.alike q1;have x:=r2.trans r4.E8;refine DI.advance T st m (k:=k+1) (φ:=⟨λid=>if id=(H k).next then pe k else φ id,λy=>φ.gh y/\y≠(pe k).gA⟩) (cu:=gw cu ss[k].dst (vf (H k).next)) (by omega) ?_;have CQ:(H (k+1)).next=(H k).next+1:=by rw[q1.1];rfl
       refine⟨D.sz,D.cl,hk,λi s h1 h2 h3=>?_,λi s h1 h2 h3 h4=>D.hi i s (by omega) h2 h3 h4,r3,?_,D.ex.trans x,by rw[qE];exact D.Z5,λi s d h1 h2 h3 h4=>?_,λi s d h1 h2 h3=>?_,λd h1=>?_,
        λi s h1 h2 h3 h4=>?_,λi j s r h1 h2=>D.inj i j s r (by omega) (by omega),λy hy=>?_,λy hy=>?_,D.df⟩
       .rcases Nat.lt_or_ge i k with h|h
        .exact D.lo i s h h2 h3
        .obtain rfl:i=k:=by omega
         exact hSk
       .cases hd:ss[k].dst with
        |none=>exact D.fr.E8 x
        |some d=>
          rcases Nat.lt_or_ge d (F 0).length with hdl|hdl
          .refine (D.fr.E8 x).afs ?_;exact q6 d hd hdl _ _ _ _ (H k).next (by simp) (by omega)
          .have e:gw cu (some d) (vf (H k).next)=cu:=by
            simp only[gw];exact List.set_eq_of_length_le (by rw[D.Z5];exact hdl)
           rw[e];exact D.fr.E8 x
       .by_cases IW:i=k
        .subst IW
         have e1:(F ss.length).getD d .undef=(F (i+1)).getD d .undef:=by
          have:=T.gB (d:=d) (i:=i+1) (ss.length-(i+1)) (by omega) λj r g1 g2 g3 g4=>by have:=st.uniq i j s r d h1 g3 h2 g4;omega
          rw[show i+1+(ss.length-(i+1))=ss.length by omega] at this;exact this
         have es:ss[i]=s:=by rw[hs] at h1;exact Option.some.inj h1
         rw[e1,q2,es,h2];exact H8 (by rw[D.Z5,T.len i (by omega)])
        .rw[iA (λe=>IW (st.uniq i k s _ d h1 hs h2 e))];exact D.w1 i s d h1 h2 h3 λh=>by have:=h4 h;omega
       .rw[iA (λe=>h3 ((st.uniq i k s _ d h1 hs h2 e)▸hSk))];exact D.w2 i s d h1 h2 h3
       .rw[iA (h1 k _ hs)];exact D.w3 d h1
       .obtain⟨iN,vf',p1,p2,p3,p4,p5,p6⟩:=D.nj i s (by omega) h2 h3 h4;refine⟨iN,vf',p1,p2,p3.E8 x rfl,⟨p4,λe=>?_⟩,p5,p6⟩;have:=D.inj i k s _ (by omega) (Nat.le_refl _) h2 hs h3 hp h4 hSk e;omega
       .rcases D.gh y hy.1 with h|⟨i,s,h1,h2,h3,h4,h5⟩
        .exact .inl h
        .refine .inr ⟨i,s,?_,h2,h3,h4,h5⟩;rcases Nat.lt_or_ge k i with h|h
         .exact h
         .obtain rfl:i=k:=by omega
          exact absurd h5 hy.2
       .obtain⟨g1,g2⟩:=D.Wg y hy;exact⟨⟨g1,λe=>q5 (e▸hy)⟩,g2⟩
      .have he:ss[k].uy=false:=by simpa using he
       have hnp:ss[k].nj=false:=by
        cases hp:ss[k].nj with
        |false=>rfl
        |true=>rw[zJ hp] at he;cases he
       have al:=T.Ei hs he;obtain⟨r1,r2⟩:=D.hr.alike al;refine DI.advance T st m (k:=k+1) (φ:=φ) (cu:=cu) (by omega) ?_
       refine⟨D.sz,D.cl,hk,λi s h1 h2 h3=>?_,λi s h1 h2 h3 h4=>D.hi i s (by omega) h2 h3 h4,r1,D.fr.ext r2,D.ex.trans r2.E8,D.Z5,λi s d h1 h2 h3 h4=>?_,D.w2,D.w3,
        λi s h1 h2 h3 h4=>?_,λi j s r h1 h2=>D.inj i j s r (by omega) (by omega),λy hy=>?_,D.Wg,D.df⟩
       .rcases Nat.lt_or_ge i k with h|h
        .exact D.lo i s h h2 h3
        .obtain rfl:i=k:=by omega
         rw[hs] at h2;rw[<-Option.some.inj h2,he] at h3;cases h3
       .refine D.w1 i s d h1 h2 h3 λh=>?_
        have:=h4 h;rcases Nat.lt_or_ge i k with h'|h'
        .exact h'
        .obtain rfl:i=k:=by omega
         rw[hs] at h1;rw[<-Option.some.inj h1,hnp] at h;cases h
       .obtain⟨iN,vf',p1,p2,p3,p4,p5,p6⟩:=D.nj i s (by omega) h2 h3 h4;exact⟨iN,vf',p1,p2,p3.E8 r2.E8 rfl,p4,p5,p6⟩
       .rcases D.gh y hy with h|⟨i,s,h1,h2,h3,h4,h5⟩
        .exact .inl h
        .refine .inr ⟨i,s,?_,h2,h3,h4,h5⟩;rcases Nat.lt_or_ge k i with h|h
         .exact h
         .obtain rfl:i=k:=by omega
          rw[hs] at h2;rw[<-Option.some.inj h2,hnp] at h3;cases h3
end
end
section
variable {X:World->Prop}
variable {cv:Value}
section
variable {P:Program}{C:Nat->List AV->af->Option (AV×af)}{ops:Array Oper}{ss:List aQ}{b:List Nat}{F:Nat->List AV}{H:Nat->af}{φ0:eJ}{w0:World}{d0:List Deferred}
 {aR:Array Bool} {φ:eJ} {pe:Nat->PE} {cu:List AV} {k:Nat} {a:Act} {w:World}
theorem XR(st:xU P ops ss b):∀(n j i:Nat),j<n->(∃o,ops[j]? =some o)->bt b i j=true->i<j
 |0,j,i,hj,_,_=>by omega
 |n+1,j,i,hj,⟨o,ho⟩,hb=>by
   unfold bt at hb;rw[st.bef j o ho] at hb;obtain⟨e,h1,h2,h3⟩:=qD hb;have KJ:e∈o.after:=by simpa using h1
   have cY:=st.back j o ho e KJ h2;rcases h3 with rfl|h3
   .exact cY
   .have hjs:j<ops.size:=(Array.getElem?_eq_some_iff.1 ho).1;have:=XR st n e.on i (by omega) ⟨_,Array.getElem?_eq_getElem (by omega)⟩ h3;omega
def KX(ss:List aQ)(aR:Array Bool)(k:Nat):Prop:=k<ss.length->∃s:aQ,ss[k]? =some s/\s.uy=true/\¬SS aR k
theorem DI.reads(T:Tr C ss b F H)(st:xU P ops ss b)(D:DI ops ss F H φ0 w0 d0 aR φ pe cu k a w)(kx:KX ss aR k){i:Nat}{o:Oper}{s:aQ}(ho:ops[i]? =some o)(hs:ss[i]? =some s)
 (ti:∀e∈o.after,Region.binds .any e=true->SS aR e.on) (uX:¬SS aR i):∀t∈s.reads,cu.getD t .undef=(F i).getD t .undef:=by
 intro t ht;have qo:i<ss.length:=(List.getElem?_eq_some_iff.1 hs).1;by_cases hw:∃(j:Nat) (r:aQ),ss[j]? =some r/\r.dst=some t
 .obtain⟨j,r,hj,hd⟩:=hw;have Gj:j<ss.length:=(List.getElem?_eq_some_iff.1 hj).1
  have head:i<=j->(F i).getD t .undef=(F 0).getD t .undef:=λhle=>by
   have:=T.gB (d:=t) (i:=0) i (by omega) λj' s' _ h2 h3 h4=>by have:=st.uniq j' j s' r t h3 hj h4 hd;omega
   simpa using this
  by_cases hji:j=i
  .subst hji;rw[D.w2 j r t hj hd uX,head (Nat.le_refl _)]
  .rcases st.rd i j s r t (Ne.symm hji) hs hj hd ht with⟨h1,h2,h3⟩|⟨h1,h2⟩
   .have hSj:SS aR j:=kN st D.cl (i+1) i j (by omega) o ho ti h2;rw[D.w1 j r t hj hd hSj λhp=>?_]
    .have:=T.gB (d:=t) (i:=i) (ss.length-i) (by omega) λj' s' g1 _ g3 g4=>by
      have:=st.uniq j' j s' r t g3 hj g4 hd;omega
     rw[show i+(ss.length-i)=ss.length by omega] at this;exact this
    .rcases Nat.lt_or_ge j k with h|h
     .exact h
     .exfalso;obtain⟨q,hq,G2,N6⟩:=kx (by omega);by_cases e:k=j
      .exact N6 (e▸hSj)
      .have:=h3 hp k q hq (by omega) G2;exact N6 (kN st D.cl (i+1) i k (by omega) o ho ti this)
   .have hjo:∃o',ops[j]? =some o':=⟨_,Array.getElem?_eq_getElem (by rw[<-st.len];exact Gj)⟩
    obtain⟨o',IX⟩:=hjo;have hnj:¬SS aR j:=λh=>uX (kN st D.cl (j+1) j i (by omega) o' IX (D.cl j o' IX h) h2)
    rw[D.w2 j r t hj hd hnj,head (by omega)]
 .have fW:∀(j:Nat) (r:aQ),ss[j]? =some r->r.dst≠some t:=λj r hj hd=>hw ⟨j,r,hj,hd⟩
  rw[D.w3 t fW];have:=T.gB (d:=t) (i:=0) i (by omega) λj' s' _ _ h3=>fW j' s' h3
  simpa using this.symm
theorem A4{id:Nat}{x:Nat}:∀(m:Nat),(∀j,x<=j->j<x+m->(H (j+1)).get id=(H j).get id)->(H (x+m)).get id=(H x).get id
 |0,_=>rfl
 |m+1,h=>by rw[show x+(m+1)=(x+m)+1 by omega,h (x+m) (by omega) (by omega)];exact A4 m λj h1 h2=>h j h1 (by omega)
theorem DI.load(T:Tr C ss b F H)(st:xU P ops ss b)(D:DI ops ss F H φ0 w0 d0 aR φ pe cu k a w)(kx:KX ss aR k){i:Nat}{o:Oper}{s:aQ}(ho:ops[i]? =some o)(hs:ss[i]? =some s)
 (ti:∀e∈o.after,Region.binds .any e=true->SS aR e.on) (uX:¬SS aR i) {n:Option Nat} {x:dY} {id off:Nat} (dT:s.op=.op (.ld n x)) (hx:x.ev (F i)=.ptr id off):(H k).get id=(H i).get id:=by
 have qo:i<ss.length:=(List.getElem?_eq_some_iff.1 hs).1;have hld:s.MH=true:=by unfold aQ.MH;rw[dT]
 have eR:s.uy=false:=by unfold aQ.uy;rw[dT]
 have one:∀j,j<ss.length->(∀r,ss[j]? =some r->r.uy=true->bt b i j=false/\bt b j i=false)->(H (j+1)).get id=(H j).get id:=λj hj hh=>by
  have hr:=List.getElem?_eq_getElem hj
  cases he:ss[j].uy with
  |false=>exact (T.Ei hr he).get id
  |true=>obtain⟨g1,g2⟩:=hh _ hr he;exact T.ld i j s _ n x id off hs hr dT hx he g1 g2
 rcases Nat.le_total k i with hki|hki
 .have:=A4 (H:=H) (id:=id) (x:=k) (i-k) λj h1 h2=>one j (by omega) λr hr he=>⟨?_,?_⟩
  .rw[show k+(i-k)=i by omega] at this;exact this.symm
  .cases hb:bt b i j with
   |false=>rfl
   |true=>have:=XR st (j+1) j i (by omega) ⟨_,Array.getElem?_eq_getElem (by rw[<-st.len];omega)⟩ hb;omega
  .cases hb:bt b j i with
   |false=>rfl
   |true=>
     exfalso;have hSj:=kN st D.cl (i+1) i j (by omega) o ho ti hb;have hp:=D.hi j r h1 hr he hSj;obtain⟨q,hq,G2,N6⟩:=kx (by omega);by_cases e:k=j
     .exact N6 (e▸hSj)
     .have:=st.ldo i j s r hs hr hld hp (by omega) hb k q hq (by omega) G2;exact N6 (kN st D.cl (i+1) i k (by omega) o ho ti this)
 .have hkn:=D.kn;have:=A4 (H:=H) (id:=id) (x:=i) (k-i) λj h1 h2=>one j (by omega) λr hr he=>⟨?_,?_⟩
  .rw[show i+(k-i)=k by omega] at this;exact this
  .cases hb:bt b i j with
   |false=>rfl
   |true=>
     exfalso;have hSj:=D.lo j r (by omega) hr he;have hjo:j<ops.size:=by rw[<-st.len];omega
     have hoj:ops[j]? =some ops[j]:=Array.getElem?_eq_getElem hjo;exact uX (kN st D.cl (j+1) j i (by omega) _ hoj (D.cl j _ hoj hSj) hb)
  .cases hb:bt b j i with
   |false=>rfl
   |true=>have:=XR st (i+1) i j (by omega) ⟨o,ho⟩ hb;omega
theorem u9{d:Option Nat}{t:Nat}(h:d≠some t)(cv:Value):(a.put d cv).tmps.getD t undef=a.tmps.getD t undef:=by
 cases d with
 |none=>rfl
 |some d=>
   have eR:d≠t:=λe=>h (by rw[e])
   simp[Act.put,Array.getElem?_setIfInBounds_ne eR]
theorem put_defers(d:Option Nat)(cv:Value):(a.put d cv).defers=a.defers:=by cases d<;>rfl
theorem DI.step(T:Tr C ss b F H)(st:xU P ops ss b)(D:DI ops ss F H φ0 w0 d0 aR φ pe cu k a w){i k':Nat}{o:Oper}{s:aQ}(ho:ops[i]? =some o)(hs:ss[i]? =some s)(hd:s.dst=o.dst)
 (ti:∀e∈o.after,Region.binds .any e=true->SS aR e.on) (uX:¬SS aR i) (hk:(k'=k/\s.uy=false)\/(k'=k+1/\i=k)) {v:AV} (hF:F (i+1)=gw (F i) s.dst v) {φ':eJ} {w':World}
 (hf:FR φ' (H k') w' (gw cu s.dst v) (a.put o.dst cv).tmps) (hr:HR φ' (H k') w') (hx:Ext φ (H k) w φ' (H k') w'):
 DI ops ss F H φ0 w0 d0 (aR.setIfInBounds i true) φ' pe (gw cu s.dst v) k' (a.put o.dst cv) w':=by
 have qo:i<ss.length:=(List.getElem?_eq_some_iff.1 hs).1;have iE:i<aR.size:=by rw[D.sz];exact qo
 have S':=vq iE;have hkn:=D.kn
 have hpi:∀j r,k'<=j->ss[j]? =some r->r.uy=true->j≠i:=λj r h1 h2 h3 e=>by
  rcases hk with⟨_,h⟩|⟨h,h'⟩
  .rw[e,hs] at h2;rw[<-Option.some.inj h2,h] at h3;cases h3
  .omega
 have DQ:k<=k':=by rcases hk with⟨h,_⟩|⟨h,_⟩<;>omega
 refine⟨by simp[D.sz],λj o' h1 h2 e h3 h4=>(S' _).2 (.inr ?_),?_,λj r h1 h2 h3=>(S' j).2 ?_,λj r h1 h2 h3 h4=>?_,hr,hf,D.ex.trans hx.E8,by rw[qE];exact D.Z5,λj r d h1 h2 h3 h4=>?_,λj r d h1 h2 h3=>?_,λd h1=>?_,
  λj r h1 h2 h3 h4=>?_,λi1 j1 s1 r1 g1 g2 g3 g4 g5 g6 g7 g8 g9=>?_,λy hy=>?_,λy hy=>?_,by rw[put_defers];exact D.df⟩
 .rcases (S' j).1 h2 with rfl|h2
  .rw[ho] at h1;cases h1;exact ti e h3 h4
  .exact D.cl j o' h1 h2 e h3 h4
 .rcases hk with⟨h,_⟩|⟨h,h'⟩<;>omega
 .rcases Nat.lt_or_ge j k with h|h
  .exact .inr (D.lo j r h h2 h3)
  .rcases hk with⟨h',_⟩|⟨h',h''⟩
   .omega
   .exact .inl (by omega)
 .rcases (S' j).1 h4 with e|h4
  .exact absurd e (hpi j r h1 h2 h3)
  .exact D.hi j r (by omega) h2 h3 h4
 .by_cases e:j=i
  .subst e;rw[hs] at h1;cases h1
   have e1:(F ss.length).getD d .undef=(F (j+1)).getD d .undef:=by
    have:=T.gB (d:=d) (i:=j+1) (ss.length-(j+1)) (by omega) λj' r' g1 g2 g3 g4=>by have:=st.uniq j j' s r' d hs g3 h2 g4;omega
    rw[show j+1+(ss.length-(j+1))=ss.length by omega] at this;exact this
   rw[e1,hF,h2];exact H8 (by rw[D.Z5,T.len j (by omega)])
  .have h3':SS aR j:=((S' j).1 h3).resolve_left e;rw[iA (λe'=>e (st.uniq j i r s d h1 hs h2 e'))];refine D.w1 j r d h1 h2 h3' λhp=>?_
   have:=h4 hp;rcases hk with⟨h,_⟩|⟨h,h'⟩<;>omega
 .have e:j≠i:=λe=>h3 ((S' j).2 (.inl e))
  rw[iA (λe'=>e (st.uniq j i r s d h1 hs h2 e'))];exact D.w2 j r d h1 h2 λh=>h3 ((S' j).2 (.inr h))
 .rw[iA (h1 i s hs)];exact D.w3 d h1
 .have e:=hpi j r h1 h2 (zJ h3);have h4':SS aR j:=((S' j).1 h4).resolve_left e;obtain⟨cs,vf,p1,p2,p3,p4,p5,p6⟩:=D.nj j r (by omega) h2 h3 h4';refine⟨cs,vf,p1,p2,p3.E8 hx.E8 (hx.gh.2 _ p4),by rw[hx.gh.1];exact p4,p5,λd g1 g2=>?_⟩;rw[u9 λe'=>e (st.uniq j i r s d h2 hs g1 (hd.trans e'))];exact p6 d g1 g2
 .exact D.inj i1 j1 s1 r1 (by omega) (by omega) g3 g4 g5 g6 (((S' i1).1 g7).resolve_left (hpi i1 s1 g1 g3 (zJ g5))) (((S' j1).1 g8).resolve_left (hpi j1 r1 g2 g4 (zJ g6))) g9
 .rw[hx.gh.1] at hy;rcases D.gh y hy with h|⟨i1,s1,h1,h2,h3,h4,h5⟩
  .exact .inl h
  .refine .inr ⟨i1,s1,?_,h2,h3,(S' i1).2 (.inr h4),h5⟩;rcases hk with⟨h,_⟩|⟨h,h'⟩
   .omega
   .have:i1≠k:=λe=>uX (by rw[h',<-e];exact h4)
    omega
 .obtain⟨g1,g2⟩:=D.Wg y hy;exact⟨by rw[hx.gh.1];exact g1,(hx.gh.2 y g1).trans g2⟩
theorem DI.early(T:Tr C ss b F H)(st:xU P ops ss b)(D:DI ops ss F H φ0 w0 d0 aR φ pe cu k a w){i:Nat}{o:Oper}{s:aQ}(ho:ops[i]? =some o)(hs:ss[i]? =some s)(hd:s.dst=o.dst)
 (ti:∀e∈o.after,Region.binds .any e=true->SS aR e.on) (uX:¬SS aR i) (hk:k<i) (hp:s.nj=true) {cs:List AV} {vf:Nat->AV} (hH:((H i).alloc (.row cs)).alike (H (i+1))) (hF:F (i+1)=gw (F i) s.dst (vf (H i).next))
 (hvf:(vf=λid=>.ptr id 0)\/∃n sz,vf=λid=>.vec id 0 n sz n) (wi:AV.ah cs<=(H k).next) {φ1:eJ} {w':World}
 (hf:FR φ1 ((H k).alloc (.row cs)) w' (gw cu s.dst (vf (H k).next)) (a.put o.dst cv).tmps) (hr:HR φ1 ((H k).alloc (.row cs)) w') (hx:Ext φ (H k) w φ1 ((H k).alloc (.row cs)) w'):
 DI ops ss F H φ0 w0 d0 (aR.setIfInBounds i true) ⟨φ.at_,λb=>φ.gh b\/b=(φ1 (H k).next).gA⟩ (λj=>if j=i then φ1 (H k).next else pe j) (gw cu s.dst .undef) k (a.put o.dst cv) w':=by
 have qo:i<ss.length:=(List.getElem?_eq_some_iff.1 hs).1;have iE:i<aR.size:=by rw[D.sz];exact qo
 have S':=vq iE;obtain⟨g1,g2,g3,g4⟩:=SX D.hr hr hx wi;have hpe:∀j,j≠i->(if j=i then φ1 (H k).next else pe j)=pe j:=λj hj=>if_neg hj
 refine⟨by simp[D.sz],λj o' h1 h2 e h3 h4=>(S' _).2 (.inr ?_),D.kn,λj r h1 h2 h3=>(S' j).2 (.inr (D.lo j r h1 h2 h3)),λj r h1 h2 h3 h4=>?_,g1,?_,D.ex.trans g2,by rw[qE];exact D.Z5,λj r d h1 h2 h3 h4=>?_,λj r d h1 h2 h3=>?_,λd h1=>?_,
  λj r h1 h2 h3 h4=>?_,λi1 j1 s1 r1 q1 q2 q3 q4 q5 q6 q7 q8 q9=>?_,λy hy=>?_,λy hy=>?_,by rw[put_defers];exact D.df⟩
 .rcases (S' j).1 h2 with rfl|h2
  .rw[ho] at h1;cases h1;exact ti e h3 h4
  .exact D.cl j o' h1 h2 e h3 h4
 .rcases (S' j).1 h4 with e|h4
  .subst e;rw[hs] at h2;cases h2;exact hp
  .exact D.hi j r h1 h2 h3 h4
 .rw[hd];exact (tH (D.fr.E8 g2) (RV.undef cv) o.dst).1
 .by_cases e:j=i
  .subst e;rw[hs] at h1;cases h1;have:=h4 hp;omega
  .have h3':SS aR j:=((S' j).1 h3).resolve_left e;rw[iA (λe'=>e (st.uniq j i r s d h1 hs h2 e'))];exact D.w1 j r d h1 h2 h3' h4
 .have e:j≠i:=λe=>h3 ((S' j).2 (.inl e))
  rw[iA (λe'=>e (st.uniq j i r s d h1 hs h2 e'))];exact D.w2 j r d h1 h2 λh=>h3 ((S' j).2 (.inr h))
 .rw[iA (h1 i s hs)];exact D.w3 d h1
 .by_cases e:j=i
  .subst e;rw[hs] at h2;cases h2;refine⟨cs,vf,hH,hF,?_,?_,?_,λd q1 q2=>?_⟩
   .simp only[if_true];exact g3
   .simp only[if_true];exact .inr trivial
   .simp only[if_true];exact λh=>g4 (D.Wg _ h).1
   .simp only[if_true];have:=hf.2 d
    have e1:(gw cu s.dst (vf (H k).next)).getD d .undef=vf (H k).next:=by
     rw[q1];have hdl:d<cu.length:=by rw[D.Z5];exact q2
     simp[gw,hdl]
    rw[e1] at this;exact VAt.of hvf this
  .have h4':SS aR j:=((S' j).1 h4).resolve_left e;obtain⟨iN,vf',p1,p2,p3,p4,p5,p6⟩:=D.nj j r h1 h2 h3 h4';refine⟨iN,vf',p1,p2,?_,?_,?_,λd q1 q2=>?_⟩
   .dsimp only;rw[hpe j e];exact p3.E8 g2 (hx.gh.2 _ p4)
   .dsimp only;rw[hpe j e];exact .inl p4
   .dsimp only;rw[hpe j e];exact p5
   .dsimp only;rw[hpe j e,u9 λe'=>e (st.uniq j i r s d h2 hs q1 (hd.trans e'))];exact p6 d q1 q2
 .by_cases e1:i1=i
  .by_cases e2:j1=i
   .omega
   .exfalso;rw[if_pos e1,hpe j1 e2] at q9;obtain⟨_,_,_,_,_,p4,_⟩:=D.nj j1 r1 q2 q4 q6 (((S' j1).1 q8).resolve_left e2);exact g4 (q9▸p4)
  .by_cases e2:j1=i
   .exfalso;rw[if_pos e2,hpe i1 e1] at q9;obtain⟨_,_,_,_,_,p4,_⟩:=D.nj i1 s1 q1 q3 q5 (((S' i1).1 q7).resolve_left e1);exact g4 (q9▸p4)
   .rw[hpe i1 e1,hpe j1 e2] at q9;exact D.inj i1 j1 s1 r1 q1 q2 q3 q4 q5 q6 (((S' i1).1 q7).resolve_left e1) (((S' j1).1 q8).resolve_left e2) q9
 .rcases hy with hy|rfl
  .rcases D.gh y hy with h|⟨i1,s1,h1,h2,h3,h4,h5⟩
   .exact .inl h
   .refine .inr ⟨i1,s1,h1,h2,h3,(S' i1).2 (.inr h4),?_⟩;rw[hpe i1 λe=>uX (e▸h4)];exact h5
  .exact .inr ⟨i,s,by omega,hs,hp,(S' i).2 (.inl rfl),by simp⟩
 .obtain⟨p1,p2⟩:=D.Wg y hy;exact⟨.inl p1,(hx.gh.2 y p1).trans p2⟩
theorem Ms{o:Oper}{s:aQ}(hc:im P ops o=some s):s.dst=o.dst:=by
 unfold im at hc;split at hc
 .cases hc
 .split at hc
  .cases hc;rfl
  .obtain⟨t,_,rfl⟩:=Option.map_eq_some_iff.1 hc;rfl
theorem ir.Hs{Q:Program}{aR:Array Bool}{φ:eJ}{pe:Nat->PE}{cu:List AV}{k:Nat}{a:Act}{w:World}(g:ir Q X φ0 (H 0) w0)(D:DI ops ss F H φ0 w0 d0 aR φ pe cu k a w):ir Q X φ (H k) w:=by
 obtain⟨w1,h1,h2⟩:=g;refine⟨w1,h1,λb hb=>?_⟩;obtain⟨g1,g2,g3⟩:=h2 b hb;refine⟨Nat.lt_of_lt_of_le g1 D.ex.size,?_⟩;rcases g2 with g2|g2
 .exact⟨.inl (D.Wg b g2).1,(D.Wg b g2).2.trans g3⟩
 .exact⟨.inr (D.ex.pr b g2).1,(D.ex.pr b g2).2.trans g3⟩
theorem agp(hC:lY P X C)(hG:ir P X φ0 (H 0) w0)(T:Tr C ss b F H)(st:xU P ops ss b){Q:Exit->Act->World->Prop}
 (hQ:∀φ' a' w',FR φ' (H ss.length) w' (F ss.length) a'.tmps->HR φ' (H ss.length) w'->Ext φ0 (H 0) w0 φ' (H ss.length) w'->a'.defers=d0->Q .normal a' w'):
 ∀(fuel:Nat) (aR:Array Bool) (φ:eJ) (pe:Nat->PE) (cu:List AV) (k:Nat) (a:Act) (w:World),DI ops ss F H φ0 w0 d0 aR φ pe cu k a w->KX ss aR k->Z7 ss.length aR<=fuel->
   wpAny P .any ops Q fuel aR a w:=by
 have N7:∀(aR:Array Bool) (φ:eJ) (pe:Nat->PE) (cu:List AV) (k:Nat) (a:Act) (w:World),DI ops ss F H φ0 w0 d0 aR φ pe cu k a w->KX ss aR k->(∀i,i<ss.length->SS aR i)->Q .normal a w:=λaR φ pe cu k a w D kx iF=>by
  have hk:k=ss.length:=by
   rcases Nat.lt_or_ge k ss.length with h|h
   .obtain⟨s,_,_,hn⟩:=kx h;exact absurd (iF k h) hn
   .have:=D.kn;omega
  subst hk
  have hcu:∀t,cu.getD t .undef=(F ss.length).getD t .undef:=λt=>by
   by_cases hw:∃(j:Nat) (r:aQ),ss[j]? =some r/\r.dst=some t
   .obtain⟨j,r,hj,hd⟩:=hw;have Gj:j<ss.length:=(List.getElem?_eq_some_iff.1 hj).1;exact D.w1 j r t hj hd (iF j Gj) λ_=>Gj
   .have fW:∀(j:Nat) (r:aQ),ss[j]? =some r->r.dst≠some t:=λj r hj hd=>hw ⟨j,r,hj,hd⟩
    rw[D.w3 t fW];have:=T.gB (d:=t) (i:=0) ss.length (by omega) λj' s' _ _ h3=>fW j' s' h3
    simpa using this.symm
  refine hQ φ a w ⟨?_,λt=>?_⟩ D.hr ?_ D.df
  .rw[D.fr.1,D.Z5,T.len ss.length (Nat.le_refl _)]
  .rw[<-hcu t];exact D.fr.2 t
  .have x:=D.ex;refine⟨x.os,x.tape,x.output,x.size,x.next,x.CD,x.pr,?_,λy hy=>(D.Wg y hy).2⟩;funext y;refine propext ⟨λhy=>?_,λhy=>(D.Wg y hy).1⟩;rcases D.gh y hy with h|⟨i,s,h1,h2,_⟩
   .exact h
   .have:=(List.getElem?_eq_some_iff.1 h2).1;omega
 have hnl:∀(aR:Array Bool) (i:Nat),aR.size=ss.length->aR.getD i true=false->i<ss.length/\¬SS aR i:=λaR i iE h=>by
  have cY:i<aR.size:=by
   rcases Nat.lt_or_ge i aR.size with h'|h'
   .exact h'
   .simp[Array.getElem?_eq_none h'] at h
  refine⟨by omega,λhS=>?_⟩;unfold SS at hS;simp[cY] at h hS;rw[h] at hS;cases hS
 intro fuel
 induction fuel with
 |zero=>
   intro aR φ pe cu k a w D kx hu;have iF:∀i,i<ss.length->SS aR i:=λi hi=>LL (by omega) hi
   refine⟨?_,N7 aR φ pe cu k a w D kx iF⟩;apply List.eq_nil_iff_forall_not_mem.2;intro i hi;obtain⟨h1,h2⟩:=hnl aR i D.sz (mem_ready.1 hi).1;exact h2 (iF i h1)
 |succ fuel ih=>
   intro aR φ pe cu k a w D kx hu;refine⟨λh0=>N7 aR φ pe cu k a w D kx λi hi=>?_,λi hi=>?_⟩
   .induction i using Nat.strongRecOn with
    |_ i ihi=>
      refine Classical.byContradiction λuX=>?_
      have agG:i<ops.size:=by rw[<-st.len];exact hi
      have hio:ops[i]? =some ops[i]:=Array.getElem?_eq_getElem agG
      have:i∈Region.ready .any ops aR:=by
       rw[mem_ready];refine⟨?_,_,hio,λe he hb=>?_⟩
       .have cY:i<aR.size:=by rw[D.sz];exact hi
        unfold SS at uX;simp[cY] at uX|-;exact uX
       .have:=st.back i _ hio e he hb;exact ihi e.on this (by omega)
      rw[h0] at this;cases this
   .obtain⟨hun,o,ho,ZN⟩:=mem_ready.1 hi;obtain⟨qo,uX⟩:=hnl aR i D.sz hun;have ti:∀e∈o.after,Region.binds .any e=true->SS aR e.on:=ZN;obtain⟨s,hs,AP⟩:=st.comp i o ho;have hd:=Ms AP;obtain⟨AM,tg,oV,a1,a2⟩:=T.st i s hs;have VI:=D.reads T st kx ho hs ti uX;have B3:∀x∈s.op.nH,x.ev cu=x.ev (F i):=λx hxm=>ub λt ht=>VI t (List.mem_append_right _ (List.mem_flatMap.2 ⟨x,hxm,ht⟩))
    have G1:Z7 ss.length (aR.setIfInBounds i true)<=fuel:=by have:=Q9 qo (by rw[D.sz];exact qo) uX;omega
    unfold wpOp;rw[ho];dsimp only
    have fin:(if Region.wanted o (yielded ops a.tmps) then o.wp P a w (wpAny P .any ops Q fuel (aR.setIfInBounds i true)) Q else wpAny P .any ops Q fuel (aR.setIfInBounds i true) (a.put o.dst undef) w)->
     (if Region.wanted o (yielded ops a.tmps) then (o.wp P a w (wpAny P .any ops Q fuel (aR.setIfInBounds i true)) Q\/(o.asks P a w/\LetsOut Q)) else wpAny P .any ops Q fuel (aR.setIfInBounds i true) (a.put o.dst undef) w):=λh=>by
     split
     .rename_i hw;rw[if_pos hw] at h;exact .inl h
     .rename_i hw;rw[if_neg hw] at h;exact h
    apply fin;by_cases he:s.uy=true
    .rcases Nat.lt_trichotomy i k with IW|IW|IW
     .exact absurd (D.lo i s IW hs he) uX
     .subst IW;obtain⟨v,hF,Gp⟩:=nq VI oV;obtain⟨r1,r2⟩:=D.hr.alike a1;refine As hC AP Gp (D.fr.ext r2) r1 ((hG.Hs D).ext r2) λφ' cv w' f1 r3 e1=>?_
      obtain⟨r4,r5⟩:=r3.alike a2;have D1:=D.step T st (k':=i+1) ho hs hd ti uX (.inr ⟨rfl,rfl⟩) hF (f1.ext r5) r4 ((r2.trans e1).trans r5);obtain⟨φ2,cu2,k2,D2,kx2⟩:=D1.advance T st (ss.length) (by omega);exact ih _ φ2 pe cu2 k2 _ w' D2 kx2 G1
     .have hp:s.nj=true:=by
       obtain⟨q,hq,G2,N6⟩:=kx (by omega);rcases st.ord k i q s IW hq hs G2 he with h|h
       .exact absurd (kN st D.cl (i+1) i k (by omega) o ho ti h) N6
       .exact h
      obtain⟨cs,vf,hh,hF,hvf,iF⟩:=Cq hp oV;obtain⟨Gp,wi⟩:=iF cu (H k) B3;subst hh;refine As hC AP Gp D.fr D.hr (hG.Hs D) λφ' cv w' f1 r3 e1=>?_
      have CQ:AM.next=(H i).next:=a1.1
      rw[CQ] at hF;have D1:=D.early T st ho hs hd ti uX IW hp ((a1.alloc _).trans a2) hF hvf (wi _ _ _ D.fr) f1 r3 e1;refine ih _ _ _ _ k _ w' D1 (λh=>?_) G1;obtain⟨q,hq,G2,N6⟩:=kx h;refine⟨q,hq,G2,λh'=>?_⟩;rcases (vq (by rw[D.sz];exact qo) k).1 h' with e|e
      .omega
      .exact N6 e
    .have he:s.uy=false:=by simpa using he
     obtain⟨v,hF,Gp⟩:=nq VI oV
     obtain⟨_,agH⟩:=tw (h2:=H k) he Gp λn x id off dT hx=>by
      have Ky:x.ev (F i)=.ptr id off:=by rw[<-B3 x (by rw[dT];simp[Sd.nH,B6.nH])];exact hx
      rw[a1.get id];exact D.load T st kx ho hs ti uX dT Ky
     refine As hC AP agH D.fr D.hr (hG.Hs D) λφ' cv w' f1 r3 e1=>?_
     have D1:=D.step T st (k':=k) ho hs hd ti uX (.inl ⟨rfl,he⟩) hF f1 r3 e1;refine ih _ _ _ _ k _ w' D1 (λh=>?_) G1;obtain⟨q,hq,G2,N6⟩:=kx h;refine⟨q,hq,G2,λh'=>?_⟩;rcases (vq (by rw[D.sz];exact qo) k).1 h' with e|e
     .subst e;rw[hs] at hq;rw[<-Option.some.inj hq,he] at G2;cases G2
     .exact N6 e
end
end
section
variable {X:World->Prop}
def CW(h h':af):Prop:=h.wf->CL h h'/\h'.wf
theorem CW.refl(h:af):CW h h:=λw=>⟨.refl _,w⟩
theorem CW.trans{h h1 h2:af}(a:CW h h1)(b:CW h1 h2):CW h h2:=λw=>by obtain⟨c1,w1⟩:=a w;obtain⟨c2,w2⟩:=b w1;exact⟨c1.trans c2,w2⟩
variable {DT:B6}
theorem ai8{fr:List AV}{h h':af}{v:AV}(he:bG fr h DT=some (v,h'))(hw:h.wf):h'.wf:=by
 cases DT<;>simp only[bG] at he
 all_goals
  repeat' split at he
  all_goals first
   |(cases he;done)
   |(cases he;exact hw)
   |(cases he;exact af.oz _ hw)
   |(cases he;exact af.Dk _ _ (af.wf_set _ _ hw))
   |(cases he;exact af.oz _ (af.wf_set _ _ hw))
   |(obtain⟨_,_,e⟩:=Option.map_eq_some_iff.1 he;cases e;exact hw)
   |(obtain⟨_,_,e⟩:=Option.map_eq_some_iff.1 he;cases e;exact af.oz _ hw)
   |(obtain⟨_,_,e⟩:=Option.map_eq_some_iff.1 he;cases e;exact af.Dk _ _ (af.Dk _ _ (af.wf_set _ _ hw)))
   |(obtain⟨p,_,e⟩:=Option.map_eq_some_iff.1 he;(repeat' split at e)<;>cases e<;>exact hw)
theorem ajt{fr:List AV}{h h':af}{v:AV}(he:bG fr h DT=some (v,h')):CW h h':=λw=>⟨aiL he,ai8 he w⟩
def oQ(C:Nat->List AV->af->Option (AV×af)):Prop:=∀f args h v h',C f args h=some (v,h')->CW h h'
section
variable {P:Program}{C:Nat->List AV->af->Option (AV×af)}{ops:Array Oper}{ss:List aQ}{b:List Nat}
theorem DJ(hC:oQ C){s:aQ}{fr de:List AV}{h h':af}(he:cK C s fr h=some (de,h')):CW h h':=by
 unfold cK at he;split at he
 .cases he
 .cases he;exact .refl _
 .split at he
  .obtain⟨⟨v,h1⟩,h2,e⟩:=Option.map_eq_some_iff.1 he;cases e;exact hC _ _ _ _ _ h2
  .split at he
   .obtain⟨⟨v,h1⟩,h2,e⟩:=Option.map_eq_some_iff.1 he;cases e;exact hC _ _ _ _ _ h2
   .cases he
  .obtain⟨⟨v,h1⟩,h2,e⟩:=Option.map_eq_some_iff.1 he;cases e;exact ajt h2
theorem MQ(hC:oQ C):∀{ss:List aQ} {fr de:List AV} {h h':af},cS C ss fr h=some (de,h')->CW h h'
 |[],fr,de,h,h',he=>by simp only[cS,Option.some.injEq,Prod.mk.injEq] at he;obtain⟨rfl,rfl⟩:=he;exact .refl _
 |s::ss,fr,de,h,h',he=>by
   simp only[cS] at he;split at he
   .rename_i th h1 h2;exact (DJ hC h2).trans (MQ hC he)
   .cases he
theorem CL.aap{h h':af}(c:CL {h with md:=h.next} h'):CL h {h' with md:=min h.md h'.md}:=⟨c.next,c.wl,λn h1 h2 h3=>c.le n h1 h2 h3,Nat.min_le_left _ _,λid h1 h2=>c.same id (by dsimp only at h1;omega) h2⟩
theorem CW.aap{h h':af}(c:CW {h with md:=h.next} h'):CW h {h' with md:=min h.md h'.md}:=λw=>by obtain⟨c1,w1⟩:=c w;exact⟨c1.aap,w1⟩
theorem ac3(hC:oQ C):∀{ss:List aQ} {fr de:List AV} {h h':af} {tr:List (Nat×af×af)},uS C ss fr h=some (de,h',tr)->CW h h'
 |[],fr,de,h,h',tr,he=>by simp only[uS,Option.some.injEq,Prod.mk.injEq] at he;obtain⟨rfl,rfl,_⟩:=he;exact .refl _
 |s::ss,fr,de,h,h',tr,he=>by
   simp only[uS] at he;split at he
   .rename_i th h1 h2;obtain⟨⟨fr2,h3,tr2⟩,h4,e⟩:=Option.map_eq_some_iff.1 he;cases e;exact (CW.aap (DJ hC h2)).trans (ac3 hC h4)
   .cases he
theorem zu{α β:Type}{f:α->Option β}:∀{l:List α} {r:List β},dP f l=some r->r.length=l.length/\∀(i:Nat) (x:α),l[i]? =some x->∃y,r[i]? =some y/\f x=some y
 |[],r,h=>by simp only[dP,Option.some.injEq] at h;subst h;exact⟨rfl,λi x hx=>by simp at hx⟩
 |x::l,r,h=>by
   unfold dP at h;split at h
   .rename_i y s h1 h2;cases h;obtain⟨g1,g2⟩:=zu h2;refine⟨by simp[g1],λi z hz=>?_⟩
    cases i with
    |zero=>simp only[List.getElem?_cons_zero,Option.some.injEq] at hz;subst hz;exact⟨y,by simp,h1⟩
    |succ i=>exact g2 i z (by simpa using hz)
   .cases h
theorem R9(hs:dP (im P ops) ops.toList=some ss)(hd:EZ ops ss b=true):xU P ops ss b:=by
 obtain⟨hl,hg⟩:=zu hs;unfold EZ at hd;rw[Bool.and_eq_true,List.all_eq_true,List.all_eq_true] at hd;obtain⟨he,hp⟩:=hd;have ajP:∀(i:Nat) (o:Oper),ops[i]? =some o->Dg b (o,i)=true:=λi o ho=>he (o,i) (List.mk_mem_zipIdx_iff_getElem?.2 (by rw[Array.getElem?_toList];exact ho))
 have pair:∀(i j:Nat) (s r:aQ),ss[i]? =some s->ss[j]? =some r->i≠j->BB b ss.zipIdx s i r j=true/\(i==j)=false:=λi j s r h1 h2 eR=>by have:=hp (s,i) (List.mk_mem_zipIdx_iff_getElem?.2 h1);rw[List.all_eq_true] at this;exact⟨this (r,j) (List.mk_mem_zipIdx_iff_getElem?.2 h2),by simpa using eR⟩
 have ajQ:∀(i j:Nat),(ss.zipIdx.all λq=>!(decide (q.2<j)&&q.1.uy)||bt b q.2 i)=true->∀(e:Nat) (q:aQ),ss[e]? =some q->e<j->q.uy=true->bt b e i=true:=λi j h e q hq cY G2=>by rw[List.all_eq_true] at h;have:=h (q,e) (List.mk_mem_zipIdx_iff_getElem?.2 hq);simpa[cY,G2] using this
 refine⟨by rw[hl];simp,λi o ho=>hg i o (by rw[Array.getElem?_toList];exact ho),λi o ho=>?_,λi o ho e hem hb=>?_,λi j s r d h1 h2 h3 h4=>?_,λi j s r cY h1 h2 h3 h4=>?_,λi j s r h1 h2 h3 h4 cY hb=>?_,λi j s r d eR h1 h2 h3 h4=>?_⟩
 .have:=ajP i o ho;unfold Dg at this;rw[Bool.and_eq_true] at this;simpa using this.1
 .have:=ajP i o ho;unfold Dg at this;rw[Bool.and_eq_true,List.all_eq_true] at this;have:=this.2 e (by simpa using hem);simpa[hb] using this
 .refine Classical.byContradiction λeR=>?_
  obtain⟨g,g'⟩:=pair i j s r h1 h2 eR;unfold BB at g;rw[h3,h4] at g;simp[g'] at g
 .obtain⟨g,g'⟩:=pair i j s r h1 h2 (by omega);unfold BB at g;rw[g',Bool.false_or,Bool.and_eq_true,Bool.and_eq_true,Bool.and_eq_true] at g;have:=g.1.1.2;simpa[cY,h3,h4] using this
 .obtain⟨g,g'⟩:=pair i j s r h1 h2 (by omega);unfold BB at g;rw[g',Bool.false_or,Bool.and_eq_true,Bool.and_eq_true,Bool.and_eq_true] at g;have:=g.2;rw[Bool.or_eq_true] at this;rcases this with h|h
  .simp[h3,h4,cY,hb] at h
  .exact ajQ i j h
 .obtain⟨g,g'⟩:=pair i j s r h1 h2 eR;unfold BB at g;rw[g',Bool.false_or,Bool.and_eq_true,Bool.and_eq_true,Bool.and_eq_true,h3] at g;have:=g.1.2;dsimp only at this;rw[Bool.or_eq_true] at this;rcases this with h|h
  .rw[List.contains_iff_mem.2 h4] at h;cases h
  .split at h
   .rename_i cY;rw[Bool.and_eq_true,Bool.or_eq_true] at h;refine .inl ⟨cY,h.1,λhpd=>?_⟩;rcases h.2 with h|h
    .rw[hpd] at h;cases h
    .exact ajQ i j h
   .exact .inr ⟨by omega,h⟩
theorem IT{i j:Nat}{s r:aQ}(h1:ss[i]? =some s)(h2:ss[j]? =some r)(hl:s.MH=true)(he:r.uy=true)(b1:bt b i j=false)(b2:bt b j i=false):(i,j)∈rX b ss.zipIdx:=by unfold rX;refine List.mem_flatMap.2 ⟨(s,i),List.mk_mem_zipIdx_iff_getElem?.2 h1,?_⟩;dsimp only;rw[if_pos hl];exact List.mem_filterMap.2 ⟨(r,j),List.mk_mem_zipIdx_iff_getElem?.2 h2,by simp[he,b1,b2]⟩
theorem BX:∀{ss:List aQ} {fr de:List AV} {h h':af},cS C ss fr h=some (de,h')->
 ∃(F:Nat->List AV) (H:Nat->af),F 0=fr/\H 0=h/\F ss.length=de/\H ss.length=h'/\∀(i:Nat) (s:aQ),ss[i]? =some s->cK C s (F i) (H i)=some (F (i+1),H (i+1))
 |[],fr,de,h,h',he=>by simp only[cS,Option.some.injEq,Prod.mk.injEq] at he;obtain⟨rfl,rfl⟩:=he;exact⟨λ_=>fr,λ_=>h,rfl,rfl,rfl,rfl,λi s hs=>by simp at hs⟩
 |s::ss,fr,de,h,h',he=>by
   simp only[cS] at he;split at he
   .rename_i th h1 h2;obtain⟨F,H,g1,g2,g3,g4,g5⟩:=BX he;refine⟨λi=>match i with|0=>fr|i+1=>F i,λi=>match i with|0=>h|i+1=>H i,rfl,rfl,g3,g4,λi r hr=>?_⟩
    cases i with
    |zero=>simp only[List.getElem?_cons_zero,Option.some.injEq] at hr;subst hr;dsimp only;rw[g1,g2];exact h2
    |succ i=>exact g5 i r (by simpa using hr)
   .cases he
theorem Oy:∀{ss:List aQ} {fr de:List AV} {h h':af} {tr:List (Nat×af×af)},uS C ss fr h=some (de,h',tr)->
 ∃(F:Nat->List AV) (H:Nat->af),F 0=fr/\H 0=h/\F ss.length=de/\H ss.length=h'/\
   ∀(i:Nat) (s:aQ),ss[i]? =some s->∃ho:af,cK C s (F i) {H i with md:=(H i).next}=some (F (i+1),ho)/\H (i+1)={ho with md:=min (H i).md ho.md}/\∃hb:af,hb.get=(H i).get/\tr[i]? =some (C1 s (F i),hb,ho)
 |[],fr,de,h,h',tr,he=>by simp only[uS,Option.some.injEq,Prod.mk.injEq] at he;obtain⟨rfl,rfl,_⟩:=he;exact⟨λ_=>fr,λ_=>h,rfl,rfl,rfl,rfl,λi s hs=>by simp at hs⟩
 |s::ss,fr,de,h,h',tr,he=>by
   simp only[uS] at he;split at he
   .rename_i th h1 h2;obtain⟨⟨fr2,h3,tr2⟩,h4,e⟩:=Option.map_eq_some_iff.1 he;cases e;obtain⟨F,H,g1,g2,g3,g4,g5⟩:=Oy h4;refine⟨λi=>match i with|0=>fr|i+1=>F i,λi=>match i with|0=>h|i+1=>H i,rfl,rfl,g3,g4,λi r hr=>?_⟩
    cases i with
    |zero=>simp only[List.getElem?_cons_zero,Option.some.injEq] at hr;subst hr;dsimp only;rw[g1,g2];exact⟨h1,h2,rfl,h,rfl,rfl⟩
    |succ i=>obtain⟨ho,q1,q2,hb,qb,q3⟩:=g5 i r (by simpa using hr);exact⟨ho,q1,q2,hb,qb,by simpa using q3⟩
   .cases he
theorem Tr.of_steps{F:Nat->List AV}{H:Nat->af}(qS:∀(i:Nat) (s:aQ),ss[i]? =some s->cK C s (F i) (H i)=some (F (i+1),H (i+1)))(hp:rX b ss.zipIdx=[]):Tr C ss b F H:=by refine⟨λi s hs=>⟨H i,H (i+1),qS i s hs,af.alike_refl _,af.alike_refl _⟩,λi j s r n x id off h1 h2 h3 h4 h5 h6 h7=>?_⟩;have:=IT (b:=b) h1 h2 (by unfold aQ.MH;rw[h3]) h5 h6 h7;rw[hp] at this;cases this
mutual
theorem AV.We:∀(a b:AV),a.NM b=true->a=b:=λa b h=>by
 cases a<;>cases b<;>simp only[AV.NM,Bool.and_eq_true,beq_iff_eq,decide_eq_true_eq,Bool.false_eq_true] at h
 case bool.bool=>exact congrArg _ h
 case int.int=>obtain⟨rfl,rfl⟩:=h;rfl
 case str.str=>exact congrArg _ h
 case ptr.ptr=>rw[Nat.eq_of_beq_eq_true h.1,Nat.eq_of_beq_eq_true h.2]
 case ip.ip=>exact congrArg _ (AV.tt _ _ h)
 case sl.sl=>exact congrArg _ (AV.tt _ _ h)
 case vec.vec=>obtain⟨⟨⟨⟨h1,h2⟩,h3⟩,h4⟩,h5⟩:=h;rw[Nat.eq_of_beq_eq_true h1,Nat.eq_of_beq_eq_true h2,Nat.eq_of_beq_eq_true h3,Nat.eq_of_beq_eq_true h4,Nat.eq_of_beq_eq_true h5]
 case map.map=>exact congrArg _ (Nat.eq_of_beq_eq_true h)
 case fn.fn=>obtain⟨h1,h⟩:=h;rw[Nat.eq_of_beq_eq_true h1,AV.tt _ _ h]
 case iface.iface=>obtain⟨h1,h⟩:=h;rw[Nat.eq_of_beq_eq_true h1,AV.We _ _ h]
 case agg.agg=>exact congrArg _ (AV.tt _ _ h)
 case tuple.tuple=>exact congrArg _ (AV.tt _ _ h)
 all_goals rfl
theorem AV.tt:∀(a b:List AV),AV.BG a b=true->a=b:=λa b h=>by
 cases a with
 |nil=>cases b with
   |nil=>rfl
   |cons y s=>simp[AV.BG] at h
 |cons x r=>cases b with
   |nil=>simp[AV.BG] at h
   |cons y s=>simp only[AV.BG,Bool.and_eq_true] at h;rw[AV.We x y h.1,AV.tt r s h.2]
end
theorem WZ{a b:Option aT}(h:RL a b=true):a=b:=by
 unfold RL at h;split at h
 .rw[AV.tt _ _ h]
 .cases h
theorem Yr{r:aQ}{fr de:List AV}{h h':af}{id:Nat}(he:r.uy=true)(h0:0<C1 r fr)(eR:¬id+1=C1 r fr)(oV:cK C r fr h=some (de,h')):h'.get id=h.get id:=by
 obtain⟨dst,op,guard⟩:=r;unfold C1 at h0 eR;unfold aQ.uy at he
 cases op with
 |call f args=>simp at h0
 |lM x args=>simp at h0
 |op o=>
   cases o with
   |ld n x=>simp at he
   |st n x v=>
     dsimp only at h0 eR;unfold cK at oV;dsimp only at oV;split at oV
     .cases oV
     .cases oV;rfl
     .obtain⟨⟨v1,h1⟩,h2,e⟩:=Option.map_eq_some_iff.1 oV;cases e;simp only[bG] at h2;split at h2
      .rename_i tid off vs hx hv;rw[hx] at h0 eR;split at h2
       .rename_i cs rF;split at h2
        .cases h2;rw[af.lN];exact af.get_set_other (by dsimp only at eR;omega)
        .cases h2
       .cases h2
      .cases h2
   |_=>simp at h0
theorem Tr.adr(hC:oQ C){F:Nat->List AV}{H:Nat->af}{tr:List (Nat×af×af)}
 (qS:∀(i:Nat) (s:aQ),ss[i]? =some s->∃ho:af,cK C s (F i) {H i with md:=(H i).next}=some (F (i+1),ho)/\H (i+1)={ho with md:=min (H i).md ho.md}/\∃hb:af,hb.get=(H i).get/\tr[i]? =some (C1 s (F i),hb,ho))
 (hw:(H 0).wf) (hp:Nl tr (rX b ss.zipIdx)=true):Tr C ss b F H:=by
 have wfs:∀j,j<=ss.length->(H j).wf:=λj=>by
  induction j with
  |zero=>exact λ_=>hw
  |succ j ih=>intro hj;obtain⟨ho,g1,g2,_⟩:=qS j _ (List.getElem?_eq_getElem (show j<ss.length by omega));have:=(CW.aap (DJ hC g1) (ih (by omega))).2;rw[g2];exact this
 refine⟨λi s hs=>?_,λi j s r n x id off h1 h2 h3 h4 h5 h6 h7=>?_⟩
 .obtain⟨ho,g1,g2,g3⟩:=qS i s hs;exact⟨_,ho,g1,⟨rfl,rfl⟩,by rw[g2];exact⟨rfl,rfl⟩⟩
 .have hm:=IT (b:=b) h1 h2 (by unfold aQ.MH;rw[h3]) h5 h6 h7;unfold Nl at hp;rw[List.all_eq_true] at hp;have hp:=hp _ hm;obtain⟨ho,g1,g2,hb,gb,g3⟩:=qS i s h1;obtain⟨IX,g1',g2',B2,gb',g3'⟩:=qS j r h2;dsimp only at hp;rw[g3,g3'] at hp;have e:C1 s (F i)=id+1:=by unfold C1;rw[h3];dsimp only;rw[h4]
  rw[e] at hp;rw[g2'];rw[Bool.or_eq_true,Bool.or_eq_true] at hp;rcases hp with (hp|hp)|hp
  .have cY:id<IX.md:=by
    have:id+1<=IX.md:=by simpa using hp
    omega
   have c:=(DJ hC g1' (wfs j (by have:=(List.getElem?_eq_some_iff.1 h2).1;omega))).1;have dn:=c.md;exact c.same id cY (by dsimp only at dn|-;omega)
  .simp only[Bool.and_eq_true,decide_eq_true_eq,Bool.not_eq_true',beq_eq_false_iff_ne] at hp;have ho:=Yr h5 hp.1 hp.2 g1';exact ho
  .simp only[Bool.and_eq_true,Nat.add_sub_cancel] at hp;have ho:=WZ hp.2;rw[gb'] at ho;exact ho.symm
theorem IS(hC:lY P X C)(hm:P.follows .mixedOrders=true)(hs:dP (im P ops) ops.toList=some ss)(hd:EZ ops ss b=true){F:Nat->List AV}{H:Nat->af}(T:Tr C ss b F H)
 {φ:eJ} {w:World} {a:Act} {id:Nat} {Q:Exit->Act->World->Prop} (hf:FR φ (H 0) w (F 0) a.tmps) (hr:HR φ (H 0) w) (hG:ir P X φ (H 0) w)
 (hQ:∀φ' a' w',FR φ' (H ss.length) w' (F ss.length) a'.tmps->HR φ' (H ss.length) w'->Ext φ (H 0) w φ' (H ss.length) w'->a'.defers=a.defers->Q .normal a' w'):(Code.region id ops true).wp P Q a w:=by
 have st:=R9 hs hd;obtain⟨r1,x1⟩:=hr.world (w':={w with drawn:=w.drawn+1}) rfl rfl rfl rfl;refine wp_region_any hm ?_
 have wo:∀i,¬SS (Array.replicate ops.size false) i:=λi h=>by unfold SS at h;rw[Array.getD_eq_getD_getElem?,Array.getElem?_replicate] at h;split at h<;>cases h
 have D0:DI ops ss F H φ {w with drawn:=w.drawn+1} a.defers (Array.replicate ops.size false) φ (λ_=>default) (F 0) 0 a {w with drawn:=w.drawn+1}:=by
  refine⟨by simp[st.len],λj o _ h=>absurd h (wo j),Nat.zero_le _,λi s h=>by omega,λi s _ _ _ h=>absurd h (wo i),r1,hf.ext x1,.refl _ _ _,rfl,λi s d _ _ h=>absurd h (wo i),λ_ _ _ _ _ _=>rfl,λ_ _=>rfl,
   λi s _ _ _ h=>absurd h (wo i),λi j s r _ _ _ _ _ _ h=>absurd h (wo i),λy hy=>.inl hy,λy hy=>⟨hy,rfl⟩,rfl⟩
 obtain⟨φ1,cu1,k1,D1,kx⟩:=D0.advance T st ss.length (by omega);refine agp hC (hG.ext x1) T st (λφ' a' w' f1 r2 e1 d1=>hQ φ' a' w' f1 r2 (x1.trans e1) d1) ops.size _ φ1 _ cu1 k1 a _ D1 kx ?_;unfold Z7;have:=List.countP_le_length (p:=λi=>!(Array.replicate ops.size false).getD i false) (l:=List.range ss.length);rw[List.length_range,st.len] at this;rw[st.len];exact this
end
end
section
section
variable {C:Nat->List AV->af->Option (AV×af)}
theorem tR(n0:Nat):∀(fr:List AV) (aM:List Nat),aM.Nodup->(∀id∈aM,n0<=id)->(aE n0 fr aM).Nodup/\(∀id∈aE n0 fr aM,n0<=id)/\(∀id∈aM,id∈aE n0 fr aM)/\
 ∀v∈fr,∀id,v.top=some id->n0<=id->id∈aE n0 fr aM
 |[],aM,h1,h2=>⟨h1,h2,λ_ h=>h,λv hv=>by cases hv⟩
 |v::r,aM,h1,h2=>by
   have skip:(∀id,v.top=some id->n0<=id->id∈aM)->aE n0 (v::r) aM=aE n0 r aM->(aE n0 (v::r) aM).Nodup/\(∀id∈aE n0 (v::r) aM,n0<=id)/\(∀id∈aM,id∈aE n0 (v::r) aM)/\
    ∀u∈v::r,∀id,u.top=some id->n0<=id->id∈aE n0 (v::r) aM:=λhv he=>by
    obtain⟨g1,g2,g3,g4⟩:=tR n0 r aM h1 h2;rw[he];refine⟨g1,g2,g3,λu hu id e hle=>?_⟩
    cases hu with
    |head=>exact g3 id (hv id e hle)
    |tail _ hu=>exact g4 u hu id e hle
   cases ht:v.top with
   |none=>exact skip (λid e=>by rw[ht] at e;cases e) (by simp only[aE,ht])
   |some id=>
     by_cases hc:n0<=id/\aM.contains id=false
     .have hk:aE n0 (v::r) aM=aE n0 r (aM++[id]):=by simp only[aE,ht];rw[if_pos hc]
      have hni:id∉aM:=λhm=>by have:=List.contains_iff_mem.2 hm;rw[hc.2] at this;cases this
      obtain⟨g1,g2,g3,g4⟩:=tR n0 r (aM++[id]) (by
       rw[List.nodup_append];refine⟨h1,by simp,λx hx y hy=>?_⟩;rw[List.mem_singleton] at hy;subst hy;exact λe=>hni (e▸hx)) (λx hx=>by
       rcases List.mem_append.1 hx with hx|hx
       .exact h2 x hx
       .rw[List.mem_singleton] at hx;rw[hx];exact hc.1)
      rw[hk];refine⟨g1,g2,λx hx=>g3 x (List.mem_append_left _ hx),λu hu x e hle=>?_⟩
      cases hu with
      |head=>
        have e':id=x:=by rw[ht] at e;exact Option.some.inj e
        exact g3 x (by rw[e'];simp)
      |tail _ hu=>exact g4 u hu x e hle
     .refine skip (λx e hle=>?_) (by simp only[aE,ht];rw[if_neg hc]);have e':id=x:=by rw[ht] at e;exact Option.some.inj e
      subst e';by_cases hm:aM.contains id=false
      .exact absurd ⟨hle,hm⟩ hc
      .exact List.contains_iff_mem.1 (by simpa using hm)
theorem u7{h:af}{n0:Nat}:∀{ks:List Nat} {os:List aT},lT h n0 ks=some os->os.length=ks.length/\∀(i:Nat) (id:Nat),ks[i]? =some id->∃o,os[i]? =some o/\h.get id=some o/\tD n0 o=true
 |[],os,he=>by simp only[lT,Option.some.injEq] at he;subst he;exact⟨rfl,λi id hi=>by simp at hi⟩
 |k::ks,os,he=>by
   simp only[lT] at he;split at he
   .rename_i o nC h1 h2;split at he
    .rename_i h3;cases he;obtain⟨g1,g2⟩:=u7 h2;refine⟨by simp[g1],λi id hi=>?_⟩
     cases i with
     |zero=>simp only[List.getElem?_cons_zero,Option.some.injEq] at hi;subst hi;exact⟨o,by simp,h1,h3⟩
     |succ i=>exact g2 i id (by simpa using hi)
    .cases he
   .cases he
theorem E9{n0:Nat}{fr:List AV}{h:af}(Gq:h.wf):(L3 n0 fr h=(fr,h))\/∃os,lT h n0 (aE n0 fr [])=some os/\n0<=h.wl/\n0<=h.next/\(∀v∈fr,v.top.isSome=true\/v.aJ<=n0)/\
 (L3 n0 fr h).1=fr.map (dm n0 (aE n0 fr []))/\(L3 n0 fr h).2.next=n0+os.length/\(L3 n0 fr h).2.wl=h.wl/\(L3 n0 fr h).2.md=h.md/\(L3 n0 fr h).2.wf/\
 (∀id,id<n0->(L3 n0 fr h).2.get id=h.get id)/\∀i,(L3 n0 fr h).2.get (n0+i)=os[i]?:=by
 unfold L3;split
 .rename_i os SM;split
  .rename_i hc;refine .inr ⟨os,SM,hc.1,hc.2.1,λv hv=>?_,rfl,rfl,rfl,rfl,?_,λid bX=>?_,λi=>?_⟩
   .have:=List.all_eq_true.1 hc.2.2 v hv;simpa using this
   .unfold af.wf at Gq|-;simp only[List.length_append,List.length_reverse,List.length_drop,Gq];omega
   .unfold af.get;dsimp only;rw[if_pos (by omega),if_pos (by omega),List.getElem?_append_right (by simp;omega),List.getElem?_drop];congr 1;simp;omega
   .unfold af.get;dsimp only;by_cases hi:i<os.length
    .rw[if_pos (by omega),List.getElem?_append_left (by simp;omega),List.getElem?_reverse (by omega)];congr 1;omega
    .rw[if_neg (by omega),List.getElem?_eq_none (by omega)]
  .exact .inl rfl
 .exact .inl rfl
theorem mV(n0:Nat):∀(a b:List AV) (aM:List Nat),aE n0 (a++b) aM=aE n0 b (aE n0 a aM)
 |[],b,aM=>rfl
 |v::r,b,aM=>by
   rw[List.cons_append];simp only[aE];split
   .split
    .exact mV n0 r b _
    .exact mV n0 r b _
   .exact mV n0 r b _
theorem zQ{v:AV}:∀{os:List aT} {o:aT},o∈os->v∈jw o->v∈jB os
 |a::r,o,ho,hv=>by
   rw[jB,List.mem_append]
   cases ho with
   |head=>exact .inl hv
   |tail _ ho=>exact .inr (zQ ho hv)
theorem JV{n0:Nat}{ks:List Nat}{v:AV}(h:v.aJ<=n0):dm n0 ks v=v:=by cases v<;>simp only[dm]<;>simp only[AV.aJ] at h<;>rw[oD,if_pos (by omega)]
theorem F0{n0:Nat}{ks:List Nat}{o:aT}(h:dB n0 o=true):rh n0 ks o=o:=by
 unfold dB at h;rw[List.all_eq_true] at h
 cases o with
 |row cs=>
   simp only[rh,aT.row.injEq];have:∀v∈cs,dm n0 ks v=v:=λv hv=>JV (by simpa using h v hv)
   simpa using List.map_congr_left this
 |map es=>
   simp only[rh,aT.map.injEq]
   have:∀e∈es,(dm n0 ks e.1,dm n0 ks e.2)=e:=λe he=>by have h1:=h e.1 (by simp only[jw,List.mem_flatMap];exact⟨e,he,by simp⟩);have h2:=h e.2 (by simp only[jw,List.mem_flatMap];exact⟨e,he,by simp⟩);rw[JV (by simpa using h1),JV (by simpa using h2)]
   simpa using List.map_congr_left this
 |dead=>rfl
theorem Fl{n0:Nat}{fr:List AV}{h:af}(Gq:h.wf):(KI n0 fr h=(fr,h))\/∃ks os,lT h n0 ks=some os/\ks.Nodup/\(∀id∈ks,n0<=id)/\n0<=h.next/\(∀v∈fr,(v.top.isSome=true\/v.aJ<=n0)/\∀id,v.top=some id->n0<=id->id∈ks)/\
 (∀id o,id<n0->h.get id=some o->∀v∈jw o,(v.top.isSome=true\/v.aJ<=n0)/\∀id,v.top=some id->n0<=id->id∈ks)/\
 (KI n0 fr h).1=fr.map (dm n0 ks)/\(KI n0 fr h).2.next=n0+os.length/\(KI n0 fr h).2.wl=h.wl/\(KI n0 fr h).2.md=min h.md h.wl/\(KI n0 fr h).2.wf/\
 (∀id,id<n0->(KI n0 fr h).2.get id=(h.get id).map (rh n0 ks))/\(∀i,(KI n0 fr h).2.get (n0+i)=os[i]?)/\
 ∀id o,id<n0->id<h.wl->h.get id=some o->dB n0 o=true:=by
 unfold KI;split
 .rename_i os SM;split
  .rename_i hc;obtain⟨hc1,N0,hc3,hc4⟩:=hc;rw[<-mV] at SM|-;generalize hol:h.gm.drop (h.next-n0)=ol at *;have dI:ol.length=n0:=by rw[<-hol,List.length_drop,Gq];omega
   have mg:∀id,id<n0->h.get id=ol[n0-1-id]?:=λid bX=>by unfold af.get;rw[if_pos (by omega),<-hol,List.getElem?_drop];congr 1;omega
   obtain⟨k1,k2,_,k4⟩:=tR n0 (fr++jB ol) [] List.nodup_nil (λid bX=>by cases bX);refine .inr ⟨_,os,SM,k1,k2,hc1,λv hv=>⟨?_,λid=>k4 v (List.mem_append_left _ hv) id⟩,λid o bX hg v hv=>?_,rfl,rfl,rfl,rfl,?_,λid bX=>?_,λi=>?_,λid o bX hw hg=>?_⟩
   .have:=List.all_eq_true.1 N0 v hv;simpa[ug] using this
   .rw[mg id bX] at hg;have hm:=zQ (List.mem_of_getElem? hg) hv;have:=List.all_eq_true.1 hc3 v hm;exact⟨by simpa[ug] using this,λVC=>k4 v (List.mem_append_right _ hm) VC⟩
   .unfold af.wf;simp only[List.length_append,List.length_reverse,List.length_map,dI];omega
   .rw[mg id bX];unfold af.get;dsimp only;rw[if_pos (by omega),List.getElem?_append_right (by simp;omega),List.getElem?_map];congr 2;simp;omega
   .unfold af.get;dsimp only;by_cases hi:i<os.length
    .rw[if_pos (by omega),List.getElem?_append_left (by simp;omega),List.getElem?_reverse (by omega)];congr 1;omega
    .rw[if_neg (by omega),List.getElem?_eq_none (by omega)]
   .rw[mg id bX] at hg;refine List.all_eq_true.1 hc4 o (List.mem_of_getElem? (i:=n0-1-id-(n0-h.wl)) ?_);rw[List.getElem?_drop,<-hg];congr 1;omega
  .exact .inl rfl
 .exact .inl rfl
theorem afd{he h:af}{fr:List AV}(Gq:h.wf)(c:CL he h):CL he (L3 he.next fr h).2:=by
 rcases E9 (n0:=he.next) (fr:=fr) Gq with e|⟨os,h1,h2,h3,h4,h5,h6,h7,h8,h9,jZ,qT⟩
 .rw[e];exact c
 .refine⟨by rw[h6];omega,by rw[h7];exact c.wl,λn q1 q2 q3 id bX=>?_,by rw[h8];exact c.md,λid q1 q2=>?_⟩
  .have:=c.le n q1 (by rw[<-h7];exact q2) q3 id bX;unfold pD at this|-;rw[jZ id (by omega)];exact this
  .rw[jZ id q2];exact c.same id (by rw[<-h8];exact q1) q2
theorem age{he h:af}{fr:List AV}(Gq:h.wf)(c:CL he h):CL he (KI he.next fr h).2:=by
 rcases Fl (n0:=he.next) (fr:=fr) Gq with e|⟨ks,os,h1,_,_,h3,_,_,h5,h6,h7,h8,h9,jZ,qT,h12⟩
 .rw[e];exact c
 .have ajS:∀id,id<he.next->id<h.wl->(KI he.next fr h).2.get id=h.get id:=λid q1 q2=>by
   rw[jZ id q1]
   cases hg:h.get id with
   |none=>rfl
   |some o=>rw[Option.map_some,F0 (h12 id o q1 q2 hg)]
  refine⟨by rw[h6];omega,by rw[h7];exact c.wl,λn q1 q2 q3 id bX=>?_,by rw[h8];have:=c.md;omega,λid q1 q2=>?_⟩
  .rw[h7] at q2;have:=c.le n q1 q2 q3 id bX;unfold pD at this|-;rw[ajS id (by omega) (by omega)];exact this
  .rw[h8] at q1;rw[ajS id q2 (by omega)];exact c.same id (by omega) q2
theorem ah6{he h:af}{fr:List AV}(Gq:h.wf)(c:CL he h):CL he (gc he.next fr h).2:=by
 unfold gc;split
 .exact afd Gq c
 .exact age Gq c
theorem ais{n0:Nat}{h:af}{fr:List AV}(Gq:h.wf):(gc n0 fr h).2.wf:=by
 unfold gc;split
 .rcases E9 (n0:=n0) (fr:=fr) Gq with e|⟨os,_,_,_,_,_,_,_,_,h9,_⟩
  .rw[e];exact Gq
  .exact h9
 .rcases Fl (n0:=n0) (fr:=fr) Gq with e|⟨ks,os,h1,_,_,h3,_,_,h5,h6,h7,h8,h9,_⟩
  .rw[e];exact Gq
  .exact h9
theorem Sn{he h:af}{fr:List AV}(c:CW he h):CW he (gc he.next fr h).2:=λw=>by obtain⟨c1,w1⟩:=c w;exact⟨ah6 w1 c1,ais w1⟩
theorem DF{B:List AV->af->Option (Ex×List AV×af)}(hB:∀fr h ex de h',B fr h=some (ex,de,h')->CW h h'){live:List Bool}{he:af}:∀{m:Nat} {fr de:List AV} {h h':af} {ex:Ex},rL B live he.next m fr h=some (ex,de,h')->CW he h->CW he h'
 |0,fr,de,h,h',ex,oV,_=>by simp[rL] at oV
 |m+1,fr,de,h,h',ex,oV,c=>by
   simp only[rL] at oV;have c1:=Sn (fr:=clear live fr) c;split at oV
   .rename_i th h1 h2;exact DF hB oV (c1.trans (hB _ _ _ _ _ h2))
   .exact c1.trans (hB _ _ _ _ _ oV)
theorem CW.alW{h h':af}(c:CW {h with wl:=h.next} h'):CW h {h' with wl:=min h.wl h'.wl}:=λw=>by obtain⟨c1,w1⟩:=c w;exact⟨⟨c1.next,Nat.min_le_left _ _,λn h1 h2 h3=>c1.le n h1 (by dsimp only at h2;omega) h3,c1.md,c1.same⟩,w1⟩
theorem tV(hC:oQ C){n:Nat}:∀{ac:bZ} {fr de:List AV} {h h':af} {ex:Ex},aC C n ac fr h=some (ex,de,h')->CW h h':=by
 intro ac
 induction ac with
 |skip=>intro fr de h h' ex he;simp only[aC,Option.some.injEq,Prod.mk.injEq] at he;obtain⟨_,_,rfl⟩:=he;exact .refl _
 |exit id _=>intro fr de h h' ex he;simp only[aC,Option.some.injEq,Prod.mk.injEq] at he;obtain⟨_,_,rfl⟩:=he;exact .refl _
 |ret _=>intro fr de h h' ex he;simp only[aC,Option.some.injEq,Prod.mk.injEq] at he;obtain⟨_,_,rfl⟩:=he;exact .refl _
 |kT ops=>intro fr de h h' ex he;simp only[aC,Option.map_eq_some_iff] at he;obtain⟨⟨th,h1⟩,he,e⟩:=he;cases e;exact MQ hC he
 |pJ ops chk=>
   intro fr de h h' ex he;simp only[aC] at he;split at he
   .rename_i th h1 tr KK;split at he
    .cases he;exact ac3 hC KK
    .cases he
   .cases he
 |seq a b iha ihb=>
   intro fr de h h' ex he;simp only[aC] at he;split at he
   .rename_i th h1 h2;exact (iha h2).trans (ihb he)
   .exact iha he
 |cond c a b iha ihb=>
   intro fr de h h' ex he;simp only[aC] at he;split at he
   .split at he
    .exact iha he
    .exact ihb he
   .cases he
 |block id a iha=>
   intro fr de h h' ex he;simp only[aC] at he;split at he
   .rename_i i th h1 h2;cases he;exact iha h2
   .exact iha he
 |loop live a iha=>intro fr de h h' ex he;simp only[aC] at he;obtain⟨⟨ex1,th,h1⟩,h2,e⟩:=Option.map_eq_some_iff.1 he;cases e;exact CW.alW (Sn (he:={h with wl:=h.next}) (fr:=th) (DF (he:={h with wl:=h.next}) (λfr h ex de h' he=>iha he) h2 (.refl _)))
end
end
section
variable {X:World->Prop}
variable {φ φe:eJ}{tm:Array Value}
section
variable {P:Program}{C:Nat->List AV->af->Option (AV×af)}
def acr:Ex->Exit
 |.normal=>.normal
 |.exit id=>.exit id
 |.ret=>.ret
theorem rZ{h:af}{w:World}:∀{live:List Bool} {fr:List AV} {tm:Array Value},FR φ h w fr tm->FR φ h w (clear live fr) tm:=by
 have len:∀(live:List Bool) (fr:List AV),(clear live fr).length=fr.length:=by
  intro live
  induction live with
  |nil=>intro fr;cases fr<;>rfl
  |cons b r ih=>intro fr;cases fr with
    |nil=>rfl
    |cons v vs=>simp[clear,ih]
 have get:∀(live:List Bool) (fr:List AV) (t:Nat),(clear live fr).getD t .undef=fr.getD t .undef\/(clear live fr).getD t .undef=.undef:=by
  intro live
  induction live with
  |nil=>intro fr t;cases fr<;>exact .inl rfl
  |cons b r ih=>intro fr t;cases fr with
    |nil=>exact .inl rfl
    |cons v vs=>
      cases t with
      |zero=>cases b<;>simp[clear]
      |succ t=>simpa[clear] using ih vs t
 intro live fr tm hf;refine⟨by rw[len];exact hf.1,λt=>?_⟩;rcases get live fr t with e|e
 .rw[e];exact hf.2 t
 .rw[e];exact .undef _
def V0(P:Program)(X:World->Prop)(C:Nat->List AV->af->Option (AV×af))(n:Nat)(ac:bZ)(c:Code):Prop:=
 ∀⦃φ:eJ⦄ ⦃h h':af⦄ ⦃w:World⦄ ⦃fr de:List AV⦄ ⦃a:Act⦄ ⦃ex:Ex⦄,aC C n ac fr h=some (ex,de,h')->FR φ h w fr a.tmps->HR φ h w->ir P X φ h w->∀⦃Q:Exit->Act->World->Prop⦄,
   (∀φ' a' w',FR φ' h' w' de a'.tmps->HR φ' h' w'->Ext φ h w φ' h' w'->a'.defers=a.defers->Q (acr ex) a' w')->c.wp P Q a w
theorem afz{h he:af}{w we:World}{fr:List AV}(hr:HR φ h w)(hf:FR φ h w fr tm)(hx:Ext φe he we φ h w)(ti:HR φe he we)(c:CL he h):
 ∃φ',HR φ' (L3 he.next fr h).2 w/\FR φ' (L3 he.next fr h).2 w (L3 he.next fr h).1 tm/\Ext φe he we φ' (L3 he.next fr h).2 w:=by
 rcases E9 (n0:=he.next) (fr:=fr) hr.wf with e|⟨os,h1,h2,h3,h4,h5,h6,h7,h8,h9,jZ,qT⟩
 .rw[e];exact⟨φ,hr,hf,hx⟩
 .rw[h5];generalize KL:he.next=n0 at *
  generalize hks:aE n0 fr []=ks at *;generalize hg:(L3 n0 fr h).2=g at *;obtain⟨k1,k2,_,k4⟩:=tR n0 fr [] List.nodup_nil (λid bX=>by cases bX);rw[hks] at k1 k2 k4;obtain⟨o1,o2⟩:=u7 h1;have hle:=c.le n0 (by omega) h2 (λid bX=>by have:=ti.R7 id (by omega);rw[KL] at this;exact this)
  let φ':eJ:=⟨λid=>if id<n0 then φ id else φ (ks.getD (id-n0) 0),φ.gh⟩
  have GB:∀id,id<n0->φ' id=φ id:=λid bX=>if_pos bX
  have new:∀(i:Nat) (id:Nat),ks[i]? =some id->φ' (n0+i)=φ id:=λi id hi=>by show (if n0+i<n0 then φ (n0+i) else φ (ks.getD (n0+i-n0) 0))=φ id;rw[if_neg (by omega),Nat.add_sub_cancel_left,List.getD_eq_getElem?_getD,hi];rfl
  have lv:∀id,live g id->∃oH,live h oH/\φ' id=φ oH/\((id<n0/\oH=id)\/(n0<=id/\ks[id-n0]? =some oH)):=λid hl=>by
   obtain⟨o,ho,hd⟩:=hl;rcases Nat.lt_or_ge id n0 with bX|bX
   .rw[jZ id bX] at ho;exact⟨id,⟨o,ho,hd⟩,GB id bX,.inl ⟨bX,rfl⟩⟩
   .have e:id=n0+(id-n0):=by omega
    rw[e,qT] at ho;have cY:=(List.getElem?_eq_some_iff.1 ho).1;have hk:=List.getElem?_eq_getElem (show id-n0<ks.length by omega);obtain⟨o',q1,q2,q3⟩:=o2 _ _ hk;rw[ho] at q1;cases q1;refine⟨_,⟨o,q2,hd⟩,?_,.inr ⟨bX,hk⟩⟩;have:=new (id-n0) _ hk;rw[<-e] at this;exact this
  have pr:∀b,Pr φ h w b->Pr φ' g w b:=λb hb=>⟨hb.1,λid hl=>by obtain⟨oH,l0,e0,_⟩:=lv id hl;rw[e0];exact hb.2.1 oH l0,hb.2.2⟩
  have mv:∀v cv,v.aJ<=n0->fe φ h w v cv->fe φ' g w v cv:=λv cv hv N5=>N5.mono (λid q1 q2=>⟨GB id (by omega),by rw[h6];omega⟩) λb hb=>⟨pr b hb,rfl⟩
  have rowOf:∀id oH cs,φ' id=φ oH->h.get oH=some (.row cs)->AV.ah cs<=n0->u5 φ' g w id cs:=λid oH cs e0 hg0 wi=>by obtain⟨cc,el,fz,r1,r2,r3,r4,r5,r6⟩:=hr.rows oH cs hg0;refine⟨cc,el,fz,by rw[e0];exact r1,by rw[e0];exact r2,by rw[e0];exact r3,r4,by rw[e0];exact r5,λj hj=>?_⟩;rw[e0];refine mv _ _ ?_ (r6 j hj);have:=AV.cR (List.getElem_mem hj);omega
  have mapOf:∀id oH es,φ' id=φ oH->h.get oH=some (.map es)->(∀e∈es,e.1.aJ<=n0/\e.2.aJ<=n0)->zR φ' g w id es:=λid oH es e0 hg0 wi=>by obtain⟨gn,pB,r1,r2,r3⟩:=hr.maps oH es hg0;refine⟨gn,pB,by rw[e0];exact r1,r2,λj hj=>?_⟩;have:=wi _ (List.getElem_mem hj);exact⟨mv _ _ this.1 (r3 j hj).1,mv _ _ this.2 (r3 j hj).2⟩
  have kept:∀id o,n0<=id->g.get id=some o->∃oH,ks[id-n0]? =some oH/\h.get oH=some o/\tD n0 o=true/\φ' id=φ oH:=λid o bX ho=>by
   have e:id=n0+(id-n0):=by omega
   have IX:=ho;rw[e,qT] at IX;have cY:=(List.getElem?_eq_some_iff.1 IX).1;have hk:=List.getElem?_eq_getElem (show id-n0<ks.length by omega);obtain⟨o',q1,q2,q3⟩:=o2 _ _ hk;rw[IX] at q1;cases q1;refine⟨_,hk,q2,q3,?_⟩;have:=new (id-n0) _ hk;rw[<-e] at this;exact this
  have N1:HR φ' g w:=by
   refine⟨h9,λid cs N8=>?_,λid es N8=>?_,λi j hi hj uA=>?_,λb hb=>⟨(hr.gh b hb).1,λid hl=>?_⟩⟩
   .rcases Nat.lt_or_ge id n0 with bX|bX
    .rw[jZ id bX] at N8;exact rowOf id id cs (GB id bX) N8 ((hle id bX).1 cs N8)
    .obtain⟨oH,_,q2,q3,q4⟩:=kept id _ bX N8;exact rowOf id oH cs q4 q2 (by simpa[tD] using q3)
   .rcases Nat.lt_or_ge id n0 with bX|bX
    .rw[jZ id bX] at N8;exact mapOf id id es (GB id bX) N8 ((hle id bX).2 es N8)
    .obtain⟨oH,_,q2,q3,q4⟩:=kept id _ bX N8;refine mapOf id oH es q4 q2 λe hem=>?_
     simp only[tD,List.all_eq_true] at q3;simpa using q3 e hem
   .obtain⟨i0,li,ei,ci⟩:=lv i hi;obtain⟨j0,lj,ej,cj⟩:=lv j hj;rw[ei,ej] at uA;have agI:=hr.inj i0 j0 li lj uA;rcases ci with⟨ci1,ci2⟩|⟨ci1,ci2⟩<;>rcases cj with⟨cj1,cj2⟩|⟨cj1,cj2⟩
    .omega
    .have:=k2 j0 (List.mem_of_getElem? cj2);omega
    .have:=k2 i0 (List.mem_of_getElem? ci2);omega
    .rw[agI] at ci2;obtain⟨x1,y1⟩:=List.getElem?_eq_some_iff.1 ci2;obtain⟨x2,y2⟩:=List.getElem?_eq_some_iff.1 cj2;have:=(List.getElem_inj (h₀:=x1) (h₁:=x2) k1).1 (y1.trans y2.symm);omega
   .obtain⟨oH,l0,e0,_⟩:=lv id hl;rw[e0];exact (hr.gh b hb).2 oH l0
  have idx:∀id,n0<=id->id∈ks->φ' (n0+ks.idxOf id)=φ id/\n0+ks.idxOf id<g.next:=λid bX hm=>by have cY:=List.idxOf_lt_length_of_mem hm;exact⟨new _ _ (by rw[List.getElem?_eq_getElem cY,List.getElem_idxOf]),by rw[h6];omega⟩
  have rid:∀v∈fr,∀id,v.top=some id->φ' (oD n0 ks id)=φ id/\oD n0 ks id<g.next:=λv hv id ht=>by
   unfold oD;split
   .rename_i bX;exact⟨GB id bX,by rw[h6];omega⟩
   .rename_i bX;exact idx id (by omega) (k4 v hv id ht (by omega))
  have val:∀v∈fr,∀cv,fe φ h w v cv->fe φ' g w (dm n0 ks v) cv:=λv hv cv N5=>by
   cases ht:v.top with
   |none=>
     have agK:v.aJ<=n0:=by
      rcases h4 v hv with e|e
      .rw[ht] at e;cases e
      .exact e
     have e:dm n0 ks v=v:=by cases v<;>first|rfl|cases ht
     rw[e];exact mv v cv agK N5
   |some id=>
     obtain⟨q1,q2⟩:=rid v hv id ht;cases v<;>simp only[AV.top,Option.some.injEq,reduceCtorEq] at ht
     .subst ht;obtain⟨rfl,_⟩:=N5.wH;rw[<-q1];exact .ptr _ _ q2
     .subst ht;obtain⟨cap,ad,rfl,_,r2,r3,r4,r5⟩:=N5.kO;rw[<-q1] at r4 r5;exact .vec _ _ _ _ _ cap ad q2 r2 r3 r4 r5
     .subst ht;obtain⟨rfl,_⟩:=N5.uo;rw[<-q1];exact .map _ q2
  refine⟨φ',N1,⟨by simp[hf.1],λt=>?_⟩,⟨hx.os,hx.tape,hx.output,hx.size,by rw[h6];omega,λid bX=>?_,λb hb=>⟨pr b (hx.pr b hb).1,(hx.pr b hb).2⟩,hx.gh⟩⟩
  .have:=hf.2 t;rw[List.getD_eq_getElem?_getD] at this|-;rw[List.getElem?_map]
   cases hv:fr[t]? with
   |none=>exact .undef _
   |some v=>rw[hv] at this;exact val v (List.mem_of_getElem? hv) _ this
  .rw[KL] at bX;exact (GB id bX).trans (hx.CD id (by omega))
theorem afb{h he:af}{w we:World}{fr:List AV}(hr:HR φ h w)(hf:FR φ h w fr tm)(hx:Ext φe he we φ h w)(ti:HR φe he we):
 ∃φ',HR φ' (KI he.next fr h).2 w/\FR φ' (KI he.next fr h).2 w (KI he.next fr h).1 tm/\Ext φe he we φ' (KI he.next fr h).2 w:=by
 rcases Fl (n0:=he.next) (fr:=fr) hr.wf with e|⟨ks,os,h1,k1,k2,h3,h4,h4o,h5,h6,h7,h8,h9,jZ,qT,h12⟩
 .rw[e];exact⟨φ,hr,hf,hx⟩
 .rw[h5];generalize KL:he.next=n0 at *
  generalize hg:(KI n0 fr h).2=g at *;obtain⟨o1,o2⟩:=u7 h1
  let φ':eJ:=⟨λid=>if id<n0 then φ id else φ (ks.getD (id-n0) 0),φ.gh⟩
  have GB:∀id,id<n0->φ' id=φ id:=λid bX=>if_pos bX
  have new:∀(i:Nat) (id:Nat),ks[i]? =some id->φ' (n0+i)=φ id:=λi id hi=>by show (if n0+i<n0 then φ (n0+i) else φ (ks.getD (n0+i-n0) 0))=φ id;rw[if_neg (by omega),Nat.add_sub_cancel_left,List.getD_eq_getElem?_getD,hi];rfl
  have lv:∀id,live g id->∃oH,live h oH/\φ' id=φ oH/\((id<n0/\oH=id)\/(n0<=id/\ks[id-n0]? =some oH)):=λid hl=>by
   obtain⟨o,ho,hd⟩:=hl;rcases Nat.lt_or_ge id n0 with bX|bX
   .rw[jZ id bX] at ho;obtain⟨o',IX,e⟩:=Option.map_eq_some_iff.1 ho;exact⟨id,⟨o',IX,λe'=>hd (by rw[<-e,e'];rfl)⟩,GB id bX,.inl ⟨bX,rfl⟩⟩
   .have e:id=n0+(id-n0):=by omega
    rw[e,qT] at ho;have cY:=(List.getElem?_eq_some_iff.1 ho).1;have hk:=List.getElem?_eq_getElem (show id-n0<ks.length by omega);obtain⟨o',q1,q2,q3⟩:=o2 _ _ hk;rw[ho] at q1;cases q1;refine⟨_,⟨o,q2,hd⟩,?_,.inr ⟨bX,hk⟩⟩;have:=new (id-n0) _ hk;rw[<-e] at this;exact this
  have pr:∀b,Pr φ h w b->Pr φ' g w b:=λb hb=>⟨hb.1,λid hl=>by obtain⟨oH,l0,e0,_⟩:=lv id hl;rw[e0];exact hb.2.1 oH l0,hb.2.2⟩
  have mv:∀v cv,v.aJ<=n0->fe φ h w v cv->fe φ' g w v cv:=λv cv hv N5=>N5.mono (λid q1 q2=>⟨GB id (by omega),by rw[h6];omega⟩) λb hb=>⟨pr b hb,rfl⟩
  have rowOf:∀id oH cs,φ' id=φ oH->h.get oH=some (.row cs)->AV.ah cs<=n0->u5 φ' g w id cs:=λid oH cs e0 hg0 wi=>by obtain⟨cc,el,fz,r1,r2,r3,r4,r5,r6⟩:=hr.rows oH cs hg0;refine⟨cc,el,fz,by rw[e0];exact r1,by rw[e0];exact r2,by rw[e0];exact r3,r4,by rw[e0];exact r5,λj hj=>?_⟩;rw[e0];refine mv _ _ ?_ (r6 j hj);have:=AV.cR (List.getElem_mem hj);omega
  have mapOf:∀id oH es,φ' id=φ oH->h.get oH=some (.map es)->(∀e∈es,e.1.aJ<=n0/\e.2.aJ<=n0)->zR φ' g w id es:=λid oH es e0 hg0 wi=>by obtain⟨gn,pB,r1,r2,r3⟩:=hr.maps oH es hg0;refine⟨gn,pB,by rw[e0];exact r1,r2,λj hj=>?_⟩;have:=wi _ (List.getElem_mem hj);exact⟨mv _ _ this.1 (r3 j hj).1,mv _ _ this.2 (r3 j hj).2⟩
  have kept:∀id o,n0<=id->g.get id=some o->∃oH,ks[id-n0]? =some oH/\h.get oH=some o/\tD n0 o=true/\φ' id=φ oH:=λid o bX ho=>by
   have e:id=n0+(id-n0):=by omega
   have IX:=ho;rw[e,qT] at IX;have cY:=(List.getElem?_eq_some_iff.1 IX).1;have hk:=List.getElem?_eq_getElem (show id-n0<ks.length by omega);obtain⟨o',q1,q2,q3⟩:=o2 _ _ hk;rw[IX] at q1;cases q1;refine⟨_,hk,q2,q3,?_⟩;have:=new (id-n0) _ hk;rw[<-e] at this;exact this
  have idx:∀id,n0<=id->id∈ks->φ' (n0+ks.idxOf id)=φ id/\n0+ks.idxOf id<g.next:=λid bX hm=>by have cY:=List.idxOf_lt_length_of_mem hm;exact⟨new _ _ (by rw[List.getElem?_eq_getElem cY,List.getElem_idxOf]),by rw[h6];omega⟩
  have rid:∀v:AV,(∀id,v.top=some id->n0<=id->id∈ks)->∀id,v.top=some id->φ' (oD n0 ks id)=φ id/\oD n0 ks id<g.next:=λv hv id ht=>by
   unfold oD;split
   .rename_i bX;exact⟨GB id bX,by rw[h6];omega⟩
   .rename_i bX;exact idx id (by omega) (hv id ht (by omega))
  have val:∀v:AV,((v.top.isSome=true\/v.aJ<=n0)/\∀id,v.top=some id->n0<=id->id∈ks)->∀cv,fe φ h w v cv->fe φ' g w (dm n0 ks v) cv:=λv hv cv N5=>by
   cases ht:v.top with
   |none=>
     have agK:v.aJ<=n0:=by
      rcases hv.1 with e|e
      .rw[ht] at e;cases e
      .exact e
     have e:dm n0 ks v=v:=by cases v<;>first|rfl|cases ht
     rw[e];exact mv v cv agK N5
   |some id=>
     obtain⟨q1,q2⟩:=rid v hv.2 id ht;cases v<;>simp only[AV.top,Option.some.injEq,reduceCtorEq] at ht
     .subst ht;obtain⟨rfl,_⟩:=N5.wH;rw[<-q1];exact .ptr _ _ q2
     .subst ht;obtain⟨cap,ad,rfl,_,r2,r3,r4,r5⟩:=N5.kO;rw[<-q1] at r4 r5;exact .vec _ _ _ _ _ cap ad q2 r2 r3 r4 r5
     .subst ht;obtain⟨rfl,_⟩:=N5.uo;rw[<-q1];exact .map _ q2
  have N1:HR φ' g w:=by
   refine⟨h9,λid cs N8=>?_,λid es N8=>?_,λi j hi hj uA=>?_,λb hb=>⟨(hr.gh b hb).1,λid hl=>?_⟩⟩
   .rcases Nat.lt_or_ge id n0 with bX|bX
    .rw[jZ id bX] at N8;obtain⟨o,ho,e⟩:=Option.map_eq_some_iff.1 N8;have Gz:=h4o id o bX ho;cases o<;>simp only[rh,aT.row.injEq,reduceCtorEq] at e;rename_i cs0;subst e;obtain⟨cc,el,fz,r1,r2,r3,r4,r5,r6⟩:=hr.rows id cs0 ho;refine⟨cc,el,fz,by rw[GB id bX];exact r1,by rw[GB id bX];exact r2,by rw[GB id bX,List.length_map];exact r3,r4,by rw[GB id bX];exact r5,λj hj=>?_⟩;rw[GB id bX,List.getElem_map];rw[List.length_map] at hj;exact val _ (Gz _ (by simp[jw])) _ (r6 j hj)
    .obtain⟨oH,_,q2,q3,q4⟩:=kept id _ bX N8;exact rowOf id oH cs q4 q2 (by simpa[tD] using q3)
   .rcases Nat.lt_or_ge id n0 with bX|bX
    .rw[jZ id bX] at N8;obtain⟨o,ho,e⟩:=Option.map_eq_some_iff.1 N8;have Gz:=h4o id o bX ho;cases o<;>simp only[rh,aT.map.injEq,reduceCtorEq] at e;rename_i ZM;subst e;obtain⟨gn,pB,r1,r2,r3⟩:=hr.maps id ZM ho;refine⟨gn,pB,by rw[GB id bX];exact r1,by rw[List.length_map];exact r2,λj hj=>?_⟩;rw[List.length_map] at hj;have hm:ZM[j]∈ZM:=List.getElem_mem hj;rw[List.getElem_map];exact⟨val _ (Gz _ (by simp only[jw,List.mem_flatMap];exact⟨_,hm,by simp⟩)) _ (r3 j hj).1,val _ (Gz _ (by simp only[jw,List.mem_flatMap];exact⟨_,hm,by simp⟩)) _ (r3 j hj).2⟩
    .obtain⟨oH,_,q2,q3,q4⟩:=kept id _ bX N8;refine mapOf id oH es q4 q2 λe hem=>?_
     simp only[tD,List.all_eq_true] at q3;simpa using q3 e hem
   .obtain⟨i0,li,ei,ci⟩:=lv i hi;obtain⟨j0,lj,ej,cj⟩:=lv j hj;rw[ei,ej] at uA;have agI:=hr.inj i0 j0 li lj uA;rcases ci with⟨ci1,ci2⟩|⟨ci1,ci2⟩<;>rcases cj with⟨cj1,cj2⟩|⟨cj1,cj2⟩
    .omega
    .have:=k2 j0 (List.mem_of_getElem? cj2);omega
    .have:=k2 i0 (List.mem_of_getElem? ci2);omega
    .rw[agI] at ci2;obtain⟨x1,y1⟩:=List.getElem?_eq_some_iff.1 ci2;obtain⟨x2,y2⟩:=List.getElem?_eq_some_iff.1 cj2;have:=(List.getElem_inj (h₀:=x1) (h₁:=x2) k1).1 (y1.trans y2.symm);omega
   .obtain⟨oH,l0,e0,_⟩:=lv id hl;rw[e0];exact (hr.gh b hb).2 oH l0
  refine⟨φ',N1,⟨by simp[hf.1],λt=>?_⟩,⟨hx.os,hx.tape,hx.output,hx.size,by rw[h6];omega,λid bX=>?_,λb hb=>⟨pr b (hx.pr b hb).1,(hx.pr b hb).2⟩,hx.gh⟩⟩
  .have:=hf.2 t;rw[List.getD_eq_getElem?_getD] at this|-;rw[List.getElem?_map]
   cases hv:fr[t]? with
   |none=>exact .undef _
   |some v=>rw[hv] at this;exact val v (h4 v (List.mem_of_getElem? hv)) _ this
  .rw[KL] at bX;exact (GB id bX).trans (hx.CD id (by omega))
theorem Rf{h he:af}{w we:World}{fr:List AV}(hr:HR φ h w)(hf:FR φ h w fr tm)(hx:Ext φe he we φ h w)(ti:HR φe he we)(c:CL he h):
 ∃φ',HR φ' (gc he.next fr h).2 w/\FR φ' (gc he.next fr h).2 w (gc he.next fr h).1 tm/\Ext φe he we φ' (gc he.next fr h).2 w:=by
 unfold gc;split
 .exact afz hr hf hx ti c
 .exact afb hr hf hx ti
theorem R4(uT:oQ C){n:Nat}{ac:bZ}{c:Code}{live:List Bool}(hb:V0 P X C n ac c){φe:eJ}{he:af}{we:World}(ti:HR φe he we)(hG:ir P X φe he we):
 ∀(m:Nat) {φ:eJ} {h h':af} {w:World} {fr de:List AV} {a:Act} {ex:Ex},rL (aC C n ac) live he.next m fr h=some (ex,de,h')->
 FR φ h w fr a.tmps->HR φ h w->Ext φe he we φ h w->CW he h->∀{Q:Exit->Act->World->Prop},
 (∀φ' a' w',FR φ' h' w' de a'.tmps->HR φ' h' w'->Ext φe he we φ' h' w'->a'.defers=a.defers->Q (acr ex) a' w')->Code.rounds P c Q m a w
 |0,φ,h,h',w,fr,de,a,ex,oV,hf,hr,hx,hc,Q,hQ=>by simp[rL] at oV
 |m+1,φ,h,h',w,fr,de,a,ex,oV,hf,hr,hx,hc,Q,hQ=>by
   rw[rounds_succ];simp only[rL] at oV;obtain⟨φ0,r0,f0,x0⟩:=Rf hr (rZ (live:=live) hf) hx ti (hc ti.wf).1;have c0:=Sn (fr:=clear live fr) hc;split at oV
   .rename_i th h1 h2;refine hb h2 f0 r0 (hG.ext x0) λφ1 a1 w1 f1 r1 e1 d1=>?_
    exact R4 uT hb ti hG m oV f1 r1 (x0.trans e1) (c0.trans (tV uT h2)) λφ2 a2 w2 f2 r2 e2 d2=>hQ φ2 a2 w2 f2 r2 e2 (d2.trans d1)
   .rename_i eR;refine hb oV f0 r0 (hG.ext x0) λφ1 a1 w1 f1 r1 e1 d1=>?_
    have:=hQ φ1 a1 w1 f1 r1 (x0.trans e1) d1
    cases ex with
    |normal=>exact (eR _ _ oV).elim
    |exit id=>exact this
    |ret=>exact this
theorem ik{n:Nat}{ac:bZ}{fr de:List AV}{h h':af}{ex:Ex}(hc:bZ.kT [Ay]=ac.strip)(he:aC C n ac fr h=some (ex,de,h')):False:=by cases ac<;>simp[bZ.strip] at hc;subst hc;simp[aC,cS,cK,Ay,cW,bG] at he
theorem nX(hC:lY P X C)(uT:oQ C)(hm:P.follows .mixedOrders=true)(n:Nat):∀(c:Code) (ac:bZ),ck P c=some ac.strip->V0 P X C n ac c
 |.skip,ac,hc=>by simp only[ck,Option.some.injEq] at hc;cases ac<;>simp[bZ.strip] at hc;intro φ h h' w fr de a ex he hf hr hG Q hQ;simp only[aC,Option.some.injEq,Prod.mk.injEq] at he;obtain⟨rfl,rfl,rfl⟩:=he;exact wp_skip (hQ φ a w hf hr (.refl _ _ _) rfl)
 |.exit id,ac,hc=>by simp only[ck,Option.some.injEq] at hc;cases ac<;>simp[bZ.strip] at hc;subst hc;intro φ h h' w fr de a ex he hf hr hG Q hQ;simp only[aC,Option.some.injEq,Prod.mk.injEq] at he;obtain⟨rfl,rfl,rfl⟩:=he;exact wp_exit (hQ φ a w (rZ hf) hr (.refl _ _ _) rfl)
 |.ret,ac,hc=>by simp only[ck,Option.some.injEq] at hc;cases ac<;>simp[bZ.strip] at hc;intro φ h h' w fr de a ex he hf hr hG Q hQ;simp only[aC,Option.some.injEq,Prod.mk.injEq] at he;obtain⟨rfl,rfl,rfl⟩:=he;exact wp_ret (hQ φ a w (rZ hf) hr (.refl _ _ _) rfl)
 |.region id ops draw,ac,hc=>by
   simp only[ck] at hc;split at hc
   .rename_i as has;split at hc
    .rename_i hd;subst hd;split at hc
     .rename_i cT;simp only[Option.some.injEq] at hc;intro φ h h' w fr de a ex he hf hr hG Q hQ;unfold P7 at hc;split at hc
      .rename_i hp;cases ac<;>simp[bZ.strip] at hc;subst hc;simp only[aC,Option.map_eq_some_iff] at he;obtain⟨⟨th,h1⟩,he,e⟩:=he;cases e;obtain⟨F,H,rfl,rfl,rfl,rfl,qS⟩:=BX he;exact IS hC hm has cT (Tr.of_steps qS hp) hf hr hG hQ
      .cases ac<;>simp[bZ.strip] at hc;obtain⟨rfl,rfl⟩:=hc;simp only[aC] at he;split at he
       .rename_i th h1 tr KK;split at he
        .rename_i agL;cases he;obtain⟨F,H,rfl,rfl,rfl,rfl,qS⟩:=Oy KK;exact IS hC hm has cT (Tr.adr uT qS hr.wf agL) hf hr hG hQ
        .cases he
       .cases he
     .simp only[Option.some.injEq] at hc;intro φ h h' w fr de a ex he;exact (ik hc he).elim
    .rename_i hd;have hd':draw=false:=by simpa using hd
     subst hd';simp only[Option.some.injEq] at hc;cases ac<;>simp[bZ.strip] at hc;subst hc;intro φ h h' w fr de a ex he hf hr hG Q hQ;simp only[aC,Option.map_eq_some_iff] at he;obtain⟨⟨th,h1⟩,he,e⟩:=he;cases e;exact wp_region_list (Nx hC has he hf hr hG hQ)
   .simp only[Option.some.injEq] at hc;intro φ h h' w fr de a ex he;exact (ik hc he).elim
 |.seq x y,ac,hc=>by
   simp only[ck] at hc;split at hc
   .rename_i x' y' hx hy;simp only[Option.some.injEq] at hc;cases ac<;>simp[bZ.strip] at hc;rename_i p q;obtain⟨rfl,rfl⟩:=hc;have Kz:=nX hC uT hm n x p hx;have ihy:=nX hC uT hm n y q hy;intro φ h h' w fr de a ex he hf hr hG Q hQ;refine wp_seq ?_;simp only[aC] at he;split at he
    .rename_i th h1 h2;refine Kz h2 hf hr hG λφ1 a1 w1 f1 r1 e1 d1=>?_
     exact ihy he f1 r1 (hG.ext e1) λφ2 a2 w2 f2 r2 e2 d2=>hQ φ2 a2 w2 f2 r2 (e1.trans e2) (d2.trans d1)
    .rename_i eR;refine Kz he hf hr hG λφ1 a1 w1 f1 r1 e1 d1=>?_
     have:=hQ φ1 a1 w1 f1 r1 e1 d1
     cases ex with
     |normal=>exact (eR _ _ he).elim
     |exit id=>exact this
     |ret=>exact this
   .cases hc
 |.cond c x y,ac,hc=>by
   simp only[ck] at hc;split at hc
   .rename_i c' x' y' h1 hx hy;simp only[Option.some.injEq] at hc;cases ac<;>simp[bZ.strip] at hc;rename_i c2 p q;obtain⟨rfl,rfl,rfl⟩:=hc;have Kz:=nX hC uT hm n x p hx;have ihy:=nX hC uT hm n y q hy;intro φ h h' w fr de a ex he hf hr hG Q hQ;simp only[aC] at he;split at he
    .rename_i t ht;have g:=ch h1 hf;rw[ht] at g;refine wp_cond g.gM ?_
     cases t with
     |true=>simp only[if_true] at he|-;exact Kz he hf hr hG hQ
     |false=>simp only[Bool.false_eq_true,if_false] at he|-;exact ihy he hf hr hG hQ
    .cases he
   .cases hc
 |.block id x,ac,hc=>by
   simp only[ck,Option.map_eq_some_iff] at hc;obtain⟨x',hx,hc⟩:=hc;cases ac<;>simp[bZ.strip] at hc;rename_i VC p;obtain⟨rfl,rfl⟩:=hc;have Kz:=nX hC uT hm n x p hx;intro φ h h' w fr de a ex he hf hr hG Q hQ;refine wp_block ?_;simp only[aC] at he;split at he
   .rename_i i th h1 h2;cases he;refine Kz h2 hf hr hG λφ1 a1 w1 f1 r1 e1 d1=>?_
    have:=hQ φ1 a1 w1 f1 r1 e1 d1;show Exit.inBlock id Q (.exit i) a1 w1;unfold Exit.inBlock;dsimp only;by_cases hi:i=id
    .rw[if_pos hi] at this|-;exact this
    .rw[if_neg hi] at this|-;exact this
   .rename_i eR;refine Kz he hf hr hG λφ1 a1 w1 f1 r1 e1 d1=>?_
    have:=hQ φ1 a1 w1 f1 r1 e1 d1
    cases ex with
    |normal=>exact this
    |exit i=>exact (eR _ _ _ he).elim
    |ret=>exact this
 |.loop x,ac,hc=>by
   simp only[ck,Option.map_eq_some_iff] at hc;obtain⟨x',hx,hc⟩:=hc;cases ac<;>simp[bZ.strip] at hc;rename_i live p;subst hc;have Kz:=nX hC uT hm n x p hx;intro φ h h' w fr de a ex he hf hr hG Q hQ;simp only[aC] at he;obtain⟨⟨ex1,th,h1⟩,h2,e⟩:=Option.map_eq_some_iff.1 he;cases e;obtain⟨s1,s2⟩:=hr.uK h.next h.md
   have hcw:=DF (he:={h with wl:=h.next}) (λfr h ex de h' he=>tV uT he) h2 (.refl _);refine wp_loop_rounds n (R4 uT Kz (he:={h with wl:=h.next}) s1 (hG.ext s2) n h2 (hf.ext s2) s1 (.refl _ _ _) (.refl _) λφ1 a1 w1 f1 r1 e1 d1=>?_);obtain⟨φ2,r2,f2,e2⟩:=Rf r1 f1 e1 s1 (hcw s1.wf).1;obtain⟨t1,t2⟩:=r2.uK (min h.wl (gc h.next th h1).2.wl) (gc h.next th h1).2.md;exact hQ φ2 a1 w1 (f2.ext t2) t1 ((s2.trans e2).trans t2) d1
 |.rangeFunc ..,ac,hc=>by simp only[ck,Option.some.injEq] at hc;intro φ h h' w fr de a ex he;exact (ik hc he).elim
 |.scope ..,ac,hc=>by simp only[ck,Option.some.injEq] at hc;intro φ h h' w fr de a ex he;exact (ik hc he).elim
 |.label ..,ac,hc=>by simp only[ck,Option.some.injEq] at hc;intro φ h h' w fr de a ex he;exact (ik hc he).elim
 |.goto ..,ac,hc=>by simp only[ck,Option.some.injEq] at hc;intro φ h h' w fr de a ex he;exact (ik hc he).elim
 |.refuse ..,ac,hc=>by simp only[ck,Option.some.injEq] at hc;intro φ h h' w fr de a ex he;exact (ik hc he).elim
end
end
end Sz
