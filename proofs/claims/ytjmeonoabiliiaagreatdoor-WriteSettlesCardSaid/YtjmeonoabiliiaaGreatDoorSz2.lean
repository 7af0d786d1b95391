import Derived.Test.YtjmeonoabiliiaaGreatDoorSz1
import Derived.Laws.IdiomStrings
import Derived.LoopN
import Derived.Orders
set_option linter.all false
set_option maxHeartbeats 16000000
set_option maxRecDepth 100000
namespace Sz
open Go
section
section
variable {P:Program}{φ:eh}{h:af}{w:World}{fr:List AV}{a:Act}
theorem wH{t e:TypeId}(ht:P.underlying t=some (.slice e))(ad:Option Addr)(n c:Nat)(w:World):(Op.equal t (.slice ad n c) (.slice none 0 0)).run P w=.ok ad.isNone w:=by
 have h:∀d:Nat,(Op.equalIn (d+1) t (.slice ad n c) (.slice none 0 0)).run P w=.ok ad.isNone w:=λd=>by cases ad<;>simp[Op.equalIn,run_underlying ht]
 exact h 9999
theorem K4{neg:Bool}{t e ty:TypeId}{x:Operand}{o:Oper}(ho:o.op=.binOp (if neg then .neq else .eql) t x (.const (.slice none 0 0)) ty)(ht:P.underlying t=some (.slice e)){ad:Option Addr}{n c:Nat}(hx:a.eval x=.slice ad n c)(w:World):
 (execOp a.eval o).run P w=.ok (.value (.bool (if neg then !ad.isNone else ad.isNone))) w:=by
 have k1:=wH ht ad n c w;have hy:a.eval (.const (.slice none 0 0))=.slice none 0 0:=rfl;have k2:eqGuard (if neg then .neq else .eql) t x (.const (.slice none 0 0)) (.slice ad n c) (.slice none 0 0)=Pure.pure ():=by cases neg<;>rfl
 have k3:∀op,op=.eql\/op=.neq->(binOp op t (.slice ad n c) (.slice none 0 0))=if op=.eql then (do pure (.bool (<-Op.equal t (.slice ad n c) (.slice none 0 0)))) else (do pure (.bool (!(<-Op.equal t (.slice ad n c) (.slice none 0 0))))):=λop ee=>by rcases ee with rfl|rfl<;>rfl
 unfold execOp;cases neg
 .simp only[Bool.false_eq_true,if_false] at ho k2|-;simp[ho,hx,hy,k2,k3 .eql (.inl rfl),k1]
 .simp only[if_true] at ho k2|-;have h3:=k3 .neq (.inr rfl);simp[ho,hx,hy,k2,h3,k1]
theorem Qr{neg:Bool}{t e ty:TypeId}{x:Operand}{o:Oper}(ho:o.op=.binOp (if neg then .neq else .eql) t x (.const (.slice none 0 0)) ty){x':cX}(hx:fS x=some x')(ht:P.underlying t=some (.slice e))
 {v:AV} {h':af} (he:(match x'.ev fr with
  |.sl (_::_)=>some (AV.bool neg,h)
  |.vec _ _ (_+1) _ _=>some (.bool neg,h)
  |_=>none)=some (v,h')) (hf:FR φ h w fr a.tmps) (hr:HR φ h w):fu P (execOp a.eval o) φ h w v h':=by
 have g:=cd hx hf
 have fin:∀ad n c,a.eval x=.slice (some ad) n c->fu P (execOp a.eval o) φ h w (.bool neg) h:=λad n c hq=>by refine .pure (cv:=.bool neg) hr ?_ (.bool _);rw[K4 ho ht hq w];cases neg<;>rfl
 split at he
 .rename_i y ys e1;simp only[Option.some.injEq,Prod.mk.injEq] at he;obtain⟨rfl,rfl⟩:=he;rw[e1] at g;rcases g.sB with⟨_,_,q,_⟩|⟨b,o',cap,sz,vs,q,_⟩
  .cases q
  .exact fin _ _ _ q
 .rename_i id off n sz lb e1;simp only[Option.some.injEq,Prod.mk.injEq] at he;obtain⟨rfl,rfl⟩:=he;rw[e1] at g;obtain⟨cap,ad,q,_,hl,_,_,ha⟩:=g.kA;rw[ha (by omega)] at q;exact fin _ _ _ q
 .cases he
theorem Bi{w':World}{x:Obj}(hr:HR φ h w)(hh:w'.heap=w.heap.push x)(ho:w'.os=w.os)(ht:w'.tape=w.tape)(tJ:w'.output=w.output):HR φ h w'/\Ext φ h w φ h w':=by
 have e:Ext φ h w φ h w':=⟨ho,ht,tJ,by rw[hh];simp,Nat.le_refl _,λ_ _=>rfl,λb hb=>⟨⟨by rw[hh];simp;have:=hb.1;omega,hb.2⟩,by rw[hh];exact getElem?_push_lt hb.1⟩,rfl,
  λb hb=>by rw[hh];exact getElem?_push_lt (hr.gh b hb).1⟩
 refine⟨⟨hr.wf,λi cs hi=>?_,λi es hi=>?_,λi j hi hj=>hr.inj i j hi hj,λb hb=>⟨by rw[hh];simp;have:=(hr.gh b hb).1;omega,(hr.gh b hb).2⟩⟩,e⟩
 .have hb:=hr.ft ⟨_,hi,λe=>by cases e⟩;exact (hr.rows i cs hi).ext e (af.dO hi) (by rw[hh];exact getElem?_push_lt hb)
 .have hb:=hr.ft ⟨_,hi,λe=>by cases e⟩;exact (hr.maps i es hi).ext e (af.dO hi) (by rw[hh];exact getElem?_push_lt hb)
theorem adf{t e:TypeId}{parts:Array (Nat×Operand)}{o:Oper}(ho:o.op=.buildSlice t 0 parts)(hp:parts=#[])(ht:P.underlying t=some (.slice e)){i:TypeInfo}(hi:P.info? e=some i)(hr:HR φ h w):
 fu P (execOp a.eval o) φ h w .aD h:=by
 subst hp;obtain⟨r1,r2⟩:=Bi (w':=w.alloc (.cells #[] e)) hr rfl rfl rfl rfl;refine⟨.slice (some ⟨w.heap.size,0,none⟩) 0 0,w.alloc (.cells #[] e),φ,.inl ?_,.aD _,r1,r2⟩;unfold execOp;simp[ho,Instr.buildSlice,run_underlying ht,jq hi,newRow,Array.range_zero',Instr.fill]
end
end
section
section
variable {P:Program}{φ:eh}{h:af}{w:World}{fr:List AV}{a:Act}
theorem Nb{nx:Nat}{pr:Nat->Prop}:∀(l:List AV) (s:List UInt8) (f:Nat->Value),bytesOf l=some s->(∀j,j<l.length->RV φ nx pr w (l.getD j .undef) (f j))->
 ∃ns:List Int,(List.range l.length).map f=ns.map (Value.int .u8)/\ns.map (λn=>UInt8.ofNat n.toNat)=s:=by
 intro l
 induction l with
 |nil=>intro s f hs _;simp only[bytesOf,Option.some.injEq] at hs;subst hs;exact⟨[],rfl,rfl⟩
 |cons x r ih=>
   intro s f hs hv;have hx:=hv 0 (by simp)
   cases x with
   |int k n=>
     cases k<;>simp only[bytesOf] at hs<;>first|(cases hs;done)|skip
     obtain⟨s',h1,rfl⟩:=Option.map_eq_some_iff.1 hs
     obtain⟨ns,e1,e2⟩:=ih s' (λj=>f (j+1)) h1 λj hj=>by have:=hv (j+1) (by simpa using hj);simpa using this
     refine⟨n::ns,?_,by simp[e2]⟩;have h0:f 0=.int .u8 n:=RV.dP (by simpa using hx);rw[List.length_cons,List.range_succ_eq_map,List.map_cons,List.map_map,h0,List.map_cons,<-e1];rfl
   |_=>simp[bytesOf] at hs
theorem Ac:∀(ns:List Int) (r:ByteArray),(ns.foldl (λr n=>r.push (UInt8.ofNat n.toNat)) r).data.toList=r.data.toList++ns.map λn=>UInt8.ofNat n.toNat
 |[],r=>by simp
 |n::ns,r=>by rw[List.foldl_cons,Ac ns];simp[ByteArray.push]
theorem ZA{s d e:TypeId}{x:Operand}{o:Oper}(ho:o.op=.convert s d x){x':cX}(hx:fS x=some x')(hs:P.underlying s=some .string)(hd:P.underlying d=some (.slice e))(he:P.underlying e=some (.int .u8))
 {b:List UInt8} (hv:x'.ev fr=.str b) (hf:FR φ h w fr a.tmps) (hr:HR φ h w):fu P (execOp a.eval o) φ h w (.sl (b.map λc=>.int .u8 c.toNat)) h:=by
 have g:=cd hx hf;rw[hv] at g;obtain⟨c,q1,q2⟩:=g.fM;have tM:=run_bytes_of_string (P:=P) w s d e c hs hd he;generalize hg:grownCap w c.size 0 e=cap at tM;have kh:c.size<=cap:=by rw[<-hg];exact uJ _ _ _ _
 obtain⟨r1,r2⟩:=Bi (w':=w.drew.alloc (.cells (bytesRow c cap) e ((bytesRow c cap).size,(bytesRow c cap).size+1))) hr rfl rfl rfl rfl;refine⟨.slice (some ⟨w.heap.size,0,none⟩) c.size cap,w.drew.alloc (.cells (bytesRow c cap) e ((bytesRow c cap).size,(bytesRow c cap).size+1)),φ,.inl ?_,?_,r1,r2⟩
 .unfold execOp;simp[ho,q1,tM]
 .have cT:(b.map λc=>AV.int .u8 c.toNat).length=c.size:=by
   rw[List.length_map,<-q2];simp
  rw[<-cT]
  have iz:(bytesRow c cap).size=cap:=by unfold bytesRow;simp;have:c.data.size=c.size:=rfl;omega
  have hc:∀i,i<b.length->(bytesRow c cap)[i]? =some (.int .u8 ((b.getD i 0).toNat:Int)):=λi hi=>by
   have iB:i<c.data.size:=by
    have h1:c.data.toList.length=b.length:=by rw[q2]
    rw[Array.length_toList] at h1;omega
   unfold bytesRow;rw[Array.getElem?_append_left (by simpa using iB)]
   have h2:b.getD i 0=c.data[i]:=by rw[<-q2,List.getD_eq_getElem?_getD,Array.getElem?_toList,Array.getElem?_eq_getElem iB,Option.getD_some]
   rw[h2,Array.getElem?_map,Array.getElem?_eq_getElem iB,Option.map_some]
  refine .sl _ w.heap.size 0 cap 1 (λi _=>.int .u8 ((b.getD i 0).toNat:Int)) ⟨?_,?_,?_⟩ (by rw[cT];exact kh) ?_ (λ_ _=>rfl) ?_ ?_ ?_
  .show w.heap.size<(w.heap.push _).size;simp
  .intro id hl e;have:=hr.ft hl;omega
  .intro C1;have:=(hr.gh _ C1).1;omega
  .have:∀l:List UInt8,AV.aj (l.map λc=>AV.int .u8 c.toNat)=0:=by
    intro l
    induction l with
    |nil=>rfl
    |cons x r ih=>simp[AV.aj,AV.aK,ih]
   exact this b
  .intro i hi;simp[AV.cells?]
  .intro i j hi hj;have hj0:j=0:=by omega
   subst hj0;have iB:i<b.length:=by simpa using hi
   have hb:(w.drew.alloc (.cells (bytesRow c cap) e ((bytesRow c cap).size,(bytesRow c cap).size+1))).heap[w.heap.size]? =some (.cells (bytesRow c cap) e ((bytesRow c cap).size,(bytesRow c cap).size+1)):=by show (w.heap.push _)[w.heap.size]? =_;simp
   unfold World.cell?;simp only[hb,Nat.zero_add,Nat.mul_one,Nat.add_zero];exact hc i iB
  .intro i hi j hj;have iB:i<b.length:=by simpa using hi
   simp only[List.getElem_map,AV.cells] at hj|-;have hj0:j=0:=by simpa using hj
   subst hj0;have:b.getD i 0=b[i]:=by simp[List.getD,iB]
   rw[this];exact .int _ _
theorem Pc{s d e:TypeId}{x:Operand}{o:Oper}(ho:o.op=.convert s d x){x':cX}(hx:fS x=some x')(hs:P.underlying s=some (.slice e))(hd:P.underlying d=some .string)(he:P.underlying e=some (.int .u8))
 {n:Nat} {cs:List AV} (hv:aI h 1 (x'.ev fr)=some (n,cs)) (Br:∀s,x'.ev fr≠.str s) {b:List UInt8} (hb:bytesOf cs=some b) (hf:FR φ h w fr a.tmps) (hr:HR φ h w):fu P (execOp a.eval o) φ h w (.str b) h:=by
 have g:=cd hx hf
 have nD:∃ad cap,a.eval x=.slice ad n cap:=by
  cases hq:x'.ev fr with
  |aD=>rw[hq] at g hv;obtain⟨ad,q⟩:=g.mE;simp only[aI,Option.some.injEq,Prod.mk.injEq] at hv;exact⟨ad,0,by rw[q,<-hv.1]⟩
  |sl xs=>
    rw[hq] at g hv
    have hn:xs.length=n:=by
     simp only[aI] at hv;split at hv
     .cases hv;rfl
     .cases hv
    rcases g.sB with⟨ad,cap,e1,q⟩|⟨b,o',cap,sz,vs,q,_⟩
    .subst e1;exact⟨ad,cap,by rw[q,<-hn];rfl⟩
    .exact⟨_,cap,by rw[q,hn]⟩
  |vec id off len sz lb=>
    rw[hq] at g hv;obtain⟨cap,ad,q,_⟩:=g.kA
    have hn:len=n:=by
     simp only[aI] at hv;split at hv
     .split at hv
      .cases hv;rfl
      .cases hv
     .cases hv
    exact⟨ad,cap,by rw[q,hn]⟩
  |str s=>exact absurd hq (Br s)
  |_=>rw[hq] at hv;simp[aI] at hv
 obtain⟨ad,cap,q⟩:=nD;obtain⟨n1,f,n2,_,n4⟩:=HC (P:=P) hv g hr (by omega);rw[Nat.mul_one] at n1 n2 n4;obtain⟨ns,e1,e2⟩:=Nb (φ:=φ) (w:=w) cs b f hb λj hj=>(n2 j (by omega)).1
 have hl:=n4 w rfl;rw[q] at hl;rw[n1] at e1;rw[e1] at hl;have hcv:=run_convert_bytes_string (P:=P) w s d e ad n cap hs he hd
 cases ad with
 |none=>
   simp[Builtin.firstCells] at hl
   have akA:ns=[]:=by
    cases ns with
    |nil=>rfl
    |cons _ _=>simp at hl
   subst akA;refine .pure (cv:=.string .empty) hr ?_ (.xF (by rw[<-e2];rfl));unfold execOp;simp[ho,q,hcv,Conv.bytesToString]
 |some ad=>
   simp only[Builtin.firstCells,Nat.mul_one] at hl;have Yj:=run_bytesToString (P:=P) w ad n cap ns hl;refine .pure (cv:=.string (ns.foldl (λr n=>r.push (UInt8.ofNat n.toNat)) ByteArray.empty)) hr ?_ (.xF ?_)
   .unfold execOp;simp[ho,q,hcv,Yj]
   .rw[Ac,e2];rfl
theorem Fj{nx:Nat}{pr:Nat->Prop}{q q0:IntKind}{n:Int}:∀(es:List (AV×AV)) (l:List MapEntry) (i:Nat),l.length=es.length->
 (∀j (hj:j<es.length),RV φ nx pr w es[j].1 (l.getD j default).key/\RV φ nx pr w es[j].2 (l.getD j default).val)->∀r,oj 1 (.int q0 n) es=some r->
 ∃r',Instr.findNow (.int q) (.int q0 n) l i=some r'/\((r=none/\r'=none)\/∃v j cv,r=some v/\r'=some (j,cv)/\RV φ nx pr w v cv)
 |[],l,i,hl,_,r,hr=>by
   simp only[oj,Option.some.injEq] at hr
   cases l with
   |nil=>exact⟨none,rfl,.inl ⟨hr.symm,rfl⟩⟩
   |cons _ _=>simp at hl
 |(k',v')::es,[],i,hl,_,r,hr=>by simp at hl
 |(k',v')::es,e::l,i,hl,hv,r,hr=>by
   obtain⟨g1,g2⟩:=hv 0 (by simp);simp only[List.getElem_cons_zero,List.getD_cons_zero] at g1 g2;simp only[oj] at hr
   cases k' with
   |int k b=>
     have hk:=g1.dP;by_cases e1:q0=k
     .subst e1;by_cases e2:n=b
      .subst e2;simp only[ij,if_true,decide_true,Option.some.injEq] at hr;refine⟨some (i,e.val),by simp[Instr.findNow,Instr.sameNow,hk],.inr ⟨v',i,e.val,hr.symm,rfl,g2⟩⟩
      .simp only[ij,if_true,decide_eq_false e2] at hr
       obtain⟨r',h1,h2⟩:=Fj (q:=q) es l (i+1) (by simpa using hl) (λj hj=>by have:=hv (j+1) (by simpa using hj);simpa using this) r hr
       have e3:(n==b)=false:=by simpa using e2
       exact⟨r',by simp[Instr.findNow,Instr.sameNow,hk,e3,h1],h2⟩
     .simp[ij,e1] at hr
   |_=>simp[ij] at hr
def afQ(ok:Bool)(z:AV):Option AV->AV
 |some v=>if ok then .tuple [v,.bool true] else v
 |none=>if ok then .tuple [z,.bool false] else z
theorem DF{id:Nat}{es:List (AV×AV)}(h1:h.hP id=some es):h.get id=some (.map es):=by
 unfold af.hP at h1;split at h1
 .rename_i h2;cases h1;exact h2
 .cases h1
theorem adY{t kt e:TypeId}{q:IntKind}{m k:Operand}{ok:Bool}{o:Oper}(ho:o.op=.lookup t m k ok){m' k':cX}(hm:fS m=some m')(hk:fS k=some k')
 (ht:P.underlying t=some (.map kt e)) (hq:P.underlying kt=some (.int q)) {z:AV} (hz:zeroV P e=some z) {es:List (AV×AV)} (TB:(m'.ev fr=.jV/\es=[])\/∃id,m'.ev fr=.map id/\h.hP id=some es)
 {r:Option AV} (hl:oj 1 (k'.ev fr) es=some r) (hkv:(∃q0 n,k'.ev fr=.int q0 n)\/es=[]) (hf:FR φ h w fr a.tmps) (hr:HR φ h w):
 fu P (execOp a.eval o) φ h w (afQ ok z r) h:=by
 have g1:=cd hm hf;have g2:=cd hk hf;obtain⟨zv,hz1,hz2⟩:=Option.bind_eq_some_iff.1 hz;obtain⟨inf,hi,Jg⟩:=Option.bind_eq_some_iff.1 hz1;have Yk:eZ φ h w z zv:=Dl hz2
 have pair:∀(v:AV) (cv:Value) (b:Bool),eZ φ h w v cv->eZ φ h w (if ok then .tuple [v,.bool b] else v) (if ok then .tuple #[cv,.bool b] else cv):=λv cv b hv=>by
  cases ok with
  |false=>exact hv
  |true=>
    refine .tuple _ _ rfl λj hj=>?_
    match j,hj with
    |0,_=>exact hv
    |1,_=>exact .bool b
 generalize Yl:a.eval k=kc at g2
 have hck:∀em,(Instr.checkKey em 10000 kt kc).run P w=.ok () w:=λem=>by unfold Instr.checkKey;simp[run_underlying hq]
 have ahq:∀l:List MapEntry,l.length=es.length->(∀j (hj:j<es.length),eZ φ h w es[j].1 (l.getD j default).key/\eZ φ h w es[j].2 (l.getD j default).val)->
  ∃r',Instr.findNow (.int q) kc l 0=some r'/\((r=none/\r'=none)\/∃v j cv,r=some v/\r'=some (j,cv)/\eZ φ h w v cv):=λl cT x5=>by
  rcases hkv with⟨q0,n,e1⟩|rfl
  .rw[e1] at g2 hl;rw[g2.dP];exact Fj (q:=q) es l 0 cT x5 r hl
  .simp only[oj,Option.some.injEq] at hl
   cases l with
   |nil=>exact⟨none,rfl,.inl ⟨hl.symm,rfl⟩⟩
   |cons _ _=>simp at cT
 have fin:∀(l:List MapEntry) (mo:Option Nat),a.eval m=.map mo->(∃XQ:Array MapEntry,XQ.toList=l/\(match mo with|none=>XQ=#[]|some b=>∃oW,w.heap[b]? =some (.map XQ oW)))->l.length=es.length->
  (∀j (hj:j<es.length),eZ φ h w es[j].1 (l.getD j default).key/\eZ φ h w es[j].2 (l.getD j default).val)->
  fu P (execOp a.eval o) φ h w (afQ ok z r) h:=λl mo hmo TD cT x5=>by
  obtain⟨r',f1,f2⟩:=ahq l cT x5;obtain⟨XQ,akC,TD⟩:=TD
  have hfk:(Instr.findKey kt kc XQ.toList).run P w=.ok r' w:=by unfold Instr.findKey;rw[akC];simp[run_underlying hq,f1]
  rcases f2 with⟨rfl,rfl⟩|⟨v,j,cv,rfl,rfl,hv⟩
  .refine .pure (cv:=if ok then .tuple #[zv,.bool false] else zv) hr ?_ (by cases ok<;>exact pair z zv false Yk);unfold execOp
   cases mo with
   |none=>subst TD;simp[ho,hmo,Yl,Instr.lookup,run_underlying ht,hck,hfk,zeroValue,typeInfo,hi,Jg]
   |some b=>
     obtain⟨oW,hb⟩:=TD;have hg:(getObj b).run P w=.ok (.map XQ oW) w:=by simp[getObj,Sem.run,hb]
     simp[ho,hmo,Yl,Instr.lookup,run_underlying ht,hg,hck,hfk,zeroValue,typeInfo,hi,Jg]
  .refine .pure (cv:=if ok then .tuple #[cv,.bool true] else cv) hr ?_ (by cases ok<;>exact pair v cv true hv);unfold execOp
   cases mo with
   |none=>subst TD;simp[ho,hmo,Yl,Instr.lookup,run_underlying ht,hck,hfk]
   |some b=>
     obtain⟨oW,hb⟩:=TD;have hg:(getObj b).run P w=.ok (.map XQ oW) w:=by simp[getObj,Sem.run,hb]
     simp[ho,hmo,Yl,Instr.lookup,run_underlying ht,hg,hck,hfk]
 rcases TB with⟨e1,rfl⟩|⟨id,e1,e2⟩
 .rw[e1] at g1;exact fin [] none g1.zD ⟨#[],rfl,rfl⟩ rfl λj hj=>by simp at hj
 .rw[e1] at g1;obtain⟨fU,oW,m1,m2,m3⟩:=hr.maps id es (DF e2);refine fin fU.toList (some (φ id).gm) g1.tz.1 ⟨fU,rfl,oW,m1⟩ (by simpa using m2) λj hj=>?_
  have:=m3 j hj;simpa[Array.getD_eq_getD_getElem?,List.getD] using this
end
end
section
section
variable {P:Program}{φ:eh}{h:af}{w:World}{fr:List AV}{a:Act}
theorem IQ{n:Int}(h0:0<=n)(h1:n<128):Utf8.encode n=⟨#[UInt8.ofNat n.toNat]⟩:=by
 have hv:Utf8.valid n=true:=by unfold Utf8.valid;simp;omega
 unfold Utf8.encode;simp only[hv,if_true];rw[if_pos (by omega)]
theorem Z7{s d:TypeId}{x:Operand}{o:Oper}(ho:o.op=.convert s d x){x':cX}(hx:fS x=some x'){k0:IntKind}(hs:P.underlying s=some (.int k0))(hd:P.underlying d=some .string)
 {k':IntKind} {n:Int} (hv:x'.ev fr=.int k' n) (h0:0<=n) (h1:n<128) (hf:FR φ h w fr a.tmps) (hr:HR φ h w):fu P (execOp a.eval o) φ h w (.str [UInt8.ofNat n.toNat]) h:=by
 have g:=cd hx hf;rw[hv] at g;exact .pure (cv:=.string (Utf8.encode n)) hr (by unfold execOp;simp[ho,g.dP,convert,run_underlying hs,run_underlying hd,Conv.intToString]) (.xF (by rw[IQ h0 h1]))
def Nh(w:World)(b:Nat)(o:Obj):World:={w with heap:=w.heap.setIfInBounds b o}
theorem SE{w:World}{b:Nat}{o:Obj}(hb:b<w.heap.size):(Nh w b o).heap[b]? =some o:=by unfold Nh;simp[hb]
theorem Oj{w:World}{b c:Nat}{o:Obj}(hb:c≠b):(Nh w b o).heap[c]? =w.heap[c]?:=by unfold Nh;simp[Array.getElem?_setIfInBounds_ne (λe=>hb e.symm)]
theorem Qm{nx:Nat}{pr:Nat->Prop}{q:IntKind}{k v:AV}{kc:Value}(hk:RV φ nx pr w k kc):∀(es:List (AV×AV)) (l:List MapEntry) (i:Nat),l.length=es.length->
 (∀j (hj:j<es.length),RV φ nx pr w es[j].1 (l.getD j default).key)->∀um,va 1 k v es=some um->
 (Instr.findNow (.int q) kc l i=some none/\um=es++[(k,v)])\/
 ∃j cv,Instr.findNow (.int q) kc l i=some (some (i+j,cv))/\j<es.length/\(l.getD j default).key=kc/\(∃q0 n,kc=.int q0 n)/\um=es.set j (k,v)
 |[],l,i,hl,_,um,hr=>by
   simp only[va,Option.some.injEq] at hr
   cases l with
   |nil=>exact .inl ⟨rfl,hr.symm⟩
   |cons _ _=>simp at hl
 |(k',v')::es,[],i,hl,_,um,hr=>by simp at hl
 |(k',v')::es,e::l,i,hl,hv,um,hr=>by
   have g1:=hv 0 (by simp);simp only[List.getElem_cons_zero,List.getD_cons_zero] at g1;simp only[va] at hr
   cases k with
   |int q0 n=>
     have Yl:=hk.dP
     cases k' with
     |int k1 b=>
       have hk1:=g1.dP;by_cases e1:q0=k1
       .subst e1;by_cases e2:n=b
        .subst e2;simp only[ij,if_true,decide_true,Option.some.injEq] at hr;exact .inr ⟨0,e.val,by simp[Instr.findNow,Instr.sameNow,hk1,Yl],by simp,by simp[hk1,Yl],⟨_,_,Yl⟩,by simp[<-hr]⟩
        .simp only[ij,if_true,decide_eq_false e2] at hr;obtain⟨r,h1,rfl⟩:=Option.map_eq_some_iff.1 hr;have e3:(n==b)=false:=by simpa using e2
         rcases Qm (q:=q) hk es l (i+1) (by simpa using hl) (λj hj=>by have:=hv (j+1) (by simpa using hj);simpa using this) r h1 with⟨f1,rfl⟩|⟨j,cv,f1,f2,f3,f4,rfl⟩
         .exact .inl ⟨by subst Yl;simp[Instr.findNow,Instr.sameNow,hk1,e3,f1],rfl⟩
         .exact .inr ⟨j+1,cv,by subst Yl;simp[Instr.findNow,Instr.sameNow,hk1,e3,f1];omega,by simpa using f2,by simpa using f3,f4,by simp⟩
       .simp[ij,e1] at hr
     |_=>simp[ij] at hr
   |_=>cases k'<;>simp[ij] at hr
theorem acI{t kt e:TypeId}{q:IntKind}{m k v:Operand}{o:Oper}(ho:o.op=.mapUpdate t m k v){m' k' v':cX}(hm:fS m=some m')(hk:fS k=some k')(hv:fS v=some v')
 (ht:P.underlying t=some (.map kt e)) (hq:P.underlying kt=some (.int q)) {id:Nat} (bZ:m'.ev fr=.map id) {es um:List (AV×AV)} (TB:h.hP id=some es)
 (hu:va 1 (k'.ev fr) (v'.ev fr) es=some um) (hf:FR φ h w fr a.tmps) (hr:HR φ h w):
 fu P (execOp a.eval o) φ h w .undef (((h.set id (.map um)).mark id (v'.ev fr)).mark id (k'.ev fr)):=by
 have g0:=cd hm hf;have g1:=cd hk hf;have g2:=cd hv hf;rw[bZ] at g0;have hmv:=g0.tz.1;have hg:=DF TB;obtain⟨fU,oW,m1,m2,m3⟩:=hr.maps id es hg
 have hck:∀em,(Instr.checkKey em 10000 kt (a.eval k)).run P w=.ok () w:=λem=>by unfold Instr.checkKey;simp[run_underlying hq]
 have hgo:(getObj (φ id).gm).run P w=.ok (.map fU oW) w:=by simp[getObj,Sem.run,m1]
 -- behind the write
 have fin:∀(Fl:Array MapEntry) (aax:Nat),Fl.size=um.length->
  (∀j (hj:j<um.length),eZ φ h w um[j].1 (Fl.getD j default).key/\eZ φ h w um[j].2 (Fl.getD j default).val)->
  (Instr.mapUpdate t (a.eval m) (a.eval k) (a.eval v)).run P w=.ok () (Nh w (φ id).gm (.map Fl aax))->
  fu P (execOp a.eval o) φ h w .undef (((h.set id (.map um)).mark id (v'.ev fr)).mark id (k'.ev fr)):=λFl aax cT x5 tM=>by
  have de:(φ id).gm<w.heap.size:=hr.ft ⟨_,hg,λe=>by cases e⟩;obtain⟨t1,t2⟩:=KD (w':=Nh w (φ id).gm (.map Fl aax)) (o':=.map um) hr hg (λe=>by cases e) (by simp[Nh]) (λb hb=>Oj hb) rfl rfl rfl
  have x6:=t2 (λcs e=>by cases e) λes2 e=>by cases e;exact⟨Fl,aax,SE de,cT,λj hj=>⟨(x5 j hj).1.ext t1,(x5 j hj).2.ext t1⟩⟩
  obtain⟨n1,n2⟩:=x6.mark id (v'.ev fr);obtain⟨n3,n4⟩:=n1.mark id (k'.ev fr);refine⟨undef,_,φ,.inr ⟨?_,rfl⟩,.undef _,n3,(t1.trans n2).trans n4⟩;unfold execOp;simp[ho,tM]
 rcases Qm (q:=q) g1 es fU.toList 0 (by simpa using m2) (λj hj=>by have:=(m3 j hj).1;simpa[Array.getD_eq_getD_getElem?,List.getD] using this) um hu with⟨f1,rfl⟩|⟨j,cv,f1,f2,f3,⟨q0,n,f4⟩,rfl⟩
 .refine fin (fU.push {key:=a.eval k,val:=a.eval v,born:=oW}) (oW+1) (by simp[m2]) (λj hj=>?_) ?_
  .by_cases hl:j<es.length
   .have:=m3 j hl
    have e1:(fU.push {key:=a.eval k,val:=a.eval v,born:=oW}).getD j default=fU.getD j default:=by
     have:j<fU.size:=by omega
     rw[Array.getD_eq_getD_getElem?,Array.getD_eq_getD_getElem?,Array.getElem?_push_lt this,Array.getElem?_eq_getElem this]
    rw[e1];simpa[hl] using this
   .have jk:j=es.length:=by simp at hj;omega
    subst jk
    have e1:(fU.push {key:=a.eval k,val:=a.eval v,born:=oW}).getD es.length default={key:=a.eval k,val:=a.eval v,born:=oW}:=by rw[Array.getD_eq_getD_getElem?,<-m2];simp
    rw[e1];simpa using ⟨g1,g2⟩
  .have hfk:(Instr.findKey kt (a.eval k) fU.toList).run P w=.ok none w:=by
    unfold Instr.findKey;simp[run_underlying hq,f1]
   simp[Instr.mapUpdate,run_underlying ht,hmv,hgo,hck,hfk,setObj,Sem.run];rw[show φ.at_ id=φ id from rfl,m1];rfl
 .have HI:j<fU.size:=by omega
  rw[Nat.zero_add] at f1
  have akD:(fU[j]).key=a.eval k:=by have:=f3;simpa[List.getD,HI] using this
  refine fin (fU.modify j λe=>{e with key:=a.eval k,val:=a.eval v}) oW (by simp[m2]) (λi hi=>?_) ?_
  .have iB:i<es.length:=by simpa using hi
   have hie:i<fU.size:=by omega
   by_cases tK:i=j
   .subst tK
    have e1:(fU.modify i λe=>{e with key:=a.eval k,val:=a.eval v}).getD i default={fU[i] with key:=a.eval k,val:=a.eval v}:=by rw[Array.getD_eq_getD_getElem?,Array.getElem?_eq_getElem (by simpa using hie),Array.getElem_modify_self];rfl
    rw[e1];simpa using ⟨g1,g2⟩
   .have e1:(fU.modify j λe=>{e with key:=a.eval k,val:=a.eval v}).getD i default=fU.getD i default:=by
     rw[Array.getD_eq_getD_getElem?,Array.getD_eq_getD_getElem?,Array.getElem?_eq_getElem (by simpa using hie),Array.getElem_modify_of_ne (λe=>tK e.symm),Array.getElem?_eq_getElem hie]
    rw[e1];have:=m3 i iB;rw[List.getElem_set_ne (λe=>tK e.symm)];exact this
  .have hfk:(Instr.findKey kt (a.eval k) fU.toList).run P w=.ok (some (j,cv)) w:=by
    unfold Instr.findKey;simp[run_underlying hq,f1]
   have qS:(Instr.keyThatStays (a.eval k) (a.eval k)).run P w=.ok (a.eval k) w:=by unfold Instr.keyThatStays;rw[f4];simp[Instr.sameBits]
   simp[Instr.mapUpdate,run_underlying ht,hmv,hgo,hck,hfk,HI,akD,qS,setObj,Sem.run];rw[show φ.at_ id=φ id from rfl,m1];rfl
end
end
section
section
variable {P:Program}{φ:eh}{h:af}{w:World}{fr:List AV}{a:Act}
theorem u9:∀{l:List AV} {s:List UInt8},bytesOf l=some s->∀i (hi:i<l.length),∃n,l[i]=.int .u8 n
 |[],_,_,i,hi=>by simp at hi
 |x::r,s,h,i,hi=>by
   cases x with
   |int k n=>
     cases k<;>simp only[bytesOf] at h<;>first|(cases h;done)|skip
     obtain⟨s',h1,rfl⟩:=Option.map_eq_some_iff.1 h
     cases i with
     |zero=>exact⟨n,rfl⟩
     |succ i=>exact u9 h1 i (by simpa using hi)
   |_=>simp[bytesOf] at h
theorem abY{t e:TypeId}{len:Nat}{parts:Array (Nat×Operand)}{o:Oper}(ho:o.op=.buildSlice t len parts)(ht:P.underlying t=some (.slice e)){i:TypeInfo}(hi:P.info? e=some i)
 {z:List AV} (hz:om P e=some z) {ps:List (Nat×cX)} (BZ:eL (λp:Nat×Operand=>(fS p.2).map λx=>(p.1,x)) parts.toList=some ps) (h1:i.size=1) (cT:len<=2^24) (B0:z.length=1) {cs:List AV}
 (he:mC ((List.range (len*1)).map λj=>z.getD (j%1) .undef) (ps.map λp=>(p.1*1,1,p.2.ev fr))=some cs) {b:List UInt8} (hb:bytesOf cs=some b) (hf:FR φ h w fr a.tmps) (hr:HR φ h w):
 fu P (execOp a.eval o) φ h w (.sl cs) h:=by
 obtain⟨i',zv,iB,Jg,k1,k2,k3⟩:=o6 (φ:=φ) hz;obtain rfl:i=i':=by rw[hi] at iB;exact Option.some.inj iB
 have g1:=nF BZ;rw[<-h1] at he;have ang:=B0;have ami:=cT;replace B0:z.length=i.size:=by omega
 replace cT:len*i.size<=2^24:=by rw[h1];omega
 let zz:Array Value:=if len*i.size=0 then #[] else zv.cells
 have XJ:so φ h.next (Pr φ h w) w ((List.range (len*i.size)).map λj=>z.getD (j%i.size) .undef) ((Array.range (len*i.size)).map (zz[· % zz.size]!)):=by
  refine⟨by simp,λj=>?_,λj hj=>?_⟩
  .by_cases hj:j<len*i.size
   .have lO:0<i.size:=Nat.pos_of_ne_zero λe=>by simp[e] at hj
    have XK:zz=zv.cells:=if_neg (by omega);have hm:j%i.size<i.size:=Nat.mod_lt _ lO;have:=k2 (j%i.size);simp only[XK,k1,B0];simpa[Array.getD,hj,k1,B0,hm] using this
   .simp[Array.getD,hj];rfl
  .have jk:j<len*i.size:=by simpa using hj
   have lO:0<i.size:=Nat.pos_of_ne_zero λe=>by simp[e] at jk
   have XK:zz=zv.cells:=if_neg (by omega);have hm:j%i.size<z.length:=by rw[B0];exact Nat.mod_lt _ lO
   have:=k3 h.next (Pr φ h w) w (j%i.size) hm
   simp only[XK,k1,B0];have hm':j%i.size<i.size:=by omega
   simpa[Array.getD,jk,k1,B0,hm,hm',List.getD] using this
 obtain⟨c',e1,e2,e3,e4⟩:=Cz (φ:=φ) (nx:=h.next) (pr:=Pr φ h w) (w:=w) (λk=>some (k*i.size,i.size)) (ps.map λp=>(p.1*i.size,i.size,p.2.ev fr)) ((parts.map λ(i,x)=>(i,a.eval x)).toList) _ _ cs XJ
  (by simp[g1]) (λj hj jk=>by
   have hj1:j<ps.length:=by simpa using hj
   have Fw:j<parts.toList.length:=by simpa using jk
   have q:=lQ BZ j Fw hj1;obtain⟨x',q1,q2⟩:=Option.map_eq_some_iff.1 q;have q3:=cd q1 hf;have q4:ps[j]=((parts.toList[j]).1,x'):=q2.symm;exact⟨by simp[q4],by simpa[q4] using q3⟩) he
 have eR:cs.length=len:=by
  have:c'.size=len*i.size:=by have:=ly _ _ _ _ e1;simpa using this
  rw[h1,Nat.mul_one] at this;omega
 obtain⟨r1,r2⟩:=Bi (w':=w.alloc (.cells c' e)) hr rfl rfl rfl rfl;refine⟨.slice (some ⟨w.heap.size,0,none⟩) len len,w.alloc (.cells c' e),φ,.inl ?_,?_,r1,r2⟩
 .unfold execOp;have ako:¬(len*i.size > 2^24):=by rw[h1];omega
  by_cases h0:len*i.size=0
  .simp only[zz,h0,if_true] at e1;have Mq:¬(16777216<len*i.size):=by omega
   simp[Array.range_zero'] at e1;simp[ho,Instr.buildSlice,run_underlying ht,jq hi,h0,newRow,Array.range_zero',e1]
  .simp only[zz,h0,if_false] at e1;have Mq:¬(16777216<len*i.size):=by omega
   simp at e1;simp[ho,Instr.buildSlice,run_underlying ht,jq hi,zeroValue,typeInfo,hi,Jg,Mq,h0,newRow,e1]
 .have np:c'.size=cs.length:=by
   have:c'.size=len*i.size:=by have:=ly _ _ _ _ e1;simpa using this
   rw[this,h1,eR];omega
  have hint:∀k (hk:k<cs.length),∃n,cs[k]=.int .u8 n/\c'.getD k default=.int .u8 n:=λk hk=>by obtain⟨n,e⟩:=u9 hb k hk;have:=e4 k hk;rw[e] at this;exact⟨n,e,this.dP⟩
  rw[<-eR];refine .sl _ w.heap.size 0 cs.length 1 (λk _=>c'.getD k default) ⟨?_,?_,?_⟩ (Nat.le_refl _) ?_ (λk _=>e3 k) ?_ ?_ ?_
  .show w.heap.size<(w.heap.push _).size;simp
  .intro id hl e;have:=hr.ft hl;omega
  .intro C1;have:=(hr.gh _ C1).1;omega
  .have:∀{l:List AV} {s:List UInt8},bytesOf l=some s->AV.aj l=0:=by
    intro l
    induction l with
    |nil=>intro s _;rfl
    |cons x r ih=>
      intro s h
      cases x with
      |int k n=>
        cases k<;>simp only[bytesOf] at h<;>first|(cases h;done)|skip
        obtain⟨s',h1,rfl⟩:=Option.map_eq_some_iff.1 h;simp[AV.aj,AV.aK,ih h1]
      |_=>simp[bytesOf] at h
   exact this hb
  .intro k hk;obtain⟨n,e,_⟩:=hint k hk;rw[e];rfl
  .intro k j hk hj;have hj0:j=0:=by omega
   subst hj0
   have hb:(w.alloc (.cells c' e)).heap[w.heap.size]? =some (.cells c' e):=by show (w.heap.push _)[w.heap.size]? =_;simp
   unfold World.cell?;simp only[hb,Nat.zero_add,Nat.mul_one,Nat.add_zero];rw[Array.getD_eq_getD_getElem?,Array.getElem?_eq_getElem (by omega)];rfl
  .intro k hk j hj;obtain⟨n,e,e'⟩:=hint k hk;simp only[e,AV.cells] at hj|-;have hj0:j=0:=by simpa using hj
   subst hj0;rw[e'];exact .int _ _
theorem aak{s d e:TypeId}{x:Operand}{o:Oper}(ho:o.op=.convert s d x){x':cX}(hx:fS x=some x')(hs:P.underlying s=some (.slice e))(hd:P.underlying d=some .string)(he:P.underlying e=some (.int .u8))
 {cs:List AV} (hv:x'.ev fr=.sl cs) {b:List UInt8} (hb:bytesOf cs=some b) (hf:FR φ h w fr a.tmps) (hr:HR φ h w):fu P (execOp a.eval o) φ h w (.str b) h:=by
 have im:cs.all (λx=>(x.cells?.map List.length)==some 1)=true:=by rw[List.all_eq_true];intro x hx;obtain⟨i,hi,rfl⟩:=List.getElem_of_mem hx;obtain⟨n,e⟩:=u9 hb i hi;rw[e];rfl
 have C2:∀{l:List AV} {s:List UInt8},bytesOf l=some s->l.flatMap AV.cells=l:=by
  intro l
  induction l with
  |nil=>intro s _;rfl
  |cons x r ih=>
    intro s h
    cases x with
    |int k n=>
      cases k<;>simp only[bytesOf] at h<;>first|(cases h;done)|skip
      obtain⟨s',h1,rfl⟩:=Option.map_eq_some_iff.1 h;rw[List.flatMap_cons,ih h1];rfl
    |_=>simp[bytesOf] at h
 refine Pc ho hx hs hd he (n:=cs.length) (cs:=cs) ?_ (λs=>by rw[hv];exact λh=>by cases h) hb hf hr;rw[hv];simp only[aI];rw[if_pos im,C2 hb]
end
end
section
section
variable {P:Program}{φ:eh}{h:af}{w:World}{fr:List AV}{a:Act}
theorem acM{o:Oper}{C3:ye}{v:AV}{h':af}(hc:dn P o.op=some C3)(he:bC fr h C3=some (v,h'))(hf:FR φ h w fr a.tmps)(hr:HR φ h w):fu P (execOp a.eval o) φ h w v h':=by
 cases ee:o.op with
 |move x=>rw[ee] at hc;simp only[dn,Option.map_eq_some_iff] at hc;obtain⟨x',hx,rfl⟩:=hc;simp only[bC,Option.some.injEq,Prod.mk.injEq] at he;obtain⟨rfl,rfl⟩:=he;exact VY (.inl ee) hx hf hr
 |assign x=>rw[ee] at hc;simp only[dn,Option.map_eq_some_iff] at hc;obtain⟨x',hx,rfl⟩:=hc;simp only[bC,Option.some.injEq,Prod.mk.injEq] at he;obtain⟨rfl,rfl⟩:=he;exact VY (.inr ee) hx hf hr
 |pick c x y=>
   rw[ee] at hc;simp only[dn] at hc;split at hc
   .rename_i c' x' y' h1 h2 h3;cases hc;simp only[bC] at he;split at he
    .rename_i b hb;cases he;exact YB ee h1 h2 h3 hb hf hr
    .cases he
   .cases hc
 |alloc t=>rw[ee] at hc;simp only[dn,Option.map_eq_some_iff] at hc;obtain⟨z,hz,rfl⟩:=hc;simp only[bC,cX.ev,AV.cells?,Option.some.injEq,Prod.mk.injEq] at he;obtain⟨rfl,rfl⟩:=he;exact Ud ee hz hr
 |box t x=>
   rw[ee] at hc;simp only[dn,Option.map_eq_some_iff] at hc;obtain⟨x',hx,rfl⟩:=hc;simp only[bC] at he;split at he
   .rename_i cs np;cases he;exact ac7 ee hx np hf hr
   .cases he
 |build t parts=>
   rw[ee] at hc;simp only[dn] at hc;split at hc
   .rename_i fs z h1 h2;split at hc
    .rename_i places h3;obtain⟨ps,BZ,rfl⟩:=Option.map_eq_some_iff.1 hc;simp only[bC,Option.map_eq_some_iff] at he;obtain⟨cs,np,e⟩:=he;cases e;exact acq ee h1 h2 h3 BZ np hf hr
    .cases hc
   .cases hc
 |buildSlice t len parts=>
   rw[ee] at hc;simp only[dn] at hc;split at hc
   .rename_i h0;split at hc
    .rename_i e h1;obtain⟨i,hi,rfl⟩:=Option.map_eq_some_iff.1 hc;simp only[bC,Option.some.injEq,Prod.mk.injEq] at he;obtain⟨rfl,rfl⟩:=he;obtain⟨rfl,hp⟩:=h0;exact adf ee (by simpa using hp) h1 hi hr
    .cases hc
   split at hc
   .rename_i e h1;split at hc
    .rename_i i z ps h2 h3 h4;split at hc
     .rename_i h5;cases hc;simp only[bC,Option.map_eq_some_iff] at he;obtain⟨cs,np,e⟩:=he;cases e;exact adU ee h1 h2 h3 h4 h5.1 h5.2 np hf hr
     .cases hc
    .cases hc
   .cases hc
 |load t x=>
   rw[ee] at hc;simp only[dn] at hc;split at hc
   .rename_i x' n h1 h2;cases hc;simp only[bC,Option.map_eq_some_iff] at he;obtain⟨v',hv,e⟩:=he;cases e;exact afG ee h1 h2 hv hf hr
   .cases hc
 |store t x y=>
   rw[ee] at hc;simp only[dn] at hc;split at hc
   .rename_i x' y' i h1 h2 h3;cases hc;simp only[bC] at he;split at he
    .rename_i id off vs h4 h5;split at he
     .rename_i cs h6;split at he
      .rename_i h7;cases he;exact agC ee h1 h2 h3 h4 h5 h6 h7.1 h7.2 hf hr
      .cases he
     .cases he
    .cases he
   .cases hc
 |nilCheck x=>
   rw[ee] at hc;simp only[dn,Option.map_eq_some_iff] at hc;obtain⟨x',hx,rfl⟩:=hc;simp only[bC] at he;split at he
   .rename_i hn;cases he;exact abS ee hx hn hf hr
   .cases he
 |binOp op t x y ty=>
   rw[ee] at hc;simp only[dn,Qj] at hc;split at hc
   .rename_i x' y' h1 h2
    have aay:∀k,vu op k x' y' y=some C3->((k=0/\∃e,P.underlying t=some (.pointer e))\/(k=1/\∃ms,P.underlying t=some (.interface ms))\/(k=2/\∃ps rs v,P.underlying t=some (.func ps rs v))\/(k=3/\∃kk e,P.underlying t=some (.map kk e)))->
     fu P (execOp a.eval o) φ h w v h':=λk hk ht=>by
     unfold vu at hk;split at hk
     .rename_i MM
      have key:∀neg,o.op=.binOp (if neg then .neq else .eql) t x y ty->C3=.peq k neg x' y'->fu P (execOp a.eval o) φ h w v h':=λneg ho ha=>by
       subst ha;simp only[bC] at he;split at he
       .rename_i p h4 h5;cases he;exact adO ho h1 h2 MM ht h4 h5 hf hr
       .cases he
      split at hk
      .cases hk;exact key false ee rfl
      .cases hk;exact key true ee rfl
      .cases hk
     .cases hk
    split at hc
    .rename_i k hk;cases hc;simp only[bC,Option.map_eq_some_iff] at he;obtain⟨v',hv,e⟩:=he;cases e;exact Up ee h1 h2 hv hf hr
    .rename_i hk;cases hc;simp only[bC,Option.map_eq_some_iff] at he;obtain⟨v',hv,e⟩:=he;cases e;exact Up ee h1 h2 hv hf hr
    .rename_i ht
     have key:∀neg,o.op=.binOp (if neg then .neq else .eql) t x y ty->C3=.beq neg x' y'->fu P (execOp a.eval o) φ h w v h':=λneg ho ha=>by
      subst ha;simp only[bC] at he;split at he
      .rename_i b1 b2 h4 h5;cases he;exact ady ho h1 h2 ht h4 h5 hf hr
      .cases he
     split at hc
     .cases hc;exact key false ee rfl
     .cases hc;exact key true ee rfl
     .cases hc
    .rename_i fs ht;split at hc
     .rename_i ks hks;split at hc
      .rename_i hg
       have key:∀neg,o.op=.binOp (if neg then .neq else .eql) t x y ty->C3=.ceq ks neg x' y'->fu P (execOp a.eval o) φ h w v h':=λneg ho ha=>by
        subst ha;simp only[bC] at he;split at he
        .rename_i l m h4 h5;obtain⟨r,Mt,e⟩:=Option.map_eq_some_iff.1 he;cases e;exact adB ho h1 h2 ht hks hg.1 hg.2 h4 h5 Mt hf hr
        .cases he
       split at hc
       .cases hc;exact key false ee rfl
       .cases hc;exact key true ee rfl
       .cases hc
      .cases hc
     .cases hc
    .rename_i e ht;exact aay 0 hc (.inl ⟨rfl,e,ht⟩)
    .rename_i e ht;exact aay 1 hc (.inr (.inl ⟨rfl,e,ht⟩))
    .rename_i p1 p2 p3 ht;exact aay 2 hc (.inr (.inr (.inl ⟨rfl,p1,p2,p3,ht⟩)))
    .rename_i p1 p2 ht;exact aay 3 hc (.inr (.inr (.inr ⟨rfl,p1,p2,ht⟩)))
    .rename_i e ht;split at hc
     .cases hc;simp only[bC] at he;exact Qr (neg:=false) ee h1 ht he hf hr
     .cases hc;simp only[bC] at he;exact Qr (neg:=true) ee h1 ht he hf hr
     .cases hc
    .cases hc
   .cases hc
 |unOp op t x=>
   rw[ee] at hc;simp only[dn,Option.map_eq_some_iff] at hc;obtain⟨x',hx,rfl⟩:=hc
   have key:∀v',(match (generalizing:=false) op,x'.ev fr with
    |.not,.bool b=>some (AV.bool (!b))
    |.neg,.int k n=>some (.int k (k.wrap (0-n)))
    |.xor,.int k n=>some (.int k (GQ .xor k (if k.signed then -1 else k.max) n))
    |_,_=>none)=some v'->v=v'->h'=h->fu P (execOp a.eval o) φ h w v h':=λv' hv e1 e2=>by
    subst e1 e2;exact agX ee hx hv hf hr
   simp only[bC] at he;split at he
   .rename_i b hb;cases he;exact key _ (by rw[hb]) rfl rfl
   .rename_i k n hb;cases he;exact key _ (by rw[hb]) rfl rfl
   .rename_i k n hb;cases he;exact key _ (by rw[hb]) rfl rfl
   .cases he
 |convert s d x=>
   rw[ee] at hc;simp only[dn,KJ] at hc;split at hc
   .rename_i x' k0 k h1 h2 h3;cases hc;simp only[bC] at he;split at he
    .rename_i k' n h4;cases he;exact abM ee h1 h2 h3 h4 hf hr
    .cases he
   .rename_i x' k0 h1 h2 h3;cases hc;simp only[bC] at he;split at he
    .rename_i k' n h4;split at he
     .rename_i h5;cases he;exact Z7 ee h1 h2 h3 h4 h5.1 h5.2 hf hr
     .cases he
    .cases he
   .rename_i x' h1 h2 h3;cases hc;simp only[bC] at he;split at he
    .rename_i s h4;cases he;exact Z0 ee h1 h2 h3 h4 hf hr
    .cases he
   .rename_i x' e h1 h2 h3;split at hc
    .rename_i h5;cases hc;simp only[bC] at he;split at he
     .rename_i s h4;cases he;exact ZA ee h1 h2 h3 h5 h4 hf hr
     .cases he
    .cases hc
   .rename_i x' e h1 h2 h3;split at hc
    .rename_i h5;cases hc;simp only[bC] at he;split at he
     .cases he
     .rename_i n cs h4 h6;obtain⟨s,h7,e⟩:=Option.map_eq_some_iff.1 he;cases e;exact Pc ee h1 h2 h3 h5 h4 h6 h7 hf hr
     .cases he
    .cases hc
   .cases hc
 |makeInterface t x=>
   rw[ee] at hc;simp only[dn] at hc;split at hc
   .cases hc
   .rename_i x' d h1 h2 h3;cases hc;simp only[bC,Option.some.injEq,Prod.mk.injEq] at he;obtain⟨rfl,rfl⟩:=he;exact abK ee h2 h3 (λms e=>h1 ms e) hf hr
   .cases hc
 |makeFunc f first aN=>
   rw[ee] at hc
   cases f with
   |func f=>
     simp only[dn] at hc;split at hc
     .rename_i h1;obtain⟨cs,h2,rfl⟩:=Option.map_eq_some_iff.1 hc;simp only[bC,Option.some.injEq,Prod.mk.injEq] at he;obtain⟨rfl,rfl⟩:=he;exact ab2 ee h1 h2 hf hr
     .cases hc
   |_=>simp[dn] at hc
 |makeMap t r=>
   rw[ee] at hc
   cases r with
   |none=>simp only[dn,Option.some.injEq] at hc;subst hc;simp only[bC,Option.some.injEq,Prod.mk.injEq] at he;obtain⟨rfl,rfl⟩:=he;exact adt ee hr
   |some r=>simp[dn] at hc
 |makeSlice t l c=>
   rw[ee] at hc;simp only[dn] at hc;split at hc
   .rename_i e l' c' h1 h2 h3;split at hc
    .rename_i i z h4 h5;split at hc
     .rename_i h6;cases hc;simp only[bC] at he;split at he
      .rename_i m n h7 h8;split at he
       .rename_i h9;cases he;exact acT ee h2 h3 h1 h4 h5 h6 h7 h8 h9 hf hr
       .cases he
      .cases he
     .cases hc
    .cases hc
   .cases hc
 |slice t x lo hi mx=>
   rw[ee] at hc;simp only[dn] at hc;split at hc
   .rename_i x' TA iB h1 h2 h3 h4 h5;cases hc
    have Jh:mx=none:=by
     cases mx with
     |none=>rfl
     |some m=>simp[B6] at h5
    subst Jh;simp only[bC] at he;split at he
    .rename_i s h6;obtain⟨⟨l,u⟩,h7,e⟩:=Option.map_eq_some_iff.1 he;cases e;exact abR ee h2 h3 h4 h1 h6 h7 hf hr
    .cases he
   .rename_i e x' TA iB mx' h1 h2 h3 h4 h5;obtain⟨i,iB,rfl⟩:=Option.map_eq_some_iff.1 hc;simp only[bC] at he;exact acm ee h2 h3 h4 h5 h1 iB he hf hr
   .cases hc
 |fieldAddr s x k=>
   rw[ee] at hc;simp only[dn] at hc;split at hc
   .rename_i fs x' h1 h2;split at hc
    .rename_i fd h3;split at hc
     .rename_i i h4;split at hc
      .rename_i h5;cases hc;simp only[bC] at he
       have key:∀v',(match x'.ev fr with|.ptr id o=>some (AV.ptr id (o+fd.offset))|.ip cs=>some (.ip (cs.drop fd.offset))|_=>none)=some v'->v=v'->h'=h->fu P (execOp a.eval o) φ h w v h':=λv' hv e1 e2=>by subst e1 e2;exact ads ee h2 h1 h3 h4 h5 hv hf hr
       split at he
       .rename_i id oo hb;cases he;exact key _ (by rw[hb]) rfl rfl
       .rename_i cs hb;cases he;exact key _ (by rw[hb]) rfl rfl
       .cases he
      .cases hc
     .cases hc
    .cases hc
   .cases hc
 |field t x k=>
   rw[ee] at hc;simp only[dn] at hc;split at hc
   .rename_i fs x' h1 h2;split at hc
    .rename_i fd h3;obtain⟨n,h4,rfl⟩:=Option.map_eq_some_iff.1 hc;simp only[bC] at he;split at he
     .rename_i cs h5
      cases n with
      |none=>simp only[Option.map_eq_some_iff] at he;obtain⟨v',hv,e⟩:=he;cases e;exact Vm ee h2 h1 h3 h4 h5 hv hf hr
      |some n=>
        dsimp only at he;split at he
        .rename_i h6;cases he;exact Vm ee h2 h1 h3 h4 h5 (by dsimp only;rw[if_pos h6]) hf hr
        .cases he
     .cases he
    .cases hc
   .cases hc
 |indexAddr t x i=>
   rw[ee] at hc;simp only[dn] at hc;split at hc
   .rename_i e x' i' h1 h2 h3;obtain⟨inf,h4,rfl⟩:=Option.map_eq_some_iff.1 hc;simp only[bC] at he;exact acy ee h2 h3 h1 h4 he hf hr
   .cases hc
 |index t x i=>
   rw[ee] at hc;simp only[dn] at hc;split at hc
   .rename_i x' i' h1 h2 h3;cases hc;simp only[bC] at he;split at he
    .rename_i s k n h4 h5;split at he
     .rename_i h0;obtain⟨b,hb,e⟩:=Option.map_eq_some_iff.1 he;cases e;exact acj ee h2 h3 h1 h4 h5 h0 hb hf hr
     .cases he
    .cases he
   .cases hc
 |lookup t m k ok=>
   rw[ee] at hc;simp only[dn] at hc;split at hc
   .rename_i kt e m' k' h1 h2 h3;split at hc
    .rename_i q z h4 h5;cases hc;simp only[bC] at he;split at he
     .rename_i es h6;obtain⟨r,h7,e1⟩:=Option.map_eq_some_iff.1 he
      have hint:(∃q0 n,k'.ev fr=.int q0 n)\/es=[]:=by
       cases es with
       |nil=>exact .inr rfl
       |cons p l=>refine .inl ?_;obtain⟨k1,v1⟩:=p;cases hkv:k'.ev fr<;>rw[hkv] at h7<;>cases k1<;>simp[oj,ij] at h7;exact⟨_,_,rfl⟩
      have TB:(m'.ev fr=.jV/\es=[])\/∃id,m'.ev fr=.map id/\h.hP id=some es:=by
       split at h6
       .rename_i h8;cases h6;exact .inl ⟨h8,rfl⟩
       .rename_i id h8;exact .inr ⟨id,h8,h6⟩
       .cases h6
      have:=adY (ok:=ok) ee h2 h3 h1 h4 h5 TB h7 hint hf hr;cases r<;>cases e1<;>exact this
     .cases he
    .cases hc
   .cases hc
 |mapUpdate t m k v0=>
   rw[ee] at hc;simp only[dn] at hc;split at hc
   .rename_i kt e m' k' v' h1 h2 h3 h4;split at hc
    .rename_i q h5;cases hc;simp only[bC] at he;split at he
     .rename_i id h6;split at he
      .rename_i es h7;obtain⟨um,h8,e1⟩:=Option.map_eq_some_iff.1 he;cases e1;exact acI ee h2 h3 h4 h1 h5 h6 h7 h8 hf hr
      .cases he
     .cases he
    .cases hc
   .cases hc
 |extract x i=>
   rw[ee] at hc;simp only[dn,Option.map_eq_some_iff] at hc;obtain⟨x',hx,rfl⟩:=hc;simp only[bC] at he;split at he
   .rename_i vs h1;obtain⟨v',hv,e⟩:=Option.map_eq_some_iff.1 he;cases e;exact ace ee hx h1 hv hf hr
   .cases he
 |call c=>
   rw[ee] at hc;obtain⟨callee,args,Jt⟩:=c
   cases callee with
   |value f=>simp[dn] at hc
   |invoke r m=>simp[dn] at hc
   |builtin b=>
     obtain⟨args⟩:=args;obtain⟨Jt⟩:=Jt;simp only[dn] at hc;split at hc
     .rename_i x t;split at hc
      .rename_i ht;obtain⟨x',hx,rfl⟩:=Option.map_eq_some_iff.1 hc;simp only[bC] at he;split at he
       .rename_i s hs;cases he;exact ZX ee hx ht hs hf hr
       .cases he
      .rename_i ht;obtain⟨x',hx,rfl⟩:=Option.map_eq_some_iff.1 hc;simp only[bC] at he;exact ZT ee hx ht he hf hr
      .rename_i ht;obtain⟨x',hx,rfl⟩:=Option.map_eq_some_iff.1 hc;simp only[bC] at he;exact ZF ee hx ht he hf hr
      .cases hc
     .rename_i x t;split at hc
      .rename_i e x' h1 h2;split at hc
       .rename_i i z h3 h4;split at hc
        .rename_i h5;cases hc;simp only[bC] at he;exact adI ee h2 h1 h3 h4 h5 he hf hr
        .cases hc
       .cases hc
      .cases hc
     .rename_i x y;split at hc
      .rename_i x' y' h1 h2;cases hc;simp only[bC] at he;split at he
       .rename_i h3 h4;cases he;exact agc ee h1 h2 h3 h4 hf hr
       .cases he
      .cases hc
     .rename_i x y;split at hc
      .rename_i x' y' h1 h2;cases hc;simp only[bC] at he;split at he
       .rename_i h3 h4;cases he;exact afm ee h1 h2 h3 h4 hf hr
       .cases he
      .cases hc
     .rename_i x y t u;split at hc
      .cases hc
      .rename_i e du x' y' hni h1 h2 h3 h4;split at hc
       .rename_i i z h5 h6;split at hc
        .rename_i h7;cases hc;simp only[bC] at he;split at he
         .cases he
         .rename_i n news h8;exact abV ee h3 h4 h1 h2 (λk e=>hni k e) h5 h6 h7.1 h7.2 h8 he hf hr
        .cases hc
       .cases hc
      .cases hc
     .cases hc
 |_=>rw[ee] at hc;simp[dn] at hc
theorem ag2{o:Oper}{C3:ye}{v:AV}{h':af}(hc:uZ P o.op=some C3)(he:bC fr h C3=some (v,h'))(hf:FR φ h w fr a.tmps)(hr:HR φ h w):fu P (execOp a.eval o) φ h w v h':=by
 unfold uZ at hc;split at hc
 .rename_i b hb;cases hc;exact acM hb he hf hr
 .cases hc;simp[bC] at he
theorem ab8{ops:Array Oper}{o:Oper}{C3:ye}{v:AV}{h':af}(hc:uZ P o.op=some C3\/ER P ops o=some C3)(he:bC fr h C3=some (v,h'))(hf:FR φ h w fr a.tmps)(hr:HR φ h w):fu P (execOp a.eval o) φ h w v h':=by
 rcases hc with hc|hc
 .exact ag2 hc he hf hr
 unfold ER at hc;split at hc
 .rename_i t len parts ee;split at hc
  .rename_i e h1;split at hc
   .rename_i i z ps h2 h3 h4;split at hc
    .rename_i h5;cases hc;simp only[bC] at he;split at he
     .rename_i cs np;split at he
      .rename_i hb;cases he;obtain⟨b,hb⟩:=Option.isSome_iff_exists.1 hb;exact abY ee h1 h2 h3 h4 h5.1 h5.2.1 h5.2.2.1 np hb hf hr
      .cases he
     .cases he
    .cases hc
   .cases hc
  .cases hc
 .rename_i s d x ee;split at hc
  .rename_i u e h1 h2 h3;split at hc
   .rename_i h4;split at hc
    .cases hc;simp only[bC] at he;split at he
     .rename_i cs np;obtain⟨b,hb,e⟩:=Option.map_eq_some_iff.1 he;cases e;exact aak ee h1 h2 h3 h4 np hb hf hr
     .cases he
    .cases hc
   .cases hc
  .cases hc
 .cases hc
end
end
section
variable {X:World->Prop}
def cw.strip:cw->cw
 |.seq a b=>.seq a.strip b.strip
 |.cond c a b=>.cond c a.strip b.strip
 |.block id a=>.block id a.strip
 |.loop _ a=>.loop [] a.strip
 |.exit id _=>.exit id []
 |.ret _=>.ret []
 |c=>c
def lf(φ:eh)(h:af)(w:World)(v:AV)(h':af):Ending->World->Prop:=λe w'=>∃φ' cv,e=.returned cv/\eZ φ' h' w' v cv/\HR φ' h' w'/\Ext φ h w φ' h' w'
def lu(φ:eh)(h:af)(w:World)(args:List AV)(aU:Array Value):Prop:=aU.size=args.length/\∀j (hj:j<args.length),eZ φ h w args[j] (aU.getD j default)
def qy(P:Program)(X:World->Prop)(C:Nat->List AV->af->Option (AV×af)):Prop:=
 ∀f args h v h',C f args h=some (v,h')->∀φ w aU,HR φ h w->je P X φ h w->lu φ h w args aU->
   ((callFunc f aU).run P w=.ok (.enter f aU) w/\Calls P f aU w (lf φ h w v h'))\/
   ∃cv w' φ',(callFunc f aU).run P w=.ok (.value cv) w'/\eZ φ' h' w' v cv/\HR φ' h' w'/\Ext φ h w φ' h' w'
section
variable {P:Program}{C:Nat->List AV->af->Option (AV×af)}
theorem DC{φ:eh}{h:af}{w:World}{fr:List AV}{a:Act}(hf:FR φ h w fr a.tmps){v:AV}{cv:Value}(hv:eZ φ h w v cv)(d:Option Nat):
 FR φ h w (gx fr d v) (a.put d cv).tmps/\(a.put d cv).defers=a.defers:=by
 cases d with
 |none=>exact⟨hf,rfl⟩
 |some d=>exact⟨hf.put hv d,rfl⟩
theorem Um{φ:eh}{h:af}{w:World}{fr:List AV}{a:Act}{xs:Array Operand}{xs':List cX}(hx:pD xs=some xs')(hf:FR φ h w fr a.tmps):lu φ h w (xs'.map (·.ev fr)) (xs.map a.eval):=by
 obtain⟨g1,g2⟩:=P4 hx hf;refine⟨by simpa using g1,λj hj=>?_⟩;have jk:j<xs'.length:=by simpa using hj
 have:=g2 j jk;simpa[List.getD,jk] using this
end
end
section
def oZ(h:af)(id n:Nat):Prop:=(∀cs,h.get id=some (.row cs)->AV.aj cs<=n)/\∀es,h.get id=some (.map es)->∀e∈es,e.1.aK<=n/\e.2.aK<=n
structure CL(h h':af):Prop where
 next:h.next<=h'.next
 wl:h'.wl<=h.wl
 le:∀n,n<=h.next->n<=h'.wl->(∀id,id<n->oZ h id n)->∀id,id<n->oZ h' id n
 md:h'.md<=h.md
 same:∀id,id<h'.md->id<h.next->h'.get id=h.get id
theorem CL.refl(h:af):CL h h:=⟨Nat.le_refl _,Nat.le_refl _,λ_ _ _ k=>k,Nat.le_refl _,λ_ _ _=>rfl⟩
theorem CL.trans{h h1 h2:af}(a:CL h h1)(b:CL h1 h2):CL h h2:=
 ⟨Nat.le_trans a.next b.next,Nat.le_trans b.wl a.wl,λn hn hw k=>b.le n (Nat.le_trans hn a.next) hw (a.le n hn (Nat.le_trans hw b.wl) k),Nat.le_trans b.md a.md,
  λid h1 h2=>(b.same id h1 (Nat.lt_of_lt_of_le h2 a.next)).trans (a.same id (Nat.lt_of_lt_of_le h1 b.md) h2)⟩
theorem af.wj(h:af)(id:Nat)(o:aS):(h.set id o).md<=h.md:=by
 unfold af.set;split
 .exact Nat.min_le_left _ _
 .exact Nat.le_refl _
@[simp] theorem af.vD(h:af)(id:Nat)(v:AV):(h.mark id v).md=h.md:=by unfold af.mark;split<;>rfl
theorem af.sr(h:af)(id:Nat)(o:aS)(i:Nat)(hi:i<(h.set id o).md):(h.set id o).get i=h.get i:=by
 by_cases e:id=i
 .subst e;unfold af.set at hi|-;by_cases de:id<h.next
  .rw[if_pos de] at hi;dsimp only at hi;omega
  .rw[if_neg de]
 .exact af.get_set_other e
theorem CL.alloc(h:af)(o:aS):CL h (h.alloc o):=
 ⟨by simp,Nat.le_refl _,λn hn _ k id bZ=>by have:=k id bZ;unfold oZ at this|-;rw[af.dm (by omega)];exact this,Nat.le_refl _,λid _ h2=>af.dm h2⟩
theorem CL.kill(h:af)(id:Nat):CL h (h.set id .dead):=
 ⟨by simp,by simp,λn hn _ k i hi=>by
  have:=k i hi;by_cases e:id=i
  .subst e;unfold oZ
   cases hg:h.get id with
   |none=>
     have:(h.set id .dead).get id=none:=by
      unfold af.set;split
      .rename_i de;unfold af.get at hg|-;simp only[de,if_true] at hg|-;rw[List.getElem?_eq_none_iff] at hg;exact List.getElem?_eq_none (by simpa using hg)
      .exact hg
     rw[this];exact⟨λ_ e=>(by cases e),λ_ e=>(by cases e)⟩
   |some o=>rw[af.get_set_same hg];exact⟨λ_ e=>(by cases e),λ_ e=>(by cases e)⟩
  .unfold oZ at this|-;rw[af.get_set_other e];exact this,af.wj _ _ _,λi h1 _=>af.sr h id .dead i h1⟩
theorem Io(h:af)(id:Nat)(v:AV):(h.mark id v).wl<=h.wl/\(id+1<v.aK->(h.mark id v).wl<=id):=by
 unfold af.mark;split
 .dsimp only;exact⟨by omega,λ_=>by omega⟩
 .rename_i hn;exact⟨Nat.le_refl _,λe=>absurd e hn⟩
theorem zI(a b:List AV):AV.aj (a++b)=max (AV.aj a) (AV.aj b):=by
 induction a with
 |nil=>simp[AV.aj]
 |cons x r ih=>simp only[List.cons_append,AV.aj,ih];omega
theorem BA(vs:List AV):∀(cs:List AV) (k n:Nat),AV.aj cs<=n->AV.aj vs<=n->AV.aj (putAt cs k vs)<=n:=by
 induction vs with
 |nil=>intro cs k n h _;exact h
 |cons v r ih=>
   intro cs k n h h2;simp only[AV.aj] at h2;rw[putAt];refine ih _ _ _ (AV.j5 λx hx=>?_) (by omega);rcases List.mem_or_eq_of_mem_set hx with hx|rfl
   .have:=AV.cM hx;omega
   .omega
theorem CL.write{h:af}{id:Nat}{cs:List AV}(hg:h.get id=some (.row cs))(vs:List AV)(k:Nat)(v:AV)(hv:AV.aj vs<=v.aK):CL h ((h.set id (.row (putAt cs k vs))).mark id v):=by
 obtain⟨w1,w2⟩:=Io (h.set id (.row (putAt cs k vs))) id v;refine⟨by simp,by simpa using w1,λn hn hw q i hi=>?_,by rw[af.vD];exact af.wj _ _ _,λi h1 _=>by rw[af.lh];rw[af.vD] at h1;exact af.sr _ _ _ i h1⟩;have:=q i hi;unfold oZ at this|-;rw[af.lh];by_cases e:id=i
 .subst e;rw[af.get_set_same hg]
  have hle:v.aK<=n:=by
   by_cases de:id+1<v.aK
   .have:=w2 de;omega
   .omega
  exact⟨λiA e=>(by cases e;exact BA vs cs k n (this.1 cs hg) (by omega)),λ_ e=>(by cases e)⟩
 .rw[af.get_set_other e];exact this
theorem su{v:AV}{cs:List AV}(h:v.cells? =some cs):AV.aj cs=v.aK:=by cases v<;>simp[AV.cells?] at h<;>subst h<;>simp[AV.aK,AV.aj]
theorem zC{h:af}{id:Nat}{cs:List AV}(he:h.row id=some cs):h.get id=some (.row cs):=by
 unfold af.row at he;split at he
 .rename_i g;cases he;exact g
 .cases he
theorem Q0{h:af}{id:Nat}{es:List (AV×AV)}(he:h.hP id=some es):h.get id=some (.map es):=by
 unfold af.hP at he;split at he
 .rename_i g;cases he;exact g
 .cases he
theorem Hj{kd:Nat}{k v:AV}{n:Nat}(hk:k.aK<=n)(hv:v.aK<=n):∀(es um:List (AV×AV)),va kd k v es=some um->(∀e∈es,e.1.aK<=n/\e.2.aK<=n)->∀e∈um,e.1.aK<=n/\e.2.aK<=n
 |[],um,he,_=>by simp only[va,Option.some.injEq] at he;subst he;intro e h;simp at h;subst h;exact⟨hk,hv⟩
 |(k',v')::r,um,he,TB=>by
   simp only[va] at he;split at he
   .cases he;intro e h
    cases h with
    |head=>exact⟨hk,hv⟩
    |tail _ h=>exact TB e (List.mem_cons_of_mem _ h)
   .obtain⟨r',Mt,rfl⟩:=Option.map_eq_some_iff.1 he;intro e h
    cases h with
    |head=>exact TB _ (by simp)
    |tail _ h=>exact Hj hk hv r r' Mt (λe h=>TB e (List.mem_cons_of_mem _ h)) e h
   .cases he
theorem CL.Yd{h:af}{id kd:Nat}{es um:List (AV×AV)}{k v:AV}(hg:h.get id=some (.map es))(hm:va kd k v es=some um):CL h (((h.set id (.map um)).mark id v).mark id k):=by
 obtain⟨w1,w2⟩:=Io (h.set id (.map um)) id v;obtain⟨w3,w4⟩:=Io ((h.set id (.map um)).mark id v) id k;refine⟨by simp,by simp at w1;omega,λn hn hw q i hi=>?_,by rw[af.vD,af.vD];exact af.wj _ _ _,λi h1 _=>by rw[af.lh,af.lh];rw[af.vD,af.vD] at h1;exact af.sr _ _ _ i h1⟩;have:=q i hi;unfold oZ at this|-;rw[af.lh,af.lh];by_cases e:id=i
 .subst e;rw[af.get_set_same hg]
  have hv:v.aK<=n:=by
   by_cases de:id+1<v.aK
   .have:=w2 de;omega
   .omega
  have hk:k.aK<=n:=by
   by_cases de:id+1<k.aK
   .have:=w4 de;omega
   .omega
  exact⟨λ_ e=>(by cases e),λes2 e=>by cases e;exact Hj hk hv es um hm (this.2 es hg)⟩
 .rw[af.get_set_other e];exact this
theorem qU(z:List AV)(n:Nat):AV.aj (List.replicate n z).flatten<=AV.aj z:=by
 induction n with
 |zero=>simp[AV.aj]
 |succ n ih=>rw[List.replicate_succ,List.flatten_cons,zI];omega
theorem agn{fr:List AV}{h h':af}{C3:ye}{v:AV}(he:bC fr h C3=some (v,h')):CL h h':=by
 cases C3<;>simp only[bC] at he
 case st n x y=>
  split at he
  .rename_i id off vs h1 h2;split at he
   .rename_i cs h3;split at he
    .cases he;exact .write (zC h3) vs off _ (by rw[su h2];exact Nat.le_refl _)
    .cases he
   .cases he
  .cases he
 case Yd kd m k y=>
  split at he
  .split at he
   .rename_i es h1;obtain⟨um,h2,e⟩:=Option.map_eq_some_iff.1 he;cases e;exact .Yd (Q0 h1) h2
   .cases he
  .cases he
 case app sz bytes x y=>
  split at he
  .cases he
  .split at he
   .split at he
    .cases he;exact .refl _
    .split at he
     .cases he;exact .alloc _ _
     .cases he
   .split at he
    .rename_i cs h1;split at he
     .split at he
      .cases he;exact .refl _
      .split at he
       .cases he;exact .write (zC h1) _ _ _ (by simp[AV.aK])
       .split at he
        .cases he;exact (CL.kill _ _).trans (.alloc _ _)
        .cases he
     .cases he
    .cases he
   .cases he
 case clr z x=>
  split at he
  .cases he;exact .refl _
  .split at he
   .rename_i cs h1;split at he
    .cases he;exact .write (zC h1) _ _ _ (by simp only[AV.aK];exact qU _ _)
    .cases he
   .cases he
  .cases he
 all_goals
  repeat' split at he
  all_goals first
   |(cases he;done)
   |(cases he;exact .refl _)
   |(cases he;exact .alloc _ _)
   |(obtain⟨_,_,e⟩:=Option.map_eq_some_iff.1 he;cases e;exact .refl _)
   |(obtain⟨_,_,e⟩:=Option.map_eq_some_iff.1 he;cases e;exact .alloc _ _)
   |(obtain⟨p,_,e⟩:=Option.map_eq_some_iff.1 he;(repeat' split at e)<;>cases e<;>exact .refl _)
end
section
def af.alike(h h':af):Prop:=h'.next=h.next/\h'.gS=h.gS
theorem af.alike_refl(h:af):h.alike h:=⟨rfl,rfl⟩
theorem af.alike.symm{h h':af}(a:h.alike h'):h'.alike h:=⟨a.1.symm,a.2.symm⟩
theorem af.alike.trans{h h1 h2:af}(a:h.alike h1)(b:h1.alike h2):h.alike h2:=⟨b.1.trans a.1,b.2.trans a.2⟩
theorem af.alike.get{h h':af}(a:h.alike h')(id:Nat):h'.get id=h.get id:=by unfold af.get;rw[a.1,a.2]
theorem af.alike.alloc{h h':af}(a:h.alike h')(o:aS):(h.alloc o).alike (h'.alloc o):=by unfold af.alike af.alloc;dsimp only;rw[a.1,a.2];exact⟨rfl,rfl⟩
theorem HR.alike{φ:eh}{h h':af}{w:World}(hr:HR φ h w)(a:h.alike h'):HR φ h' w/\Ext φ h w φ h' w:=by obtain⟨n,o,x,y⟩:=h';obtain⟨a1,a2⟩:=a;dsimp only at a1 a2;subst a1 a2;exact hr.w5 x y
section
variable {fr dT:List AV}{h h':af}
theorem NM{l:List cX}(hx:∀x∈l,x.ev dT=x.ev fr):l.map (·.ev dT)=l.map (·.ev fr):=List.map_congr_left hx
theorem rA{l:Option cX}(hx:∀x∈l.toList,x.ev dT=x.ev fr):l.map (·.ev dT)=l.map (·.ev fr):=by
 cases l with
 |none=>rfl
 |some x=>simp[hx x (by simp)]
theorem OA{o:ye}(hx:∀x∈o.pD,x.ev dT=x.ev fr):bC dT h o=bC fr h o:=by
 cases o<;>simp only[ye.pD] at hx
 case S2 z ps=>simp only[bC];rw[show (ps.map λp=>(p.1,p.2.1,p.2.2.ev dT))=ps.map λp=>(p.1,p.2.1,p.2.2.ev fr) from List.map_congr_left λp hp=>by rw[hx _ (List.mem_map.2 ⟨p,hp,rfl⟩)]]
 case A3 sz n z ps=>simp only[bC];rw[show (ps.map λp=>(p.1*sz,sz,p.2.ev dT))=ps.map λp=>(p.1*sz,sz,p.2.ev fr) from List.map_congr_left λp hp=>by rw[hx _ (List.mem_map.2 ⟨p,hp,rfl⟩)]]
 case fsl n z ps=>simp only[bC];rw[show (ps.map λp=>(p.1*1,1,p.2.ev dT))=ps.map λp=>(p.1*1,1,p.2.ev fr) from List.map_congr_left λp hp=>by rw[hx _ (List.mem_map.2 ⟨p,hp,rfl⟩)]]
 case TL f aN=>simp only[bC];rw[NM hx]
 case mkm=>rfl
 case bs0=>rfl
 case die=>rfl
 case WN x lo hi=>
  have h1:=hx x (by simp);have h2:=rA (l:=lo) λy hy=>hx y (by simp[Option.mem_toList.1 hy])
  have h3:=rA (l:=hi) λy hy=>hx y (by simp[Option.mem_toList.1 hy])
  simp only[bC];rw[h1,h2,h3]
 case slv sz x lo hi m3=>
  have h1:=hx x (by simp);have h2:=rA (l:=lo) λy hy=>hx y (by simp[Option.mem_toList.1 hy])
  have h3:=rA (l:=hi) λy hy=>hx y (by simp[Option.mem_toList.1 hy])
  have h4:=rA (l:=m3) λy hy=>hx y (by simp[Option.mem_toList.1 hy])
  simp only[bC];rw[h1,h2,h3,h4]
 case pick c x y=>simp only[bC];rw[hx c (by simp),hx x (by simp),hx y (by simp)]
 case Yd kd m k v=>simp only[bC];rw[hx m (by simp),hx k (by simp),hx v (by simp)]
 all_goals first
  |(rename_i x;simp only[bC];rw[hx x (by simp)];done)
  |(rename_i x _;simp only[bC];rw[hx x (by simp)];done)
  |(rename_i x y;simp only[bC];rw[hx x (by simp),hx y (by simp)];done)
  |skip
theorem XC{o:ye}(hs:o.still=true){v:AV}{h1:af}(he:bC fr h o=some (v,h1)):h1=h/\∀h2,bC fr h2 o=some (v,h2):=by
 cases o<;>simp only[ye.still,Bool.false_eq_true] at hs<;>simp only[bC] at he|-
 case mx x y=>
  split at he
  .rename_i k a k' b e1 e2;simp only[Option.some.injEq,Prod.mk.injEq] at he;obtain⟨rfl,rfl⟩:=he;exact⟨rfl,λ_=>rfl⟩
  .cases he
 case mn x y=>
  split at he
  .rename_i k a k' b e1 e2;simp only[Option.some.injEq,Prod.mk.injEq] at he;obtain⟨rfl,rfl⟩:=he;exact⟨rfl,λ_=>rfl⟩
  .cases he
 all_goals
  repeat' split at he
  all_goals first
   |(cases he;done)
   |(simp only[Option.some.injEq,Prod.mk.injEq] at he;obtain⟨rfl,rfl⟩:=he;exact⟨rfl,λh2=>by simp_all⟩)
   |(obtain⟨p,hp,e⟩:=Option.map_eq_some_iff.1 he;simp only[Prod.mk.injEq] at e;obtain⟨e1,rfl⟩:=e;exact⟨rfl,λh2=>by simp_all⟩)
   |skip
theorem zG{x:cX}(hx:∀t∈x.tmps,dT.getD t .undef=fr.getD t .undef):x.ev dT=x.ev fr:=by
 cases x with
 |const v=>rfl
 |tmp t=>exact hx t (by simp[cX.tmps])
theorem zF{l:List AV}{t:Nat}{v:AV}(h:l.getD t .undef=v)(hv:v≠.undef):l[t]? =some v:=by
 rw[List.getD_eq_getElem?_getD] at h
 cases hx:l[t]? with
 |none=>rw[hx] at h;exact absurd h.symm hv
 |some x=>rw[hx] at h;simpa using h
theorem vh{g:Option (Nat×Bool)}(hx:∀t b,g=some (t,b)->dT.getD t .undef=fr.getD t .undef){b:Bool}(he:dA fr g=some b):dA dT g=some b:=by
 unfold dA at he|-
 cases g with
 |none=>exact he
 |some p=>
   obtain⟨t,want⟩:=p;have e:=hx t want rfl;dsimp only at he|-;split at he
   .rename_i b' hb;rw[List.getD_eq_getElem?_getD (l:=fr),hb] at e;rw[zF e (by simp)];exact he
   .rename_i hb;rw[List.getD_eq_getElem?_getD (l:=fr),hb] at e;rw[zF e (by simp)];exact he
   .cases he
variable {C:Nat->List AV->af->Option (AV×af)}
theorem tv{s:aO}(hx:∀t∈s.reads,dT.getD t .undef=fr.getD t .undef){x7:List AV}(he:cJ C s fr h=some (x7,h')):
 ∃v,x7=gx fr s.dst v/\cJ C s dT h=some (gx dT s.dst v,h'):=by
 have FY:∀x∈s.op.pD,x.ev dT=x.ev fr:=λx hxm=>zG λt ht=>hx t (List.mem_append_right _ (List.mem_flatMap.2 ⟨x,hxm,ht⟩))
 have hg:∀t b,s.guard=some (t,b)->dT.getD t .undef=fr.getD t .undef:=λt b e=>hx t (List.mem_append_left _ (by rw[e];simp))
 unfold cJ at he|-;split at he
 .cases he
 .rename_i hu;rw[vh hg hu];simp only[Option.some.injEq,Prod.mk.injEq] at he;obtain⟨rfl,rfl⟩:=he;exact⟨_,rfl,rfl⟩
 .rename_i hu;rw[vh hg hu];dsimp only
  cases ee:s.op with
  |op o=>rw[ee] at he FY;dsimp only at he|-;obtain⟨⟨v,h1⟩,hv,e⟩:=Option.map_eq_some_iff.1 he;cases e;rw[OA FY,hv];exact⟨v,rfl,rfl⟩
  |call f args=>rw[ee] at he FY;dsimp only at he|-;obtain⟨⟨v,h1⟩,hv,e⟩:=Option.map_eq_some_iff.1 he;cases e;rw[NM (l:=args) FY,hv];exact⟨v,rfl,rfl⟩
  |lg x args=>
    rw[ee] at he FY;dsimp only at he|-;rw[FY x (by simp[SX.pD])];rw[NM λy hy=>FY y (by simp[SX.pD,hy])];split at he
    .rename_i f aN hf;obtain⟨⟨v,h1⟩,hv,e⟩:=Option.map_eq_some_iff.1 he;cases e;rw[hv];exact⟨v,rfl,rfl⟩
    .cases he
theorem yx{s:aO}(hs:s.uf=false){x7:List AV}(he:cJ C s fr h=some (x7,h')){h2:af}
 (hld:∀n x id off,s.op=.op (.ld n x)->x.ev fr=.ptr id off->h2.get id=h.get id):h'=h/\cJ C s fr h2=some (x7,h2):=by
 unfold cJ at he|-;split at he
 .cases he
 .rename_i hu;simp only[Option.some.injEq,Prod.mk.injEq] at he;obtain⟨rfl,rfl⟩:=he;exact⟨rfl,rfl⟩
 .rename_i hu
  cases ee:s.op with
  |op o=>
    rw[ee] at he;dsimp only at he|-;obtain⟨⟨v,h1⟩,hv,e⟩:=Option.map_eq_some_iff.1 he;simp only[Prod.mk.injEq] at e;obtain⟨rfl,rfl⟩:=e;by_cases hl:∃n x,o=.ld n x
    .obtain⟨n,x,rfl⟩:=hl;simp only[bC] at hv|-;obtain⟨v',Mo,e⟩:=Option.map_eq_some_iff.1 hv;simp only[Prod.mk.injEq] at e;obtain⟨rfl,rfl⟩:=e;refine⟨rfl,?_⟩
     have:QB h2 n (x.ev fr)=QB h n (x.ev fr):=by
      cases hx:x.ev fr with
      |ptr id off=>have:=hld n x id off ee hx;simp only[QB,af.row,this]
      |_=>rfl
     rw[this,Mo];rfl
    .have qS:o.still=true:=by
      unfold aO.uf at hs;rw[ee] at hs;cases o<;>first|exact (hl ⟨_,_,rfl⟩).elim|simpa using hs
     obtain⟨rfl,g⟩:=XC qS hv;refine⟨rfl,?_⟩;rw[g h2];rfl
  |call f args=>unfold aO.uf at hs;rw[ee] at hs;cases hs
  |lg x args=>unfold aO.uf at hs;rw[ee] at hs;cases hs
theorem BM:∀(parts:List (Nat×Nat×AV)) (z cs:List AV) (n:Nat),mC z parts=some cs->AV.aj z<=n->(∀p∈parts,p.2.2.aK<=n)->AV.aj cs<=n
 |[],z,cs,n,he,hz,_=>by simp only[mC,Option.some.injEq] at he;subst he;exact hz
 |(off,sz,v)::r,z,cs,n,he,hz,hp=>by
   simp only[mC] at he;split at he
   .rename_i c hc;split at he
    .refine BM r _ cs n he ?_ λp hpm=>hp p (List.mem_cons_of_mem _ hpm)
     refine BA c _ _ _ hz ?_;rw[su hc];exact hp _ List.mem_cons_self
    .cases he
   .cases he
theorem KZ{s:aO}(hs:s.mN=true){x7:List AV}(he:cJ C s fr h=some (x7,h')):
 ∃cs,∃vf:Nat->AV,h'=h.alloc (.row cs)/\x7=gx fr s.dst (vf h.next)/\((vf=λid=>.ptr id 0)\/∃n sz,vf=λid=>.vec id 0 n sz n)/\
   ∀(dT:List AV) (h2:af),(∀x∈s.op.pD,x.ev dT=x.ev fr)->cJ C s dT h2=some (gx dT s.dst (vf h2.next),h2.alloc (.row cs))/\
     ∀(φ:eh) (w:World) (tm:Array Value),FR φ h2 w dT tm->AV.aj cs<=h2.next:=by
 have Mu:∀(dT:List AV) (h2:af) (φ:eh) (w:World) (tm:Array Value),FR φ h2 w dT tm->∀x:cX,x.low=true->(x.ev dT).aK<=h2.next:=λdT h2 φ w tm hf x hx=>by
  cases x with
  |tmp t=>exact (hf.2 t).CS
  |const v=>
    have:v.aK=0:=by simpa[cX.low] using hx
    show v.aK<=_;omega
 unfold aO.mN at hs;split at hs
 .rename_i x hg ee;unfold cJ at he;rw[hg,ee] at he;simp only[dA,bC] at he;split at he
  .rename_i cs np;simp only[Option.map_some,Option.some.injEq,Prod.mk.injEq] at he;obtain⟨rfl,rfl⟩:=he;refine⟨cs,λid=>.ptr id 0,rfl,rfl,.inl rfl,λdT h2 hx=>?_⟩;have e:=hx x (by rw[ee];simp[SX.pD,ye.pD]);refine⟨?_,λφ w tm hf=>?_⟩
   .unfold cJ;rw[hg,ee];simp only[dA,bC];rw[e,np];rfl
   .rw[su np,<-e];exact Mu dT h2 φ w tm hf x hs
  .cases he
 .rename_i sz n zero parts hg ee;simp only[Bool.and_eq_true,beq_iff_eq,List.all_eq_true] at hs;unfold cJ at he;rw[hg,ee] at he;simp only[dA,bC,Option.map_map] at he;obtain⟨cs,np,e⟩:=Option.map_eq_some_iff.1 he;simp only[Function.comp,Prod.mk.injEq] at e;obtain⟨rfl,rfl⟩:=e;refine⟨cs,λid=>.vec id 0 n sz n,rfl,rfl,.inr ⟨n,sz,rfl⟩,λdT h2 hx=>?_⟩
  have e:(parts.map λp=>(p.1*sz,sz,p.2.ev dT))=parts.map λp=>(p.1*sz,sz,p.2.ev fr):=List.map_congr_left λp hp=>by rw[hx p.2 (by rw[ee];exact List.mem_map.2 ⟨p,hp,rfl⟩)]
  refine⟨?_,λφ w tm hf=>?_⟩
  .unfold cJ;rw[hg,ee];simp only[dA,bC,Option.map_map];rw[e,np];rfl
  .refine BM _ _ _ _ np (by omega) λp hp=>?_
   obtain⟨q,hq,rfl⟩:=List.mem_map.1 hp;rw[<-hx q.2 (by rw[ee];exact List.mem_map.2 ⟨q,hq,rfl⟩)];exact Mu dT h2 φ w tm hf q.2 (hs.2 q hq)
 .cases hs
end
end
section
structure PT(φ:eh)(h:af)(w:World)(φ':eh)(h':af)(w':World):Prop where
 os:w'.os=w.os
 tape:w'.tape=w.tape
 output:w'.output=w.output
 size:w.heap.size<=w'.heap.size
 next:h.next<=h'.next
 B9:∀id,id<h.next->φ' id=φ id
 pr:∀b,Pr φ h w b->Pr φ' h' w' b/\w'.heap[b]? =w.heap[b]?
section
variable {φ φ1 φ2 φ':eh}{h h1 h2 h':af}{w w1 w2 w':World}
theorem Ext.Ek(e:Ext φ h w φ' h' w'):PT φ h w φ' h' w':=⟨e.os,e.tape,e.output,e.size,e.next,e.B9,e.pr⟩
theorem PT.refl(φ:eh)(h:af)(w:World):PT φ h w φ h w:=(Ext.refl φ h w).Ek
theorem PT.trans(a:PT φ h w φ1 h1 w1)(b:PT φ1 h1 w1 φ2 h2 w2):PT φ h w φ2 h2 w2:=
 ⟨b.os.trans a.os,b.tape.trans a.tape,b.output.trans a.output,Nat.le_trans a.size b.size,Nat.le_trans a.next b.next,
  λid bZ=>(b.B9 id (Nat.lt_of_lt_of_le bZ a.next)).trans (a.B9 id bZ),λx hx=>by obtain⟨h1,e1⟩:=a.pr x hx;obtain⟨h2,e2⟩:=b.pr x h1;exact⟨h2,e2.trans e1⟩⟩
theorem RV.Ek{v:AV}{cv:Value}(hv:eZ φ h w v cv)(e:PT φ h w φ' h' w'):eZ φ' h' w' v cv:=hv.mono (λid _ bZ=>⟨e.B9 id bZ,Nat.lt_of_lt_of_le bZ e.next⟩) e.pr
theorem FR.Ek{fr:List AV}{tm:Array Value}(hf:FR φ h w fr tm)(e:PT φ h w φ' h' w'):FR φ' h' w' fr tm:=⟨hf.1,λt=>(hf.2 t).Ek e⟩
theorem HR.Qk(hr:HR φ h w):∀id,id<h.next->oZ h id h.next:=λid _=>by
 refine⟨λcs hg=>?_,λes hg e he=>?_⟩
 .obtain⟨c,el,fz,k1,k2,k3,k4,k5,k6⟩:=hr.rows id cs hg;refine AV.j5 λv hv=>?_
  obtain⟨j,hj,rfl⟩:=List.getElem_of_mem hv;exact (k6 j hj).CS
 .obtain⟨fU,oW,k1,k2,k3⟩:=hr.maps id es hg;obtain⟨j,hj,rfl⟩:=List.getElem_of_mem he;exact⟨(k3 j hj).1.CS,(k3 j hj).2.CS⟩
def MR(φ:eh)(h:af)(w:World)(e:PE)(cs:List AV):Prop:=
 ∃c el fr,w.heap[e.gm]? =some (.cells c el fr)/\e.base+e.room<=c.size/\cs.length<=e.room/\
   (∀o,o<c.size->¬(fr.1<=o/\o<fr.2))/\
   (∀j,j<e.room->(c.getD (e.base+j) default).oneCell'=true)/\
   ∀j (hj:j<cs.length),eZ φ h w cs[j] (c.getD (e.base+j) default)
theorem MR.Ek{e:PE}{cs:List AV}(g:MR φ h w e cs)(x:PT φ h w φ' h' w')(hb:w'.heap[e.gm]? =w.heap[e.gm]?):MR φ' h' w' e cs:=by obtain⟨c,el,fr,h1,h2,h3,h4,h5,h6⟩:=g;exact⟨c,el,fr,hb.trans h1,h2,h3,h4,h5,λj hj=>(h6 j hj).Ek x⟩
theorem Zf(hr:HR φ h w){e:PE}{cs:List AV}(hg:MR φ h w e cs)(C1:φ.gh e.gm):
 HR ⟨λid=>if id=h.next then e else φ id,λb=>φ.gh b/\b≠e.gm⟩ (h.alloc (.row cs)) w/\
 PT φ h w ⟨λid=>if id=h.next then e else φ id,λb=>φ.gh b/\b≠e.gm⟩ (h.alloc (.row cs)) w:=by
 obtain⟨g1,g2⟩:=hr.gh _ C1
 have x:PT φ h w ⟨λid=>if id=h.next then e else φ id,λb=>φ.gh b/\b≠e.gm⟩ (h.alloc (.row cs)) w:=by
  refine⟨rfl,rfl,rfl,Nat.le_refl _,by simp,λid bZ=>by simp[Nat.ne_of_lt bZ],λb hb=>⟨⟨hb.1,λid hl=>?_,λhc=>hb.2.2 hc.1⟩,rfl⟩⟩;rcases gA hl with rfl|⟨hl,de⟩
  .simp only[if_true];exact λe'=>hb.2.2 (e'▸C1)
  .simp only[Nat.ne_of_lt de,if_false];exact hb.2.1 id hl
 refine⟨⟨af.nN _ hr.wf,λid iA Ci=>?_,λid es Ci=>?_,λi j hi hj tK=>?_,λb hb=>⟨(hr.gh b hb.1).1,λid hl=>?_⟩⟩,x⟩
 .have de:=af.dO Ci;simp only[af.lM] at de;rcases Nat.lt_or_ge id h.next with bZ|bZ
  .rw[af.dm bZ] at Ci;have hk:MR φ h w (φ id) iA:=hr.rows id iA Ci;have:=hk.Ek x rfl;unfold uw;simp only[Nat.ne_of_lt bZ,if_false];exact this
  .obtain rfl:id=h.next:=by omega
   rw[af.eY] at Ci;cases Ci;have:=hg.Ek x rfl;unfold uw;simp only[if_true];exact this
 .have de:=af.dO Ci;simp only[af.lM] at de;rcases Nat.lt_or_ge id h.next with bZ|bZ
  .rw[af.dm bZ] at Ci;obtain⟨en,oW,k1,k2,k3⟩:=hr.maps id es Ci;refine⟨en,oW,?_,k2,λj hj=>⟨(k3 j hj).1.Ek x,(k3 j hj).2.Ek x⟩⟩;simp only[Nat.ne_of_lt bZ,if_false];exact k1
  .obtain rfl:id=h.next:=by omega
   rw[af.eY] at Ci;cases Ci
 .rcases gA hi with rfl|⟨hi,wy⟩<;>rcases gA hj with rfl|⟨hj,HI⟩
  .rfl
  .simp only[if_true,Nat.ne_of_lt HI,if_false] at tK;exact absurd tK.symm (g2 j hj)
  .simp only[if_true,Nat.ne_of_lt wy,if_false] at tK;exact absurd tK (g2 i hi)
  .simp only[Nat.ne_of_lt wy,Nat.ne_of_lt HI,if_false] at tK;exact hr.inj i j hi hj tK
 .rcases gA hl with rfl|⟨hl,de⟩
  .simp only[if_true];exact λe'=>hb.2 e'.symm
  .simp only[Nat.ne_of_lt de,if_false];exact (hr.gh b hb.1).2 id hl
theorem Q2(hr:HR φ h w){cs:List AV}(mc:HR φ1 (h.alloc (.row cs)) w')(hx:Ext φ h w φ1 (h.alloc (.row cs)) w')(wI:AV.aj cs<=h.next):
 HR ⟨φ.at_,λb=>φ.gh b\/b=(φ1 h.next).gm⟩ h w'/\PT φ h w ⟨φ.at_,λb=>φ.gh b\/b=(φ1 h.next).gm⟩ h w'/\
 MR ⟨φ.at_,λb=>φ.gh b\/b=(φ1 h.next).gm⟩ h w' (φ1 h.next) cs/\¬φ.gh (φ1 h.next).gm:=by
 have aaz:live (h.alloc (.row cs)) h.next:=⟨_,af.eY,λe=>by cases e⟩
 have aek:∀id,live h id->live (h.alloc (.row cs)) id/\φ1 id=φ id/\id<h.next:=λid ⟨o,hg,ho⟩=>by have de:=af.dO hg;exact⟨⟨o,by rw[af.dm de];exact hg,ho⟩,hx.B9 id de,de⟩
 have hng:¬φ.gh (φ1 h.next).gm:=λhb=>(mc.gh _ (by rw[hx.gh.1];exact hb)).2 _ aaz rfl
 have pr2:∀b,Pr φ1 (h.alloc (.row cs)) w' b->Pr ⟨φ.at_,λb=>φ.gh b\/b=(φ1 h.next).gm⟩ h w' b:=λb hb=>
  ⟨hb.1,λid hl=>by
   obtain⟨q1,q2,_⟩:=aek id hl;have:=hb.2.1 id q1;rw[q2] at this;exact this,λhc=>by
   rcases hc with hc|rfl
   .exact hb.2.2 (by rw[hx.gh.1];exact hc)
   .exact hb.2.1 _ aaz rfl⟩
 have mv:∀v cv,v.aK<=h.next->eZ φ1 (h.alloc (.row cs)) w' v cv->eZ ⟨φ.at_,λb=>φ.gh b\/b=(φ1 h.next).gm⟩ h w' v cv:=λv cv hv Mv=>Mv.mono (λid h1 h2=>⟨(hx.B9 id (by omega)).symm,by omega⟩) λb hb=>⟨pr2 b hb,rfl⟩
 have hle:=hr.Qk;refine⟨⟨hr.wf,λid iA hg=>?_,λid es hg=>?_,λi j hi hj=>hr.inj i j hi hj,λb hb=>?_⟩,⟨hx.os,hx.tape,hx.output,hx.size,Nat.le_refl _,λ_ _=>rfl,λb hb=>?_⟩,?_,hng⟩
 .have de:=af.dO hg;obtain⟨c,el,fz,k1,k2,k3,k4,k5,k6⟩:=mc.rows id iA (by rw[af.dm de];exact hg);rw[hx.B9 id de] at k1 k2 k3 k5 k6;refine⟨c,el,fz,k1,k2,k3,k4,k5,λj hj=>mv _ _ ?_ (k6 j hj)⟩;have h1:=(hle id de).1 iA hg;have h2:=AV.cM (List.getElem_mem hj);omega
 .have de:=af.dO hg;obtain⟨fU,oW,k1,k2,k3⟩:=mc.maps id es (by rw[af.dm de];exact hg);rw[hx.B9 id de] at k1;refine⟨fU,oW,k1,k2,λj hj=>?_⟩;have h1:=(hle id de).2 es hg es[j] (List.getElem_mem hj);exact⟨mv _ _ h1.1 (k3 j hj).1,mv _ _ h1.2 (k3 j hj).2⟩
 .rcases hb with hb|rfl
  .obtain⟨q1,q2⟩:=mc.gh b (by rw[hx.gh.1];exact hb)
   exact⟨q1,λid hl=>by obtain⟨r1,r2,_⟩:=aek id hl;have:=q2 id r1;rw[r2] at this;exact this⟩
  .refine⟨mc.ft aaz,λid hl e=>?_⟩;obtain⟨r1,r2,r3⟩:=aek id hl;have e':(φ1 id).gm=(φ1 h.next).gm:=by rw[r2];exact e
   have:=mc.inj id h.next r1 aaz e'
   omega
 .obtain⟨q1,q2⟩:=hx.pr b hb;exact⟨pr2 b q1,q2⟩
 .obtain⟨c,el,fz,k1,k2,k3,k4,k5,k6⟩:=mc.rows h.next cs af.eY
  refine⟨c,el,fz,k1,k2,k3,k4,k5,λj hj=>mv _ _ ?_ (k6 j hj)⟩;have h2:=AV.cM (List.getElem_mem hj);omega
def VAt(e:PE)(vf:Nat->AV)(cv:Value):Prop:=∀(φ:eh) (nx:Nat) (pr:Nat->Prop) (w:World) (id:Nat),φ id=e->id<nx->RV φ nx pr w (vf id) cv
theorem VAt.of{vf:Nat->AV}(hvf:(vf=λid=>.ptr id 0)\/∃n sz,vf=λid=>.vec id 0 n sz n){nx:Nat}{pr:Nat->Prop}{id:Nat}{cv:Value}(hv:RV φ nx pr w (vf id) cv):VAt (φ id) vf cv:=by
 intro φ' OX An w' XI he de;rcases hvf with rfl|⟨n,sz,rfl⟩
 .obtain⟨rfl,_⟩:=hv.vF;dsimp only;rw[<-he];exact .ptr XI 0 de
 .obtain⟨cap,a,rfl,h1,h2,h3,h4,h5⟩:=hv.kA;rw[<-he] at h4 h5;exact .vec XI 0 n sz n cap a de h2 h3 h4 h5
end
end
section
def SS(bf:Array Bool)(i:Nat):Prop:=bf.getD i false=true
theorem AP{bf:Array Bool}{i:Nat}(hi:i<bf.size)(j:Nat):SS (bf.setIfInBounds i true) j↔j=i\/SS bf j:=by
 unfold SS;by_cases h:i=j
 .subst h;simp[hi]
 .rw[getD_set_ne false h];constructor
  .exact .inr
  .rintro (e|e)
   .exact absurd e.symm h
   .exact e
def unl(n:Nat)(bf:Array Bool):Nat:=(List.range n).countP λi=>!bf.getD i false
theorem Ho{α:Type}{p q:α->Bool}:∀{l:List α},(∀x∈l,q x=true->p x=true)->(∃x∈l,p x=true/\q x=false)->l.countP q<l.countP p
 |[],_,h=>by obtain⟨x,hx,_⟩:=h;cases hx
 |y::l,h,⟨x,hx,h1,h2⟩=>by
   have hle:l.countP q<=l.countP p:=List.countP_mono_left λz hz hq=>h z (List.mem_cons_of_mem _ hz) hq
   rw[List.countP_cons,List.countP_cons];by_cases e:x=y
   .subst e;simp[h1,h2];omega
   .have OY:x∈l:=by
     cases hx with
     |head=>exact absurd rfl e
     |tail _ h=>exact h
    have:=Ho (l:=l) (λz hz=>h z (List.mem_cons_of_mem _ hz)) ⟨x,OY,h1,h2⟩;have hy:=h y List.mem_cons_self;cases hq:q y
    .simp;omega
    .simp[hy hq];omega
theorem YE{n:Nat}{bf:Array Bool}{i:Nat}(hi:i<n)(hs:i<bf.size)(Br:¬SS bf i):unl n (bf.setIfInBounds i true)<unl n bf:=by
 refine Ho (λj _ hj=>?_) ⟨i,List.mem_range.2 hi,?_,?_⟩
 .simp only[Bool.not_eq_true'] at hj|-;cases hx:bf.getD j false
  .rfl
  .have:SS (bf.setIfInBounds i true) j:=(AP hs j).2 (.inr hx);rw[show _=true from this] at hj;exact hj
 .simp only[Bool.not_eq_true'];cases hx:bf.getD i false
  .rfl
  .exact absurd hx Br
 .have:SS (bf.setIfInBounds i true) i:=(AP hs i).2 (.inl rfl);rw[show _=true from this];rfl
theorem UK{n:Nat}{bf:Array Bool}(h:unl n bf=0){i:Nat}(hi:i<n):SS bf i:=by unfold unl at h;rw[List.countP_eq_zero] at h;have:=h i (List.mem_range.2 hi);simpa[SS] using this
section
variable {P:Program}{C:Nat->List AV->af->Option (AV×af)}{ops:Array Oper}{ss:List aO}{b:List Nat}
structure Ah(P:Program)(ops:Array Oper)(ss:List aO)(b:List Nat):Prop where
 len:ss.length=ops.size
 comp:∀(i:Nat) (o:Oper),ops[i]? =some o->∃s:aO,ss[i]? =some s/\ln P ops o=some s
 bef:∀(i:Nat) (o:Oper),ops[i]? =some o->b.getD i 0=By b o.after.toList
 back:∀(i:Nat) (o:Oper),ops[i]? =some o->∀e∈o.after,Region.binds .any e=true->e.on<i
 uniq:∀(i j:Nat) (s r:aO) (d:Nat),ss[i]? =some s->ss[j]? =some r->s.dst=some d->r.dst=some d->i=j
 ord:∀(i j:Nat) (s r:aO),i<j->ss[i]? =some s->ss[j]? =some r->s.uf=true->r.uf=true->bt b i j=true\/r.mN=true
 ldo:∀(i j:Nat) (s r:aO),ss[i]? =some s->ss[j]? =some r->s.Ld=true->r.mN=true->j<i->bt b j i=true->∀(e:Nat) (q:aO),ss[e]? =some q->e<j->q.uf=true->bt b e i=true
 rd:∀(i j:Nat) (s r:aO) (d:Nat),i≠j->ss[i]? =some s->ss[j]? =some r->r.dst=some d->d∈s.reads->
  (j<i/\bt b j i=true/\(r.mN=true->∀(e:Nat) (q:aO),ss[e]? =some q->e<j->q.uf=true->bt b e i=true))\/(i<j/\bt b i j=true)
theorem pP{i:Nat}:∀{l:List Edge},(By b l).testBit i=true->∃e∈l,Region.binds .any e=true/\(e.on=i\/bt b i e.on=true)
 |[],h=>by simp[By] at h
 |e::r,h=>by
   unfold By at h;split at h
   .rename_i hb;rw[Nat.testBit_or,Nat.testBit_or,Nat.testBit_two_pow,Bool.or_eq_true,Bool.or_eq_true] at h;rcases h with (h|h)|h
    .exact⟨e,by simp,hb,.inl (by simpa using h)⟩
    .exact⟨e,by simp,hb,.inr h⟩
    .obtain⟨e',h1,h2⟩:=pP h;exact⟨e',List.mem_cons_of_mem _ h1,h2⟩
   .obtain⟨e',h1,h2⟩:=pP h;exact⟨e',List.mem_cons_of_mem _ h1,h2⟩
def Xr(ops:Array Oper)(S:Nat->Prop):Prop:=∀(j:Nat) (o:Oper),ops[j]? =some o->S j->∀e∈o.after,Region.binds .any e=true->S e.on
theorem lX(st:Ah P ops ss b){S:Nat->Prop}(hc:Xr ops S):∀(n j i:Nat),j<n->∀o,ops[j]? =some o->(∀e∈o.after,Region.binds .any e=true->S e.on)->bt b i j=true->S i
 |0,j,i,hj,_,_,_,_=>by omega
 |n+1,j,i,hj,o,ho,he,hb=>by
   unfold bt at hb;rw[st.bef j o ho] at hb;obtain⟨e,h1,h2,h3⟩:=pP hb;have Mw:e∈o.after:=by simpa using h1
   rcases h3 with rfl|h3
   .exact he e Mw h2
   .have de:=st.back j o ho e Mw h2;have hjs:j<ops.size:=(Array.getElem?_eq_some_iff.1 ho).1;have hoe:ops[e.on]? =some ops[e.on]:=Array.getElem?_eq_getElem (by omega);exact lX st hc n e.on i (by omega) _ hoe (hc e.on _ hoe (he e Mw h2)) h3
structure Tr(C:Nat->List AV->af->Option (AV×af))(ss:List aO)(b:List Nat)(F:Nat->List AV)(H:Nat->af):Prop where
 st:∀(i:Nat) (s:aO),ss[i]? =some s->∃Bq tJ,cJ C s (F i) Bq=some (F (i+1),tJ)/\(H i).alike Bq/\tJ.alike (H (i+1))
 ld:∀(i j:Nat) (s r:aO) (n:Option Nat) (x:cX) (id off:Nat),ss[i]? =some s->ss[j]? =some r->s.op=.op (.ld n x)->x.ev (F i)=.ptr id off->r.uf=true->bt b i j=false->bt b j i=false->(H (j+1)).get id=(H j).get id
variable {F:Nat->List AV}{H:Nat->af}
theorem Tr.put(T:Tr C ss b F H){i:Nat}{s:aO}(hs:ss[i]? =some s):∃v,F (i+1)=gx (F i) s.dst v:=by obtain⟨Bq,tJ,e,_⟩:=T.st i s hs;obtain⟨v,e1,_⟩:=tv (dT:=F i) (λ_ _=>rfl) e;exact⟨v,e1⟩
theorem pQ(fr:List AV)(d:Option Nat)(v:AV):(gx fr d v).length=fr.length:=by cases d<;>simp[gx]
theorem ie{fr:List AV}{d:Option Nat}{v:AV}{t:Nat}(h:d≠some t):(gx fr d v).getD t .undef=fr.getD t .undef:=by
 cases d with
 |none=>rfl
 |some d=>
   have fB:d≠t:=λe=>h (by rw[e])
   simp[gx,List.getD_eq_getElem?_getD,List.getElem?_set_ne fB]
theorem G1{fr dT:List AV}{d:Nat}{v:AV}(hl:dT.length=fr.length):(gx dT (some d) v).getD d .undef=(gx fr (some d) v).getD d .undef:=by simp[gx,List.getD_eq_getElem?_getD,List.getElem?_set,hl]
theorem Tr.len(T:Tr C ss b F H):∀i,i<=ss.length->(F i).length=(F 0).length
 |0,_=>rfl
 |i+1,hi=>by obtain⟨v,e⟩:=T.put (List.getElem?_eq_getElem (show i<ss.length by omega));rw[e,pQ];exact T.len i (by omega)
theorem Tr.gp(T:Tr C ss b F H){d i:Nat}:∀(m:Nat),i+m<=ss.length->(∀(j:Nat) (s:aO),i<=j->j<i+m->ss[j]? =some s->s.dst≠some d)->(F (i+m)).getD d .undef=(F i).getD d .undef
 |0,_,_=>rfl
 |m+1,hl,xX=>by have hs:=List.getElem?_eq_getElem (show i+m<ss.length by omega);obtain⟨v,e⟩:=T.put hs;rw[show i+(m+1)=(i+m)+1 by omega,e,ie (xX (i+m) _ (by omega) (by omega) hs)];exact T.gp m (by omega) λj s h1 h2=>xX j s h1 (by omega)
theorem Tr.Dr(T:Tr C ss b F H){i:Nat}{s:aO}(hs:ss[i]? =some s)(he:s.uf=false):(H i).alike (H (i+1)):=by
 obtain⟨Bq,tJ,e,a1,a2⟩:=T.st i s hs;obtain⟨rfl,_⟩:=yx he e (h2:=Bq) λ_ _ _ _ _ _=>rfl
 exact a1.trans a2
def ac6(F:Nat->List AV)(H:Nat->af)(φ0 φ:eh)(pe:Nat->PE)(k:Nat)(a:Act)(w:World)(i:Nat)(s:aO):Prop:=
 ∃cs,∃vf:Nat->AV,((H i).alloc (.row cs)).alike (H (i+1))/\F (i+1)=gx (F i) s.dst (vf (H i).next)/\MR φ (H k) w (pe i) cs/\φ.gh (pe i).gm/\¬φ0.gh (pe i).gm/\
   ∀d,s.dst=some d->d<(F 0).length->VAt (pe i) vf (a.tmps.getD d undef)
structure DI(ops:Array Oper)(ss:List aO)(F:Nat->List AV)(H:Nat->af)(φ0:eh)(w0:World)(d0:List Deferred)(bf:Array Bool)(φ:eh)(pe:Nat->PE)(cu:List AV)(k:Nat)(a:Act)(w:World):Prop where
 sz:bf.size=ss.length
 cl:Xr ops (SS bf)
 kn:k<=ss.length
 lo:∀(i:Nat) (s:aO),i<k->ss[i]? =some s->s.uf=true->SS bf i
 hi:∀(i:Nat) (s:aO),k<=i->ss[i]? =some s->s.uf=true->SS bf i->s.mN=true
 hr:HR φ (H k) w
 fr:FR φ (H k) w cu a.tmps
 ex:PT φ0 (H 0) w0 φ (H k) w
 ZB:cu.length=(F 0).length
 w1:∀(i:Nat) (s:aO) (d:Nat),ss[i]? =some s->s.dst=some d->SS bf i->(s.mN=true->i<k)->cu.getD d .undef=(F ss.length).getD d .undef
 w2:∀(i:Nat) (s:aO) (d:Nat),ss[i]? =some s->s.dst=some d->¬SS bf i->cu.getD d .undef=(F 0).getD d .undef
 w3:∀d:Nat,(∀(i:Nat) (s:aO),ss[i]? =some s->s.dst≠some d)->cu.getD d .undef=(F 0).getD d .undef
 mN:∀(i:Nat) (s:aO),k<=i->ss[i]? =some s->s.mN=true->SS bf i->ac6 F H φ0 φ pe k a w i s
 inj:∀(i j:Nat) (s r:aO),k<=i->k<=j->ss[i]? =some s->ss[j]? =some r->s.mN=true->r.mN=true->SS bf i->SS bf j->(pe i).gm=(pe j).gm->i=j
 gh:∀x,φ.gh x->φ0.gh x\/∃(i:Nat) (s:aO),k<=i/\ss[i]? =some s/\s.mN=true/\SS bf i/\x=(pe i).gm
 YI:∀x,φ0.gh x->φ.gh x/\w.heap[x]? =w0.heap[x]?
 df:a.defers=d0
theorem y0{s:aO}(h:s.mN=true):s.uf=true:=by
 unfold aO.mN at h;unfold aO.uf;split at h
 .rename_i ee;rw[ee];rfl
 .rename_i ee;rw[ee];rfl
 .cases h
theorem FR.adg{φ:eh}{h:af}{w:World}{fr:List AV}{tm:Array Value}(hf:FR φ h w fr tm){d:Nat}{v:AV}(hv:eZ φ h w v (tm.getD d undef)):FR φ h w (fr.set d v) tm:=by
 have:=hf.put hv d
 have e:tm.setIfInBounds d (tm.getD d undef)=tm:=by
  apply Array.ext
  .simp
  .intro j h1 h2;rw[Array.getElem_setIfInBounds];split
   .rename_i e;subst e;simp[Array.getD,h2]
   .rfl
 rw[e] at this;exact this
variable {φ0:eh}{w0:World}{d0:List Deferred}
theorem DI.advance(T:Tr C ss b F H)(st:Ah P ops ss b):∀(m:Nat) {bf:Array Bool} {φ:eh} {pe:Nat->PE} {cu:List AV} {k:Nat} {a:Act} {w:World},ss.length<=k+m->DI ops ss F H φ0 w0 d0 bf φ pe cu k a w->
 ∃φ' cu' k',DI ops ss F H φ0 w0 d0 bf φ' pe cu' k' a w/\(k'<ss.length->∃s:aO,ss[k']? =some s/\s.uf=true/\¬SS bf k')
 |m,bf,φ,pe,cu,k,a,w,hm,D=>by
   rcases Nat.lt_or_ge k ss.length with hk|hk
   case inr=>exact⟨φ,cu,k,D,λh=>by omega⟩
   have hs:=List.getElem?_eq_getElem hk;by_cases hS:ss[k].uf=true/\¬SS bf k
   .exact⟨φ,cu,k,D,λ_=>⟨_,hs,hS.1,hS.2⟩⟩
   .cases m with
    |zero=>omega
    |succ m=>
      by_cases he:ss[k].uf=true
      .have hSk:SS bf k:=Classical.byContradiction λh=>hS ⟨he,h⟩
       have hp:=D.hi k _ (Nat.le_refl _) hs he hSk;obtain⟨cs,vf,q1,q2,q3,q4,q5,q6⟩:=D.mN k _ (Nat.le_refl _) hs hp hSk;obtain⟨r1,r2⟩:=Zf D.hr q3 q4;obtain⟨r3,r4⟩:=r1.alike q1;have x:=r2.trans r4.Ek;refine DI.advance T st m (k:=k+1) (φ:=⟨λid=>if id=(H k).next then pe k else φ id,λy=>φ.gh y/\y≠(pe k).gm⟩) (cu:=gx cu ss[k].dst (vf (H k).next)) (by omega) ?_;have CZ:(H (k+1)).next=(H k).next+1:=by rw[q1.1];rfl
       refine⟨D.sz,D.cl,hk,λi s h1 h2 h3=>?_,λi s h1 h2 h3 h4=>D.hi i s (by omega) h2 h3 h4,r3,?_,D.ex.trans x,by rw[pQ];exact D.ZB,λi s d h1 h2 h3 h4=>?_,λi s d h1 h2 h3=>?_,λd h1=>?_,
        λi s h1 h2 h3 h4=>?_,λi j s r h1 h2=>D.inj i j s r (by omega) (by omega),λy hy=>?_,λy hy=>?_,D.df⟩
       .rcases Nat.lt_or_ge i k with h|h
        .exact D.lo i s h h2 h3
        .obtain rfl:i=k:=by omega
         exact hSk
       .cases hd:ss[k].dst with
        |none=>exact D.fr.Ek x
        |some d=>
          rcases Nat.lt_or_ge d (F 0).length with Ym|Ym
          .refine (D.fr.Ek x).adg ?_;exact q6 d hd Ym _ _ _ _ (H k).next (by simp) (by omega)
          .have e:gx cu (some d) (vf (H k).next)=cu:=by
            simp only[gx];exact List.set_eq_of_length_le (by rw[D.ZB];exact Ym)
           rw[e];exact D.fr.Ek x
       .by_cases TE:i=k
        .subst TE
         have e1:(F ss.length).getD d .undef=(F (i+1)).getD d .undef:=by
          have:=T.gp (d:=d) (i:=i+1) (ss.length-(i+1)) (by omega) λj r g1 g2 g3 g4=>by have:=st.uniq i j s r d h1 g3 h2 g4;omega
          rw[show i+1+(ss.length-(i+1))=ss.length by omega] at this;exact this
         have es:ss[i]=s:=by rw[hs] at h1;exact Option.some.inj h1
         rw[e1,q2,es,h2];exact G1 (by rw[D.ZB,T.len i (by omega)])
        .rw[ie (λe=>TE (st.uniq i k s _ d h1 hs h2 e))];exact D.w1 i s d h1 h2 h3 λh=>by have:=h4 h;omega
       .rw[ie (λe=>h3 ((st.uniq i k s _ d h1 hs h2 e)▸hSk))];exact D.w2 i s d h1 h2 h3
       .rw[ie (h1 k _ hs)];exact D.w3 d h1
       .obtain⟨iA,vf',p1,p2,p3,p4,p5,p6⟩:=D.mN i s (by omega) h2 h3 h4;refine⟨iA,vf',p1,p2,p3.Ek x rfl,⟨p4,λe=>?_⟩,p5,p6⟩;have:=D.inj i k s _ (by omega) (Nat.le_refl _) h2 hs h3 hp h4 hSk e;omega
       .rcases D.gh y hy.1 with h|⟨i,s,h1,h2,h3,h4,h5⟩
        .exact .inl h
        .refine .inr ⟨i,s,?_,h2,h3,h4,h5⟩;rcases Nat.lt_or_ge k i with h|h
         .exact h
         .obtain rfl:i=k:=by omega
          exact absurd h5 hy.2
       .obtain⟨g1,g2⟩:=D.YI y hy;exact⟨⟨g1,λe=>q5 (e▸hy)⟩,g2⟩
      .have he:ss[k].uf=false:=by simpa using he
       have hnp:ss[k].mN=false:=by
        cases hp:ss[k].mN with
        |false=>rfl
        |true=>rw[y0 hp] at he;cases he
       have al:=T.Dr hs he;obtain⟨r1,r2⟩:=D.hr.alike al;refine DI.advance T st m (k:=k+1) (φ:=φ) (cu:=cu) (by omega) ?_
       refine⟨D.sz,D.cl,hk,λi s h1 h2 h3=>?_,λi s h1 h2 h3 h4=>D.hi i s (by omega) h2 h3 h4,r1,D.fr.ext r2,D.ex.trans r2.Ek,D.ZB,λi s d h1 h2 h3 h4=>?_,D.w2,D.w3,
        λi s h1 h2 h3 h4=>?_,λi j s r h1 h2=>D.inj i j s r (by omega) (by omega),λy hy=>?_,D.YI,D.df⟩
       .rcases Nat.lt_or_ge i k with h|h
        .exact D.lo i s h h2 h3
        .obtain rfl:i=k:=by omega
         rw[hs] at h2;rw[<-Option.some.inj h2,he] at h3;cases h3
       .refine D.w1 i s d h1 h2 h3 λh=>?_
        have:=h4 h;rcases Nat.lt_or_ge i k with h'|h'
        .exact h'
        .obtain rfl:i=k:=by omega
         rw[hs] at h1;rw[<-Option.some.inj h1,hnp] at h;cases h
       .obtain⟨iA,vf',p1,p2,p3,p4,p5,p6⟩:=D.mN i s (by omega) h2 h3 h4;exact⟨iA,vf',p1,p2,p3.Ek r2.Ek rfl,p4,p5,p6⟩
       .rcases D.gh y hy with h|⟨i,s,h1,h2,h3,h4,h5⟩
        .exact .inl h
        .refine .inr ⟨i,s,?_,h2,h3,h4,h5⟩;rcases Nat.lt_or_ge k i with h|h
         .exact h
         .obtain rfl:i=k:=by omega
          rw[hs] at h2;rw[<-Option.some.inj h2,hnp] at h3;cases h3
end
end
section
variable {X:World->Prop}
section
variable {P:Program}{C:Nat->List AV->af->Option (AV×af)}{ops:Array Oper}{ss:List aO}{b:List Nat}{F:Nat->List AV}{H:Nat->af}{φ0:eh}{w0:World}{d0:List Deferred}
 {bf:Array Bool} {φ:eh} {pe:Nat->PE} {cu:List AV} {k:Nat} {a:Act} {w:World}
theorem VL(st:Ah P ops ss b):∀(n j i:Nat),j<n->(∃o,ops[j]? =some o)->bt b i j=true->i<j
 |0,j,i,hj,_,_=>by omega
 |n+1,j,i,hj,⟨o,ho⟩,hb=>by
   unfold bt at hb;rw[st.bef j o ho] at hb;obtain⟨e,h1,h2,h3⟩:=pP hb;have Mw:e∈o.after:=by simpa using h1
   have de:=st.back j o ho e Mw h2;rcases h3 with rfl|h3
   .exact de
   .have hjs:j<ops.size:=(Array.getElem?_eq_some_iff.1 ho).1;have:=VL st n e.on i (by omega) ⟨_,Array.getElem?_eq_getElem (by omega)⟩ h3;omega
def KX(ss:List aO)(bf:Array Bool)(k:Nat):Prop:=k<ss.length->∃s:aO,ss[k]? =some s/\s.uf=true/\¬SS bf k
theorem DI.reads(T:Tr C ss b F H)(st:Ah P ops ss b)(D:DI ops ss F H φ0 w0 d0 bf φ pe cu k a w)(kx:KX ss bf k){i:Nat}{o:Oper}{s:aO}(ho:ops[i]? =some o)(hs:ss[i]? =some s)
 (yd:∀e∈o.after,Region.binds .any e=true->SS bf e.on) (Br:¬SS bf i):∀t∈s.reads,cu.getD t .undef=(F i).getD t .undef:=by
 intro t ht;have wy:i<ss.length:=(List.getElem?_eq_some_iff.1 hs).1;by_cases hw:∃(j:Nat) (r:aO),ss[j]? =some r/\r.dst=some t
 .obtain⟨j,r,hj,hd⟩:=hw;have HI:j<ss.length:=(List.getElem?_eq_some_iff.1 hj).1
  have head:i<=j->(F i).getD t .undef=(F 0).getD t .undef:=λhle=>by
   have:=T.gp (d:=t) (i:=0) i (by omega) λj' s' _ h2 h3 h4=>by have:=st.uniq j' j s' r t h3 hj h4 hd;omega
   simpa using this
  by_cases hji:j=i
  .subst hji;rw[D.w2 j r t hj hd Br,head (Nat.le_refl _)]
  .rcases st.rd i j s r t (Ne.symm hji) hs hj hd ht with⟨h1,h2,h3⟩|⟨h1,h2⟩
   .have hSj:SS bf j:=lX st D.cl (i+1) i j (by omega) o ho yd h2;rw[D.w1 j r t hj hd hSj λhp=>?_]
    .have:=T.gp (d:=t) (i:=i) (ss.length-i) (by omega) λj' s' g1 _ g3 g4=>by
      have:=st.uniq j' j s' r t g3 hj g4 hd;omega
     rw[show i+(ss.length-i)=ss.length by omega] at this;exact this
    .rcases Nat.lt_or_ge j k with h|h
     .exact h
     .exfalso;obtain⟨q,hq,TF,XR⟩:=kx (by omega);by_cases e:k=j
      .exact XR (e▸hSj)
      .have:=h3 hp k q hq (by omega) TF;exact XR (lX st D.cl (i+1) i k (by omega) o ho yd this)
   .have hjo:∃o',ops[j]? =some o':=⟨_,Array.getElem?_eq_getElem (by rw[<-st.len];exact HI)⟩
    obtain⟨o',Fm⟩:=hjo;have hnj:¬SS bf j:=λh=>Br (lX st D.cl (j+1) j i (by omega) o' Fm (D.cl j o' Fm h) h2)
    rw[D.w2 j r t hj hd hnj,head (by omega)]
 .have xX:∀(j:Nat) (r:aO),ss[j]? =some r->r.dst≠some t:=λj r hj hd=>hw ⟨j,r,hj,hd⟩
  rw[D.w3 t xX];have:=T.gp (d:=t) (i:=0) i (by omega) λj' s' _ _ h3=>xX j' s' h3
  simpa using this.symm
theorem Aw{id:Nat}{x:Nat}:∀(m:Nat),(∀j,x<=j->j<x+m->(H (j+1)).get id=(H j).get id)->(H (x+m)).get id=(H x).get id
 |0,_=>rfl
 |m+1,h=>by rw[show x+(m+1)=(x+m)+1 by omega,h (x+m) (by omega) (by omega)];exact Aw m λj h1 h2=>h j h1 (by omega)
theorem DI.load(T:Tr C ss b F H)(st:Ah P ops ss b)(D:DI ops ss F H φ0 w0 d0 bf φ pe cu k a w)(kx:KX ss bf k){i:Nat}{o:Oper}{s:aO}(ho:ops[i]? =some o)(hs:ss[i]? =some s)
 (yd:∀e∈o.after,Region.binds .any e=true->SS bf e.on) (Br:¬SS bf i) {n:Option Nat} {x:cX} {id off:Nat} (ee:s.op=.op (.ld n x)) (hx:x.ev (F i)=.ptr id off):(H k).get id=(H i).get id:=by
 have wy:i<ss.length:=(List.getElem?_eq_some_iff.1 hs).1;have hld:s.Ld=true:=by unfold aO.Ld;rw[ee]
 have fB:s.uf=false:=by unfold aO.uf;rw[ee]
 have one:∀j,j<ss.length->(∀r,ss[j]? =some r->r.uf=true->bt b i j=false/\bt b j i=false)->(H (j+1)).get id=(H j).get id:=λj hj hh=>by
  have hr:=List.getElem?_eq_getElem hj
  cases he:ss[j].uf with
  |false=>exact (T.Dr hr he).get id
  |true=>obtain⟨g1,g2⟩:=hh _ hr he;exact T.ld i j s _ n x id off hs hr ee hx he g1 g2
 rcases Nat.le_total k i with hki|hki
 .have:=Aw (H:=H) (id:=id) (x:=k) (i-k) λj h1 h2=>one j (by omega) λr hr he=>⟨?_,?_⟩
  .rw[show k+(i-k)=i by omega] at this;exact this.symm
  .cases hb:bt b i j with
   |false=>rfl
   |true=>have:=VL st (j+1) j i (by omega) ⟨_,Array.getElem?_eq_getElem (by rw[<-st.len];omega)⟩ hb;omega
  .cases hb:bt b j i with
   |false=>rfl
   |true=>
     exfalso;have hSj:=lX st D.cl (i+1) i j (by omega) o ho yd hb;have hp:=D.hi j r h1 hr he hSj;obtain⟨q,hq,TF,XR⟩:=kx (by omega);by_cases e:k=j
     .exact XR (e▸hSj)
     .have:=st.ldo i j s r hs hr hld hp (by omega) hb k q hq (by omega) TF;exact XR (lX st D.cl (i+1) i k (by omega) o ho yd this)
 .have hkn:=D.kn;have:=Aw (H:=H) (id:=id) (x:=i) (k-i) λj h1 h2=>one j (by omega) λr hr he=>⟨?_,?_⟩
  .rw[show i+(k-i)=k by omega] at this;exact this
  .cases hb:bt b i j with
   |false=>rfl
   |true=>
     exfalso;have hSj:=D.lo j r (by omega) hr he;have hjo:j<ops.size:=by rw[<-st.len];omega
     have hoj:ops[j]? =some ops[j]:=Array.getElem?_eq_getElem hjo;exact Br (lX st D.cl (j+1) j i (by omega) _ hoj (D.cl j _ hoj hSj) hb)
  .cases hb:bt b j i with
   |false=>rfl
   |true=>have:=VL st (i+1) i j (by omega) ⟨o,ho⟩ hb;omega
theorem uA{d:Option Nat}{t:Nat}(h:d≠some t)(cv:Value):(a.put d cv).tmps.getD t undef=a.tmps.getD t undef:=by
 cases d with
 |none=>rfl
 |some d=>
   have fB:d≠t:=λe=>h (by rw[e])
   simp[Act.put,Array.getElem?_setIfInBounds_ne fB]
theorem put_defers(d:Option Nat)(cv:Value):(a.put d cv).defers=a.defers:=by cases d<;>rfl
theorem DI.step(T:Tr C ss b F H)(st:Ah P ops ss b)(D:DI ops ss F H φ0 w0 d0 bf φ pe cu k a w){i k':Nat}{o:Oper}{s:aO}(ho:ops[i]? =some o)(hs:ss[i]? =some s)(hd:s.dst=o.dst)
 (yd:∀e∈o.after,Region.binds .any e=true->SS bf e.on) (Br:¬SS bf i) (hk:(k'=k/\s.uf=false)\/(k'=k+1/\i=k)) {v:AV} (hF:F (i+1)=gx (F i) s.dst v) {φ':eh} {cv:Value} {w':World}
 (hf:FR φ' (H k') w' (gx cu s.dst v) (a.put o.dst cv).tmps) (hr:HR φ' (H k') w') (hx:Ext φ (H k) w φ' (H k') w'):
 DI ops ss F H φ0 w0 d0 (bf.setIfInBounds i true) φ' pe (gx cu s.dst v) k' (a.put o.dst cv) w':=by
 have wy:i<ss.length:=(List.getElem?_eq_some_iff.1 hs).1;have iz:i<bf.size:=by rw[D.sz];exact wy
 have S':=AP iz;have hkn:=D.kn
 have hpi:∀j r,k'<=j->ss[j]? =some r->r.uf=true->j≠i:=λj r h1 h2 h3 e=>by
  rcases hk with⟨_,h⟩|⟨h,h'⟩
  .rw[e,hs] at h2;rw[<-Option.some.inj h2,h] at h3;cases h3
  .omega
 have CY:k<=k':=by rcases hk with⟨h,_⟩|⟨h,_⟩<;>omega
 refine⟨by simp[D.sz],λj o' h1 h2 e h3 h4=>(S' _).2 (.inr ?_),?_,λj r h1 h2 h3=>(S' j).2 ?_,λj r h1 h2 h3 h4=>?_,hr,hf,D.ex.trans hx.Ek,by rw[pQ];exact D.ZB,λj r d h1 h2 h3 h4=>?_,λj r d h1 h2 h3=>?_,λd h1=>?_,
  λj r h1 h2 h3 h4=>?_,λi1 j1 s1 r1 g1 g2 g3 g4 g5 g6 g7 g8 g9=>?_,λy hy=>?_,λy hy=>?_,by rw[put_defers];exact D.df⟩
 .rcases (S' j).1 h2 with rfl|h2
  .rw[ho] at h1;cases h1;exact yd e h3 h4
  .exact D.cl j o' h1 h2 e h3 h4
 .rcases hk with⟨h,_⟩|⟨h,h'⟩<;>omega
 .rcases Nat.lt_or_ge j k with h|h
  .exact .inr (D.lo j r h h2 h3)
  .rcases hk with⟨h',_⟩|⟨h',h''⟩
   .omega
   .exact .inl (by omega)
 .rcases (S' j).1 h4 with e|h4
  .exact absurd e (hpi j r h1 h2 h3)
  .exact D.hi j r (by omega) h2 h3 h4
 .by_cases e:j=i
  .subst e;rw[hs] at h1;cases h1
   have e1:(F ss.length).getD d .undef=(F (j+1)).getD d .undef:=by
    have:=T.gp (d:=d) (i:=j+1) (ss.length-(j+1)) (by omega) λj' r' g1 g2 g3 g4=>by have:=st.uniq j j' s r' d hs g3 h2 g4;omega
    rw[show j+1+(ss.length-(j+1))=ss.length by omega] at this;exact this
   rw[e1,hF,h2];exact G1 (by rw[D.ZB,T.len j (by omega)])
  .have h3':SS bf j:=((S' j).1 h3).resolve_left e;rw[ie (λe'=>e (st.uniq j i r s d h1 hs h2 e'))];refine D.w1 j r d h1 h2 h3' λhp=>?_
   have:=h4 hp;rcases hk with⟨h,_⟩|⟨h,h'⟩<;>omega
 .have e:j≠i:=λe=>h3 ((S' j).2 (.inl e))
  rw[ie (λe'=>e (st.uniq j i r s d h1 hs h2 e'))];exact D.w2 j r d h1 h2 λh=>h3 ((S' j).2 (.inr h))
 .rw[ie (h1 i s hs)];exact D.w3 d h1
 .have e:=hpi j r h1 h2 (y0 h3);have h4':SS bf j:=((S' j).1 h4).resolve_left e;obtain⟨cs,vf,p1,p2,p3,p4,p5,p6⟩:=D.mN j r (by omega) h2 h3 h4';refine⟨cs,vf,p1,p2,p3.Ek hx.Ek (hx.gh.2 _ p4),by rw[hx.gh.1];exact p4,p5,λd g1 g2=>?_⟩;rw[uA λe'=>e (st.uniq j i r s d h2 hs g1 (hd.trans e'))];exact p6 d g1 g2
 .exact D.inj i1 j1 s1 r1 (by omega) (by omega) g3 g4 g5 g6 (((S' i1).1 g7).resolve_left (hpi i1 s1 g1 g3 (y0 g5))) (((S' j1).1 g8).resolve_left (hpi j1 r1 g2 g4 (y0 g6))) g9
 .rw[hx.gh.1] at hy;rcases D.gh y hy with h|⟨i1,s1,h1,h2,h3,h4,h5⟩
  .exact .inl h
  .refine .inr ⟨i1,s1,?_,h2,h3,(S' i1).2 (.inr h4),h5⟩;rcases hk with⟨h,_⟩|⟨h,h'⟩
   .omega
   .have:i1≠k:=λe=>Br (by rw[h',<-e];exact h4)
    omega
 .obtain⟨g1,g2⟩:=D.YI y hy;exact⟨by rw[hx.gh.1];exact g1,(hx.gh.2 y g1).trans g2⟩
theorem DI.early(T:Tr C ss b F H)(st:Ah P ops ss b)(D:DI ops ss F H φ0 w0 d0 bf φ pe cu k a w){i:Nat}{o:Oper}{s:aO}(ho:ops[i]? =some o)(hs:ss[i]? =some s)(hd:s.dst=o.dst)
 (yd:∀e∈o.after,Region.binds .any e=true->SS bf e.on) (Br:¬SS bf i) (hk:k<i) (hp:s.mN=true) {cs:List AV} {vf:Nat->AV} (hH:((H i).alloc (.row cs)).alike (H (i+1))) (hF:F (i+1)=gx (F i) s.dst (vf (H i).next))
 (hvf:(vf=λid=>.ptr id 0)\/∃n sz,vf=λid=>.vec id 0 n sz n) (wI:AV.aj cs<=(H k).next) {φ1:eh} {cv:Value} {w':World}
 (hf:FR φ1 ((H k).alloc (.row cs)) w' (gx cu s.dst (vf (H k).next)) (a.put o.dst cv).tmps) (hr:HR φ1 ((H k).alloc (.row cs)) w') (hx:Ext φ (H k) w φ1 ((H k).alloc (.row cs)) w'):
 DI ops ss F H φ0 w0 d0 (bf.setIfInBounds i true) ⟨φ.at_,λb=>φ.gh b\/b=(φ1 (H k).next).gm⟩ (λj=>if j=i then φ1 (H k).next else pe j) (gx cu s.dst .undef) k (a.put o.dst cv) w':=by
 have wy:i<ss.length:=(List.getElem?_eq_some_iff.1 hs).1;have iz:i<bf.size:=by rw[D.sz];exact wy
 have S':=AP iz;obtain⟨g1,g2,g3,g4⟩:=Q2 D.hr hr hx wI;have hpe:∀j,j≠i->(if j=i then φ1 (H k).next else pe j)=pe j:=λj hj=>if_neg hj
 refine⟨by simp[D.sz],λj o' h1 h2 e h3 h4=>(S' _).2 (.inr ?_),D.kn,λj r h1 h2 h3=>(S' j).2 (.inr (D.lo j r h1 h2 h3)),λj r h1 h2 h3 h4=>?_,g1,?_,D.ex.trans g2,by rw[pQ];exact D.ZB,λj r d h1 h2 h3 h4=>?_,λj r d h1 h2 h3=>?_,λd h1=>?_,
  λj r h1 h2 h3 h4=>?_,λi1 j1 s1 r1 q1 q2 q3 q4 q5 q6 q7 q8 q9=>?_,λy hy=>?_,λy hy=>?_,by rw[put_defers];exact D.df⟩
 .rcases (S' j).1 h2 with rfl|h2
  .rw[ho] at h1;cases h1;exact yd e h3 h4
  .exact D.cl j o' h1 h2 e h3 h4
 .rcases (S' j).1 h4 with e|h4
  .subst e;rw[hs] at h2;cases h2;exact hp
  .exact D.hi j r h1 h2 h3 h4
 .rw[hd];exact (DC (D.fr.Ek g2) (RV.undef cv) o.dst).1
 .by_cases e:j=i
  .subst e;rw[hs] at h1;cases h1;have:=h4 hp;omega
  .have h3':SS bf j:=((S' j).1 h3).resolve_left e;rw[ie (λe'=>e (st.uniq j i r s d h1 hs h2 e'))];exact D.w1 j r d h1 h2 h3' h4
 .have e:j≠i:=λe=>h3 ((S' j).2 (.inl e))
  rw[ie (λe'=>e (st.uniq j i r s d h1 hs h2 e'))];exact D.w2 j r d h1 h2 λh=>h3 ((S' j).2 (.inr h))
 .rw[ie (h1 i s hs)];exact D.w3 d h1
 .by_cases e:j=i
  .subst e;rw[hs] at h2;cases h2;refine⟨cs,vf,hH,hF,?_,?_,?_,λd q1 q2=>?_⟩
   .simp only[if_true];exact g3
   .simp only[if_true];exact .inr trivial
   .simp only[if_true];exact λh=>g4 (D.YI _ h).1
   .simp only[if_true];have:=hf.2 d
    have e1:(gx cu s.dst (vf (H k).next)).getD d .undef=vf (H k).next:=by
     rw[q1];have Ym:d<cu.length:=by rw[D.ZB];exact q2
     simp[gx,Ym]
    rw[e1] at this;exact VAt.of hvf this
  .have h4':SS bf j:=((S' j).1 h4).resolve_left e;obtain⟨iA,vf',p1,p2,p3,p4,p5,p6⟩:=D.mN j r h1 h2 h3 h4';refine⟨iA,vf',p1,p2,?_,?_,?_,λd q1 q2=>?_⟩
   .dsimp only;rw[hpe j e];exact p3.Ek g2 (hx.gh.2 _ p4)
   .dsimp only;rw[hpe j e];exact .inl p4
   .dsimp only;rw[hpe j e];exact p5
   .dsimp only;rw[hpe j e,uA λe'=>e (st.uniq j i r s d h2 hs q1 (hd.trans e'))];exact p6 d q1 q2
 .by_cases e1:i1=i
  .by_cases e2:j1=i
   .omega
   .exfalso;rw[if_pos e1,hpe j1 e2] at q9;obtain⟨_,_,_,_,_,p4,_⟩:=D.mN j1 r1 q2 q4 q6 (((S' j1).1 q8).resolve_left e2);exact g4 (q9▸p4)
  .by_cases e2:j1=i
   .exfalso;rw[if_pos e2,hpe i1 e1] at q9;obtain⟨_,_,_,_,_,p4,_⟩:=D.mN i1 s1 q1 q3 q5 (((S' i1).1 q7).resolve_left e1);exact g4 (q9▸p4)
   .rw[hpe i1 e1,hpe j1 e2] at q9;exact D.inj i1 j1 s1 r1 q1 q2 q3 q4 q5 q6 (((S' i1).1 q7).resolve_left e1) (((S' j1).1 q8).resolve_left e2) q9
 .rcases hy with hy|rfl
  .rcases D.gh y hy with h|⟨i1,s1,h1,h2,h3,h4,h5⟩
   .exact .inl h
   .refine .inr ⟨i1,s1,h1,h2,h3,(S' i1).2 (.inr h4),?_⟩;rw[hpe i1 λe=>Br (e▸h4)];exact h5
  .exact .inr ⟨i,s,by omega,hs,hp,(S' i).2 (.inl rfl),by simp⟩
 .obtain⟨p1,p2⟩:=D.YI y hy;exact⟨.inl p1,(hx.gh.2 y p1).trans p2⟩
theorem Vy{o:Oper}{s:aO}(hc:ln P ops o=some s):s.dst=o.dst:=by
 unfold ln at hc;split at hc
 .cases hc
 .split at hc
  .cases hc;rfl
  .obtain⟨t,_,rfl⟩:=Option.map_eq_some_iff.1 hc;rfl
theorem je.Uv{Q:Program}{bf:Array Bool}{φ:eh}{pe:Nat->PE}{cu:List AV}{k:Nat}{a:Act}{w:World}(g:je Q X φ0 (H 0) w0)(D:DI ops ss F H φ0 w0 d0 bf φ pe cu k a w):je Q X φ (H k) w:=by
 obtain⟨w1,h1,h2⟩:=g;refine⟨w1,h1,λb hb=>?_⟩;obtain⟨g1,g2,g3⟩:=h2 b hb;refine⟨Nat.lt_of_lt_of_le g1 D.ex.size,?_⟩;rcases g2 with g2|g2
 .exact⟨.inl (D.YI b g2).1,(D.YI b g2).2.trans g3⟩
 .exact⟨.inr (D.ex.pr b g2).1,(D.ex.pr b g2).2.trans g3⟩
end
end
section
variable {X:World->Prop}
def CW(h h':af):Prop:=h.wf->CL h h'/\h'.wf
theorem CW.refl(h:af):CW h h:=λw=>⟨.refl _,w⟩
theorem CW.trans{h h1 h2:af}(a:CW h h1)(b:CW h1 h2):CW h h2:=λw=>by obtain⟨c1,w1⟩:=a w;obtain⟨c2,w2⟩:=b w1;exact⟨c1.trans c2,w2⟩
theorem agK{fr:List AV}{h h':af}{C3:ye}{v:AV}(he:bC fr h C3=some (v,h'))(hw:h.wf):h'.wf:=by
 cases C3<;>simp only[bC] at he
 all_goals
  repeat' split at he
  all_goals first
   |(cases he;done)
   |(cases he;exact hw)
   |(cases he;exact af.nN _ hw)
   |(cases he;exact af.Ct _ _ (af.wf_set _ _ hw))
   |(cases he;exact af.nN _ (af.wf_set _ _ hw))
   |(obtain⟨_,_,e⟩:=Option.map_eq_some_iff.1 he;cases e;exact hw)
   |(obtain⟨_,_,e⟩:=Option.map_eq_some_iff.1 he;cases e;exact af.nN _ hw)
   |(obtain⟨_,_,e⟩:=Option.map_eq_some_iff.1 he;cases e;exact af.Ct _ _ (af.Ct _ _ (af.wf_set _ _ hw)))
   |(obtain⟨p,_,e⟩:=Option.map_eq_some_iff.1 he;(repeat' split at e)<;>cases e<;>exact hw)
theorem ag7{fr:List AV}{h h':af}{C3:ye}{v:AV}(he:bC fr h C3=some (v,h')):CW h h':=λw=>⟨agn he,agK he w⟩
def ph(C:Nat->List AV->af->Option (AV×af)):Prop:=∀f args h v h',C f args h=some (v,h')->CW h h'
section
variable {P:Program}{C:Nat->List AV->af->Option (AV×af)}{ops:Array Oper}{ss:List aO}{b:List Nat}
theorem CU(hC:ph C){s:aO}{fr dT:List AV}{h h':af}(he:cJ C s fr h=some (dT,h')):CW h h':=by
 unfold cJ at he;split at he
 .cases he
 .cases he;exact .refl _
 .split at he
  .obtain⟨⟨v,h1⟩,h2,e⟩:=Option.map_eq_some_iff.1 he;cases e;exact hC _ _ _ _ _ h2
  .split at he
   .obtain⟨⟨v,h1⟩,h2,e⟩:=Option.map_eq_some_iff.1 he;cases e;exact hC _ _ _ _ _ h2
   .cases he
  .obtain⟨⟨v,h1⟩,h2,e⟩:=Option.map_eq_some_iff.1 he;cases e;exact ag7 h2
theorem Lo(hC:ph C):∀{ss:List aO} {fr dT:List AV} {h h':af},c7 C ss fr h=some (dT,h')->CW h h'
 |[],fr,dT,h,h',he=>by simp only[c7,Option.some.injEq,Prod.mk.injEq] at he;obtain⟨rfl,rfl⟩:=he;exact .refl _
 |s::ss,fr,dT,h,h',he=>by
   simp only[c7] at he;split at he
   .rename_i x7 h1 h2;exact (CU hC h2).trans (Lo hC he)
   .cases he
theorem CL.Yx{h h':af}(c:CL {h with md:=h.next} h'):CL h {h' with md:=min h.md h'.md}:=⟨c.next,c.wl,λn h1 h2 h3=>c.le n h1 h2 h3,Nat.min_le_left _ _,λid h1 h2=>c.same id (by dsimp only at h1;omega) h2⟩
theorem CW.Yx{h h':af}(c:CW {h with md:=h.next} h'):CW h {h' with md:=min h.md h'.md}:=λw=>by obtain⟨c1,w1⟩:=c w;exact⟨c1.Yx,w1⟩
theorem aaY(hC:ph C):∀{ss:List aO} {fr dT:List AV} {h h':af} {tr:List (Nat×af×af)},ue C ss fr h=some (dT,h',tr)->CW h h'
 |[],fr,dT,h,h',tr,he=>by simp only[ue,Option.some.injEq,Prod.mk.injEq] at he;obtain⟨rfl,rfl,_⟩:=he;exact .refl _
 |s::ss,fr,dT,h,h',tr,he=>by
   simp only[ue] at he;split at he
   .rename_i x7 h1 h2;obtain⟨⟨fr2,h3,tr2⟩,h4,e⟩:=Option.map_eq_some_iff.1 he;cases e;exact (CW.Yx (CU hC h2)).trans (aaY hC h4)
   .cases he
theorem yN{α β:Type}{f:α->Option β}:∀{l:List α} {r:List β},eL f l=some r->r.length=l.length/\∀(i:Nat) (x:α),l[i]? =some x->∃y,r[i]? =some y/\f x=some y
 |[],r,h=>by simp only[eL,Option.some.injEq] at h;subst h;exact⟨rfl,λi x hx=>by simp at hx⟩
 |x::l,r,h=>by
   unfold eL at h;split at h
   .rename_i y s h1 h2;cases h;obtain⟨g1,g2⟩:=yN h2;refine⟨by simp[g1],λi z hz=>?_⟩
    cases i with
    |zero=>simp only[List.getElem?_cons_zero,Option.some.injEq] at hz;subst hz;exact⟨y,by simp,h1⟩
    |succ i=>exact g2 i z (by simpa using hz)
   .cases h
theorem ZU(hs:eL (ln P ops) ops.toList=some ss)(hd:Is ops ss b=true):Ah P ops ss b:=by
 obtain⟨hl,hg⟩:=yN hs;unfold Is at hd;rw[Bool.and_eq_true,List.all_eq_true,List.all_eq_true] at hd;obtain⟨he,hp⟩:=hd;have ahu:∀(i:Nat) (o:Oper),ops[i]? =some o->Co b (o,i)=true:=λi o ho=>he (o,i) (List.mk_mem_zipIdx_iff_getElem?.2 (by rw[Array.getElem?_toList];exact ho))
 have pair:∀(i j:Nat) (s r:aO),ss[i]? =some s->ss[j]? =some r->i≠j->A2 b ss.zipIdx s i r j=true/\(i==j)=false:=λi j s r h1 h2 fB=>by have:=hp (s,i) (List.mk_mem_zipIdx_iff_getElem?.2 h1);rw[List.all_eq_true] at this;exact⟨this (r,j) (List.mk_mem_zipIdx_iff_getElem?.2 h2),by simpa using fB⟩
 have ahv:∀(i j:Nat),(ss.zipIdx.all λq=>!(decide (q.2<j)&&q.1.uf)||bt b q.2 i)=true->∀(e:Nat) (q:aO),ss[e]? =some q->e<j->q.uf=true->bt b e i=true:=λi j h e q hq de TF=>by rw[List.all_eq_true] at h;have:=h (q,e) (List.mk_mem_zipIdx_iff_getElem?.2 hq);simpa[de,TF] using this
 refine⟨by rw[hl];simp,λi o ho=>hg i o (by rw[Array.getElem?_toList];exact ho),λi o ho=>?_,λi o ho e hem hb=>?_,λi j s r d h1 h2 h3 h4=>?_,λi j s r de h1 h2 h3 h4=>?_,λi j s r h1 h2 h3 h4 de hb=>?_,λi j s r d fB h1 h2 h3 h4=>?_⟩
 .have:=ahu i o ho;unfold Co at this;rw[Bool.and_eq_true] at this;simpa using this.1
 .have:=ahu i o ho;unfold Co at this;rw[Bool.and_eq_true,List.all_eq_true] at this;have:=this.2 e (by simpa using hem);simpa[hb] using this
 .refine Classical.byContradiction λfB=>?_
  obtain⟨g,g'⟩:=pair i j s r h1 h2 fB;unfold A2 at g;rw[h3,h4] at g;simp[g'] at g
 .obtain⟨g,g'⟩:=pair i j s r h1 h2 (by omega);unfold A2 at g;rw[g',Bool.false_or,Bool.and_eq_true,Bool.and_eq_true,Bool.and_eq_true] at g;have:=g.1.1.2;simpa[de,h3,h4] using this
 .obtain⟨g,g'⟩:=pair i j s r h1 h2 (by omega);unfold A2 at g;rw[g',Bool.false_or,Bool.and_eq_true,Bool.and_eq_true,Bool.and_eq_true] at g;have:=g.2;rw[Bool.or_eq_true] at this;rcases this with h|h
  .simp[h3,h4,de,hb] at h
  .exact ahv i j h
 .obtain⟨g,g'⟩:=pair i j s r h1 h2 fB;unfold A2 at g;rw[g',Bool.false_or,Bool.and_eq_true,Bool.and_eq_true,Bool.and_eq_true,h3] at g;have:=g.1.2;dsimp only at this;rw[Bool.or_eq_true] at this;rcases this with h|h
  .rw[List.contains_iff_mem.2 h4] at h;cases h
  .split at h
   .rename_i de;rw[Bool.and_eq_true,Bool.or_eq_true] at h;refine .inl ⟨de,h.1,λhpd=>?_⟩;rcases h.2 with h|h
    .rw[hpd] at h;cases h
    .exact ahv i j h
   .exact .inr ⟨by omega,h⟩
theorem HG{i j:Nat}{s r:aO}(h1:ss[i]? =some s)(h2:ss[j]? =some r)(hl:s.Ld=true)(he:r.uf=true)(b1:bt b i j=false)(b2:bt b j i=false):(i,j)∈rj b ss.zipIdx:=by unfold rj;refine List.mem_flatMap.2 ⟨(s,i),List.mk_mem_zipIdx_iff_getElem?.2 h1,?_⟩;dsimp only;rw[if_pos hl];exact List.mem_filterMap.2 ⟨(r,j),List.mk_mem_zipIdx_iff_getElem?.2 h2,by simp[he,b1,b2]⟩
theorem HA:∀{ss:List aO} {fr dT:List AV} {h h':af},c7 C ss fr h=some (dT,h')->
 ∃(F:Nat->List AV) (H:Nat->af),F 0=fr/\H 0=h/\F ss.length=dT/\H ss.length=h'/\∀(i:Nat) (s:aO),ss[i]? =some s->cJ C s (F i) (H i)=some (F (i+1),H (i+1))
 |[],fr,dT,h,h',he=>by simp only[c7,Option.some.injEq,Prod.mk.injEq] at he;obtain⟨rfl,rfl⟩:=he;exact⟨λ_=>fr,λ_=>h,rfl,rfl,rfl,rfl,λi s hs=>by simp at hs⟩
 |s::ss,fr,dT,h,h',he=>by
   simp only[c7] at he;split at he
   .rename_i x7 h1 h2;obtain⟨F,H,g1,g2,g3,g4,g5⟩:=HA he;refine⟨λi=>match i with|0=>fr|i+1=>F i,λi=>match i with|0=>h|i+1=>H i,rfl,rfl,g3,g4,λi r hr=>?_⟩
    cases i with
    |zero=>simp only[List.getElem?_cons_zero,Option.some.injEq] at hr;subst hr;dsimp only;rw[g1,g2];exact h2
    |succ i=>exact g5 i r (by simpa using hr)
   .cases he
theorem T6:∀{ss:List aO} {fr dT:List AV} {h h':af} {tr:List (Nat×af×af)},ue C ss fr h=some (dT,h',tr)->
 ∃(F:Nat->List AV) (H:Nat->af),F 0=fr/\H 0=h/\F ss.length=dT/\H ss.length=h'/\
   ∀(i:Nat) (s:aO),ss[i]? =some s->∃ho:af,cJ C s (F i) {H i with md:=(H i).next}=some (F (i+1),ho)/\H (i+1)={ho with md:=min (H i).md ho.md}/\∃hb:af,hb.get=(H i).get/\tr[i]? =some (B7 s (F i),hb,ho)
 |[],fr,dT,h,h',tr,he=>by simp only[ue,Option.some.injEq,Prod.mk.injEq] at he;obtain⟨rfl,rfl,_⟩:=he;exact⟨λ_=>fr,λ_=>h,rfl,rfl,rfl,rfl,λi s hs=>by simp at hs⟩
 |s::ss,fr,dT,h,h',tr,he=>by
   simp only[ue] at he;split at he
   .rename_i x7 h1 h2;obtain⟨⟨fr2,h3,tr2⟩,h4,e⟩:=Option.map_eq_some_iff.1 he;cases e;obtain⟨F,H,g1,g2,g3,g4,g5⟩:=T6 h4;refine⟨λi=>match i with|0=>fr|i+1=>F i,λi=>match i with|0=>h|i+1=>H i,rfl,rfl,g3,g4,λi r hr=>?_⟩
    cases i with
    |zero=>simp only[List.getElem?_cons_zero,Option.some.injEq] at hr;subst hr;dsimp only;rw[g1,g2];exact⟨h1,h2,rfl,h,rfl,rfl⟩
    |succ i=>obtain⟨ho,q1,q2,hb,qb,q3⟩:=g5 i r (by simpa using hr);exact⟨ho,q1,q2,hb,qb,by simpa using q3⟩
   .cases he
theorem Tr.of_steps{F:Nat->List AV}{H:Nat->af}(qS:∀(i:Nat) (s:aO),ss[i]? =some s->cJ C s (F i) (H i)=some (F (i+1),H (i+1)))(hp:rj b ss.zipIdx=[]):Tr C ss b F H:=by refine⟨λi s hs=>⟨H i,H (i+1),qS i s hs,af.alike_refl _,af.alike_refl _⟩,λi j s r n x id off h1 h2 h3 h4 h5 h6 h7=>?_⟩;have:=HG (b:=b) h1 h2 (by unfold aO.Ld;rw[h3]) h5 h6 h7;rw[hp] at this;cases this
mutual
theorem AV.Uh:∀(a b:AV),a.Md b=true->a=b:=λa b h=>by
 cases a<;>cases b<;>simp only[AV.Md,Bool.and_eq_true,beq_iff_eq,decide_eq_true_eq,Bool.false_eq_true] at h
 case bool.bool=>exact congrArg _ h
 case int.int=>obtain⟨rfl,rfl⟩:=h;rfl
 case str.str=>exact congrArg _ h
 case ptr.ptr=>rw[Nat.eq_of_beq_eq_true h.1,Nat.eq_of_beq_eq_true h.2]
 case ip.ip=>exact congrArg _ (AV.rX _ _ h)
 case sl.sl=>exact congrArg _ (AV.rX _ _ h)
 case vec.vec=>obtain⟨⟨⟨⟨h1,h2⟩,h3⟩,h4⟩,h5⟩:=h;rw[Nat.eq_of_beq_eq_true h1,Nat.eq_of_beq_eq_true h2,Nat.eq_of_beq_eq_true h3,Nat.eq_of_beq_eq_true h4,Nat.eq_of_beq_eq_true h5]
 case map.map=>exact congrArg _ (Nat.eq_of_beq_eq_true h)
 case fn.fn=>obtain⟨h1,h⟩:=h;rw[Nat.eq_of_beq_eq_true h1,AV.rX _ _ h]
 case iface.iface=>obtain⟨h1,h⟩:=h;rw[Nat.eq_of_beq_eq_true h1,AV.Uh _ _ h]
 case agg.agg=>exact congrArg _ (AV.rX _ _ h)
 case tuple.tuple=>exact congrArg _ (AV.rX _ _ h)
 all_goals rfl
theorem AV.rX:∀(a b:List AV),AV.A7 a b=true->a=b:=λa b h=>by
 cases a with
 |nil=>cases b with
   |nil=>rfl
   |cons y s=>simp[AV.A7] at h
 |cons x r=>cases b with
   |nil=>simp[AV.A7] at h
   |cons y s=>simp only[AV.A7,Bool.and_eq_true] at h;rw[AV.Uh x y h.1,AV.rX r s h.2]
end
theorem U2{a b:Option aS}(h:P0 a b=true):a=b:=by
 unfold P0 at h;split at h
 .rw[AV.rX _ _ h]
 .cases h
theorem Wk{r:aO}{fr dT:List AV}{h h':af}{id:Nat}(he:r.uf=true)(h0:0<B7 r fr)(fB:¬id+1=B7 r fr)(tO:cJ C r fr h=some (dT,h')):h'.get id=h.get id:=by
 obtain⟨dst,op,guard⟩:=r;unfold B7 at h0 fB;unfold aO.uf at he
 cases op with
 |call f args=>simp at h0
 |lg x args=>simp at h0
 |op o=>
   cases o with
   |ld n x=>simp at he
   |st n x v=>
     dsimp only at h0 fB;unfold cJ at tO;dsimp only at tO;split at tO
     .cases tO
     .cases tO;rfl
     .obtain⟨⟨v1,h1⟩,h2,e⟩:=Option.map_eq_some_iff.1 tO;cases e;simp only[bC] at h2;split at h2
      .rename_i tid off vs hx hv;rw[hx] at h0 fB;split at h2
       .rename_i cs qQ;split at h2
        .cases h2;rw[af.lh];exact af.get_set_other (by dsimp only at fB;omega)
        .cases h2
       .cases h2
      .cases h2
   |_=>simp at h0
theorem Tr.agP(hC:ph C){F:Nat->List AV}{H:Nat->af}{tr:List (Nat×af×af)}
 (qS:∀(i:Nat) (s:aO),ss[i]? =some s->∃ho:af,cJ C s (F i) {H i with md:=(H i).next}=some (F (i+1),ho)/\H (i+1)={ho with md:=min (H i).md ho.md}/\∃hb:af,hb.get=(H i).get/\tr[i]? =some (B7 s (F i),hb,ho))
 (hw:(H 0).wf) (hp:LN tr (rj b ss.zipIdx)=true):Tr C ss b F H:=by
 have wfs:∀j,j<=ss.length->(H j).wf:=λj=>by
  induction j with
  |zero=>exact λ_=>hw
  |succ j ih=>intro hj;obtain⟨ho,g1,g2,_⟩:=qS j _ (List.getElem?_eq_getElem (show j<ss.length by omega));have:=(CW.Yx (CU hC g1) (ih (by omega))).2;rw[g2];exact this
 refine⟨λi s hs=>?_,λi j s r n x id off h1 h2 h3 h4 h5 h6 h7=>?_⟩
 .obtain⟨ho,g1,g2,g3⟩:=qS i s hs;exact⟨_,ho,g1,⟨rfl,rfl⟩,by rw[g2];exact⟨rfl,rfl⟩⟩
 .have hm:=HG (b:=b) h1 h2 (by unfold aO.Ld;rw[h3]) h5 h6 h7;unfold LN at hp;rw[List.all_eq_true] at hp;have hp:=hp _ hm;obtain⟨ho,g1,g2,hb,gb,g3⟩:=qS i s h1;obtain⟨Fm,g1',g2',Fk,gb',g3'⟩:=qS j r h2;dsimp only at hp;rw[g3,g3'] at hp;have e:B7 s (F i)=id+1:=by unfold B7;rw[h3];dsimp only;rw[h4]
  rw[e] at hp;rw[g2'];rw[Bool.or_eq_true,Bool.or_eq_true] at hp;rcases hp with (hp|hp)|hp
  .have de:id<Fm.md:=by
    have:id+1<=Fm.md:=by simpa using hp
    omega
   have c:=(CU hC g1' (wfs j (by have:=(List.getElem?_eq_some_iff.1 h2).1;omega))).1;have dh:=c.md;exact c.same id de (by dsimp only at dh|-;omega)
  .simp only[Bool.and_eq_true,decide_eq_true_eq,Bool.not_eq_true',beq_eq_false_iff_ne] at hp;have ho:=Wk h5 hp.1 hp.2 g1';exact ho
  .simp only[Bool.and_eq_true,Nat.add_sub_cancel] at hp;have ho:=U2 hp.2;rw[gb'] at ho;exact ho.symm
end
end
section
section
variable {C:Nat->List AV->af->Option (AV×af)}
theorem sv(n0:Nat):∀(fr:List AV) (aJ:List Nat),aJ.Nodup->(∀id∈aJ,n0<=id)->(aQ n0 fr aJ).Nodup/\(∀id∈aQ n0 fr aJ,n0<=id)/\(∀id∈aJ,id∈aQ n0 fr aJ)/\
 ∀v∈fr,∀id,v.top=some id->n0<=id->id∈aQ n0 fr aJ
 |[],aJ,h1,h2=>⟨h1,h2,λ_ h=>h,λv hv=>by cases hv⟩
 |v::r,aJ,h1,h2=>by
   have skip:(∀id,v.top=some id->n0<=id->id∈aJ)->aQ n0 (v::r) aJ=aQ n0 r aJ->(aQ n0 (v::r) aJ).Nodup/\(∀id∈aQ n0 (v::r) aJ,n0<=id)/\(∀id∈aJ,id∈aQ n0 (v::r) aJ)/\
    ∀u∈v::r,∀id,u.top=some id->n0<=id->id∈aQ n0 (v::r) aJ:=λhv he=>by
    obtain⟨g1,g2,g3,g4⟩:=sv n0 r aJ h1 h2;rw[he];refine⟨g1,g2,g3,λu hu id e hle=>?_⟩
    cases hu with
    |head=>exact g3 id (hv id e hle)
    |tail _ hu=>exact g4 u hu id e hle
   cases ht:v.top with
   |none=>exact skip (λid e=>by rw[ht] at e;cases e) (by simp only[aQ,ht])
   |some id=>
     by_cases hc:n0<=id/\aJ.contains id=false
     .have hk:aQ n0 (v::r) aJ=aQ n0 r (aJ++[id]):=by simp only[aQ,ht];rw[if_pos hc]
      have hni:id∉aJ:=λhm=>by have:=List.contains_iff_mem.2 hm;rw[hc.2] at this;cases this
      obtain⟨g1,g2,g3,g4⟩:=sv n0 r (aJ++[id]) (by
       rw[List.nodup_append];refine⟨h1,by simp,λx hx y hy=>?_⟩;rw[List.mem_singleton] at hy;subst hy;exact λe=>hni (e▸hx)) (λx hx=>by
       rcases List.mem_append.1 hx with hx|hx
       .exact h2 x hx
       .rw[List.mem_singleton] at hx;rw[hx];exact hc.1)
      rw[hk];refine⟨g1,g2,λx hx=>g3 x (List.mem_append_left _ hx),λu hu x e hle=>?_⟩
      cases hu with
      |head=>
        have e':id=x:=by rw[ht] at e;exact Option.some.inj e
        exact g3 x (by rw[e'];simp)
      |tail _ hu=>exact g4 u hu x e hle
     .refine skip (λx e hle=>?_) (by simp only[aQ,ht];rw[if_neg hc]);have e':id=x:=by rw[ht] at e;exact Option.some.inj e
      subst e';by_cases hm:aJ.contains id=false
      .exact absurd ⟨hle,hm⟩ hc
      .exact List.contains_iff_mem.1 (by simpa using hm)
theorem uz{h:af}{n0:Nat}:∀{ks:List Nat} {os:List aS},nW h n0 ks=some os->os.length=ks.length/\∀(i:Nat) (id:Nat),ks[i]? =some id->∃o,os[i]? =some o/\h.get id=some o/\sc n0 o=true
 |[],os,he=>by simp only[nW,Option.some.injEq] at he;subst he;exact⟨rfl,λi id hi=>by simp at hi⟩
 |k::ks,os,he=>by
   simp only[nW] at he;split at he
   .rename_i o mW h1 h2;split at he
    .rename_i h3;cases he;obtain⟨g1,g2⟩:=uz h2;refine⟨by simp[g1],λi id hi=>?_⟩
     cases i with
     |zero=>simp only[List.getElem?_cons_zero,Option.some.injEq] at hi;subst hi;exact⟨o,by simp,h1,h3⟩
     |succ i=>exact g2 i id (by simpa using hi)
    .cases he
   .cases he
theorem El{n0:Nat}{fr:List AV}{h:af}(Fo:h.wf):(KB n0 fr h=(fr,h))\/∃os,nW h n0 (aQ n0 fr [])=some os/\n0<=h.wl/\n0<=h.next/\(∀v∈fr,v.top.isSome=true\/v.aK<=n0)/\
 (KB n0 fr h).1=fr.map (fA n0 (aQ n0 fr []))/\(KB n0 fr h).2.next=n0+os.length/\(KB n0 fr h).2.wl=h.wl/\(KB n0 fr h).2.md=h.md/\(KB n0 fr h).2.wf/\
 (∀id,id<n0->(KB n0 fr h).2.get id=h.get id)/\∀i,(KB n0 fr h).2.get (n0+i)=os[i]?:=by
 unfold KB;split
 .rename_i os QU;split
  .rename_i hc;refine .inr ⟨os,QU,hc.1,hc.2.1,λv hv=>?_,rfl,rfl,rfl,rfl,?_,λid bZ=>?_,λi=>?_⟩
   .have:=List.all_eq_true.1 hc.2.2 v hv;simpa using this
   .unfold af.wf at Fo|-;simp only[List.length_append,List.length_reverse,List.length_drop,Fo];omega
   .unfold af.get;dsimp only;rw[if_pos (by omega),if_pos (by omega),List.getElem?_append_right (by simp;omega),List.getElem?_drop];congr 1;simp;omega
   .unfold af.get;dsimp only;by_cases hi:i<os.length
    .rw[if_pos (by omega),List.getElem?_append_left (by simp;omega),List.getElem?_reverse (by omega)];congr 1;omega
    .rw[if_neg (by omega),List.getElem?_eq_none (by omega)]
  .exact .inl rfl
 .exact .inl rfl
theorem my(n0:Nat):∀(a b:List AV) (aJ:List Nat),aQ n0 (a++b) aJ=aQ n0 b (aQ n0 a aJ)
 |[],b,aJ=>rfl
 |v::r,b,aJ=>by
   rw[List.cons_append];simp only[aQ];split
   .split
    .exact my n0 r b _
    .exact my n0 r b _
   .exact my n0 r b _
theorem zf{v:AV}:∀{os:List aS} {o:aS},o∈os->v∈jd o->v∈ji os
 |a::r,o,ho,hv=>by
   rw[ji,List.mem_append]
   cases ho with
   |head=>exact .inl hv
   |tail _ ho=>exact .inr (zf ho hv)
theorem IE{n0:Nat}{ks:List Nat}{v:AV}(h:v.aK<=n0):fA n0 ks v=v:=by cases v<;>simp only[fA]<;>simp only[AV.aK] at h<;>rw[p9,if_pos (by omega)]
theorem E6{n0:Nat}{ks:List Nat}{o:aS}(h:dB n0 o=true):qC n0 ks o=o:=by
 unfold dB at h;rw[List.all_eq_true] at h
 cases o with
 |row cs=>
   simp only[qC,aS.row.injEq];have:∀v∈cs,fA n0 ks v=v:=λv hv=>IE (by simpa using h v hv)
   simpa using List.map_congr_left this
 |map es=>
   simp only[qC,aS.map.injEq]
   have:∀e∈es,(fA n0 ks e.1,fA n0 ks e.2)=e:=λe he=>by have h1:=h e.1 (by simp only[jd,List.mem_flatMap];exact⟨e,he,by simp⟩);have h2:=h e.2 (by simp only[jd,List.mem_flatMap];exact⟨e,he,by simp⟩);rw[IE (by simpa using h1),IE (by simpa using h2)]
   simpa using List.map_congr_left this
 |dead=>rfl
theorem Ey{n0:Nat}{fr:List AV}{h:af}(Fo:h.wf):(Js n0 fr h=(fr,h))\/∃ks os,nW h n0 ks=some os/\ks.Nodup/\(∀id∈ks,n0<=id)/\n0<=h.next/\(∀v∈fr,(v.top.isSome=true\/v.aK<=n0)/\∀id,v.top=some id->n0<=id->id∈ks)/\
 (∀id o,id<n0->h.get id=some o->∀v∈jd o,(v.top.isSome=true\/v.aK<=n0)/\∀id,v.top=some id->n0<=id->id∈ks)/\
 (Js n0 fr h).1=fr.map (fA n0 ks)/\(Js n0 fr h).2.next=n0+os.length/\(Js n0 fr h).2.wl=h.wl/\(Js n0 fr h).2.md=min h.md h.wl/\(Js n0 fr h).2.wf/\
 (∀id,id<n0->(Js n0 fr h).2.get id=(h.get id).map (qC n0 ks))/\(∀i,(Js n0 fr h).2.get (n0+i)=os[i]?)/\
 ∀id o,id<n0->id<h.wl->h.get id=some o->dB n0 o=true:=by
 unfold Js;split
 .rename_i os QU;split
  .rename_i hc;obtain⟨hc1,Ji,hc3,hc4⟩:=hc;rw[<-my] at QU|-;generalize hol:h.gS.drop (h.next-n0)=ol at *;have cT:ol.length=n0:=by rw[<-hol,List.length_drop,Fo];omega
   have ug:∀id,id<n0->h.get id=ol[n0-1-id]?:=λid bZ=>by unfold af.get;rw[if_pos (by omega),<-hol,List.getElem?_drop];congr 1;omega
   obtain⟨k1,k2,_,k4⟩:=sv n0 (fr++ji ol) [] List.nodup_nil (λid bZ=>by cases bZ);refine .inr ⟨_,os,QU,k1,k2,hc1,λv hv=>⟨?_,λid=>k4 v (List.mem_append_left _ hv) id⟩,λid o bZ hg v hv=>?_,rfl,rfl,rfl,rfl,?_,λid bZ=>?_,λi=>?_,λid o bZ hw hg=>?_⟩
   .have:=List.all_eq_true.1 Ji v hv;simpa[th] using this
   .rw[ug id bZ] at hg;have hm:=zf (List.mem_of_getElem? hg) hv;have:=List.all_eq_true.1 hc3 v hm;exact⟨by simpa[th] using this,λXI=>k4 v (List.mem_append_right _ hm) XI⟩
   .unfold af.wf;simp only[List.length_append,List.length_reverse,List.length_map,cT];omega
   .rw[ug id bZ];unfold af.get;dsimp only;rw[if_pos (by omega),List.getElem?_append_right (by simp;omega),List.getElem?_map];congr 2;simp;omega
   .unfold af.get;dsimp only;by_cases hi:i<os.length
    .rw[if_pos (by omega),List.getElem?_append_left (by simp;omega),List.getElem?_reverse (by omega)];congr 1;omega
    .rw[if_neg (by omega),List.getElem?_eq_none (by omega)]
   .rw[ug id bZ] at hg;refine List.all_eq_true.1 hc4 o (List.mem_of_getElem? (i:=n0-1-id-(n0-h.wl)) ?_);rw[List.getElem?_drop,<-hg];congr 1;omega
  .exact .inl rfl
 .exact .inl rfl
theorem ac1{he h:af}{fr:List AV}(Fo:h.wf)(c:CL he h):CL he (KB he.next fr h).2:=by
 rcases El (n0:=he.next) (fr:=fr) Fo with e|⟨os,h1,h2,h3,h4,h5,h6,h7,h8,h9,kj,pE⟩
 .rw[e];exact c
 .refine⟨by rw[h6];omega,by rw[h7];exact c.wl,λn q1 q2 q3 id bZ=>?_,by rw[h8];exact c.md,λid q1 q2=>?_⟩
  .have:=c.le n q1 (by rw[<-h7];exact q2) q3 id bZ;unfold oZ at this|-;rw[kj id (by omega)];exact this
  .rw[kj id q2];exact c.same id (by rw[<-h8];exact q1) q2
theorem adW{he h:af}{fr:List AV}(Fo:h.wf)(c:CL he h):CL he (Js he.next fr h).2:=by
 rcases Ey (n0:=he.next) (fr:=fr) Fo with e|⟨ks,os,h1,_,_,h3,_,_,h5,h6,h7,h8,h9,kj,pE,h12⟩
 .rw[e];exact c
 .have ahx:∀id,id<he.next->id<h.wl->(Js he.next fr h).2.get id=h.get id:=λid q1 q2=>by
   rw[kj id q1]
   cases hg:h.get id with
   |none=>rfl
   |some o=>rw[Option.map_some,E6 (h12 id o q1 q2 hg)]
  refine⟨by rw[h6];omega,by rw[h7];exact c.wl,λn q1 q2 q3 id bZ=>?_,by rw[h8];have:=c.md;omega,λid q1 q2=>?_⟩
  .rw[h7] at q2;have:=c.le n q1 q2 q3 id bZ;unfold oZ at this|-;rw[ahx id (by omega) (by omega)];exact this
  .rw[h8] at q1;rw[ahx id q2 (by omega)];exact c.same id (by omega) q2
theorem afJ{he h:af}{fr:List AV}(Fo:h.wf)(c:CL he h):CL he (gc he.next fr h).2:=by
 unfold gc;split
 .exact ac1 Fo c
 .exact adW Fo c
theorem af3{n0:Nat}{h:af}{fr:List AV}(Fo:h.wf):(gc n0 fr h).2.wf:=by
 unfold gc;split
 .rcases El (n0:=n0) (fr:=fr) Fo with e|⟨os,_,_,_,_,_,_,_,_,h9,_⟩
  .rw[e];exact Fo
  .exact h9
 .rcases Ey (n0:=n0) (fr:=fr) Fo with e|⟨ks,os,h1,_,_,h3,_,_,h5,h6,h7,h8,h9,_⟩
  .rw[e];exact Fo
  .exact h9
theorem W9{he h:af}{fr:List AV}(c:CW he h):CW he (gc he.next fr h).2:=λw=>by obtain⟨c1,w1⟩:=c w;exact⟨afJ w1 c1,af3 w1⟩
theorem IS{B:List AV->af->Option (Ex×List AV×af)}(hB:∀fr h ex dT h',B fr h=some (ex,dT,h')->CW h h'){live:List Bool}{he:af}:∀{m:Nat} {fr dT:List AV} {h h':af} {ex:Ex},wN B live he.next m fr h=some (ex,dT,h')->CW he h->CW he h'
 |0,fr,dT,h,h',ex,tO,_=>by simp[wN] at tO
 |m+1,fr,dT,h,h',ex,tO,c=>by
   simp only[wN] at tO;have c1:=W9 (fr:=clear live fr) c;split at tO
   .rename_i x7 h1 h2;exact IS hB tO (c1.trans (hB _ _ _ _ _ h2))
   .exact c1.trans (hB _ _ _ _ _ tO)
theorem CW.ajA{h h':af}(c:CW {h with wl:=h.next} h'):CW h {h' with wl:=min h.wl h'.wl}:=λw=>by obtain⟨c1,w1⟩:=c w;exact⟨⟨c1.next,Nat.min_le_left _ _,λn h1 h2 h3=>c1.le n h1 (by dsimp only at h2;omega) h3,c1.md,c1.same⟩,w1⟩
theorem zj(hC:ph C){n:Nat}:∀{ac:cw} {fr dT:List AV} {h h':af} {ex:Ex},aF C n ac fr h=some (ex,dT,h')->CW h h':=by
 intro ac
 induction ac with
 |skip=>intro fr dT h h' ex he;simp only[aF,Option.some.injEq,Prod.mk.injEq] at he;obtain⟨_,_,rfl⟩:=he;exact .refl _
 |exit id _=>intro fr dT h h' ex he;simp only[aF,Option.some.injEq,Prod.mk.injEq] at he;obtain⟨_,_,rfl⟩:=he;exact .refl _
 |ret _=>intro fr dT h h' ex he;simp only[aF,Option.some.injEq,Prod.mk.injEq] at he;obtain⟨_,_,rfl⟩:=he;exact .refl _
 |mK ops=>intro fr dT h h' ex he;simp only[aF,Option.map_eq_some_iff] at he;obtain⟨⟨x7,h1⟩,he,e⟩:=he;cases e;exact Lo hC he
 |nG ops Yi=>
   intro fr dT h h' ex he;simp only[aF] at he;split at he
   .rename_i x7 h1 tr htr;split at he
    .cases he;exact aaY hC htr
    .cases he
   .cases he
 |seq a b iha ihb=>
   intro fr dT h h' ex he;simp only[aF] at he;split at he
   .rename_i x7 h1 h2;exact (iha h2).trans (ihb he)
   .exact iha he
 |cond c a b iha ihb=>
   intro fr dT h h' ex he;simp only[aF] at he;split at he
   .split at he
    .exact iha he
    .exact ihb he
   .cases he
 |block id a iha=>
   intro fr dT h h' ex he;simp only[aF] at he;split at he
   .rename_i i x7 h1 h2;cases he;exact iha h2
   .exact iha he
 |loop live a iha=>intro fr dT h h' ex he;simp only[aF] at he;obtain⟨⟨ex1,x7,h1⟩,h2,e⟩:=Option.map_eq_some_iff.1 he;cases e;exact CW.ajA (W9 (he:={h with wl:=h.next}) (fr:=x7) (IS (he:={h with wl:=h.next}) (λfr h ex dT h' he=>iha he) h2 (.refl _)))
end
end
section
variable {X:World->Prop}
section
variable {P:Program}{C:Nat->List AV->af->Option (AV×af)}
def ad3:Ex->Exit
 |.normal=>.normal
 |.exit id=>.exit id
 |.ret=>.ret
theorem Ep{φ:eh}{h:af}{w:World}:∀{live:List Bool} {fr:List AV} {tm:Array Value},FR φ h w fr tm->FR φ h w (clear live fr) tm:=by
 have len:∀(live:List Bool) (fr:List AV),(clear live fr).length=fr.length:=by
  intro live
  induction live with
  |nil=>intro fr;cases fr<;>rfl
  |cons b r ih=>intro fr;cases fr with
    |nil=>rfl
    |cons v vs=>simp[clear,ih]
 have get:∀(live:List Bool) (fr:List AV) (t:Nat),(clear live fr).getD t .undef=fr.getD t .undef\/(clear live fr).getD t .undef=.undef:=by
  intro live
  induction live with
  |nil=>intro fr t;cases fr<;>exact .inl rfl
  |cons b r ih=>intro fr t;cases fr with
    |nil=>exact .inl rfl
    |cons v vs=>
      cases t with
      |zero=>cases b<;>simp[clear]
      |succ t=>simpa[clear] using ih vs t
 intro live fr tm hf;refine⟨by rw[len];exact hf.1,λt=>?_⟩;rcases get live fr t with e|e
 .rw[e];exact hf.2 t
 .rw[e];exact .undef _
def abC(P:Program)(X:World->Prop)(C:Nat->List AV->af->Option (AV×af))(n:Nat)(ac:cw)(c:Code):Prop:=
 ∀⦃φ:eh⦄ ⦃h h':af⦄ ⦃w:World⦄ ⦃fr dT:List AV⦄ ⦃a:Act⦄ ⦃ex:Ex⦄,aF C n ac fr h=some (ex,dT,h')->FR φ h w fr a.tmps->HR φ h w->je P X φ h w->∀⦃Q:Exit->Act->World->Prop⦄,
   (∀φ' a' w',FR φ' h' w' dT a'.tmps->HR φ' h' w'->Ext φ h w φ' h' w'->a'.defers=a.defers->Q (ad3 ex) a' w')->c.wp P Q a w
theorem adn{φ φe:eh}{h he:af}{w we:World}{fr:List AV}{tm:Array Value}(hr:HR φ h w)(hf:FR φ h w fr tm)(hx:Ext φe he we φ h w)(yd:HR φe he we)(c:CL he h):
 ∃φ',HR φ' (KB he.next fr h).2 w/\FR φ' (KB he.next fr h).2 w (KB he.next fr h).1 tm/\Ext φe he we φ' (KB he.next fr h).2 w:=by
 rcases El (n0:=he.next) (fr:=fr) hr.wf with e|⟨os,h1,h2,h3,h4,h5,h6,h7,h8,h9,kj,pE⟩
 .rw[e];exact⟨φ,hr,hf,hx⟩
 .rw[h5];generalize Jw:he.next=n0 at *
  generalize hks:aQ n0 fr []=ks at *;generalize hg:(KB n0 fr h).2=g at *;obtain⟨k1,k2,_,k4⟩:=sv n0 fr [] List.nodup_nil (λid bZ=>by cases bZ);rw[hks] at k1 k2 k4;obtain⟨o1,o2⟩:=uz h1;have hle:=c.le n0 (by omega) h2 (λid bZ=>by have:=yd.Qk id (by omega);rw[Jw] at this;exact this)
  let φ':eh:=⟨λid=>if id<n0 then φ id else φ (ks.getD (id-n0) 0),φ.gh⟩
  have Fy:∀id,id<n0->φ' id=φ id:=λid bZ=>if_pos bZ
  have new:∀(i:Nat) (id:Nat),ks[i]? =some id->φ' (n0+i)=φ id:=λi id hi=>by show (if n0+i<n0 then φ (n0+i) else φ (ks.getD (n0+i-n0) 0))=φ id;rw[if_neg (by omega),Nat.add_sub_cancel_left,List.getD_eq_getElem?_getD,hi];rfl
  have lv:∀id,live g id->∃nU,live h nU/\φ' id=φ nU/\((id<n0/\nU=id)\/(n0<=id/\ks[id-n0]? =some nU)):=λid hl=>by
   obtain⟨o,ho,hd⟩:=hl;rcases Nat.lt_or_ge id n0 with bZ|bZ
   .rw[kj id bZ] at ho;exact⟨id,⟨o,ho,hd⟩,Fy id bZ,.inl ⟨bZ,rfl⟩⟩
   .have e:id=n0+(id-n0):=by omega
    rw[e,pE] at ho;have de:=(List.getElem?_eq_some_iff.1 ho).1;have hk:=List.getElem?_eq_getElem (show id-n0<ks.length by omega);obtain⟨o',q1,q2,q3⟩:=o2 _ _ hk;rw[ho] at q1;cases q1;refine⟨_,⟨o,q2,hd⟩,?_,.inr ⟨bZ,hk⟩⟩;have:=new (id-n0) _ hk;rw[<-e] at this;exact this
  have pr:∀b,Pr φ h w b->Pr φ' g w b:=λb hb=>⟨hb.1,λid hl=>by obtain⟨nU,l0,e0,_⟩:=lv id hl;rw[e0];exact hb.2.1 nU l0,hb.2.2⟩
  have mv:∀v cv,v.aK<=n0->eZ φ h w v cv->eZ φ' g w v cv:=λv cv hv Mv=>Mv.mono (λid q1 q2=>⟨Fy id (by omega),by rw[h6];omega⟩) λb hb=>⟨pr b hb,rfl⟩
  have rowOf:∀id nU cs,φ' id=φ nU->h.get nU=some (.row cs)->AV.aj cs<=n0->uw φ' g w id cs:=λid nU cs e0 hg0 wI=>by obtain⟨cc,el,fz,r1,r2,r3,r4,r5,r6⟩:=hr.rows nU cs hg0;refine⟨cc,el,fz,by rw[e0];exact r1,by rw[e0];exact r2,by rw[e0];exact r3,r4,by rw[e0];exact r5,λj hj=>?_⟩;rw[e0];refine mv _ _ ?_ (r6 j hj);have:=AV.cM (List.getElem_mem hj);omega
  have mapOf:∀id nU es,φ' id=φ nU->h.get nU=some (.map es)->(∀e∈es,e.1.aK<=n0/\e.2.aK<=n0)->zg φ' g w id es:=λid nU es e0 hg0 wI=>by obtain⟨fU,oW,r1,r2,r3⟩:=hr.maps nU es hg0;refine⟨fU,oW,by rw[e0];exact r1,r2,λj hj=>?_⟩;have:=wI _ (List.getElem_mem hj);exact⟨mv _ _ this.1 (r3 j hj).1,mv _ _ this.2 (r3 j hj).2⟩
  have kept:∀id o,n0<=id->g.get id=some o->∃nU,ks[id-n0]? =some nU/\h.get nU=some o/\sc n0 o=true/\φ' id=φ nU:=λid o bZ ho=>by
   have e:id=n0+(id-n0):=by omega
   have Fm:=ho;rw[e,pE] at Fm;have de:=(List.getElem?_eq_some_iff.1 Fm).1;have hk:=List.getElem?_eq_getElem (show id-n0<ks.length by omega);obtain⟨o',q1,q2,q3⟩:=o2 _ _ hk;rw[Fm] at q1;cases q1;refine⟨_,hk,q2,q3,?_⟩;have:=new (id-n0) _ hk;rw[<-e] at this;exact this
  have Mt:HR φ' g w:=by
   refine⟨h9,λid cs Mx=>?_,λid es Mx=>?_,λi j hi hj tK=>?_,λb hb=>⟨(hr.gh b hb).1,λid hl=>?_⟩⟩
   .rcases Nat.lt_or_ge id n0 with bZ|bZ
    .rw[kj id bZ] at Mx;exact rowOf id id cs (Fy id bZ) Mx ((hle id bZ).1 cs Mx)
    .obtain⟨nU,_,q2,q3,q4⟩:=kept id _ bZ Mx;exact rowOf id nU cs q4 q2 (by simpa[sc] using q3)
   .rcases Nat.lt_or_ge id n0 with bZ|bZ
    .rw[kj id bZ] at Mx;exact mapOf id id es (Fy id bZ) Mx ((hle id bZ).2 es Mx)
    .obtain⟨nU,_,q2,q3,q4⟩:=kept id _ bZ Mx;refine mapOf id nU es q4 q2 λe hem=>?_
     simp only[sc,List.all_eq_true] at q3;simpa using q3 e hem
   .obtain⟨i0,li,ei,ci⟩:=lv i hi;obtain⟨j0,lj,ej,cj⟩:=lv j hj;rw[ei,ej] at tK;have aem:=hr.inj i0 j0 li lj tK;rcases ci with⟨ci1,ci2⟩|⟨ci1,ci2⟩<;>rcases cj with⟨cj1,cj2⟩|⟨cj1,cj2⟩
    .omega
    .have:=k2 j0 (List.mem_of_getElem? cj2);omega
    .have:=k2 i0 (List.mem_of_getElem? ci2);omega
    .rw[aem] at ci2;obtain⟨x1,y1⟩:=List.getElem?_eq_some_iff.1 ci2;obtain⟨x2,y2⟩:=List.getElem?_eq_some_iff.1 cj2;have:=(List.getElem_inj (h₀:=x1) (h₁:=x2) k1).1 (y1.trans y2.symm);omega
   .obtain⟨nU,l0,e0,_⟩:=lv id hl;rw[e0];exact (hr.gh b hb).2 nU l0
  have idx:∀id,n0<=id->id∈ks->φ' (n0+ks.idxOf id)=φ id/\n0+ks.idxOf id<g.next:=λid bZ hm=>by have de:=List.idxOf_lt_length_of_mem hm;exact⟨new _ _ (by rw[List.getElem?_eq_getElem de,List.getElem_idxOf]),by rw[h6];omega⟩
  have rid:∀v∈fr,∀id,v.top=some id->φ' (p9 n0 ks id)=φ id/\p9 n0 ks id<g.next:=λv hv id ht=>by
   unfold p9;split
   .rename_i bZ;exact⟨Fy id bZ,by rw[h6];omega⟩
   .rename_i bZ;exact idx id (by omega) (k4 v hv id ht (by omega))
  have val:∀v∈fr,∀cv,eZ φ h w v cv->eZ φ' g w (fA n0 ks v) cv:=λv hv cv Mv=>by
   cases ht:v.top with
   |none=>
     have aeo:v.aK<=n0:=by
      rcases h4 v hv with e|e
      .rw[ht] at e;cases e
      .exact e
     have e:fA n0 ks v=v:=by cases v<;>first|rfl|cases ht
     rw[e];exact mv v cv aeo Mv
   |some id=>
     obtain⟨q1,q2⟩:=rid v hv id ht;cases v<;>simp only[AV.top,Option.some.injEq,reduceCtorEq] at ht
     .subst ht;obtain⟨rfl,_⟩:=Mv.vF;rw[<-q1];exact .ptr _ _ q2
     .subst ht;obtain⟨cap,ad,rfl,_,r2,r3,r4,r5⟩:=Mv.kA;rw[<-q1] at r4 r5;exact .vec _ _ _ _ _ cap ad q2 r2 r3 r4 r5
     .subst ht;obtain⟨rfl,_⟩:=Mv.tz;rw[<-q1];exact .map _ q2
  refine⟨φ',Mt,⟨by simp[hf.1],λt=>?_⟩,⟨hx.os,hx.tape,hx.output,hx.size,by rw[h6];omega,λid bZ=>?_,λb hb=>⟨pr b (hx.pr b hb).1,(hx.pr b hb).2⟩,hx.gh⟩⟩
  .have:=hf.2 t;rw[List.getD_eq_getElem?_getD] at this|-;rw[List.getElem?_map]
   cases hv:fr[t]? with
   |none=>exact .undef _
   |some v=>rw[hv] at this;exact val v (List.mem_of_getElem? hv) _ this
  .rw[Jw] at bZ;exact (Fy id bZ).trans (hx.B9 id (by omega))
theorem acZ{φ φe:eh}{h he:af}{w we:World}{fr:List AV}{tm:Array Value}(hr:HR φ h w)(hf:FR φ h w fr tm)(hx:Ext φe he we φ h w)(yd:HR φe he we):
 ∃φ',HR φ' (Js he.next fr h).2 w/\FR φ' (Js he.next fr h).2 w (Js he.next fr h).1 tm/\Ext φe he we φ' (Js he.next fr h).2 w:=by
 rcases Ey (n0:=he.next) (fr:=fr) hr.wf with e|⟨ks,os,h1,k1,k2,h3,h4,h4o,h5,h6,h7,h8,h9,kj,pE,h12⟩
 .rw[e];exact⟨φ,hr,hf,hx⟩
 .rw[h5];generalize Jw:he.next=n0 at *
  generalize hg:(Js n0 fr h).2=g at *;obtain⟨o1,o2⟩:=uz h1
  let φ':eh:=⟨λid=>if id<n0 then φ id else φ (ks.getD (id-n0) 0),φ.gh⟩
  have Fy:∀id,id<n0->φ' id=φ id:=λid bZ=>if_pos bZ
  have new:∀(i:Nat) (id:Nat),ks[i]? =some id->φ' (n0+i)=φ id:=λi id hi=>by show (if n0+i<n0 then φ (n0+i) else φ (ks.getD (n0+i-n0) 0))=φ id;rw[if_neg (by omega),Nat.add_sub_cancel_left,List.getD_eq_getElem?_getD,hi];rfl
  have lv:∀id,live g id->∃nU,live h nU/\φ' id=φ nU/\((id<n0/\nU=id)\/(n0<=id/\ks[id-n0]? =some nU)):=λid hl=>by
   obtain⟨o,ho,hd⟩:=hl;rcases Nat.lt_or_ge id n0 with bZ|bZ
   .rw[kj id bZ] at ho;obtain⟨o',Fm,e⟩:=Option.map_eq_some_iff.1 ho;exact⟨id,⟨o',Fm,λe'=>hd (by rw[<-e,e'];rfl)⟩,Fy id bZ,.inl ⟨bZ,rfl⟩⟩
   .have e:id=n0+(id-n0):=by omega
    rw[e,pE] at ho;have de:=(List.getElem?_eq_some_iff.1 ho).1;have hk:=List.getElem?_eq_getElem (show id-n0<ks.length by omega);obtain⟨o',q1,q2,q3⟩:=o2 _ _ hk;rw[ho] at q1;cases q1;refine⟨_,⟨o,q2,hd⟩,?_,.inr ⟨bZ,hk⟩⟩;have:=new (id-n0) _ hk;rw[<-e] at this;exact this
  have pr:∀b,Pr φ h w b->Pr φ' g w b:=λb hb=>⟨hb.1,λid hl=>by obtain⟨nU,l0,e0,_⟩:=lv id hl;rw[e0];exact hb.2.1 nU l0,hb.2.2⟩
  have mv:∀v cv,v.aK<=n0->eZ φ h w v cv->eZ φ' g w v cv:=λv cv hv Mv=>Mv.mono (λid q1 q2=>⟨Fy id (by omega),by rw[h6];omega⟩) λb hb=>⟨pr b hb,rfl⟩
  have rowOf:∀id nU cs,φ' id=φ nU->h.get nU=some (.row cs)->AV.aj cs<=n0->uw φ' g w id cs:=λid nU cs e0 hg0 wI=>by obtain⟨cc,el,fz,r1,r2,r3,r4,r5,r6⟩:=hr.rows nU cs hg0;refine⟨cc,el,fz,by rw[e0];exact r1,by rw[e0];exact r2,by rw[e0];exact r3,r4,by rw[e0];exact r5,λj hj=>?_⟩;rw[e0];refine mv _ _ ?_ (r6 j hj);have:=AV.cM (List.getElem_mem hj);omega
  have mapOf:∀id nU es,φ' id=φ nU->h.get nU=some (.map es)->(∀e∈es,e.1.aK<=n0/\e.2.aK<=n0)->zg φ' g w id es:=λid nU es e0 hg0 wI=>by obtain⟨fU,oW,r1,r2,r3⟩:=hr.maps nU es hg0;refine⟨fU,oW,by rw[e0];exact r1,r2,λj hj=>?_⟩;have:=wI _ (List.getElem_mem hj);exact⟨mv _ _ this.1 (r3 j hj).1,mv _ _ this.2 (r3 j hj).2⟩
  have kept:∀id o,n0<=id->g.get id=some o->∃nU,ks[id-n0]? =some nU/\h.get nU=some o/\sc n0 o=true/\φ' id=φ nU:=λid o bZ ho=>by
   have e:id=n0+(id-n0):=by omega
   have Fm:=ho;rw[e,pE] at Fm;have de:=(List.getElem?_eq_some_iff.1 Fm).1;have hk:=List.getElem?_eq_getElem (show id-n0<ks.length by omega);obtain⟨o',q1,q2,q3⟩:=o2 _ _ hk;rw[Fm] at q1;cases q1;refine⟨_,hk,q2,q3,?_⟩;have:=new (id-n0) _ hk;rw[<-e] at this;exact this
  have idx:∀id,n0<=id->id∈ks->φ' (n0+ks.idxOf id)=φ id/\n0+ks.idxOf id<g.next:=λid bZ hm=>by have de:=List.idxOf_lt_length_of_mem hm;exact⟨new _ _ (by rw[List.getElem?_eq_getElem de,List.getElem_idxOf]),by rw[h6];omega⟩
  have rid:∀v:AV,(∀id,v.top=some id->n0<=id->id∈ks)->∀id,v.top=some id->φ' (p9 n0 ks id)=φ id/\p9 n0 ks id<g.next:=λv hv id ht=>by
   unfold p9;split
   .rename_i bZ;exact⟨Fy id bZ,by rw[h6];omega⟩
   .rename_i bZ;exact idx id (by omega) (hv id ht (by omega))
  have val:∀v:AV,((v.top.isSome=true\/v.aK<=n0)/\∀id,v.top=some id->n0<=id->id∈ks)->∀cv,eZ φ h w v cv->eZ φ' g w (fA n0 ks v) cv:=λv hv cv Mv=>by
   cases ht:v.top with
   |none=>
     have aeo:v.aK<=n0:=by
      rcases hv.1 with e|e
      .rw[ht] at e;cases e
      .exact e
     have e:fA n0 ks v=v:=by cases v<;>first|rfl|cases ht
     rw[e];exact mv v cv aeo Mv
   |some id=>
     obtain⟨q1,q2⟩:=rid v hv.2 id ht;cases v<;>simp only[AV.top,Option.some.injEq,reduceCtorEq] at ht
     .subst ht;obtain⟨rfl,_⟩:=Mv.vF;rw[<-q1];exact .ptr _ _ q2
     .subst ht;obtain⟨cap,ad,rfl,_,r2,r3,r4,r5⟩:=Mv.kA;rw[<-q1] at r4 r5;exact .vec _ _ _ _ _ cap ad q2 r2 r3 r4 r5
     .subst ht;obtain⟨rfl,_⟩:=Mv.tz;rw[<-q1];exact .map _ q2
  have Mt:HR φ' g w:=by
   refine⟨h9,λid cs Mx=>?_,λid es Mx=>?_,λi j hi hj tK=>?_,λb hb=>⟨(hr.gh b hb).1,λid hl=>?_⟩⟩
   .rcases Nat.lt_or_ge id n0 with bZ|bZ
    .rw[kj id bZ] at Mx;obtain⟨o,ho,e⟩:=Option.map_eq_some_iff.1 Mx;have Fx:=h4o id o bZ ho;cases o<;>simp only[qC,aS.row.injEq,reduceCtorEq] at e;rename_i cs0;subst e;obtain⟨cc,el,fz,r1,r2,r3,r4,r5,r6⟩:=hr.rows id cs0 ho;refine⟨cc,el,fz,by rw[Fy id bZ];exact r1,by rw[Fy id bZ];exact r2,by rw[Fy id bZ,List.length_map];exact r3,r4,by rw[Fy id bZ];exact r5,λj hj=>?_⟩;rw[Fy id bZ,List.getElem_map];rw[List.length_map] at hj;exact val _ (Fx _ (by simp[jd])) _ (r6 j hj)
    .obtain⟨nU,_,q2,q3,q4⟩:=kept id _ bZ Mx;exact rowOf id nU cs q4 q2 (by simpa[sc] using q3)
   .rcases Nat.lt_or_ge id n0 with bZ|bZ
    .rw[kj id bZ] at Mx;obtain⟨o,ho,e⟩:=Option.map_eq_some_iff.1 Mx;have Fx:=h4o id o bZ ho;cases o<;>simp only[qC,aS.map.injEq,reduceCtorEq] at e;rename_i XQ;subst e;obtain⟨fU,oW,r1,r2,r3⟩:=hr.maps id XQ ho;refine⟨fU,oW,by rw[Fy id bZ];exact r1,by rw[List.length_map];exact r2,λj hj=>?_⟩;rw[List.length_map] at hj;have hm:XQ[j]∈XQ:=List.getElem_mem hj;rw[List.getElem_map];exact⟨val _ (Fx _ (by simp only[jd,List.mem_flatMap];exact⟨_,hm,by simp⟩)) _ (r3 j hj).1,val _ (Fx _ (by simp only[jd,List.mem_flatMap];exact⟨_,hm,by simp⟩)) _ (r3 j hj).2⟩
    .obtain⟨nU,_,q2,q3,q4⟩:=kept id _ bZ Mx;refine mapOf id nU es q4 q2 λe hem=>?_
     simp only[sc,List.all_eq_true] at q3;simpa using q3 e hem
   .obtain⟨i0,li,ei,ci⟩:=lv i hi;obtain⟨j0,lj,ej,cj⟩:=lv j hj;rw[ei,ej] at tK;have aem:=hr.inj i0 j0 li lj tK;rcases ci with⟨ci1,ci2⟩|⟨ci1,ci2⟩<;>rcases cj with⟨cj1,cj2⟩|⟨cj1,cj2⟩
    .omega
    .have:=k2 j0 (List.mem_of_getElem? cj2);omega
    .have:=k2 i0 (List.mem_of_getElem? ci2);omega
    .rw[aem] at ci2;obtain⟨x1,y1⟩:=List.getElem?_eq_some_iff.1 ci2;obtain⟨x2,y2⟩:=List.getElem?_eq_some_iff.1 cj2;have:=(List.getElem_inj (h₀:=x1) (h₁:=x2) k1).1 (y1.trans y2.symm);omega
   .obtain⟨nU,l0,e0,_⟩:=lv id hl;rw[e0];exact (hr.gh b hb).2 nU l0
  refine⟨φ',Mt,⟨by simp[hf.1],λt=>?_⟩,⟨hx.os,hx.tape,hx.output,hx.size,by rw[h6];omega,λid bZ=>?_,λb hb=>⟨pr b (hx.pr b hb).1,(hx.pr b hb).2⟩,hx.gh⟩⟩
  .have:=hf.2 t;rw[List.getD_eq_getElem?_getD] at this|-;rw[List.getElem?_map]
   cases hv:fr[t]? with
   |none=>exact .undef _
   |some v=>rw[hv] at this;exact val v (h4 v (List.mem_of_getElem? hv)) _ this
  .rw[Jw] at bZ;exact (Fy id bZ).trans (hx.B9 id (by omega))
theorem aa2{φ φe:eh}{h he:af}{w we:World}{fr:List AV}{tm:Array Value}(hr:HR φ h w)(hf:FR φ h w fr tm)(hx:Ext φe he we φ h w)(yd:HR φe he we)(c:CL he h):
 ∃φ',HR φ' (gc he.next fr h).2 w/\FR φ' (gc he.next fr h).2 w (gc he.next fr h).1 tm/\Ext φe he we φ' (gc he.next fr h).2 w:=by
 unfold gc;split
 .exact adn hr hf hx yd c
 .exact acZ hr hf hx yd
theorem pf{n:Nat}{ac:cw}{fr dT:List AV}{h h':af}{ex:Ex}(hc:cw.mK [zZ]=ac.strip)(he:aF C n ac fr h=some (ex,dT,h')):False:=by cases ac<;>simp[cw.strip] at hc;subst hc;simp[aF,c7,cJ,zZ,dA,bC] at he
end
end
section
theorem yy(sz:Nat):∀(n:Nat) (cs:List AV),(chunk sz n cs).length=n
 |0,_=>rfl
 |n+1,cs=>by simp[chunk,yy sz n]
theorem AZ{sz:Nat}:∀(n:Nat) (cs:List AV) (i:Nat) (hi:i<(chunk sz n cs).length),(chunk sz n cs)[i]=if sz=1 then (cs.drop (i*sz)).headD .undef else .agg ((cs.drop (i*sz)).take sz)
 |0,cs,i,hi=>by simp[chunk] at hi
 |n+1,cs,0,hi=>by simp[chunk]
 |n+1,cs,i+1,hi=>by simp only[chunk,List.getElem_cons_succ];rw[AZ n (cs.drop sz) i (by simpa[chunk] using hi),List.drop_drop];rw[show sz+i*sz=(i+1)*sz by rw[Nat.add_mul];omega]
theorem BX(sz:Nat):∀(n:Nat) (cs:List AV),AV.aj (chunk sz n cs)<=AV.aj cs
 |0,_=>by simp[chunk,AV.aj]
 |n+1,cs=>by
   have h1:=BX sz n (cs.drop sz);have h2:AV.aj (cs.drop sz)<=AV.aj cs:=AV.j5 λv hv=>AV.cM (List.mem_of_mem_drop hv)
   simp only[chunk,AV.aj]
   have h3:(if sz=1 then cs.headD .undef else AV.agg (cs.take sz)).aK<=AV.aj cs:=by
    split
    .cases cs with
     |nil=>simp[AV.aK]
     |cons x r=>simp only[List.headD_cons,AV.aj];omega
    .simp only[AV.aK];exact AV.j5 λv hv=>AV.cM (List.mem_of_mem_take hv)
   omega
section
variable {φ:eh}{h:af}{w:World}
theorem z8{F:AV->Option (AV×List Nat)}{nx:Nat}{pr An:Nat->Prop}(hF:∀v cv v' eB,F v=some (v',eB)->RV φ nx pr w v cv->(∀id∈eB,An (φ id).gm)->RV φ nx An w v' cv):
 ∀(cs:List AV) (iA:List AV) (eB:List Nat) (f:Nat->Value),kM F cs=some (iA,eB)->(∀j (hj:j<cs.length),RV φ nx pr w cs[j] (f j))->(∀id∈eB,An (φ id).gm)->
   iA.length=cs.length/\∀j (hj:j<iA.length),RV φ nx An w iA[j] (f j)
 |[],iA,eB,f,he,_,_=>by simp only[kM,Option.some.injEq,Prod.mk.injEq] at he;obtain⟨rfl,rfl⟩:=he;exact⟨rfl,λj hj=>by simp at hj⟩
 |v::r,iA,eB,f,he,hv,tP=>by
   simp only[kM] at he;split at he
   .rename_i v' i r' j h1 h2;cases he;obtain⟨g1,g2⟩:=z8 hF r r' j (λk=>f (k+1)) h2 (λk hk=>hv (k+1) (Nat.succ_lt_succ hk)) (λid bZ=>tP id (by simp[bZ]));refine⟨by simp[g1],λk hk=>?_⟩
    cases k with
    |zero=>exact hF _ _ _ _ h1 (hv 0 (by simp)) (λid bZ=>tP id (by simp[bZ]))
    |succ k=>exact g2 k (by simpa using hk)
   .cases he
theorem vk{F:AV->Option (AV×List Nat)}{p:Nat->Prop}(hF:∀v v' eB,F v=some (v',eB)->∀id∈eB,p id):∀(cs iA:List AV) (eB:List Nat),kM F cs=some (iA,eB)->∀id∈eB,p id
 |[],iA,eB,he=>by simp only[kM,Option.some.injEq,Prod.mk.injEq] at he;obtain⟨rfl,rfl⟩:=he;intro id bZ;cases bZ
 |v::r,iA,eB,he=>by
   simp only[kM] at he;split at he
   .rename_i v' i r' j h1 h2;cases he;intro id bZ;rcases List.mem_append.1 bZ with bZ|bZ
    .exact hF _ _ _ h1 id bZ
    .exact vk hF r r' j h2 id bZ
   .cases he
theorem wa{n0:Nat}:∀(d:Nat) (v v':AV) (eB:List Nat),jH h n0 d v=some (v',eB)->∀id∈eB,n0<=id/\live h id
 |0,v,v',eB,he=>by simp[jH] at he
 |d+1,v,v',eB,he=>by
   unfold jH at he;split at he
   .split at he
    .cases he;intro id bZ;cases bZ
    .rename_i de;split at he
     .rename_i cs qQ;split at he
      .split at he
       .rename_i iA O1 h1;split at he
        .cases he;intro id bZ
         cases bZ with
         |head=>exact⟨by omega,_,zC qQ,λe=>by cases e⟩
         |tail _ bZ=>exact vk (λv v' eB he=>wa d v v' eB he) _ _ _ h1 id bZ
        .cases he
       .cases he
      .cases he
     .cases he
   .obtain⟨⟨iA,O1⟩,h1,e⟩:=Option.map_eq_some_iff.1 he;cases e;exact vk (λv v' eB he=>wa d v v' eB he) _ _ _ h1
   .obtain⟨⟨iA,O1⟩,h1,e⟩:=Option.map_eq_some_iff.1 he;cases e;exact vk (λv v' eB he=>wa d v v' eB he) _ _ _ h1
   .cases he;intro id bZ;cases bZ
theorem IM(hr:HR φ h w){n0:Nat}{An:Nat->Prop}(jI:∀b,Pr φ h w b->An b):∀(d:Nat) (v:AV) (cv:Value) (v':AV) (eB:List Nat),jH h n0 d v=some (v',eB)->eZ φ h w v cv->(∀id∈eB,An (φ id).gm)->RV φ h.next An w v' cv
 |0,v,cv,v',eB,he,_,_=>by simp[jH] at he
 |d+1,v,cv,v',eB,he,hv,tP=>by
   have gp:RV φ h.next An w v cv:=hv.mono (λ_ _ bZ=>⟨rfl,bZ⟩) λb hb=>⟨jI b hb,rfl⟩
   have ih:=λv cv v' eB=>IM hr (n0:=n0) jI d v cv v' eB
   unfold jH at he;split at he
   .rename_i id off len sz lb;split at he
    .cases he;exact gp
    .split at he
     .rename_i cs qQ;have hg:=zC qQ;split at he
      .rename_i hc;split at he
       .rename_i iA O1 h1;split at he
        .rename_i Ji;cases he;obtain⟨c,el,fz,k1,k2,k3,k4,k5,k6⟩:=hr.rows id cs hg;obtain⟨cap,ad,rfl,bZ,hl,oI,w9,ha⟩:=hv.kA;have cT:((cs.drop off).take (len*sz)).length=len*sz:=by simp;omega
         obtain⟨g1,g2⟩:=z8 ih _ _ _ (λj=>c.getD ((φ id).base+off+j) default) h1 (λj hj=>by
          have jk:off+j<cs.length:=by omega
          have:=k6 (off+j) jk;rw[Nat.add_assoc];simpa using this) (λi hi=>tP i (by simp[hi]))
         rw[cT] at g1;rcases Nat.eq_zero_or_pos len with h0|h0
         .subst h0;exact .slnil _ _
         .rw[ha (by omega)];have eR:=yy sz len iA
          have one:∀j (hj:j<iA.length),iA[j].cells=[iA[j]]:=λj hj=>by
           have q1:=g2 j hj;have q2:=k5 (off+j) (by omega);rw[<-Nat.add_assoc] at q2;generalize iA[j]=y at q1|-;cases y<;>try rfl
           obtain⟨eW,q3,_⟩:=q1.pH;rw[q3] at q2;cases q2
          have mb:∀i j (hi:i<(chunk sz len iA).length) (hj:j<sz),∃hk:i*sz+j<iA.length,((chunk sz len iA)[i]).cells[j]? =some iA[i*sz+j]:=λi j hi hj=>by
           rw[eR] at hi;have h2:(i+1)*sz<=len*sz:=Nat.mul_le_mul_right _ hi;rw[Nat.add_mul] at h2;refine⟨by omega,?_⟩;rw[AZ];split
           .rename_i h1;subst h1;obtain rfl:j=0:=by omega
            have hk:i*1<iA.length:=by omega
            have e:(iA.drop (i*1)).headD .undef=iA[i*1]:=by rw[List.drop_eq_getElem_cons hk];rfl
            rw[e,one];simp
           .simp only[AV.cells];rw[List.getElem?_take,if_pos hj,List.getElem?_drop,List.getElem?_eq_getElem]
          have ahy:∀i (hi:i<(chunk sz len iA).length),((chunk sz len iA)[i]).cells?.map List.length=some sz:=λi hi=>by
           have iB:i<len:=by omega
           have h2:(i+1)*sz<=len*sz:=Nat.mul_le_mul_right _ iB;rw[Nat.add_mul] at h2;rw[AZ];split
           .rename_i h1;subst h1;have hk:i*1<iA.length:=by omega
            have e:(iA.drop (i*1)).headD .undef=iA[i*1]:=by rw[List.drop_eq_getElem_cons hk];rfl
            rw[e];have:=List.all_eq_true.1 Ji.2 _ (List.getElem_mem hk);simpa using this
           .simp only[AV.cells?,Option.map_some,Option.some.injEq];simp;omega
          have key:=RV.sl (φ:=φ) (nx:=h.next) (pr:=An) (w:=w) (chunk sz len iA) (φ id).gm ((φ id).base+off) cap sz (λi j=>if i*sz+j<len*sz then c.getD ((φ id).base+off+(i*sz+j)) default else default) (tP id (by simp)) (by omega)
           (by have:=BX sz len iA;omega) (λi j=>?_) ahy (λi j hi hj=>?_) λi hi j hj=>?_
          .rw[eR] at key;exact key
          .split
           .have:=k5 (off+(i*sz+j)) (by omega);rw[<-Nat.add_assoc] at this;exact this
           .rfl
          .obtain⟨hk,_⟩:=mb i j hi hj;have de:(φ id).base+off+(i*sz+j)<c.size:=by omega
           have Bq:i*sz+j<len*sz:=by omega
           rw[if_pos Bq,Nat.add_assoc ((φ id).base+off)];unfold World.cell?;simp only[k1];simp[Array.getD,de]
          .have hjs:j<sz:=by
            have q:=ahy i hi
            have:(chunk sz len iA)[i].cells.length=sz:=by generalize (chunk sz len iA)[i]=y at q|-;cases y<;>simp[AV.cells?] at q<;>simp[AV.cells,q]
            omega
           obtain⟨hk,e⟩:=mb i j hi hjs;rw[List.getElem?_eq_getElem hj] at e;have e:=Option.some.inj e;have Bq:i*sz+j<len*sz:=by omega
           rw[e,if_pos Bq];exact g2 _ hk
        .cases he
       .cases he
      .cases he
     .cases he
   .rename_i cs;obtain⟨⟨iA,O1⟩,h1,e⟩:=Option.map_eq_some_iff.1 he;cases e;obtain⟨eW,rfl,g1,g2,g3⟩:=hv.pH;obtain⟨q1,q2⟩:=z8 ih _ _ _ (λj=>eW.getD j default) h1 g3 tP;exact .agg _ _ (by dsimp only;omega) g2 q2
   .rename_i cs;obtain⟨⟨iA,O1⟩,h1,e⟩:=Option.map_eq_some_iff.1 he;cases e;obtain⟨eW,rfl,g1,g2⟩:=hv.vX;obtain⟨q1,q2⟩:=z8 ih _ _ _ (λj=>eW.getD j default) h1 g2 tP;exact .tuple _ _ (by dsimp only;omega) q2
   .cases he;exact gp
theorem Pr.Ia{eB:List Nat}{b:Nat}(hb:b<w.heap.size)(xX:∀id,live h id->(φ id).gm=b->id∈eB)(C1:¬φ.gh b):Pr φ (kill h eB) w b:=
 ⟨hb,λi hi e=>by obtain⟨h1,h2⟩:=Ru eB hi;exact h2 (xX i h1 e),C1⟩
theorem LG(hr:HR φ h w){n:Nat}(hn:n<=h.next)(hle:∀id,id<n->oZ h id n):
 HR φ (h.jT n) w/\(∀b,Pr φ h w b->Pr φ (h.jT n) w b)/\(∀id,n<=id->live h id->Pr φ (h.jT n) w (φ id).gm):=by
 have lv:∀i,live (h.jT n) i->i<n/\live h i:=λi ⟨o,hg,ho⟩=>by
  have de:=af.dO hg;simp only[af.xN] at de;have hi:i<n:=by omega
  rw[af.rH hi] at hg;exact⟨hi,o,hg,ho⟩
 have pr:∀b,Pr φ h w b->Pr φ (h.jT n) w b:=λb hb=>⟨hb.1,λi hi=>hb.2.1 i (lv i hi).2,hb.2.2⟩
 have mv:∀v cv,v.aK<=n->eZ φ h w v cv->eZ φ (h.jT n) w v cv:=λv cv hv Mv=>Mv.mono (λid h1 h2=>⟨rfl,by simp only[af.xN];omega⟩) λb hb=>⟨pr b hb,rfl⟩
 refine⟨⟨af.JK n hr.wf,λi cs hg=>?_,λi es hg=>?_,λi j hi hj e=>hr.inj i j (lv i hi).2 (lv j hj).2 e,λb hb=>⟨(hr.gh b hb).1,λi hi=>(hr.gh b hb).2 i (lv i hi).2⟩⟩,pr,λid bZ hl=>⟨hr.ft hl,λi hi e=>?_,λhg=>(hr.gh _ hg).2 id hl rfl⟩⟩
 .have hi:=(lv i ⟨_,hg,λe=>by cases e⟩).1;rw[af.rH hi] at hg;obtain⟨c,el,fz,k1,k2,k3,k4,k5,k6⟩:=hr.rows i cs hg;refine⟨c,el,fz,k1,k2,k3,k4,k5,λj hj=>mv _ _ ?_ (k6 j hj)⟩;have h1:=(hle i hi).1 cs hg;have h2:=AV.cM (List.getElem_mem hj);omega
 .have hi:=(lv i ⟨_,hg,λe=>by cases e⟩).1;rw[af.rH hi] at hg;obtain⟨fU,oW,k1,k2,k3⟩:=hr.maps i es hg;refine⟨fU,oW,k1,k2,λj hj=>?_⟩;have h1:=(hle i hi).2 es hg es[j] (List.getElem_mem hj);exact⟨mv _ _ h1.1 (k3 j hj).1,mv _ _ h1.2 (k3 j hj).2⟩
 .have de:=(lv i hi).1;have:=hr.inj i id (lv i hi).2 hl e;omega
theorem Sq{φ0:eh}{h0:af}{w0:World}(hr:HR φ h w)(hx:Ext φ0 h0 w0 φ h w)(eR:CL {h0 with wl:=h0.next,md:=h0.next} h)(Cd:HR φ0 h0 w0){gp:Bool}{v:AV}{cv:Value}(hv:eZ φ h w v cv):
 eZ φ (finish gp h0 v h).2 w (finish gp h0 v h).1 cv/\HR φ (finish gp h0 v h).2 w/\Ext φ0 h0 w0 φ (finish gp h0 v h).2 w:=by
 have plain:eZ φ {h with wl:=min h0.wl h.wl,md:=min h0.md h.md} w v cv/\HR φ {h with wl:=min h0.wl h.wl,md:=min h0.md h.md} w/\Ext φ0 h0 w0 φ {h with wl:=min h0.wl h.wl,md:=min h0.md h.md} w:=by obtain⟨a1,a2⟩:=hr.w5 (min h0.wl h.wl) (min h0.md h.md);exact⟨hv.ext a2,a1,hx.trans a2⟩
 unfold finish
 cases gp with
 |true=>simpa using plain
 |false=>
   simp only[Bool.false_eq_true,if_false];split
   .exact plain
   .rename_i v' eB QQ;have tP:=wa 8 v v' eB QQ;split
    .rename_i hc;obtain⟨t1,t2,t3⟩:=LG hr eR.next (eR.le h0.next (Nat.le_refl _) hc.1 Cd.Qk)
     obtain⟨s1,s2⟩:=t1.w5 h0.wl (if h.md<h0.next then min h0.md h.md else h0.md);have q:=IM hr (An:=Pr φ (h.jT h0.next) w) t2 8 v cv v' eB QQ hv λid bZ=>t3 id (tP id bZ).1 (tP id bZ).2
     have CZ:min h.next h0.next=h0.next:=Nat.min_eq_right eR.next
     have akQ:Ext φ0 h0 w0 φ (h.jT h0.next) w:=by refine⟨hx.os,hx.tape,hx.output,hx.size,?_,hx.B9,λb hb=>⟨t2 b (hx.pr b hb).1,(hx.pr b hb).2⟩,hx.gh⟩;simp only[af.xN];omega
     refine⟨?_,s1,akQ.trans s2⟩;refine (q.mono (λid h1 h2=>⟨rfl,?_⟩) λb hb=>⟨hb,rfl⟩:eZ φ {h.jT h0.next with wl:=h0.wl,md:=(if h.md<h0.next then min h0.md h.md else h0.md)} w v' cv);show id<min h.next h0.next
     omega
    .obtain⟨k1,k2⟩:=Qp eB hr;obtain⟨s1,s2⟩:=k1.w5 (min h0.wl h.wl) (min h0.md h.md)
     have q:=IM hr (An:=Pr φ (kill h eB) w) (λb hb=>(k2.pr b hb).1) 8 v cv v' eB QQ hv λid bZ=>Pr.Ia (hr.ft (tP id bZ).2) (λi hi e=>(by rw[hr.inj i id hi (tP id bZ).2 e];exact bZ)) λhg=>(hr.gh _ hg).2 id (tP id bZ).2 rfl
     have hnk:∀(eB:List Nat) (h:af),(kill h eB).next=h.next:=by
      intro eB
      induction eB with
      |nil=>exact λh=>rfl
      |cons i r ih=>intro h;simp only[kill];rw[ih];simp
     refine⟨?_,s1,hx.trans (k2.trans s2)⟩;have q2:eZ φ (kill h eB) w v' cv:=q.mono (λid _ h2=>⟨rfl,by rw[hnk];exact h2⟩) λb hb=>⟨hb,rfl⟩
     exact q2.ext s2
end
end
end Sz
