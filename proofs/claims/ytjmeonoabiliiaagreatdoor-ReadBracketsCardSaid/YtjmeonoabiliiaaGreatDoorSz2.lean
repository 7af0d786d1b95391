import Derived.Test.YtjmeonoabiliiaaGreatDoorSz1
import Derived.Laws.IdiomStrings
import Derived.LoopN
import Derived.Orders
set_option linter.unusedVariables false
set_option linter.unusedSimpArgs false
set_option linter.unusedSectionVars false
set_option maxHeartbeats 16000000
set_option maxRecDepth 100000

/- Slices held against nil; empty ones built. No program is named here. -/
namespace Sz
open Go
section
variable {P:Program} {φ:dp} {h:aa} {w:World} {fr:List AV} {a:Act}
theorem pJ {t e:TypeId} (ht:P.underlying t=some (.slice e)) (ad:Option Addr) (n c:Nat) (w:World):(Op.equal t (.slice ad n c) (.slice none 0 0)).run P w=.ok ad.isNone w:=by
 have h:∀d:Nat,(Op.equalIn (d+1) t (.slice ad n c) (.slice none 0 0)).run P w=.ok ad.isNone w:=fun d=>by
  cases ad<;>simp[Op.equalIn,run_underlying ht]
 exact h 9999
theorem Bk {neg:Bool} {t e ty:TypeId} {x:Operand} {o:Oper} (ho:o.op=.binOp (if neg then .neq else .eql) t x (.const (.slice none 0 0)) ty) (ht:P.underlying t=some (.slice e)) {ad:Option Addr} {n c:Nat} (hx:a.eval x=.slice ad n c) (w:World):
 (execOp a.eval o).run P w=.ok (.value (.bool (if neg then !ad.isNone else ad.isNone))) w:=by
 have k1:=pJ ht ad n c w;have hy:a.eval (.const (.slice none 0 0))=.slice none 0 0:=rfl;have k2:eqGuard (if neg then .neq else .eql) t x (.const (.slice none 0 0)) (.slice ad n c) (.slice none 0 0)=Pure.pure ():=by cases neg<;>rfl
 have k3:∀op,op=.eql∨op=.neq→(binOp op t (.slice ad n c) (.slice none 0 0))=if op=.eql then (do pure (.bool (←Op.equal t (.slice ad n c) (.slice none 0 0)))) else (do pure (.bool (!(←Op.equal t (.slice ad n c) (.slice none 0 0))))):=fun op hop=>by
  rcases hop with rfl | rfl<;>rfl
 unfold execOp;cases neg
 ·simp only[Bool.false_eq_true,if_false] at ho k2 ⊢;simp[ho,hx,hy,k2,k3 .eql (.inl rfl),k1]
 ·simp only[if_true] at ho k2 ⊢;have h3:=k3 .neq (.inr rfl);simp[ho,hx,hy,k2,h3,k1]
theorem E8 {neg:Bool} {t e ty:TypeId} {x:Operand} {o:Oper} (ho:o.op=.binOp (if neg then .neq else .eql) t x (.const (.slice none 0 0)) ty) {x':cI} (hx:eD x=some x') (ht:P.underlying t=some (.slice e))
 {v:AV} {h':aa} (he:(match x'.ev fr with
  | .sl (_::_)=>some (AV.bool neg,h)
  | .vec _ _ (_+1) _ _=>some (.bool neg,h)
  | _=>none)=some (v,h')) (hf:FR φ h w fr a.tmps) (hr:HR φ h w):dV P (execOp a.eval o) φ h w v h':=by
 have g:=bO hx hf
 have fin:∀ad n c,a.eval x=.slice (some ad) n c→dV P (execOp a.eval o) φ h w (.bool neg) h:=fun ad n c hq=>by
  refine .pure (cv:=.bool neg) hr ?_ (.bool _);rw[Bk ho ht hq w];cases neg<;>rfl
 split at he
 ·rename_i y ys e1;simp only[Option.some.injEq,Prod.mk.injEq] at he;obtain⟨rfl,rfl⟩:=he;rw[e1] at g;rcases g.nU with⟨_,_,q,_⟩ | ⟨b,o',cap,sz,vs,q,_⟩
  ·cases q
  ·exact fin _ _ _ q
 ·rename_i id off n sz lb e1;simp only[Option.some.injEq,Prod.mk.injEq] at he;obtain⟨rfl,rfl⟩:=he;rw[e1] at g;obtain⟨cap,ad,q,_,hl,_,_,ha⟩:=g.gW;rw[ha (by omega)] at q;exact fin _ _ _ q
 ·cases he
theorem th {w':World} {x:Obj} (hr:HR φ h w) (hh:w'.heap=w.heap.push x) (ho:w'.os=w.os) (ht:w'.tape=w.tape) (hout:w'.output=w.output):HR φ h w'∧Ext φ h w φ h w':=by
 have e:Ext φ h w φ h w':=⟨ho,ht,hout,by rw[hh];simp,Nat.le_refl _,fun _ _=>rfl,fun b hb=>⟨⟨by rw[hh];simp;have:=hb.1;omega,hb.2⟩,by rw[hh];exact getElem?_push_lt hb.1⟩,rfl,
  fun b hb=>by rw[hh];exact getElem?_push_lt (hr.gh b hb).1⟩
 refine⟨⟨hr.wf,fun i cs hi=>?_,fun i es hi=>?_,fun i j hi hj=>hr.inj i j hi hj,fun b hb=>⟨by rw[hh];simp;have:=(hr.gh b hb).1;omega,(hr.gh b hb).2⟩⟩,e⟩
 ·have hb:=hr.dW ⟨_,hi,fun e=>by cases e⟩;exact (hr.rows i cs hi).ext e (aa.di hi) (by rw[hh];exact getElem?_push_lt hb)
 ·have hb:=hr.dW ⟨_,hi,fun e=>by cases e⟩;exact (hr.maps i es hi).ext e (aa.di hi) (by rw[hh];exact getElem?_push_lt hb)
theorem OS {t e:TypeId} {parts:Array (Nat×Operand)} {o:Oper} (ho:o.op=.buildSlice t 0 parts) (hp:parts=#[]) (ht:P.underlying t=some (.slice e)) {i:TypeInfo} (hi:P.info? e=some i) (hr:HR φ h w):
 dV P (execOp a.eval o) φ h w .aw h:=by
 subst hp;obtain⟨r1,r2⟩:=th (w':=w.alloc (.cells #[] e)) hr rfl rfl rfl rfl;refine⟨.slice (some ⟨w.heap.size,0,none⟩) 0 0,w.alloc (.cells #[] e),φ,.inl ?_,.aw _,r1,r2⟩;unfold execOp;simp[ho,Instr.buildSlice,run_underlying ht,gr hi,newRow,Array.range_zero',Instr.fill]
end
end Sz

/- Maps looked up; strings and bytes. No program is named here. -/
namespace Sz
open Go
section
variable {P:Program} {φ:dp} {h:aa} {w:World} {fr:List AV} {a:Act}
theorem En {nx:Nat} {pr:Nat→Prop}:∀(l:List AV) (s:List UInt8) (f:Nat→Value),bytesOf l=some s→(∀j,j < l.length→RV φ nx pr w (l.getD j .undef) (f j))→
 ∃ns:List Int,(List.range l.length).map f=ns.map (Value.int .u8)∧ns.map (fun n=>UInt8.ofNat n.toNat)=s:=by
 intro l
 induction l with
 | nil=>
   intro s f hs _;simp only[bytesOf,Option.some.injEq] at hs;subst hs;exact⟨[],rfl,rfl⟩
 | cons x r ih=>
   intro s f hs hv;have hx:=hv 0 (by simp)
   cases x with
   | int k n=>
     cases k<;>simp only[bytesOf] at hs<;>first | (cases hs;done) | skip
     obtain⟨s',h1,rfl⟩:=Option.map_eq_some_iff.1 hs
     obtain⟨ns,e1,e2⟩:=ih s' (fun j=>f (j+1)) h1 fun j hj=>by
      have:=hv (j+1) (by simpa using hj);simpa using this
     refine⟨n::ns,?_,by simp[e2]⟩;have h0:f 0=.int .u8 n:=RV.dh (by simpa using hx);rw[List.length_cons,List.range_succ_eq_map,List.map_cons,List.map_map,h0,List.map_cons,←e1];rfl
   | _=>simp[bytesOf] at hs
theorem rM:∀(ns:List Int) (r:ByteArray),(ns.foldl (fun r n=>r.push (UInt8.ofNat n.toNat)) r).data.toList=r.data.toList++ns.map fun n=>UInt8.ofNat n.toNat
 | [],r=>by simp
 | n::ns,r=>by
   rw[List.foldl_cons,rM ns];simp[ByteArray.push]
theorem L0 {s d e:TypeId} {x:Operand} {o:Oper} (ho:o.op=.convert s d x) {x':cI} (hx:eD x=some x') (hs:P.underlying s=some .string) (hd:P.underlying d=some (.slice e)) (he:P.underlying e=some (.int .u8))
 {b:List UInt8} (hv:x'.ev fr=.str b) (hf:FR φ h w fr a.tmps) (hr:HR φ h w):dV P (execOp a.eval o) φ h w (.sl (b.map fun c=>.int .u8 c.toNat)) h:=by
 have g:=bO hx hf;rw[hv] at g;obtain⟨c,q1,q2⟩:=g.eO;have hrun:=run_bytes_of_string (P:=P) w s d e c hs hd he;generalize hg:grownCap w c.size 0 e=cap at hrun;have hcap:c.size≤cap:=by rw[←hg];exact oz _ _ _ _
 obtain⟨r1,r2⟩:=th (w':=w.drew.alloc (.cells (bytesRow c cap) e ((bytesRow c cap).size,(bytesRow c cap).size+1))) hr rfl rfl rfl rfl;refine⟨.slice (some ⟨w.heap.size,0,none⟩) c.size cap,w.drew.alloc (.cells (bytesRow c cap) e ((bytesRow c cap).size,(bytesRow c cap).size+1)),φ,.inl ?_,?_,r1,r2⟩
 ·unfold execOp;simp[ho,q1,hrun]
 ·have hlen:(b.map fun c=>AV.int .u8 c.toNat).length=c.size:=by
   rw[List.length_map,←q2];simp
  rw[←hlen]
  have hsz:(bytesRow c cap).size=cap:=by
   unfold bytesRow;simp;have:c.data.size=c.size:=rfl;omega
  have hc:∀i,i < b.length→(bytesRow c cap)[i]? =some (.int .u8 ((b.getD i 0).toNat:Int)):=fun i hi=>by
   have hi':i < c.data.size:=by
    have h1:c.data.toList.length=b.length:=by rw[q2]
    rw[Array.length_toList] at h1;omega
   unfold bytesRow;rw[Array.getElem?_append_left (by simpa using hi')]
   have h2:b.getD i 0=c.data[i]:=by
    rw[←q2,List.getD_eq_getElem?_getD,Array.getElem?_toList,Array.getElem?_eq_getElem hi',Option.getD_some]
   rw[h2,Array.getElem?_map,Array.getElem?_eq_getElem hi',Option.map_some]
  refine .sl _ w.heap.size 0 cap 1 (fun i _=>.int .u8 ((b.getD i 0).toNat:Int)) ⟨?_,?_,?_⟩ (by rw[hlen];exact hcap) ?_ (fun _ _=>rfl) ?_ ?_ ?_
  ·show w.heap.size < (w.heap.push _).size;simp
  ·intro id hl e;have:=hr.dW hl;omega
  ·intro hgh;have:=(hr.gh _ hgh).1;omega
  ·have:∀l:List UInt8,AV.ai (l.map fun c=>AV.int .u8 c.toNat)=0:=by
    intro l
    induction l with
    | nil=>rfl
    | cons x r ih=>simp[AV.ai,AV.refs,ih]
   exact this b
  ·intro i hi;simp[AV.cells?]
  ·intro i j hi hj;have hj0:j=0:=by omega
   subst hj0;have hi':i < b.length:=by simpa using hi
   have hb:(w.drew.alloc (.cells (bytesRow c cap) e ((bytesRow c cap).size,(bytesRow c cap).size+1))).heap[w.heap.size]? =some (.cells (bytesRow c cap) e ((bytesRow c cap).size,(bytesRow c cap).size+1)):=by
    show (w.heap.push _)[w.heap.size]? =_;simp
   unfold World.cell?;simp only[hb,Nat.zero_add,Nat.mul_one,Nat.add_zero];exact hc i hi'
  ·intro i hi j hj;have hi':i < b.length:=by simpa using hi
   simp only[List.getElem_map,AV.cells] at hj ⊢;have hj0:j=0:=by simpa using hj
   subst hj0;have:b.getD i 0=b[i]:=by simp[List.getD,hi']
   rw[this];exact .int _ _
theorem EI {s d e:TypeId} {x:Operand} {o:Oper} (ho:o.op=.convert s d x) {x':cI} (hx:eD x=some x') (hs:P.underlying s=some (.slice e)) (hd:P.underlying d=some .string) (he:P.underlying e=some (.int .u8))
 {n:Nat} {cs:List AV} (hv:aS h 1 (x'.ev fr)=some (n,cs)) (hns:∀s,x'.ev fr≠.str s) {b:List UInt8} (hb:bytesOf cs=some b) (hf:FR φ h w fr a.tmps) (hr:HR φ h w):dV P (execOp a.eval o) φ h w (.str b) h:=by
 have g:=bO hx hf
 have hsl:∃ad cap,a.eval x=.slice ad n cap:=by
  cases hq:x'.ev fr with
  | aw=>
    rw[hq] at g hv;obtain⟨ad,q⟩:=g.jX;simp only[aS,Option.some.injEq,Prod.mk.injEq] at hv;exact⟨ad,0,by rw[q,←hv.1]⟩
  | sl xs=>
    rw[hq] at g hv
    have hn:xs.length=n:=by
     simp only[aS] at hv;split at hv
     ·cases hv;rfl
     ·cases hv
    rcases g.nU with⟨ad,cap,e1,q⟩ | ⟨b,o',cap,sz,vs,q,_⟩
    ·subst e1;exact⟨ad,cap,by rw[q,←hn];rfl⟩
    ·exact⟨_,cap,by rw[q,hn]⟩
  | vec id off len sz lb=>
    rw[hq] at g hv;obtain⟨cap,ad,q,_⟩:=g.gW
    have hn:len=n:=by
     simp only[aS] at hv;split at hv
     ·split at hv
      ·cases hv;rfl
      ·cases hv
     ·cases hv
    exact⟨ad,cap,by rw[q,hn]⟩
  | str s=>exact absurd hq (hns s)
  | _=>rw[hq] at hv;simp[aS] at hv
 obtain⟨ad,cap,q⟩:=hsl;obtain⟨n1,f,n2,_,n4⟩:=yR (P:=P) hv g hr (by omega);rw[Nat.mul_one] at n1 n2 n4;obtain⟨ns,e1,e2⟩:=En (φ:=φ) (w:=w) cs b f hb fun j hj=>(n2 j (by omega)).1
 have hl:=n4 w rfl;rw[q] at hl;rw[n1] at e1;rw[e1] at hl;have hcv:=run_convert_bytes_string (P:=P) w s d e ad n cap hs he hd
 cases ad with
 | none=>
   simp[Builtin.firstCells] at hl
   have hns0:ns=[]:=by
    cases ns with
    | nil=>rfl
    | cons _ _=>simp at hl
   subst hns0;refine .pure (cv:=.string .empty) hr ?_ (.qI (by rw[←e2];rfl));unfold execOp;simp[ho,q,hcv,Conv.bytesToString]
 | some ad=>
   simp only[Builtin.firstCells,Nat.mul_one] at hl;have hb2:=run_bytesToString (P:=P) w ad n cap ns hl;refine .pure (cv:=.string (ns.foldl (fun r n=>r.push (UInt8.ofNat n.toNat)) ByteArray.empty)) hr ?_ (.qI ?_)
   ·unfold execOp;simp[ho,q,hcv,hb2]
   ·rw[rM,e2];rfl
theorem wM {nx:Nat} {pr:Nat→Prop} {q q0:IntKind} {n:Int}:∀(es:List (AV×AV)) (l:List MapEntry) (i:Nat),l.length=es.length→
 (∀j (hj:j < es.length),RV φ nx pr w es[j].1 (l.getD j default).key∧RV φ nx pr w es[j].2 (l.getD j default).val)→∀r,pU 1 (.int q0 n) es=some r→
 ∃r',Instr.findNow (.int q) (.int q0 n) l i=some r'∧((r=none∧r'=none)∨∃v j cv,r=some v∧r'=some (j,cv)∧RV φ nx pr w v cv)
 | [],l,i,hl,_,r,hr=>by
   simp only[pU,Option.some.injEq] at hr
   cases l with
   | nil=>exact⟨none,rfl,.inl ⟨hr.symm,rfl⟩⟩
   | cons _ _=>simp at hl
 | (k',v')::es,[],i,hl,_,r,hr=>by simp at hl
 | (k',v')::es,e::l,i,hl,hv,r,hr=>by
   obtain⟨g1,g2⟩:=hv 0 (by simp);simp only[List.getElem_cons_zero,List.getD_cons_zero] at g1 g2;simp only[pU] at hr
   cases k' with
   | int k b=>
     have hk:=g1.dh;by_cases e1:q0=k
     ·subst e1;by_cases e2:n=b
      ·subst e2;simp only[ij,if_true,decide_true,Option.some.injEq] at hr;refine⟨some (i,e.val),by simp[Instr.findNow,Instr.sameNow,hk],.inr ⟨v',i,e.val,hr.symm,rfl,g2⟩⟩
      ·simp only[ij,if_true,decide_eq_false e2] at hr
       obtain⟨r',h1,h2⟩:=wM (q:=q) es l (i+1) (by simpa using hl) (fun j hj=>by
        have:=hv (j+1) (by simpa using hj);simpa using this) r hr
       have e3:(n==b)=false:=by simpa using e2
       exact⟨r',by simp[Instr.findNow,Instr.sameNow,hk,e3,h1],h2⟩
     ·simp[ij,e1] at hr
   | _=>simp[ij] at hr
def SF (ok:Bool) (z:AV):Option AV→AV
 | some v=>if ok then .tuple [v,.bool true] else v
 | none=>if ok then .tuple [z,.bool false] else z
theorem vT {id:Nat} {es:List (AV×AV)} (h1:h.lN id=some es):h.get id=some (.map es):=by
 unfold aa.lN at h1;split at h1
 ·rename_i h2;cases h1;exact h2
 ·cases h1
theorem Qd {t kt e:TypeId} {q:IntKind} {m k:Operand} {ok:Bool} {o:Oper} (ho:o.op=.lookup t m k ok) {m' k':cI} (hm:eD m=some m') (hk:eD k=some k')
 (ht:P.underlying t=some (.map kt e)) (hq:P.underlying kt=some (.int q)) {z:AV} (hz:zeroV P e=some z) {es:List (AV×AV)} (hes:(m'.ev fr=.iC∧es=[])∨∃id,m'.ev fr=.map id∧h.lN id=some es)
 {r:Option AV} (hl:pU 1 (k'.ev fr) es=some r) (hkv:(∃q0 n,k'.ev fr=.int q0 n)∨es=[]) (hf:FR φ h w fr a.tmps) (hr:HR φ h w):
 dV P (execOp a.eval o) φ h w (SF ok z r) h:=by
 have g1:=bO hm hf;have g2:=bO hk hf;obtain⟨zv,hz1,hz2⟩:=Option.bind_eq_some_iff.1 hz;obtain⟨inf,hi,hzi⟩:=Option.bind_eq_some_iff.1 hz1;have hzr:dK φ h w z zv:=wA hz2
 have pair:∀(v:AV) (cv:Value) (b:Bool),dK φ h w v cv→dK φ h w (if ok then .tuple [v,.bool b] else v) (if ok then .tuple #[cv,.bool b] else cv):=fun v cv b hv=>by
  cases ok with
  | false=>exact hv
  | true=>
    refine .tuple _ _ rfl fun j hj=>?_
    match j,hj with
    | 0,_=>exact hv
    | 1,_=>exact .bool b
 generalize hkc:a.eval k=kc at g2
 have hck:∀em,(Instr.checkKey em 10000 kt kc).run P w=.ok () w:=fun em=>by
  unfold Instr.checkKey;simp[run_underlying hq]
 have hfind:∀l:List MapEntry,l.length=es.length→(∀j (hj:j < es.length),dK φ h w es[j].1 (l.getD j default).key∧dK φ h w es[j].2 (l.getD j default).val)→
  ∃r',Instr.findNow (.int q) kc l 0=some r'∧((r=none∧r'=none)∨∃v j cv,r=some v∧r'=some (j,cv)∧dK φ h w v cv):=fun l hlen hent=>by
  rcases hkv with⟨q0,n,e1⟩ | rfl
  ·rw[e1] at g2 hl;rw[g2.dh];exact wM (q:=q) es l 0 hlen hent r hl
  ·simp only[pU,Option.some.injEq] at hl
   cases l with
   | nil=>exact⟨none,rfl,.inl ⟨hl.symm,rfl⟩⟩
   | cons _ _=>simp at hlen
 have fin:∀(l:List MapEntry) (mo:Option Nat),a.eval m=.map mo→(∃es0:Array MapEntry,es0.toList=l∧(match mo with | none=>es0=#[] | some b=>∃clk,w.heap[b]? =some (.map es0 clk)))→l.length=es.length→
  (∀j (hj:j < es.length),dK φ h w es[j].1 (l.getD j default).key∧dK φ h w es[j].2 (l.getD j default).val)→
  dV P (execOp a.eval o) φ h w (SF ok z r) h:=fun l mo hmo hblk hlen hent=>by
  obtain⟨r',f1,f2⟩:=hfind l hlen hent;obtain⟨es0,hes0,hblk⟩:=hblk
  have hfk:(Instr.findKey kt kc es0.toList).run P w=.ok r' w:=by
   unfold Instr.findKey;rw[hes0];simp[run_underlying hq,f1]
  rcases f2 with⟨rfl,rfl⟩ | ⟨v,j,cv,rfl,rfl,hv⟩
  ·refine .pure (cv:=if ok then .tuple #[zv,.bool false] else zv) hr ?_ (by cases ok<;>exact pair z zv false hzr);unfold execOp
   cases mo with
   | none=>
     subst hblk;simp[ho,hmo,hkc,Instr.lookup,run_underlying ht,hck,hfk,zeroValue,typeInfo,hi,hzi]
   | some b=>
     obtain⟨clk,hb⟩:=hblk;have hg:(getObj b).run P w=.ok (.map es0 clk) w:=by simp[getObj,Sem.run,hb]
     simp[ho,hmo,hkc,Instr.lookup,run_underlying ht,hg,hck,hfk,zeroValue,typeInfo,hi,hzi]
  ·refine .pure (cv:=if ok then .tuple #[cv,.bool true] else cv) hr ?_ (by cases ok<;>exact pair v cv true hv);unfold execOp
   cases mo with
   | none=>
     subst hblk;simp[ho,hmo,hkc,Instr.lookup,run_underlying ht,hck,hfk]
   | some b=>
     obtain⟨clk,hb⟩:=hblk;have hg:(getObj b).run P w=.ok (.map es0 clk) w:=by simp[getObj,Sem.run,hb]
     simp[ho,hmo,hkc,Instr.lookup,run_underlying ht,hg,hck,hfk]
 rcases hes with⟨e1,rfl⟩ | ⟨id,e1,e2⟩
 ·rw[e1] at g1;exact fin [] none g1.re ⟨#[],rfl,rfl⟩ rfl fun j hj=>by simp at hj
 ·rw[e1] at g1;obtain⟨ents,clk,m1,m2,m3⟩:=hr.maps id es (vT e2);refine fin ents.toList (some (φ id).eM) g1.nt.1 ⟨ents,rfl,clk,m1⟩ (by simpa using m2) fun j hj=>?_
  have:=m3 j hj;simpa[Array.getD_eq_getD_getElem?,List.getD] using this
end
end Sz

/- An integer as a string; a map's entry set. No program is named here. -/
namespace Sz
open Go
section
variable {P:Program} {φ:dp} {h:aa} {w:World} {fr:List AV} {a:Act}
theorem zq {n:Int} (h0:0≤n) (h1:n < 128):Utf8.encode n=⟨#[UInt8.ofNat n.toNat]⟩:=by
 have hv:Utf8.valid n=true:=by
  unfold Utf8.valid;simp;omega
 unfold Utf8.encode;simp only[hv,if_true];rw[if_pos (by omega)]
theorem MO {s d:TypeId} {x:Operand} {o:Oper} (ho:o.op=.convert s d x) {x':cI} (hx:eD x=some x') {k0:IntKind} (hs:P.underlying s=some (.int k0)) (hd:P.underlying d=some .string)
 {k':IntKind} {n:Int} (hv:x'.ev fr=.int k' n) (h0:0≤n) (h1:n < 128) (hf:FR φ h w fr a.tmps) (hr:HR φ h w):dV P (execOp a.eval o) φ h w (.str [UInt8.ofNat n.toNat]) h:=by
 have g:=bO hx hf;rw[hv] at g;exact .pure (cv:=.string (Utf8.encode n)) hr (by unfold execOp;simp[ho,g.dh,convert,run_underlying hs,run_underlying hd,Conv.intToString]) (.qI (by rw[zq h0 h1]))
def Ey (w:World) (b:Nat) (o:Obj):World:={w with heap:=w.heap.setIfInBounds b o}
theorem He {w:World} {b:Nat} {o:Obj} (hb:b < w.heap.size):(Ey w b o).heap[b]? =some o:=by
 unfold Ey;simp[hb]
theorem Dz {w:World} {b c:Nat} {o:Obj} (hb:c≠b):(Ey w b o).heap[c]? =w.heap[c]?:=by
 unfold Ey;simp[Array.getElem?_setIfInBounds_ne (fun e=>hb e.symm)]
theorem EB {nx:Nat} {pr:Nat→Prop} {q:IntKind} {k v:AV} {kc:Value} (hk:RV φ nx pr w k kc):∀(es:List (AV×AV)) (l:List MapEntry) (i:Nat),l.length=es.length→
 (∀j (hj:j < es.length),RV φ nx pr w es[j].1 (l.getD j default).key)→∀es',xz 1 k v es=some es'→
 (Instr.findNow (.int q) kc l i=some none∧es'=es++[(k,v)])∨
 ∃j cv,Instr.findNow (.int q) kc l i=some (some (i+j,cv))∧j < es.length∧(l.getD j default).key=kc∧(∃q0 n,kc=.int q0 n)∧es'=es.set j (k,v)
 | [],l,i,hl,_,es',hr=>by
   simp only[xz,Option.some.injEq] at hr
   cases l with
   | nil=>exact .inl ⟨rfl,hr.symm⟩
   | cons _ _=>simp at hl
 | (k',v')::es,[],i,hl,_,es',hr=>by simp at hl
 | (k',v')::es,e::l,i,hl,hv,es',hr=>by
   have g1:=hv 0 (by simp);simp only[List.getElem_cons_zero,List.getD_cons_zero] at g1;simp only[xz] at hr
   cases k with
   | int q0 n=>
     have hkc:=hk.dh
     cases k' with
     | int k1 b=>
       have hk1:=g1.dh;by_cases e1:q0=k1
       ·subst e1;by_cases e2:n=b
        ·subst e2;simp only[ij,if_true,decide_true,Option.some.injEq] at hr;exact .inr ⟨0,e.val,by simp[Instr.findNow,Instr.sameNow,hk1,hkc],by simp,by simp[hk1,hkc],⟨_,_,hkc⟩,by simp[←hr]⟩
        ·simp only[ij,if_true,decide_eq_false e2] at hr;obtain⟨r,h1,rfl⟩:=Option.map_eq_some_iff.1 hr;have e3:(n==b)=false:=by simpa using e2
         rcases EB (q:=q) hk es l (i+1) (by simpa using hl) (fun j hj=>by
          have:=hv (j+1) (by simpa using hj);simpa using this) r h1 with⟨f1,rfl⟩ | ⟨j,cv,f1,f2,f3,f4,rfl⟩
         ·exact .inl ⟨by subst hkc;simp[Instr.findNow,Instr.sameNow,hk1,e3,f1],rfl⟩
         ·exact .inr ⟨j+1,cv,by subst hkc;simp[Instr.findNow,Instr.sameNow,hk1,e3,f1];omega,by simpa using f2,by simpa using f3,f4,by simp⟩
       ·simp[ij,e1] at hr
     | _=>simp[ij] at hr
   | _=>cases k'<;>simp[ij] at hr
theorem Qo {t kt e:TypeId} {q:IntKind} {m k v:Operand} {o:Oper} (ho:o.op=.mapUpdate t m k v) {m' k' v':cI} (hm:eD m=some m') (hk:eD k=some k') (hv:eD v=some v')
 (ht:P.underlying t=some (.map kt e)) (hq:P.underlying kt=some (.int q)) {id:Nat} (hid:m'.ev fr=.map id) {es es':List (AV×AV)} (hes:h.lN id=some es)
 (hu:xz 1 (k'.ev fr) (v'.ev fr) es=some es') (hf:FR φ h w fr a.tmps) (hr:HR φ h w):
 dV P (execOp a.eval o) φ h w .undef (((h.set id (.map es')).mark id (v'.ev fr)).mark id (k'.ev fr)):=by
 have g0:=bO hm hf;have g1:=bO hk hf;have g2:=bO hv hf;rw[hid] at g0;have hmv:=g0.nt.1;have hg:=vT hes;obtain⟨ents,clk,m1,m2,m3⟩:=hr.maps id es hg
 have hck:∀em,(Instr.checkKey em 10000 kt (a.eval k)).run P w=.ok () w:=fun em=>by
  unfold Instr.checkKey;simp[run_underlying hq]
 have hgo:(getObj (φ id).eM).run P w=.ok (.map ents clk) w:=by simp[getObj,Sem.run,m1]
 -- behind the write
 have fin:∀(ents':Array MapEntry) (clk':Nat),ents'.size=es'.length→
  (∀j (hj:j < es'.length),dK φ h w es'[j].1 (ents'.getD j default).key∧dK φ h w es'[j].2 (ents'.getD j default).val)→
  (Instr.mapUpdate t (a.eval m) (a.eval k) (a.eval v)).run P w=.ok () (Ey w (φ id).eM (.map ents' clk'))→
  dV P (execOp a.eval o) φ h w .undef (((h.set id (.map es')).mark id (v'.ev fr)).mark id (k'.ev fr)):=fun ents' clk' hlen hent hrun=>by
  have hlt:(φ id).eM < w.heap.size:=hr.dW ⟨_,hg,fun e=>by cases e⟩;obtain⟨t1,t2⟩:=AL (w':=Ey w (φ id).eM (.map ents' clk')) (o':=.map es') hr hg (fun e=>by cases e) (by simp[Ey]) (fun b hb=>Dz hb) rfl rfl rfl
  have hr2:=t2 (fun cs e=>by cases e) fun es2 e=>by
   cases e;exact⟨ents',clk',He hlt,hlen,fun j hj=>⟨(hent j hj).1.ext t1,(hent j hj).2.ext t1⟩⟩
  obtain⟨n1,n2⟩:=hr2.mark id (v'.ev fr);obtain⟨n3,n4⟩:=n1.mark id (k'.ev fr);refine⟨undef,_,φ,.inr ⟨?_,rfl⟩,.undef _,n3,(t1.trans n2).trans n4⟩;unfold execOp;simp[ho,hrun]
 rcases EB (q:=q) g1 es ents.toList 0 (by simpa using m2) (fun j hj=>by
  have:=(m3 j hj).1;simpa[Array.getD_eq_getD_getElem?,List.getD] using this) es' hu with⟨f1,rfl⟩ | ⟨j,cv,f1,f2,f3,⟨q0,n,f4⟩,rfl⟩
 ·refine fin (ents.push {key:=a.eval k,val:=a.eval v,born:=clk}) (clk+1) (by simp[m2]) (fun j hj=>?_) ?_
  ·by_cases hl:j < es.length
   ·have:=m3 j hl
    have e1:(ents.push {key:=a.eval k,val:=a.eval v,born:=clk}).getD j default=ents.getD j default:=by
     have:j < ents.size:=by omega
     rw[Array.getD_eq_getD_getElem?,Array.getD_eq_getD_getElem?,Array.getElem?_push_lt this,Array.getElem?_eq_getElem this]
    rw[e1];simpa[hl] using this
   ·have hj':j=es.length:=by simp at hj;omega
    subst hj'
    have e1:(ents.push {key:=a.eval k,val:=a.eval v,born:=clk}).getD es.length default={key:=a.eval k,val:=a.eval v,born:=clk}:=by
     rw[Array.getD_eq_getD_getElem?,←m2];simp
    rw[e1];simpa using ⟨g1,g2⟩
  ·have hfk:(Instr.findKey kt (a.eval k) ents.toList).run P w=.ok none w:=by
    unfold Instr.findKey;simp[run_underlying hq,f1]
   simp[Instr.mapUpdate,run_underlying ht,hmv,hgo,hck,hfk,setObj,Sem.run];rw[show φ.at_ id=φ id from rfl,m1];rfl
 ·have hjl:j < ents.size:=by omega
  rw[Nat.zero_add] at f1
  have hkey:(ents[j]).key=a.eval k:=by
   have:=f3;simpa[List.getD,hjl] using this
  refine fin (ents.modify j fun e=>{e with key:=a.eval k,val:=a.eval v}) clk (by simp[m2]) (fun i hi=>?_) ?_
  ·have hi':i < es.length:=by simpa using hi
   have hie:i < ents.size:=by omega
   by_cases hij:i=j
   ·subst hij
    have e1:(ents.modify i fun e=>{e with key:=a.eval k,val:=a.eval v}).getD i default={ents[i] with key:=a.eval k,val:=a.eval v}:=by
     rw[Array.getD_eq_getD_getElem?,Array.getElem?_eq_getElem (by simpa using hie),Array.getElem_modify_self];rfl
    rw[e1];simpa using ⟨g1,g2⟩
   ·have e1:(ents.modify j fun e=>{e with key:=a.eval k,val:=a.eval v}).getD i default=ents.getD i default:=by
     rw[Array.getD_eq_getD_getElem?,Array.getD_eq_getD_getElem?,Array.getElem?_eq_getElem (by simpa using hie),Array.getElem_modify_of_ne (fun e=>hij e.symm),Array.getElem?_eq_getElem hie]
    rw[e1];have:=m3 i hi';rw[List.getElem_set_ne (fun e=>hij e.symm)];exact this
  ·have hfk:(Instr.findKey kt (a.eval k) ents.toList).run P w=.ok (some (j,cv)) w:=by
    unfold Instr.findKey;simp[run_underlying hq,f1]
   have hst:(Instr.keyThatStays (a.eval k) (a.eval k)).run P w=.ok (a.eval k) w:=by
    unfold Instr.keyThatStays;rw[f4];simp[Instr.sameBits]
   simp[Instr.mapUpdate,run_underlying ht,hmv,hgo,hck,hfk,hjl,hkey,hst,setObj,Sem.run];rw[show φ.at_ id=φ id from rfl,m1];rfl
end
end Sz

/- A row of bytes by value, and its string. No program is named here. -/
namespace Sz
open Go
section
variable {P:Program} {φ:dp} {h:aa} {w:World} {fr:List AV} {a:Act}
theorem nR:∀{l:List AV} {s:List UInt8},bytesOf l=some s→∀i (hi:i < l.length),∃n,l[i]=.int .u8 n
 | [],_,_,i,hi=>by simp at hi
 | x::r,s,h,i,hi=>by
   cases x with
   | int k n=>
     cases k<;>simp only[bytesOf] at h<;>first | (cases h;done) | skip
     obtain⟨s',h1,rfl⟩:=Option.map_eq_some_iff.1 h
     cases i with
     | zero=>exact⟨n,rfl⟩
     | succ i=>exact nR h1 i (by simpa using hi)
   | _=>simp[bytesOf] at h
theorem Ob {t e:TypeId} {len:Nat} {parts:Array (Nat×Operand)} {o:Oper} (ho:o.op=.buildSlice t len parts) (ht:P.underlying t=some (.slice e)) {i:TypeInfo} (hi:P.info? e=some i)
 {z:List AV} (hz:kA P e=some z) {ps:List (Nat×cI)} (hps:dm (fun p:Nat×Operand=>(eD p.2).map fun x=>(p.1,x)) parts.toList=some ps) (h1:i.size=1) (hlen:len≤2 ^ 24) (hzl:z.length=1) {cs:List AV}
 (he:iW ((List.range (len*1)).map fun j=>z.getD (j % 1) .undef) (ps.map fun p=>(p.1*1,1,p.2.ev fr))=some cs) {b:List UInt8} (hb:bytesOf cs=some b) (hf:FR φ h w fr a.tmps) (hr:HR φ h w):
 dV P (execOp a.eval o) φ h w (.sl cs) h:=by
 obtain⟨i',zv,hi',hzi,k1,k2,k3⟩:=kW (φ:=φ) hz;obtain rfl:i=i':=by rw[hi] at hi';exact Option.some.inj hi'
 have g1:=jY hps;rw[←h1] at he;have hzl0:=hzl;have hlen0:=hlen;replace hzl:z.length=i.size:=by omega
 replace hlen:len*i.size≤2 ^ 24:=by rw[h1];omega
 let zz:Array Value:=if len*i.size=0 then #[] else zv.cells
 have hinit:mM φ h.next (Pr φ h w) w ((List.range (len*i.size)).map fun j=>z.getD (j % i.size) .undef) ((Array.range (len*i.size)).map (zz[· % zz.size]!)):=by
  refine⟨by simp,fun j=>?_,fun j hj=>?_⟩
  ·by_cases hj:j < len*i.size
   ·have hpos:0 < i.size:=Nat.pos_of_ne_zero fun e=>by simp[e] at hj
    have hzz:zz=zv.cells:=if_neg (by omega);have hm:j % i.size < i.size:=Nat.mod_lt _ hpos;have:=k2 (j % i.size);simp only[hzz,k1,hzl];simpa[Array.getD,hj,k1,hzl,hm] using this
   ·simp[Array.getD,hj];rfl
  ·have hj':j < len*i.size:=by simpa using hj
   have hpos:0 < i.size:=Nat.pos_of_ne_zero fun e=>by simp[e] at hj'
   have hzz:zz=zv.cells:=if_neg (by omega);have hm:j % i.size < z.length:=by rw[hzl];exact Nat.mod_lt _ hpos
   have:=k3 h.next (Pr φ h w) w (j % i.size) hm
   simp only[hzz,k1,hzl];have hm':j % i.size < i.size:=by omega
   simpa[Array.getD,hj',k1,hzl,hm,hm',List.getD] using this
 obtain⟨c',e1,e2,e3,e4⟩:=vi (φ:=φ) (nx:=h.next) (pr:=Pr φ h w) (w:=w) (fun k=>some (k*i.size,i.size)) (ps.map fun p=>(p.1*i.size,i.size,p.2.ev fr)) ((parts.map fun (i,x)=>(i,a.eval x)).toList) _ _ cs hinit
  (by simp[g1]) (fun j hj hj'=>by
   have hj1:j < ps.length:=by simpa using hj
   have hj2:j < parts.toList.length:=by simpa using hj'
   have q:=iM hps j hj2 hj1;obtain⟨x',q1,q2⟩:=Option.map_eq_some_iff.1 q;have q3:=bO q1 hf;have q4:ps[j]=((parts.toList[j]).1,x'):=q2.symm;exact⟨by simp[q4],by simpa[q4] using q3⟩) he
 have hcl:cs.length=len:=by
  have:c'.size=len*i.size:=by
   have:=iA _ _ _ _ e1;simpa using this
  rw[h1,Nat.mul_one] at this;omega
 obtain⟨r1,r2⟩:=th (w':=w.alloc (.cells c' e)) hr rfl rfl rfl rfl;refine⟨.slice (some ⟨w.heap.size,0,none⟩) len len,w.alloc (.cells c' e),φ,.inl ?_,?_,r1,r2⟩
 ·unfold execOp;have hbig:¬ (len*i.size > 2 ^ 24):=by rw[h1];omega
  by_cases h0:len*i.size=0
  ·simp only[zz,h0,if_true] at e1;have hlen':¬ (16777216 < len*i.size):=by omega
   simp[Array.range_zero'] at e1;simp[ho,Instr.buildSlice,run_underlying ht,gr hi,h0,newRow,Array.range_zero',e1]
  ·simp only[zz,h0,if_false] at e1;have hlen':¬ (16777216 < len*i.size):=by omega
   simp at e1;simp[ho,Instr.buildSlice,run_underlying ht,gr hi,zeroValue,typeInfo,hi,hzi,hlen',h0,newRow,e1]
 ·have hcs:c'.size=cs.length:=by
   have:c'.size=len*i.size:=by
    have:=iA _ _ _ _ e1;simpa using this
   rw[this,h1,hcl];omega
  have hint:∀k (hk:k < cs.length),∃n,cs[k]=.int .u8 n∧c'.getD k default=.int .u8 n:=fun k hk=>by
   obtain⟨n,e⟩:=nR hb k hk;have:=e4 k hk;rw[e] at this;exact⟨n,e,this.dh⟩
  rw[←hcl];refine .sl _ w.heap.size 0 cs.length 1 (fun k _=>c'.getD k default) ⟨?_,?_,?_⟩ (Nat.le_refl _) ?_ (fun k _=>e3 k) ?_ ?_ ?_
  ·show w.heap.size < (w.heap.push _).size;simp
  ·intro id hl e;have:=hr.dW hl;omega
  ·intro hgh;have:=(hr.gh _ hgh).1;omega
  ·have:∀{l:List AV} {s:List UInt8},bytesOf l=some s→AV.ai l=0:=by
    intro l
    induction l with
    | nil=>intro s _;rfl
    | cons x r ih=>
      intro s h
      cases x with
      | int k n=>
        cases k<;>simp only[bytesOf] at h<;>first | (cases h;done) | skip
        obtain⟨s',h1,rfl⟩:=Option.map_eq_some_iff.1 h;simp[AV.ai,AV.refs,ih h1]
      | _=>simp[bytesOf] at h
   exact this hb
  ·intro k hk;obtain⟨n,e,_⟩:=hint k hk;rw[e];rfl
  ·intro k j hk hj;have hj0:j=0:=by omega
   subst hj0
   have hb:(w.alloc (.cells c' e)).heap[w.heap.size]? =some (.cells c' e):=by
    show (w.heap.push _)[w.heap.size]? =_;simp
   unfold World.cell?;simp only[hb,Nat.zero_add,Nat.mul_one,Nat.add_zero];rw[Array.getD_eq_getD_getElem?,Array.getElem?_eq_getElem (by omega)];rfl
  ·intro k hk j hj;obtain⟨n,e,e'⟩:=hint k hk;simp only[e,AV.cells] at hj ⊢;have hj0:j=0:=by simpa using hj
   subst hj0;rw[e'];exact .int _ _
theorem Mb {s d e:TypeId} {x:Operand} {o:Oper} (ho:o.op=.convert s d x) {x':cI} (hx:eD x=some x') (hs:P.underlying s=some (.slice e)) (hd:P.underlying d=some .string) (he:P.underlying e=some (.int .u8))
 {cs:List AV} (hv:x'.ev fr=.sl cs) {b:List UInt8} (hb:bytesOf cs=some b) (hf:FR φ h w fr a.tmps) (hr:HR φ h w):dV P (execOp a.eval o) φ h w (.str b) h:=by
 have hall:cs.all (fun x=>(x.cells?.map List.length)==some 1)=true:=by
  rw[List.all_eq_true];intro x hx;obtain⟨i,hi,rfl⟩:=List.getElem_of_mem hx;obtain⟨n,e⟩:=nR hb i hi;rw[e];rfl
 have hfl:∀{l:List AV} {s:List UInt8},bytesOf l=some s→l.flatMap AV.cells=l:=by
  intro l
  induction l with
  | nil=>intro s _;rfl
  | cons x r ih=>
    intro s h
    cases x with
    | int k n=>
      cases k<;>simp only[bytesOf] at h<;>first | (cases h;done) | skip
      obtain⟨s',h1,rfl⟩:=Option.map_eq_some_iff.1 h;rw[List.flatMap_cons,ih h1];rfl
    | _=>simp[bytesOf] at h
 refine EI ho hx hs hd he (n:=cs.length) (cs:=cs) ?_ (fun s=>by rw[hv];exact fun h=>by cases h) hb hf hr;rw[hv];simp only[aS];rw[if_pos hall,hfl hb]
end
end Sz

/- The compiled code does what the code does. No program is named here. -/
namespace Sz
open Go
section
variable {P:Program} {φ:dp} {h:aa} {w:World} {fr:List AV} {a:Act}
theorem ON {o:Oper} {aop:qR} {v:AV} {h':aa} (hc:cR P o.op=some aop) (he:bE fr h aop=some (v,h')) (hf:FR φ h w fr a.tmps) (hr:HR φ h w):dV P (execOp a.eval o) φ h w v h':=by
 cases hop:o.op with
 | move x=>
   rw[hop] at hc;simp only[cR,Option.map_eq_some_iff] at hc;obtain⟨x',hx,rfl⟩:=hc;simp only[bE,Option.some.injEq,Prod.mk.injEq] at he;obtain⟨rfl,rfl⟩:=he;exact IZ (.inl hop) hx hf hr
 | assign x=>
   rw[hop] at hc;simp only[cR,Option.map_eq_some_iff] at hc;obtain⟨x',hx,rfl⟩:=hc;simp only[bE,Option.some.injEq,Prod.mk.injEq] at he;obtain⟨rfl,rfl⟩:=he;exact IZ (.inr hop) hx hf hr
 | pick c x y=>
   rw[hop] at hc;simp only[cR] at hc;split at hc
   ·rename_i c' x' y' h1 h2 h3;cases hc;simp only[bE] at he;split at he
    ·rename_i b hb;cases he;exact Lj hop h1 h2 h3 hb hf hr
    ·cases he
   ·cases hc
 | alloc t=>
   rw[hop] at hc;simp only[cR,Option.map_eq_some_iff] at hc;obtain⟨z,hz,rfl⟩:=hc;simp only[bE,cI.ev,AV.cells?,Option.some.injEq,Prod.mk.injEq] at he;obtain⟨rfl,rfl⟩:=he;exact I8 hop hz hr
 | box t x=>
   rw[hop] at hc;simp only[cR,Option.map_eq_some_iff] at hc;obtain⟨x',hx,rfl⟩:=hc;simp only[bE] at he;split at he
   ·rename_i cs hcs;cases he;exact N6 hop hx hcs hf hr
   ·cases he
 | build t parts=>
   rw[hop] at hc;simp only[cR] at hc;split at hc
   ·rename_i fs z h1 h2;split at hc
    ·rename_i places h3;obtain⟨ps,hps,rfl⟩:=Option.map_eq_some_iff.1 hc;simp only[bE,Option.map_eq_some_iff] at he;obtain⟨cs,hcs,e⟩:=he;cases e;exact On hop h1 h2 h3 hps hcs hf hr
    ·cases hc
   ·cases hc
 | buildSlice t len parts=>
   rw[hop] at hc;simp only[cR] at hc;split at hc
   ·rename_i h0;split at hc
    ·rename_i e h1;obtain⟨i,hi,rfl⟩:=Option.map_eq_some_iff.1 hc;simp only[bE,Option.some.injEq,Prod.mk.injEq] at he;obtain⟨rfl,rfl⟩:=he;obtain⟨rfl,hp⟩:=h0;exact OS hop (by simpa using hp) h1 hi hr
    ·cases hc
   split at hc
   ·rename_i e h1;split at hc
    ·rename_i i z ps h2 h3 h4;split at hc
     ·rename_i h5;cases hc;simp only[bE,Option.map_eq_some_iff] at he;obtain⟨cs,hcs,e⟩:=he;cases e;exact OP hop h1 h2 h3 h4 h5.1 h5.2 hcs hf hr
     ·cases hc
    ·cases hc
   ·cases hc
 | load t x=>
   rw[hop] at hc;simp only[cR] at hc;split at hc
   ·rename_i x' n h1 h2;cases hc;simp only[bE,Option.map_eq_some_iff] at he;obtain⟨v',hv,e⟩:=he;cases e;exact R1 hop h1 h2 hv hf hr
   ·cases hc
 | store t x y=>
   rw[hop] at hc;simp only[cR] at hc;split at hc
   ·rename_i x' y' i h1 h2 h3;cases hc;simp only[bE] at he;split at he
    ·rename_i id off vs h4 h5;split at he
     ·rename_i cs h6;split at he
      ·rename_i h7;cases he;exact QP hop h1 h2 h3 h4 h5 h6 h7.1 h7.2 hf hr
      ·cases he
     ·cases he
    ·cases he
   ·cases hc
 | nilCheck x=>
   rw[hop] at hc;simp only[cR,Option.map_eq_some_iff] at hc;obtain⟨x',hx,rfl⟩:=hc;simp only[bE] at he;split at he
   ·rename_i hn;cases he;exact Qx hop hx hn hf hr
   ·cases he
 | binOp op t x y ty=>
   rw[hop] at hc;simp only[cR,Fu] at hc;split at hc
   ·rename_i x' y' h1 h2
    have nilc:∀k,pj op k x' y' y=some aop→((k=0∧∃e,P.underlying t=some (.pointer e))∨(k=1∧∃ms,P.underlying t=some (.interface ms))∨(k=2∧∃ps rs v,P.underlying t=some (.func ps rs v))∨(k=3∧∃kk e,P.underlying t=some (.map kk e)))→
     dV P (execOp a.eval o) φ h w v h':=fun k hk ht=>by
     unfold pj at hk;split at hk
     ·rename_i hcy
      have key:∀neg,o.op=.binOp (if neg then .neq else .eql) t x y ty→aop=.NQ k neg x' y'→dV P (execOp a.eval o) φ h w v h':=fun neg ho ha=>by
       subst ha;simp only[bE] at he;split at he
       ·rename_i p h4 h5;cases he;exact P6 ho h1 h2 hcy ht h4 h5 hf hr
       ·cases he
      split at hk
      ·cases hk;exact key false hop rfl
      ·cases hk;exact key true hop rfl
      ·cases hk
     ·cases hk
    split at hc
    ·rename_i k hk;cases hc;simp only[bE,Option.map_eq_some_iff] at he;obtain⟨v',hv,e⟩:=he;cases e;exact KB hop h1 h2 hv hf hr
    ·rename_i hk;cases hc;simp only[bE,Option.map_eq_some_iff] at he;obtain⟨v',hv,e⟩:=he;cases e;exact KB hop h1 h2 hv hf hr
    ·rename_i ht
     have key:∀neg,o.op=.binOp (if neg then .neq else .eql) t x y ty→aop=.beq neg x' y'→dV P (execOp a.eval o) φ h w v h':=fun neg ho ha=>by
      subst ha;simp only[bE] at he;split at he
      ·rename_i b1 b2 h4 h5;cases he;exact Qi ho h1 h2 ht h4 h5 hf hr
      ·cases he
     split at hc
     ·cases hc;exact key false hop rfl
     ·cases hc;exact key true hop rfl
     ·cases hc
    ·rename_i fs ht;split at hc
     ·rename_i ks hks;split at hc
      ·rename_i hg
       have key:∀neg,o.op=.binOp (if neg then .neq else .eql) t x y ty→aop=.K9 ks neg x' y'→dV P (execOp a.eval o) φ h w v h':=fun neg ho ha=>by
        subst ha;simp only[bE] at he;split at he
        ·rename_i l m h4 h5;obtain⟨r,hr',e⟩:=Option.map_eq_some_iff.1 he;cases e;exact PA ho h1 h2 ht hks hg.1 hg.2 h4 h5 hr' hf hr
        ·cases he
       split at hc
       ·cases hc;exact key false hop rfl
       ·cases hc;exact key true hop rfl
       ·cases hc
      ·cases hc
     ·cases hc
    ·rename_i e ht;exact nilc 0 hc (.inl ⟨rfl,e,ht⟩)
    ·rename_i e ht;exact nilc 1 hc (.inr (.inl ⟨rfl,e,ht⟩))
    ·rename_i p1 p2 p3 ht;exact nilc 2 hc (.inr (.inr (.inl ⟨rfl,p1,p2,p3,ht⟩)))
    ·rename_i p1 p2 ht;exact nilc 3 hc (.inr (.inr (.inr ⟨rfl,p1,p2,ht⟩)))
    ·rename_i e ht;split at hc
     ·cases hc;simp only[bE] at he;exact E8 (neg:=false) hop h1 ht he hf hr
     ·cases hc;simp only[bE] at he;exact E8 (neg:=true) hop h1 ht he hf hr
     ·cases hc
    ·cases hc
   ·cases hc
 | unOp op t x=>
   rw[hop] at hc;simp only[cR,Option.map_eq_some_iff] at hc;obtain⟨x',hx,rfl⟩:=hc
   have key:∀v',(match (generalizing:=false) op,x'.ev fr with
    | .not,.bool b=>some (AV.bool (!b))
    | .neg,.int k n=>some (.int k (k.wrap (0 - n)))
    | .xor,.int k n=>some (.int k (yV .xor k (if k.signed then -1 else k.max) n))
    | _,_=>none)=some v'→v=v'→h'=h→dV P (execOp a.eval o) φ h w v h':=fun v' hv e1 e2=>by
    subst e1 e2;exact Su hop hx hv hf hr
   simp only[bE] at he;split at he
   ·rename_i b hb;cases he;exact key _ (by rw[hb]) rfl rfl
   ·rename_i k n hb;cases he;exact key _ (by rw[hb]) rfl rfl
   ·rename_i k n hb;cases he;exact key _ (by rw[hb]) rfl rfl
   ·cases he
 | convert s d x=>
   rw[hop] at hc;simp only[cR,Cq] at hc;split at hc
   ·rename_i x' k0 k h1 h2 h3;cases hc;simp only[bE] at he;split at he
    ·rename_i k' n h4;cases he;exact PU hop h1 h2 h3 h4 hf hr
    ·cases he
   ·rename_i x' k0 h1 h2 h3;cases hc;simp only[bE] at he;split at he
    ·rename_i k' n h4;split at he
     ·rename_i h5;cases he;exact MO hop h1 h2 h3 h4 h5.1 h5.2 hf hr
     ·cases he
    ·cases he
   ·rename_i x' h1 h2 h3;cases hc;simp only[bE] at he;split at he
    ·rename_i s h4;cases he;exact L3 hop h1 h2 h3 h4 hf hr
    ·cases he
   ·rename_i x' e h1 h2 h3;split at hc
    ·rename_i h5;cases hc;simp only[bE] at he;split at he
     ·rename_i s h4;cases he;exact L0 hop h1 h2 h3 h5 h4 hf hr
     ·cases he
    ·cases hc
   ·rename_i x' e h1 h2 h3;split at hc
    ·rename_i h5;cases hc;simp only[bE] at he;split at he
     ·cases he
     ·rename_i n cs h4 h6;obtain⟨s,h7,e⟩:=Option.map_eq_some_iff.1 he;cases e;exact EI hop h1 h2 h3 h5 h4 h6 h7 hf hr
     ·cases he
    ·cases hc
   ·cases hc
 | makeInterface t x=>
   rw[hop] at hc;simp only[cR] at hc;split at hc
   ·cases hc
   ·rename_i x' d h1 h2 h3;cases hc;simp only[bE,Option.some.injEq,Prod.mk.injEq] at he;obtain⟨rfl,rfl⟩:=he;exact Pp hop h2 h3 (fun ms e=>h1 ms e) hf hr
   ·cases hc
 | makeFunc f first caps=>
   rw[hop] at hc
   cases f with
   | func f=>
     simp only[cR] at hc;split at hc
     ·rename_i h1;obtain⟨cs,h2,rfl⟩:=Option.map_eq_some_iff.1 hc;simp only[bE,Option.some.injEq,Prod.mk.injEq] at he;obtain⟨rfl,rfl⟩:=he;exact Pd hop h1 h2 hf hr
     ·cases hc
   | _=>simp[cR] at hc
 | makeMap t r=>
   rw[hop] at hc
   cases r with
   | none=>
     simp only[cR,Option.some.injEq] at hc;subst hc;simp only[bE,Option.some.injEq,Prod.mk.injEq] at he;obtain⟨rfl,rfl⟩:=he;exact OE hop hr
   | some r=>simp[cR] at hc
 | makeSlice t l c=>
   rw[hop] at hc;simp only[cR] at hc;split at hc
   ·rename_i e l' c' h1 h2 h3;split at hc
    ·rename_i i z h4 h5;split at hc
     ·rename_i h6;cases hc;simp only[bE] at he;split at he
      ·rename_i m n h7 h8;split at he
       ·rename_i h9;cases he;exact N5 hop h2 h3 h1 h4 h5 h6 h7 h8 h9 hf hr
       ·cases he
      ·cases he
     ·cases hc
    ·cases hc
   ·cases hc
 | slice t x lo hi mx=>
   rw[hop] at hc;simp only[cR] at hc;split at hc
   ·rename_i x' lo' hi' h1 h2 h3 h4 h5;cases hc
    have hmx:mx=none:=by
     cases mx with
     | none=>rfl
     | some m=>simp[uT] at h5
    subst hmx;simp only[bE] at he;split at he
    ·rename_i s h6;obtain⟨⟨l,u⟩,h7,e⟩:=Option.map_eq_some_iff.1 he;cases e;exact PK hop h2 h3 h4 h1 h6 h7 hf hr
    ·cases he
   ·rename_i e x' lo' hi' mx' h1 h2 h3 h4 h5;obtain⟨i,hi',rfl⟩:=Option.map_eq_some_iff.1 hc;simp only[bE] at he;exact PF hop h2 h3 h4 h5 h1 hi' he hf hr
   ·cases hc
 | fieldAddr s x k=>
   rw[hop] at hc;simp only[cR] at hc;split at hc
   ·rename_i fs x' h1 h2;split at hc
    ·rename_i fd h3;split at hc
     ·rename_i i h4;split at hc
      ·rename_i h5;cases hc;simp only[bE] at he
       have key:∀v',(match x'.ev fr with | .ptr id o=>some (AV.ptr id (o+fd.offset)) | .ip cs=>some (.ip (cs.drop fd.offset)) | _=>none)=some v'→v=v'→h'=h→dV P (execOp a.eval o) φ h w v h':=fun v' hv e1 e2=>by
        subst e1 e2;exact PM hop h2 h1 h3 h4 h5 hv hf hr
       split at he
       ·rename_i id oo hb;cases he;exact key _ (by rw[hb]) rfl rfl
       ·rename_i cs hb;cases he;exact key _ (by rw[hb]) rfl rfl
       ·cases he
      ·cases hc
     ·cases hc
    ·cases hc
   ·cases hc
 | field t x k=>
   rw[hop] at hc;simp only[cR] at hc;split at hc
   ·rename_i fs x' h1 h2;split at hc
    ·rename_i fd h3;obtain⟨n,h4,rfl⟩:=Option.map_eq_some_iff.1 hc;simp only[bE] at he;split at he
     ·rename_i cs h5
      cases n with
      | none=>
        simp only[Option.map_eq_some_iff] at he;obtain⟨v',hv,e⟩:=he;cases e;exact IS hop h2 h1 h3 h4 h5 hv hf hr
      | some n=>
        dsimp only at he;split at he
        ·rename_i h6;cases he;exact IS hop h2 h1 h3 h4 h5 (by dsimp only;rw[if_pos h6]) hf hr
        ·cases he
     ·cases he
    ·cases hc
   ·cases hc
 | indexAddr t x i=>
   rw[hop] at hc;simp only[cR] at hc;split at hc
   ·rename_i e x' i' h1 h2 h3;obtain⟨inf,h4,rfl⟩:=Option.map_eq_some_iff.1 hc;simp only[bE] at he;exact N3 hop h2 h3 h1 h4 he hf hr
   ·cases hc
 | index t x i=>
   rw[hop] at hc;simp only[cR] at hc;split at hc
   ·rename_i x' i' h1 h2 h3;cases hc;simp only[bE] at he;split at he
    ·rename_i s k n h4 h5;split at he
     ·rename_i h0;obtain⟨b,hb,e⟩:=Option.map_eq_some_iff.1 he;cases e;exact Of hop h2 h3 h1 h4 h5 h0 hb hf hr
     ·cases he
    ·cases he
   ·cases hc
 | lookup t m k ok=>
   rw[hop] at hc;simp only[cR] at hc;split at hc
   ·rename_i kt e m' k' h1 h2 h3;split at hc
    ·rename_i q z h4 h5;cases hc;simp only[bE] at he;split at he
     ·rename_i es h6;obtain⟨r,h7,e1⟩:=Option.map_eq_some_iff.1 he
      have hint:(∃q0 n,k'.ev fr=.int q0 n)∨es=[]:=by
       cases es with
       | nil=>exact .inr rfl
       | cons p l=>
         refine .inl ?_;obtain⟨k1,v1⟩:=p;cases hkv:k'.ev fr<;>rw[hkv] at h7<;>cases k1<;>simp[pU,ij] at h7;exact⟨_,_,rfl⟩
      have hes:(m'.ev fr=.iC∧es=[])∨∃id,m'.ev fr=.map id∧h.lN id=some es:=by
       split at h6
       ·rename_i h8;cases h6;exact .inl ⟨h8,rfl⟩
       ·rename_i id h8;exact .inr ⟨id,h8,h6⟩
       ·cases h6
      have:=Qd (ok:=ok) hop h2 h3 h1 h4 h5 hes h7 hint hf hr;cases r<;>cases e1<;>exact this
     ·cases he
    ·cases hc
   ·cases hc
 | mapUpdate t m k v0=>
   rw[hop] at hc;simp only[cR] at hc;split at hc
   ·rename_i kt e m' k' v' h1 h2 h3 h4;split at hc
    ·rename_i q h5;cases hc;simp only[bE] at he;split at he
     ·rename_i id h6;split at he
      ·rename_i es h7;obtain⟨es',h8,e1⟩:=Option.map_eq_some_iff.1 he;cases e1;exact Qo hop h2 h3 h4 h1 h5 h6 h7 h8 hf hr
      ·cases he
     ·cases he
    ·cases hc
   ·cases hc
 | extract x i=>
   rw[hop] at hc;simp only[cR,Option.map_eq_some_iff] at hc;obtain⟨x',hx,rfl⟩:=hc;simp only[bE] at he;split at he
   ·rename_i vs h1;obtain⟨v',hv,e⟩:=Option.map_eq_some_iff.1 he;cases e;exact O7 hop hx h1 hv hf hr
   ·cases he
 | call c=>
   rw[hop] at hc;obtain⟨callee,args,rF⟩:=c
   cases callee with
   | value f=>
     simp[cR] at hc
   | invoke r m=>simp[cR] at hc
   | builtin b=>
     obtain⟨args⟩:=args;obtain⟨rF⟩:=rF;simp only[cR] at hc;split at hc
     ·rename_i x t;split at hc
      ·rename_i ht;obtain⟨x',hx,rfl⟩:=Option.map_eq_some_iff.1 hc;simp only[bE] at he;split at he
       ·rename_i s hs;cases he;exact My hop hx ht hs hf hr
       ·cases he
      ·rename_i ht;obtain⟨x',hx,rfl⟩:=Option.map_eq_some_iff.1 hc;simp only[bE] at he;exact MT hop hx ht he hf hr
      ·rename_i ht;obtain⟨x',hx,rfl⟩:=Option.map_eq_some_iff.1 hc;simp only[bE] at he;exact LK hop hx ht he hf hr
      ·cases hc
     ·rename_i x t;split at hc
      ·rename_i e x' h1 h2;split at hc
       ·rename_i i z h3 h4;split at hc
        ·rename_i h5;cases hc;simp only[bE] at he;exact N2 hop h2 h1 h3 h4 h5 he hf hr
        ·cases hc
       ·cases hc
      ·cases hc
     ·rename_i x y;split at hc
      ·rename_i x' y' h1 h2;cases hc;simp only[bE] at he;split at he
       ·rename_i h3 h4;cases he;exact Rl hop h1 h2 h3 h4 hf hr
       ·cases he
      ·cases hc
     ·rename_i x y;split at hc
      ·rename_i x' y' h1 h2;cases hc;simp only[bE] at he;split at he
       ·rename_i h3 h4;cases he;exact Ry hop h1 h2 h3 h4 hf hr
       ·cases he
      ·cases hc
     ·rename_i x y t u;split at hc
      ·cases hc
      ·rename_i e du x' y' hni h1 h2 h3 h4;split at hc
       ·rename_i i z h5 h6;split at hc
        ·rename_i h7;cases hc;simp only[bE] at he;split at he
         ·cases he
         ·rename_i n news h8;exact Ol hop h3 h4 h1 h2 (fun k e=>hni k e) h5 h6 h7.1 h7.2 h8 he hf hr
        ·cases hc
       ·cases hc
      ·cases hc
     ·cases hc
 | _=>rw[hop] at hc;simp[cR] at hc
theorem Rf {o:Oper} {aop:qR} {v:AV} {h':aa} (hc:lY P o.op=some aop) (he:bE fr h aop=some (v,h')) (hf:FR φ h w fr a.tmps) (hr:HR φ h w):dV P (execOp a.eval o) φ h w v h':=by
 unfold lY at hc;split at hc
 ·rename_i b hb;cases hc;exact ON hb he hf hr
 ·cases hc;simp[bE] at he
theorem Kd {ops:Array Oper} {o:Oper} {aop:qR} {v:AV} {h':aa} (hc:lY P o.op=some aop∨rA P ops o=some aop) (he:bE fr h aop=some (v,h')) (hf:FR φ h w fr a.tmps) (hr:HR φ h w):dV P (execOp a.eval o) φ h w v h':=by
 rcases hc with hc | hc
 ·exact Rf hc he hf hr
 unfold rA at hc;split at hc
 ·rename_i t len parts hop;split at hc
  ·rename_i e h1;split at hc
   ·rename_i i z ps h2 h3 h4;split at hc
    ·rename_i h5;cases hc;simp only[bE] at he;split at he
     ·rename_i cs hcs;split at he
      ·rename_i hb;cases he;obtain⟨b,hb⟩:=Option.isSome_iff_exists.1 hb;exact Ob hop h1 h2 h3 h4 h5.1 h5.2.1 h5.2.2.1 hcs hb hf hr
      ·cases he
     ·cases he
    ·cases hc
   ·cases hc
  ·cases hc
 ·rename_i s d x hop;split at hc
  ·rename_i u e h1 h2 h3;split at hc
   ·rename_i h4;split at hc
    ·cases hc;simp only[bE] at he;split at he
     ·rename_i cs hcs;obtain⟨b,hb,e⟩:=Option.map_eq_some_iff.1 he;cases e;exact Mb hop h1 h2 h3 h4 hcs hb hf hr
     ·cases he
    ·cases hc
   ·cases hc
  ·cases hc
 ·cases hc
end
end Sz

/- The abstract run is sound: what it answers the calls answer. No program is named here. -/
namespace Sz
open Go
variable {X:World→Prop}
def bF.strip:bF→bF
 | .seq a b=>.seq a.strip b.strip
 | .cond c a b=>.cond c a.strip b.strip
 | .block id a=>.block id a.strip
 | .loop _ a=>.loop [] a.strip
 | .exit id _=>.exit id []
 | .ret _=>.ret []
 | c=>c
def iu (φ:dp) (h:aa) (w:World) (v:AV) (h':aa):Ending→World→Prop:=
 fun e w'=>∃φ' cv,e=.returned cv∧dK φ' h' w' v cv∧HR φ' h' w'∧Ext φ h w φ' h' w'
def iv (φ:dp) (h:aa) (w:World) (args:List AV) (cargs:Array Value):Prop:=
 cargs.size=args.length∧∀j (hj:j < args.length),dK φ h w args[j] (cargs.getD j default)
def iE (P:Program) (X:World→Prop) (C:Nat→List AV→aa→Option (AV×aa)):Prop:=
 ∀f args h v h',C f args h=some (v,h')→∀φ w cargs,HR φ h w→fv P X φ h w→iv φ h w args cargs→
   ((callFunc f cargs).run P w=.ok (.enter f cargs) w∧Calls P f cargs w (iu φ h w v h'))∨
   ∃cv w' φ',(callFunc f cargs).run P w=.ok (.value cv) w'∧dK φ' h' w' v cv∧HR φ' h' w'∧Ext φ h w φ' h' w'
section
variable {P:Program} {C:Nat→List AV→aa→Option (AV×aa)}
theorem mY {φ:dp} {h:aa} {w:World} {fr:List AV} {a:Act} (hf:FR φ h w fr a.tmps) {v:AV} {cv:Value} (hv:dK φ h w v cv) (d:Option Nat):
 FR φ h w (eG fr d v) (a.put d cv).tmps∧(a.put d cv).defers=a.defers:=by
 cases d with
 | none=>exact⟨hf,rfl⟩
 | some d=>exact⟨hf.put hv d,rfl⟩
theorem GI {φ:dp} {h h':aa} {w:World} {fr:List AV} {a:Act} {o:Oper} {v:AV} {f:Nat} {cargs:Array Value} {args:List AV} (hC:iE P X C) (hc:C f args h=some (v,h')) (hr:HR φ h w) (hG:fv P X φ h w) (ha:iv φ h w args cargs)
 (hf:FR φ h w fr a.tmps) (hrun:(execOp a.eval o).run P w=(callFunc f cargs).run P w) {K:Act→World→Prop} {Q:Exit→Act→World→Prop}
 (hK:∀φ' cv w',FR φ' h' w' (eG fr o.dst v) (a.put o.dst cv).tmps→HR φ' h' w'→Ext φ h w φ' h' w'→K (a.put o.dst cv) w'):o.wp P a w K Q:=by
 unfold Oper.wp;rw[hrun];rcases hC f args h v h' hc φ w cargs hr hG ha with⟨e1,e2⟩ | ⟨cv,w',φ',e1,e2,e3,e4⟩
 ·rw[e1,Oper.upon_enter];refine e2.mono fun e w' he=>?_
  obtain⟨φ',cv,rfl,g1,g2,g3⟩:=he;obtain⟨p1,p2⟩:=mY (hf.ext g3) g1 o.dst;exact hK φ' _ w' p1 g2 g3
 ·rw[e1,Oper.upon_value];obtain⟨p1,p2⟩:=mY (hf.ext e4) e2 o.dst;exact hK φ' _ w' p1 e3 e4
theorem AU {φ:dp} {h:aa} {w:World} {fr:List AV} {a:Act} {xs:Array Operand} {xs':List cI} (hx:jO xs=some xs') (hf:FR φ h w fr a.tmps):iv φ h w (xs'.map (·.ev fr)) (xs.map a.eval):=by
 obtain⟨g1,g2⟩:=Fi hx hf;refine⟨by simpa using g1,fun j hj=>?_⟩;have hj':j < xs'.length:=by simpa using hj
 have:=g2 j hj';simpa[List.getD,hj'] using this
theorem rn (hC:iE P X C) {ops:Array Oper} {o:Oper} {s:aU} (hs:fp P ops o=some s) {φ:dp} {h h':aa} {w:World} {fr fr':List AV} {a:Act} (he:cd C s fr h=some (fr',h'))
 (hf:FR φ h w fr a.tmps) (hr:HR φ h w) (hG:fv P X φ h w) {K:Act→World→Prop} {Q:Exit→Act→World→Prop}
 (hK:∀φ' cv w',FR φ' h' w' fr' (a.put o.dst cv).tmps→HR φ' h' w'→Ext φ h w φ' h' w'→K (a.put o.dst cv) w'):
 if Region.wanted o (yielded ops a.tmps) then o.wp P a w K Q else K (a.put o.dst undef) w:=by
 unfold fp at hs;split at hs
 ·cases hs
 ·rename_i aop haop
  -- the guard
  have hguard:∃b,cG fr s.guard=some b∧Region.wanted o (yielded ops a.tmps)=!b:=by
   unfold cd at he
   cases hu:cG fr s.guard with
   | none=>rw[hu] at he;cases he
   | some b=>
     refine⟨b,rfl,?_⟩;split at hs
     ·rename_i hg;cases hs;simp only[cG,Option.some.injEq] at hu;subst hu;simp[Region.wanted,hg]
     ·rename_i j want hg;obtain⟨t,ht,rfl⟩:=Option.map_eq_some_iff.1 hs;simp only[cG] at hu;split at hu
      ·rename_i b' hb';cases hu;obtain⟨hlt,e⟩:=List.getElem?_eq_some_iff.1 hb';have hlt2:t < a.tmps.size:=by rw[hf.1];exact hlt
       have:=hf.2 t;rw[List.getD_eq_getElem?_getD,hb',Option.getD_some] at this;have hv:=this.eX
       have hget:a.tmps[t]? =some (.bool b'):=by
        rw[Array.getD_eq_getD_getElem?,Array.getElem?_eq_getElem hlt2,Option.getD_some] at hv;rw[Array.getElem?_eq_getElem hlt2,hv]
       have hy:yielded ops a.tmps j=some b':=by
        unfold yielded;rw[ht];simp[hget]
       simp only[Region.wanted,hg,hy];cases b'<;>cases want<;>rfl
      ·rename_i hb';cases hu;obtain⟨hlt,e⟩:=List.getElem?_eq_some_iff.1 hb';have hlt2:t < a.tmps.size:=by rw[hf.1];exact hlt
       have:=hf.2 t;rw[List.getD_eq_getElem?_getD,hb',Option.getD_some] at this;obtain⟨cvs,hv,hl,_⟩:=this.l8
       have hget:a.tmps[t]? =some (.tuple cvs):=by
        rw[Array.getD_eq_getD_getElem?,Array.getElem?_eq_getElem hlt2,Option.getD_some] at hv;rw[Array.getElem?_eq_getElem hlt2,hv]
       have hy:yielded ops a.tmps j=none:=by
        unfold yielded;rw[ht];simp[hget]
       simp only[Region.wanted,hg,hy];rfl
      ·cases hu
  obtain⟨b,hb,hw⟩:=hguard
  have hdst:s.dst=o.dst∧s.op=aop:=by
   split at hs
   ·cases hs;exact⟨rfl,rfl⟩
   ·obtain⟨t,ht,rfl⟩:=Option.map_eq_some_iff.1 hs;exact⟨rfl,rfl⟩
  unfold cd at he;rw[hb] at he;rw[hw]
  cases b with
  | true=>
    simp only[Option.some.injEq,Prod.mk.injEq] at he;obtain⟨rfl,rfl⟩:=he;rw[if_neg (by simp)];rw[hdst.1] at hK;obtain⟨p1,p2⟩:=mY hf (RV.tuple [] #[] rfl fun j hj=>by simp at hj:dK φ h w (.tuple []) undef) o.dst;exact hK φ _ w p1 hr (.refl _ _ _)
  | false=>
    rw[if_pos (by simp)];simp only[hdst.2] at he;rw[hdst.1] at he
    have hplain:∀op',(lY P o.op=some op'∨rA P ops o=some op')→(bE fr h op').map (fun p=>(eG fr o.dst p.1,p.2))=some (fr',h')→o.wp P a w K Q:=fun op' haop he=>by
     obtain⟨⟨v,h1⟩,hv,e⟩:=Option.map_eq_some_iff.1 he;cases e;obtain⟨cv,w',φ',e1,e2,e3,e4⟩:=Kd haop hv hf hr;obtain⟨p1,p2⟩:=mY (hf.ext e4) e2 o.dst;have:=hK φ' _ w' p1 e3 e4;unfold Oper.wp;rcases e1 with e1 | ⟨e1,rfl⟩
     ·rw[e1,Oper.upon_value];exact this
     ·rw[e1,Oper.upon_skip];exact this
    have hcallv:∀(f0:Operand) (args0:Array Operand) (rF:Array TypeId) (x':cI) (args:List cI) (f:Nat) (caps:List AV) (v:AV) (h1:aa),o.op=.call {callee:=.value f0,args:=args0,argTypes:=rF}→eD f0=some x'→
     jO args0=some args→x'.ev fr=.fn f caps→C f (args.map (·.ev fr)++caps) h=some (v,h1)→(eG fr o.dst v,h1)=(fr',h')→o.wp P a w K Q:=fun f0 args0 rF x' args f caps v h1 hop hx has hfn hcall e=>by
     cases e;have g:=bO hx hf;rw[hfn] at g;obtain⟨cvs,q1,q2,q3⟩:=g.w8;have ga:=AU has hf;refine GI (cargs:=args0.map a.eval++cvs) hC hcall hr hG ⟨by simp[ga.1,q2],fun j hj=>?_⟩ hf ?_ hK
     ·by_cases hj1:j < (args.map (·.ev fr)).length
      ·have:=ga.2 j hj1;rw[List.getElem_append_left hj1];have hj2:j < (args0.map a.eval).size:=by rw[ga.1];exact hj1
       rw[Array.getD_eq_getD_getElem?] at this ⊢;rw[Array.getElem?_append_left hj2];exact this
      ·have hj3:j - (args.map (·.ev fr)).length < caps.length:=by simp at hj hj1 ⊢;omega
       have:=q3 _ hj3;rw[List.getElem_append_right (by omega)];rw[Array.getD_eq_getD_getElem?] at this ⊢;rw[Array.getElem?_append_right (by rw[ga.1];omega),ga.1];exact this
     ·unfold execOp;simp[hop,resolve,q1,Deferred.ofValue,invoke]
    have hinv:∀s',oC P ops o=some s'→(∃op',(lY P o.op=some op'∨rA P ops o=some op')∧s'=.op op')∨∃f0 args0 rF x' args,o.op=.call {callee:=.value f0,args:=args0,argTypes:=rF}∧eD f0=some x'∧jO args0=some args∧
     ((∃g,x'=.const (.fn g [])∧s'=.call g args)∨s'=.hU x' args):=fun s' hs'=>by
     unfold oC at hs';split at hs'
     ·rename_i op' h1;cases hs';exact .inl ⟨op',.inr h1,rfl⟩
     unfold zW at hs';split at hs'
     ·rename_i f0 args0 rF hop;split at hs'
      ·rename_i g as h1 h2;cases hs';exact .inr ⟨f0,args0,rF,_,as,hop,h1,h2,.inl ⟨g,rfl,rfl⟩⟩
      ·rename_i f' as h1 h2 h3;cases hs';exact .inr ⟨f0,args0,rF,_,as,hop,by assumption,by assumption,.inr rfl⟩
      ·cases hs';exact .inl ⟨.die,.inl (by rw[hop];rfl),rfl⟩
     ·obtain⟨op',h1,rfl⟩:=Option.map_eq_some_iff.1 hs';exact .inl ⟨op',.inl h1,rfl⟩
    rcases hinv aop haop with⟨op',h1,rfl⟩ | ⟨f0,args0,rF,x',args,hop,hx,has,hs'⟩
    ·exact hplain op' h1 he
    ·rcases hs' with⟨g,rfl,rfl⟩ | rfl
     ·dsimp only at he;obtain⟨⟨v,h1⟩,hv,e⟩:=Option.map_eq_some_iff.1 he;exact hcallv f0 args0 rF _ args g [] v h1 hop hx has rfl (by simpa using hv) e
     ·dsimp only at he;split at he
      ·rename_i f caps hfn;obtain⟨⟨v,h1⟩,hv,e⟩:=Option.map_eq_some_iff.1 he;exact hcallv f0 args0 rF _ args f caps v h1 hop hx has hfn hv e
      ·cases he
theorem B3 (hC:iE P X C) {ops:Array Oper} {Q:Exit→Act→World→Prop}:∀{l:List Oper} {ss:List aU},dm (fp P ops) l=some ss→∀{φ:dp} {h h':aa} {w:World} {fr fr':List AV} {a:Act},
 cB C ss fr h=some (fr',h')→FR φ h w fr a.tmps→HR φ h w→fv P X φ h w→
 (∀φ' a' w',FR φ' h' w' fr' a'.tmps→HR φ' h' w'→Ext φ h w φ' h' w'→a'.defers=a.defers→Q .normal a' w')→wpList P ops Q l a w
 | [],ss,hs,φ,h,h',w,fr,fr',a,he,hf,hr,hG,hQ=>by
   simp only[dm,Option.some.injEq] at hs;subst hs;simp only[cB,Option.some.injEq,Prod.mk.injEq] at he;obtain⟨rfl,rfl⟩:=he;exact wpList_nil (hQ φ a w hf hr (.refl _ _ _) rfl)
 | o::l,ss,hs,φ,h,h',w,fr,fr',a,he,hf,hr,hG,hQ=>by
   unfold dm at hs;split at hs
   ·rename_i s ss' h1 h2;cases hs;simp only[cB] at he;split at he
    ·rename_i fr1 h1' hstep;refine wpList_step fun K hK=>?_
     refine rn hC h1 hstep hf hr hG fun φ1 cv w1 f1 r1 e1=>hK _ _ ?_
     have d1:(a.put o.dst cv).defers=a.defers:=by cases o.dst<;>rfl
     exact B3 hC h2 he f1 r1 (hG.ext e1) fun φ2 a2 w2 f2 r2 e2 d2=>hQ φ2 a2 w2 f2 r2 (e1.trans e2) (d2.trans d1)
    ·cases he
   ·cases hs
end
end Sz

/- What an abstract run does not tell older objects of newer ones. No program is named here. -/
namespace Sz
open Go
def kU (h:aa) (id n:Nat):Prop:=(∀cs,h.get id=some (.row cs)→AV.ai cs≤n)∧∀es,h.get id=some (.map es)→∀e ∈ es,e.1.refs≤n∧e.2.refs≤n
structure CL (h h':aa):Prop where
 next:h.next≤h'.next
 wl:h'.wl≤h.wl
 le:∀n,n≤h.next→n≤h'.wl→(∀id,id < n→kU h id n)→∀id,id < n→kU h' id n
 md:h'.md≤h.md
 same:∀id,id < h'.md→id < h.next→h'.get id=h.get id
theorem CL.refl (h:aa):CL h h:=⟨Nat.le_refl _,Nat.le_refl _,fun _ _ _ k=>k,Nat.le_refl _,fun _ _ _=>rfl⟩
theorem CL.trans {h h1 h2:aa} (a:CL h h1) (b:CL h1 h2):CL h h2:=
 ⟨Nat.le_trans a.next b.next,Nat.le_trans b.wl a.wl,fun n hn hw k=>b.le n (Nat.le_trans hn a.next) hw (a.le n hn (Nat.le_trans hw b.wl) k),Nat.le_trans b.md a.md,
  fun id h1 h2=>(b.same id h1 (Nat.lt_of_lt_of_le h2 a.next)).trans (a.same id (Nat.lt_of_lt_of_le h1 b.md) h2)⟩
theorem aa.oT (h:aa) (id:Nat) (o:bf):(h.set id o).md≤h.md:=by
 unfold aa.set;split
 ·exact Nat.min_le_left _ _
 ·exact Nat.le_refl _
@[simp] theorem aa.o5 (h:aa) (id:Nat) (v:AV):(h.mark id v).md=h.md:=by unfold aa.mark;split<;>rfl
theorem aa.mK (h:aa) (id:Nat) (o:bf) (i:Nat) (hi:i < (h.set id o).md):(h.set id o).get i=h.get i:=by
 by_cases e:id=i
 ·subst e;unfold aa.set at hi ⊢;by_cases hlt:id < h.next
  ·rw[if_pos hlt] at hi;dsimp only at hi;omega
  ·rw[if_neg hlt]
 ·exact aa.get_set_other e
theorem CL.alloc (h:aa) (o:bf):CL h (h.alloc o):=
 ⟨by simp,Nat.le_refl _,fun n hn _ k id hid=>by
  have:=k id hid;unfold kU at this ⊢;rw[aa.cQ (by omega)];exact this,Nat.le_refl _,fun id _ h2=>aa.cQ h2⟩
theorem CL.kill (h:aa) (id:Nat):CL h (h.set id .dead):=
 ⟨by simp,by simp,fun n hn _ k i hi=>by
  have:=k i hi;by_cases e:id=i
  ·subst e;unfold kU
   cases hg:h.get id with
   | none=>
     have:(h.set id .dead).get id=none:=by
      unfold aa.set;split
      ·rename_i hlt;unfold aa.get at hg ⊢;simp only[hlt,if_true] at hg ⊢;rw[List.getElem?_eq_none_iff] at hg;exact List.getElem?_eq_none (by simpa using hg)
      ·exact hg
     rw[this];exact⟨fun _ e=>(by cases e),fun _ e=>(by cases e)⟩
   | some o=>
     rw[aa.get_set_same hg];exact⟨fun _ e=>(by cases e),fun _ e=>(by cases e)⟩
  ·unfold kU at this ⊢;rw[aa.get_set_other e];exact this,aa.oT _ _ _,fun i h1 _=>aa.mK h id .dead i h1⟩
theorem Ai (h:aa) (id:Nat) (v:AV):(h.mark id v).wl≤h.wl∧(id+1 < v.refs→(h.mark id v).wl≤id):=by
 unfold aa.mark;split
 ·dsimp only;exact⟨by omega,fun _=>by omega⟩
 ·rename_i hn;exact⟨Nat.le_refl _,fun e=>absurd e hn⟩
theorem se (a b:List AV):AV.ai (a++b)=max (AV.ai a) (AV.ai b):=by
 induction a with
 | nil=>simp[AV.ai]
 | cons x r ih=>simp only[List.cons_append,AV.ai,ih];omega
theorem uQ (vs:List AV):∀(cs:List AV) (k n:Nat),AV.ai cs≤n→AV.ai vs≤n→AV.ai (putAt cs k vs)≤n:=by
 induction vs with
 | nil=>intro cs k n h _;exact h
 | cons v r ih=>
   intro cs k n h h2;simp only[AV.ai] at h2;rw[putAt];refine ih _ _ _ (AV.gE fun x hx=>?_) (by omega);rcases List.mem_or_eq_of_mem_set hx with hx | rfl
   ·have:=AV.cA hx;omega
   ·omega
theorem CL.write {h:aa} {id:Nat} {cs:List AV} (hg:h.get id=some (.row cs)) (vs:List AV) (k:Nat) (v:AV) (hv:AV.ai vs≤v.refs):CL h ((h.set id (.row (putAt cs k vs))).mark id v):=by
 obtain⟨w1,w2⟩:=Ai (h.set id (.row (putAt cs k vs))) id v;refine⟨by simp,by simpa using w1,fun n hn hw q i hi=>?_,by rw[aa.o5];exact aa.oT _ _ _,fun i h1 _=>by rw[aa.ir];rw[aa.o5] at h1;exact aa.mK _ _ _ i h1⟩;have:=q i hi;unfold kU at this ⊢;rw[aa.ir];by_cases e:id=i
 ·subst e;rw[aa.get_set_same hg]
  have hle:v.refs≤n:=by
   by_cases hlt:id+1 < v.refs
   ·have:=w2 hlt;omega
   ·omega
  exact⟨fun cs' e=>(by cases e;exact uQ vs cs k n (this.1 cs hg) (by omega)),fun _ e=>(by cases e)⟩
 ·rw[aa.get_set_other e];exact this
theorem mS {v:AV} {cs:List AV} (h:v.cells? =some cs):AV.ai cs=v.refs:=by
 cases v<;>simp[AV.cells?] at h<;>subst h<;>simp[AV.refs,AV.ai]
theorem qS {h:aa} {id:Nat} {cs:List AV} (he:h.row id=some cs):h.get id=some (.row cs):=by
 unfold aa.row at he;split at he
 ·rename_i g;cases he;exact g
 ·cases he
theorem HJ {h:aa} {id:Nat} {es:List (AV×AV)} (he:h.lN id=some es):h.get id=some (.map es):=by
 unfold aa.lN at he;split at he
 ·rename_i g;cases he;exact g
 ·cases he
theorem yp {kd:Nat} {k v:AV} {n:Nat} (hk:k.refs≤n) (hv:v.refs≤n):∀(es es':List (AV×AV)),xz kd k v es=some es'→(∀e ∈ es,e.1.refs≤n∧e.2.refs≤n)→∀e ∈ es',e.1.refs≤n∧e.2.refs≤n
 | [],es',he,_=>by
   simp only[xz,Option.some.injEq] at he;subst he;intro e h;simp at h;subst h;exact⟨hk,hv⟩
 | (k',v')::r,es',he,hes=>by
   simp only[xz] at he;split at he
   ·cases he;intro e h
    cases h with
    | head=>exact⟨hk,hv⟩
    | tail _ h=>exact hes e (List.mem_cons_of_mem _ h)
   ·obtain⟨r',hr',rfl⟩:=Option.map_eq_some_iff.1 he;intro e h
    cases h with
    | head=>exact hes _ (by simp)
    | tail _ h=>exact yp hk hv r r' hr' (fun e h=>hes e (List.mem_cons_of_mem _ h)) e h
   ·cases he
theorem CL.N0 {h:aa} {id kd:Nat} {es es':List (AV×AV)} {k v:AV} (hg:h.get id=some (.map es)) (hm:xz kd k v es=some es'):CL h (((h.set id (.map es')).mark id v).mark id k):=by
 obtain⟨w1,w2⟩:=Ai (h.set id (.map es')) id v;obtain⟨w3,w4⟩:=Ai ((h.set id (.map es')).mark id v) id k;refine⟨by simp,by simp at w1;omega,fun n hn hw q i hi=>?_,by rw[aa.o5,aa.o5];exact aa.oT _ _ _,fun i h1 _=>by rw[aa.ir,aa.ir];rw[aa.o5,aa.o5] at h1;exact aa.mK _ _ _ i h1⟩;have:=q i hi;unfold kU at this ⊢;rw[aa.ir,aa.ir];by_cases e:id=i
 ·subst e;rw[aa.get_set_same hg]
  have hv:v.refs≤n:=by
   by_cases hlt:id+1 < v.refs
   ·have:=w2 hlt;omega
   ·omega
  have hk:k.refs≤n:=by
   by_cases hlt:id+1 < k.refs
   ·have:=w4 hlt;omega
   ·omega
  exact⟨fun _ e=>(by cases e),fun es2 e=>by cases e;exact yp hk hv es es' hm (this.2 es hg)⟩
 ·rw[aa.get_set_other e];exact this
theorem mC (z:List AV) (n:Nat):AV.ai (List.replicate n z).flatten≤AV.ai z:=by
 induction n with
 | zero=>simp[AV.ai]
 | succ n ih=>rw[List.replicate_succ,List.flatten_cons,se];omega
theorem Q5 {fr:List AV} {h h':aa} {aop:qR} {v:AV} (he:bE fr h aop=some (v,h')):CL h h':=by
 cases aop<;>simp only[bE] at he
 case st n x y=>
  split at he
  ·rename_i id off vs h1 h2;split at he
   ·rename_i cs h3;split at he
    ·cases he;exact .write (qS h3) vs off _ (by rw[mS h2];exact Nat.le_refl _)
    ·cases he
   ·cases he
  ·cases he
 case N0 kd m k y=>
  split at he
  ·split at he
   ·rename_i es h1;obtain⟨es',h2,e⟩:=Option.map_eq_some_iff.1 he;cases e;exact .N0 (HJ h1) h2
   ·cases he
  ·cases he
 case app sz bytes x y=>
  split at he
  ·cases he
  ·split at he
   ·split at he
    ·cases he;exact .refl _
    ·split at he
     ·cases he;exact .alloc _ _
     ·cases he
   ·split at he
    ·rename_i cs h1;split at he
     ·split at he
      ·cases he;exact .refl _
      ·split at he
       ·cases he;exact .write (qS h1) _ _ _ (by simp[AV.refs])
       ·split at he
        ·cases he;exact (CL.kill _ _).trans (.alloc _ _)
        ·cases he
     ·cases he
    ·cases he
   ·cases he
 case Rg z x=>
  split at he
  ·cases he;exact .refl _
  ·split at he
   ·rename_i cs h1;split at he
    ·cases he;exact .write (qS h1) _ _ _ (by simp only[AV.refs];exact mC _ _)
    ·cases he
   ·cases he
  ·cases he
 all_goals
  repeat' split at he
  all_goals first
   | (cases he;done)
   | (cases he;exact .refl _)
   | (cases he;exact .alloc _ _)
   | (obtain⟨_,_,e⟩:=Option.map_eq_some_iff.1 he;cases e;exact .refl _)
   | (obtain⟨_,_,e⟩:=Option.map_eq_some_iff.1 he;cases e;exact .alloc _ _)
   | (obtain⟨p,_,e⟩:=Option.map_eq_some_iff.1 he;(repeat' split at e)<;>cases e<;>exact .refl _)
end Sz

/- Regions whose order is drawn: what a step reads, and what it leaves alone. No program is named here. -/
namespace Sz
open Go
def aa.alike (h h':aa):Prop:=h'.next=h.next∧h'.fi=h.fi
theorem aa.alike_refl (h:aa):h.alike h:=⟨rfl,rfl⟩
theorem aa.alike.symm {h h':aa} (a:h.alike h'):h'.alike h:=⟨a.1.symm,a.2.symm⟩
theorem aa.alike.trans {h h1 h2:aa} (a:h.alike h1) (b:h1.alike h2):h.alike h2:=⟨b.1.trans a.1,b.2.trans a.2⟩
theorem aa.alike.get {h h':aa} (a:h.alike h') (id:Nat):h'.get id=h.get id:=by unfold aa.get;rw[a.1,a.2]
theorem aa.alike.alloc {h h':aa} (a:h.alike h') (o:bf):(h.alloc o).alike (h'.alloc o):=by
 unfold aa.alike aa.alloc;dsimp only;rw[a.1,a.2];exact⟨rfl,rfl⟩
theorem HR.alike {φ:dp} {h h':aa} {w:World} (hr:HR φ h w) (a:h.alike h'):HR φ h' w∧Ext φ h w φ h' w:=by
 obtain⟨n,o,x,y⟩:=h';obtain⟨a1,a2⟩:=a;dsimp only at a1 a2;subst a1 a2;exact hr.nD x y
section
variable {fr fr':List AV} {h h':aa}
theorem C1 {l:List cI} (hx:∀x ∈ l,x.ev fr'=x.ev fr):l.map (·.ev fr')=l.map (·.ev fr):=List.map_congr_left hx
theorem mD {l:Option cI} (hx:∀x ∈ l.toList,x.ev fr'=x.ev fr):l.map (·.ev fr')=l.map (·.ev fr):=by
 cases l with
 | none=>rfl
 | some x=>simp[hx x (by simp)]
theorem Ds {o:qR} (hx:∀x ∈ o.jO,x.ev fr'=x.ev fr):bE fr' h o=bE fr h o:=by
 cases o<;>simp only[qR.jO] at hx
 case iz z ps=>
  simp only[bE];rw[show (ps.map fun p=>(p.1,p.2.1,p.2.2.ev fr'))=ps.map fun p=>(p.1,p.2.1,p.2.2.ev fr) from List.map_congr_left fun p hp=>by rw[hx _ (List.mem_map.2 ⟨p,hp,rfl⟩)]]
 case tQ sz n z ps=>
  simp only[bE];rw[show (ps.map fun p=>(p.1*sz,sz,p.2.ev fr'))=ps.map fun p=>(p.1*sz,sz,p.2.ev fr) from List.map_congr_left fun p hp=>by rw[hx _ (List.mem_map.2 ⟨p,hp,rfl⟩)]]
 case K6 n z ps=>
  simp only[bE];rw[show (ps.map fun p=>(p.1*1,1,p.2.ev fr'))=ps.map fun p=>(p.1*1,1,p.2.ev fr) from List.map_congr_left fun p hp=>by rw[hx _ (List.mem_map.2 ⟨p,hp,rfl⟩)]]
 case I9 f caps=>simp only[bE];rw[C1 hx]
 case QN=>rfl
 case NB=>rfl
 case die=>rfl
 case xt x lo hi=>
  have h1:=hx x (by simp);have h2:=mD (l:=lo) fun y hy=>hx y (by simp[Option.mem_toList.1 hy])
  have h3:=mD (l:=hi) fun y hy=>hx y (by simp[Option.mem_toList.1 hy])
  simp only[bE];rw[h1,h2,h3]
 case NS sz x lo hi m3=>
  have h1:=hx x (by simp);have h2:=mD (l:=lo) fun y hy=>hx y (by simp[Option.mem_toList.1 hy])
  have h3:=mD (l:=hi) fun y hy=>hx y (by simp[Option.mem_toList.1 hy])
  have h4:=mD (l:=m3) fun y hy=>hx y (by simp[Option.mem_toList.1 hy])
  simp only[bE];rw[h1,h2,h3,h4]
 case pick c x y=>simp only[bE];rw[hx c (by simp),hx x (by simp),hx y (by simp)]
 case N0 kd m k v=>simp only[bE];rw[hx m (by simp),hx k (by simp),hx v (by simp)]
 all_goals first
  | (rename_i x;simp only[bE];rw[hx x (by simp)];done)
  | (rename_i x _;simp only[bE];rw[hx x (by simp)];done)
  | (rename_i x y;simp only[bE];rw[hx x (by simp),hx y (by simp)];done)
  | skip
theorem KR {o:qR} (hs:o.still=true) {v:AV} {h1:aa} (he:bE fr h o=some (v,h1)):h1=h∧∀h2,bE fr h2 o=some (v,h2):=by
 cases o<;>simp only[qR.still,Bool.false_eq_true] at hs<;>simp only[bE] at he ⊢
 case mx x y=>
  split at he
  ·rename_i k a k' b e1 e2;simp only[Option.some.injEq,Prod.mk.injEq] at he;obtain⟨rfl,rfl⟩:=he;exact⟨rfl,fun _=>rfl⟩
  ·cases he
 case mn x y=>
  split at he
  ·rename_i k a k' b e1 e2;simp only[Option.some.injEq,Prod.mk.injEq] at he;obtain⟨rfl,rfl⟩:=he;exact⟨rfl,fun _=>rfl⟩
  ·cases he
 all_goals
  repeat' split at he
  all_goals first
   | (cases he;done)
   | (simp only[Option.some.injEq,Prod.mk.injEq] at he;obtain⟨rfl,rfl⟩:=he;exact⟨rfl,fun h2=>by simp_all⟩)
   | (obtain⟨p,hp,e⟩:=Option.map_eq_some_iff.1 he;simp only[Prod.mk.injEq] at e;obtain⟨e1,rfl⟩:=e;exact⟨rfl,fun h2=>by simp_all⟩)
   | skip
theorem na {x:cI} (hx:∀t ∈ x.tmps,fr'.getD t .undef=fr.getD t .undef):x.ev fr'=x.ev fr:=by
 cases x with
 | const v=>rfl
 | tmp t=>exact hx t (by simp[cI.tmps])
theorem sR {l:List AV} {t:Nat} {v:AV} (h:l.getD t .undef=v) (hv:v≠.undef):l[t]? =some v:=by
 rw[List.getD_eq_getElem?_getD] at h
 cases hx:l[t]? with
 | none=>rw[hx] at h;exact absurd h.symm hv
 | some x=>rw[hx] at h;simpa using h
theorem oF {g:Option (Nat×Bool)} (hx:∀t b,g=some (t,b)→fr'.getD t .undef=fr.getD t .undef) {b:Bool} (he:cG fr g=some b):cG fr' g=some b:=by
 unfold cG at he ⊢
 cases g with
 | none=>exact he
 | some p=>
   obtain⟨t,want⟩:=p;have e:=hx t want rfl;dsimp only at he ⊢;split at he
   ·rename_i b' hb;rw[List.getD_eq_getElem?_getD (l:=fr),hb] at e;rw[sR e (by simp)];exact he
   ·rename_i hb;rw[List.getD_eq_getElem?_getD (l:=fr),hb] at e;rw[sR e (by simp)];exact he
   ·cases he
variable {C:Nat→List AV→aa→Option (AV×aa)}
theorem jg {s:aU} (hx:∀t ∈ s.reads,fr'.getD t .undef=fr.getD t .undef) {fr1:List AV} (he:cd C s fr h=some (fr1,h')):
 ∃v,fr1=eG fr s.dst v∧cd C s fr' h=some (eG fr' s.dst v,h'):=by
 have hops:∀x ∈ s.op.jO,x.ev fr'=x.ev fr:=fun x hxm=>na fun t ht=>hx t (List.mem_append_right _ (List.mem_flatMap.2 ⟨x,hxm,ht⟩))
 have hg:∀t b,s.guard=some (t,b)→fr'.getD t .undef=fr.getD t .undef:=fun t b e=>hx t (List.mem_append_left _ (by rw[e];simp))
 unfold cd at he ⊢;split at he
 ·cases he
 ·rename_i hu;rw[oF hg hu];simp only[Option.some.injEq,Prod.mk.injEq] at he;obtain⟨rfl,rfl⟩:=he;exact⟨_,rfl,rfl⟩
 ·rename_i hu;rw[oF hg hu];dsimp only
  cases hop:s.op with
  | op o=>
    rw[hop] at he hops;dsimp only at he ⊢;obtain⟨⟨v,h1⟩,hv,e⟩:=Option.map_eq_some_iff.1 he;cases e;rw[Ds hops,hv];exact⟨v,rfl,rfl⟩
  | call f args=>
    rw[hop] at he hops;dsimp only at he ⊢;obtain⟨⟨v,h1⟩,hv,e⟩:=Option.map_eq_some_iff.1 he;cases e;rw[C1 (l:=args) hops,hv];exact⟨v,rfl,rfl⟩
  | hU x args=>
    rw[hop] at he hops;dsimp only at he ⊢;rw[hops x (by simp[F6.jO])];rw[C1 fun y hy=>hops y (by simp[F6.jO,hy])];split at he
    ·rename_i f caps hf;obtain⟨⟨v,h1⟩,hv,e⟩:=Option.map_eq_some_iff.1 he;cases e;rw[hv];exact⟨v,rfl,rfl⟩
    ·cases he
theorem nd {s:aU} (hs:s.mL=false) {fr1:List AV} (he:cd C s fr h=some (fr1,h')) {h2:aa}
 (hld:∀n x id off,s.op=.op (.ld n x)→x.ev fr=.ptr id off→h2.get id=h.get id):h'=h∧cd C s fr h2=some (fr1,h2):=by
 unfold cd at he ⊢;split at he
 ·cases he
 ·rename_i hu;simp only[Option.some.injEq,Prod.mk.injEq] at he;obtain⟨rfl,rfl⟩:=he;exact⟨rfl,rfl⟩
 ·rename_i hu
  cases hop:s.op with
  | op o=>
    rw[hop] at he;dsimp only at he ⊢;obtain⟨⟨v,h1⟩,hv,e⟩:=Option.map_eq_some_iff.1 he;simp only[Prod.mk.injEq] at e;obtain⟨rfl,rfl⟩:=e;by_cases hl:∃n x,o=.ld n x
    ·obtain⟨n,x,rfl⟩:=hl;simp only[bE] at hv ⊢;obtain⟨v',hv',e⟩:=Option.map_eq_some_iff.1 hv;simp only[Prod.mk.injEq] at e;obtain⟨rfl,rfl⟩:=e;refine⟨rfl,?_⟩
     have:Fg h2 n (x.ev fr)=Fg h n (x.ev fr):=by
      cases hx:x.ev fr with
      | ptr id off=>
        have:=hld n x id off hop hx;simp only[Fg,aa.row,this]
      | _=>rfl
     rw[this,hv'];rfl
    ·have hst:o.still=true:=by
      unfold aU.mL at hs;rw[hop] at hs;cases o<;>first | exact (hl ⟨_,_,rfl⟩).elim | simpa using hs
     obtain⟨rfl,g⟩:=KR hst hv;refine⟨rfl,?_⟩;rw[g h2];rfl
  | call f args=>unfold aU.mL at hs;rw[hop] at hs;cases hs
  | hU x args=>unfold aU.mL at hs;rw[hop] at hs;cases hs
theorem uw:∀(parts:List (Nat×Nat×AV)) (z cs:List AV) (n:Nat),iW z parts=some cs→AV.ai z≤n→(∀p ∈ parts,p.2.2.refs≤n)→AV.ai cs≤n
 | [],z,cs,n,he,hz,_=>by
   simp only[iW,Option.some.injEq] at he;subst he;exact hz
 | (off,sz,v)::r,z,cs,n,he,hz,hp=>by
   simp only[iW] at he;split at he
   ·rename_i c hc;split at he
    ·refine uw r _ cs n he ?_ fun p hpm=>hp p (List.mem_cons_of_mem _ hpm)
     refine uQ c _ _ _ hz ?_;rw[mS hc];exact hp _ List.mem_cons_self
    ·cases he
   ·cases he
theorem uO {s:aU} (hs:s.jd=true) {fr1:List AV} (he:cd C s fr h=some (fr1,h')):
 ∃cs,∃vf:Nat→AV,h'=h.alloc (.row cs)∧fr1=eG fr s.dst (vf h.next)∧((vf=fun id=>.ptr id 0)∨∃n sz,vf=fun id=>.vec id 0 n sz n)∧
   ∀(fr':List AV) (h2:aa),(∀x ∈ s.op.jO,x.ev fr'=x.ev fr)→cd C s fr' h2=some (eG fr' s.dst (vf h2.next),h2.alloc (.row cs))∧
     ∀(φ:dp) (w:World) (tm:Array Value),FR φ h2 w fr' tm→AV.ai cs≤h2.next:=by
 have opd_refs:∀(fr':List AV) (h2:aa) (φ:dp) (w:World) (tm:Array Value),FR φ h2 w fr' tm→∀x:cI,x.low=true→(x.ev fr').refs≤h2.next:=fun fr' h2 φ w tm hf x hx=>by
  cases x with
  | tmp t=>exact (hf.2 t).vo
  | const v=>
    have:v.refs=0:=by simpa[cI.low] using hx
    show v.refs≤_;omega
 unfold aU.jd at hs;split at hs
 ·rename_i x hg hop;unfold cd at he;rw[hg,hop] at he;simp only[cG,bE] at he;split at he
  ·rename_i cs hcs;simp only[Option.map_some,Option.some.injEq,Prod.mk.injEq] at he;obtain⟨rfl,rfl⟩:=he;refine⟨cs,fun id=>.ptr id 0,rfl,rfl,.inl rfl,fun fr' h2 hx=>?_⟩;have e:=hx x (by rw[hop];simp[F6.jO,qR.jO]);refine⟨?_,fun φ w tm hf=>?_⟩
   ·unfold cd;rw[hg,hop];simp only[cG,bE];rw[e,hcs];rfl
   ·rw[mS hcs,←e];exact opd_refs fr' h2 φ w tm hf x hs
  ·cases he
 ·rename_i sz n zero parts hg hop;simp only[Bool.and_eq_true,beq_iff_eq,List.all_eq_true] at hs;unfold cd at he;rw[hg,hop] at he;simp only[cG,bE,Option.map_map] at he;obtain⟨cs,hcs,e⟩:=Option.map_eq_some_iff.1 he;simp only[Function.comp,Prod.mk.injEq] at e;obtain⟨rfl,rfl⟩:=e;refine⟨cs,fun id=>.vec id 0 n sz n,rfl,rfl,.inr ⟨n,sz,rfl⟩,fun fr' h2 hx=>?_⟩
  have e:(parts.map fun p=>(p.1*sz,sz,p.2.ev fr'))=parts.map fun p=>(p.1*sz,sz,p.2.ev fr):=
   List.map_congr_left fun p hp=>by rw[hx p.2 (by rw[hop];exact List.mem_map.2 ⟨p,hp,rfl⟩)]
  refine⟨?_,fun φ w tm hf=>?_⟩
  ·unfold cd;rw[hg,hop];simp only[cG,bE,Option.map_map];rw[e,hcs];rfl
  ·refine uw _ _ _ _ hcs (by omega) fun p hp=>?_
   obtain⟨q,hq,rfl⟩:=List.mem_map.1 hp;rw[←hx q.2 (by rw[hop];exact List.mem_map.2 ⟨q,hq,rfl⟩)];exact opd_refs fr' h2 φ w tm hf q.2 (hs.2 q hq)
 ·cases hs
end
end Sz

/- Regions whose order is drawn: a block that is made before its turn. No program is named here. -/
namespace Sz
open Go
structure ED (φ:dp) (h:aa) (w:World) (φ':dp) (h':aa) (w':World):Prop where
 os:w'.os=w.os
 tape:w'.tape=w.tape
 output:w'.output=w.output
 size:w.heap.size≤w'.heap.size
 next:h.next≤h'.next
 uJ:∀id,id < h.next→φ' id=φ id
 pr:∀b,Pr φ h w b→Pr φ' h' w' b∧w'.heap[b]? =w.heap[b]?
section
variable {φ φ1 φ2 φ':dp} {h h1 h2 h':aa} {w w1 w2 w':World}
theorem Ext.vM (e:Ext φ h w φ' h' w'):ED φ h w φ' h' w':=⟨e.os,e.tape,e.output,e.size,e.next,e.uJ,e.pr⟩
theorem ED.refl (φ:dp) (h:aa) (w:World):ED φ h w φ h w:=(Ext.refl φ h w).vM
theorem ED.trans (a:ED φ h w φ1 h1 w1) (b:ED φ1 h1 w1 φ2 h2 w2):ED φ h w φ2 h2 w2:=
 ⟨b.os.trans a.os,b.tape.trans a.tape,b.output.trans a.output,Nat.le_trans a.size b.size,Nat.le_trans a.next b.next,
  fun id hid=>(b.uJ id (Nat.lt_of_lt_of_le hid a.next)).trans (a.uJ id hid),fun x hx=>by
   obtain⟨h1,e1⟩:=a.pr x hx;obtain⟨h2,e2⟩:=b.pr x h1;exact⟨h2,e2.trans e1⟩⟩
theorem RV.vM {v:AV} {cv:Value} (hv:dK φ h w v cv) (e:ED φ h w φ' h' w'):dK φ' h' w' v cv:=
 hv.mono (fun id _ hid=>⟨e.uJ id hid,Nat.lt_of_lt_of_le hid e.next⟩) e.pr
theorem FR.vM {fr:List AV} {tm:Array Value} (hf:FR φ h w fr tm) (e:ED φ h w φ' h' w'):FR φ' h' w' fr tm:=
 ⟨hf.1,fun t=>(hf.2 t).vM e⟩
theorem HR.EG (hr:HR φ h w):∀id,id < h.next→kU h id h.next:=fun id _=>by
 refine⟨fun cs hg=>?_,fun es hg e he=>?_⟩
 ·obtain⟨c,el,fz,k1,k2,k3,k4,k5,k6⟩:=hr.rows id cs hg;refine AV.gE fun v hv=>?_
  obtain⟨j,hj,rfl⟩:=List.getElem_of_mem hv;exact (k6 j hj).vo
 ·obtain⟨ents,clk,k1,k2,k3⟩:=hr.maps id es hg;obtain⟨j,hj,rfl⟩:=List.getElem_of_mem he;exact⟨(k3 j hj).1.vo,(k3 j hj).2.vo⟩
def DK (φ:dp) (h:aa) (w:World) (e:PE) (cs:List AV):Prop:=
 ∃c el fr,w.heap[e.eM]? =some (.cells c el fr)∧e.base+e.room≤c.size∧cs.length≤e.room∧
   (∀o,o < c.size→¬ (fr.1≤o∧o < fr.2))∧
   (∀j,j < e.room→(c.getD (e.base+j) default).oneCell'=true)∧
   ∀j (hj:j < cs.length),dK φ h w cs[j] (c.getD (e.base+j) default)
theorem DK.vM {e:PE} {cs:List AV} (g:DK φ h w e cs) (x:ED φ h w φ' h' w') (hb:w'.heap[e.eM]? =w.heap[e.eM]?):DK φ' h' w' e cs:=by
 obtain⟨c,el,fr,h1,h2,h3,h4,h5,h6⟩:=g;exact⟨c,el,fr,hb.trans h1,h2,h3,h4,h5,fun j hj=>(h6 j hj).vM x⟩
theorem LQ (hr:HR φ h w) {e:PE} {cs:List AV} (hg:DK φ h w e cs) (hgh:φ.gh e.eM):
 HR ⟨fun id=>if id=h.next then e else φ id,fun b=>φ.gh b∧b≠e.eM⟩ (h.alloc (.row cs)) w∧
 ED φ h w ⟨fun id=>if id=h.next then e else φ id,fun b=>φ.gh b∧b≠e.eM⟩ (h.alloc (.row cs)) w:=by
 obtain⟨g1,g2⟩:=hr.gh _ hgh
 have x:ED φ h w ⟨fun id=>if id=h.next then e else φ id,fun b=>φ.gh b∧b≠e.eM⟩ (h.alloc (.row cs)) w:=by
  refine⟨rfl,rfl,rfl,Nat.le_refl _,by simp,fun id hid=>by simp[Nat.ne_of_lt hid],fun b hb=>⟨⟨hb.1,fun id hl=>?_,fun hc=>hb.2.2 hc.1⟩,rfl⟩⟩;rcases fe hl with rfl | ⟨hl,hlt⟩
  ·simp only[if_true];exact fun e'=>hb.2.2 (e' ▸ hgh)
  ·simp only[Nat.ne_of_lt hlt,if_false];exact hb.2.1 id hl
 refine⟨⟨aa.kb _ hr.wf,fun id cs' hg'=>?_,fun id es hg'=>?_,fun i j hi hj hij=>?_,fun b hb=>⟨(hr.gh b hb.1).1,fun id hl=>?_⟩⟩,x⟩
 ·have hlt:=aa.di hg';simp only[aa.iD] at hlt;rcases Nat.lt_or_ge id h.next with hid | hid
  ·rw[aa.cQ hid] at hg';have hk:DK φ h w (φ id) cs':=hr.rows id cs' hg';have:=hk.vM x rfl;unfold ov;simp only[Nat.ne_of_lt hid,if_false];exact this
  ·obtain rfl:id=h.next:=by omega
   rw[aa.dM] at hg';cases hg';have:=hg.vM x rfl;unfold ov;simp only[if_true];exact this
 ·have hlt:=aa.di hg';simp only[aa.iD] at hlt;rcases Nat.lt_or_ge id h.next with hid | hid
  ·rw[aa.cQ hid] at hg';obtain⟨en,clk,k1,k2,k3⟩:=hr.maps id es hg';refine⟨en,clk,?_,k2,fun j hj=>⟨(k3 j hj).1.vM x,(k3 j hj).2.vM x⟩⟩;simp only[Nat.ne_of_lt hid,if_false];exact k1
  ·obtain rfl:id=h.next:=by omega
   rw[aa.dM] at hg';cases hg'
 ·rcases fe hi with rfl | ⟨hi,hil⟩<;>rcases fe hj with rfl | ⟨hj,hjl⟩
  ·rfl
  ·simp only[if_true,Nat.ne_of_lt hjl,if_false] at hij;exact absurd hij.symm (g2 j hj)
  ·simp only[if_true,Nat.ne_of_lt hil,if_false] at hij;exact absurd hij (g2 i hi)
  ·simp only[Nat.ne_of_lt hil,Nat.ne_of_lt hjl,if_false] at hij;exact hr.inj i j hi hj hij
 ·rcases fe hl with rfl | ⟨hl,hlt⟩
  ·simp only[if_true];exact fun e'=>hb.2 e'.symm
  ·simp only[Nat.ne_of_lt hlt,if_false];exact (hr.gh b hb.1).2 id hl
theorem Hv (hr:HR φ h w) {cs:List AV} (hr1:HR φ1 (h.alloc (.row cs)) w') (hx:Ext φ h w φ1 (h.alloc (.row cs)) w') (hrf:AV.ai cs≤h.next):
 HR ⟨φ.at_,fun b=>φ.gh b∨b=(φ1 h.next).eM⟩ h w'∧ED φ h w ⟨φ.at_,fun b=>φ.gh b∨b=(φ1 h.next).eM⟩ h w'∧
 DK ⟨φ.at_,fun b=>φ.gh b∨b=(φ1 h.next).eM⟩ h w' (φ1 h.next) cs∧¬ φ.gh (φ1 h.next).eM:=by
 have hlvn:live (h.alloc (.row cs)) h.next:=⟨_,aa.dM,fun e=>by cases e⟩
 have hlvo:∀id,live h id→live (h.alloc (.row cs)) id∧φ1 id=φ id∧id < h.next:=fun id ⟨o,hg,ho⟩=>by
  have hlt:=aa.di hg;exact⟨⟨o,by rw[aa.cQ hlt];exact hg,ho⟩,hx.uJ id hlt,hlt⟩
 have hng:¬ φ.gh (φ1 h.next).eM:=fun hb=>(hr1.gh _ (by rw[hx.gh.1];exact hb)).2 _ hlvn rfl
 have pr2:∀b,Pr φ1 (h.alloc (.row cs)) w' b→Pr ⟨φ.at_,fun b=>φ.gh b∨b=(φ1 h.next).eM⟩ h w' b:=fun b hb=>
  ⟨hb.1,fun id hl=>by
   obtain⟨q1,q2,_⟩:=hlvo id hl;have:=hb.2.1 id q1;rw[q2] at this;exact this,fun hc=>by
   rcases hc with hc | rfl
   ·exact hb.2.2 (by rw[hx.gh.1];exact hc)
   ·exact hb.2.1 _ hlvn rfl⟩
 have mv:∀v cv,v.refs≤h.next→dK φ1 (h.alloc (.row cs)) w' v cv→dK ⟨φ.at_,fun b=>φ.gh b∨b=(φ1 h.next).eM⟩ h w' v cv:=fun v cv hv hrv=>
  hrv.mono (fun id h1 h2=>⟨(hx.uJ id (by omega)).symm,by omega⟩) fun b hb=>⟨pr2 b hb,rfl⟩
 have hle:=hr.EG;refine⟨⟨hr.wf,fun id cs' hg=>?_,fun id es hg=>?_,fun i j hi hj=>hr.inj i j hi hj,fun b hb=>?_⟩,⟨hx.os,hx.tape,hx.output,hx.size,Nat.le_refl _,fun _ _=>rfl,fun b hb=>?_⟩,?_,hng⟩
 ·have hlt:=aa.di hg;obtain⟨c,el,fz,k1,k2,k3,k4,k5,k6⟩:=hr1.rows id cs' (by rw[aa.cQ hlt];exact hg);rw[hx.uJ id hlt] at k1 k2 k3 k5 k6;refine⟨c,el,fz,k1,k2,k3,k4,k5,fun j hj=>mv _ _ ?_ (k6 j hj)⟩;have h1:=(hle id hlt).1 cs' hg;have h2:=AV.cA (List.getElem_mem hj);omega
 ·have hlt:=aa.di hg;obtain⟨ents,clk,k1,k2,k3⟩:=hr1.maps id es (by rw[aa.cQ hlt];exact hg);rw[hx.uJ id hlt] at k1;refine⟨ents,clk,k1,k2,fun j hj=>?_⟩;have h1:=(hle id hlt).2 es hg es[j] (List.getElem_mem hj);exact⟨mv _ _ h1.1 (k3 j hj).1,mv _ _ h1.2 (k3 j hj).2⟩
 ·rcases hb with hb | rfl
  ·obtain⟨q1,q2⟩:=hr1.gh b (by rw[hx.gh.1];exact hb)
   exact⟨q1,fun id hl=>by
    obtain⟨r1,r2,_⟩:=hlvo id hl;have:=q2 id r1;rw[r2] at this;exact this⟩
  ·refine⟨hr1.dW hlvn,fun id hl e=>?_⟩;obtain⟨r1,r2,r3⟩:=hlvo id hl;have e':(φ1 id).eM=(φ1 h.next).eM:=by rw[r2];exact e
   have:=hr1.inj id h.next r1 hlvn e'
   omega
 ·obtain⟨q1,q2⟩:=hx.pr b hb;exact⟨pr2 b q1,q2⟩
 ·obtain⟨c,el,fz,k1,k2,k3,k4,k5,k6⟩:=hr1.rows h.next cs aa.dM
  refine⟨c,el,fz,k1,k2,k3,k4,k5,fun j hj=>mv _ _ ?_ (k6 j hj)⟩;have h2:=AV.cA (List.getElem_mem hj);omega
def S0 (e:PE) (vf:Nat→AV) (cv:Value):Prop:=∀(φ:dp) (nx:Nat) (pr:Nat→Prop) (w:World) (id:Nat),φ id=e→id < nx→RV φ nx pr w (vf id) cv
theorem S0.of {vf:Nat→AV} (hvf:(vf=fun id=>.ptr id 0)∨∃n sz,vf=fun id=>.vec id 0 n sz n) {nx:Nat} {pr:Nat→Prop} {id:Nat} {cv:Value} (hv:RV φ nx pr w (vf id) cv):S0 (φ id) vf cv:=by
 intro φ' nx' pr' w' id' he hlt;rcases hvf with rfl | ⟨n,sz,rfl⟩
 ·obtain⟨rfl,_⟩:=hv.oU;dsimp only;rw[←he];exact .ptr id' 0 hlt
 ·obtain⟨cap,a,rfl,h1,h2,h3,h4,h5⟩:=hv.gW;rw[←he] at h4 h5;exact .vec id' 0 n sz n cap a hlt h2 h3 h4 h5
end
end Sz

/- Regions whose order is drawn: every order answers as the text's order does. No program is named here. -/
namespace Sz
open Go
def SS (listed:Array Bool) (i:Nat):Prop:=listed.getD i false=true
theorem nQ {listed:Array Bool} {i:Nat} (hi:i < listed.size) (j:Nat):SS (listed.setIfInBounds i true) j↔j=i∨SS listed j:=by
 unfold SS;by_cases h:i=j
 ·subst h;simp[hi]
 ·rw[getD_set_ne false h];constructor
  ·exact .inr
  ·rintro (e | e)
   ·exact absurd e.symm h
   ·exact e
def La (n:Nat) (listed:Array Bool):Nat:=(List.range n).countP fun i=>!listed.getD i false
theorem yN {α:Type} {p q:α→Bool}:∀{l:List α},(∀x ∈ l,q x=true→p x=true)→(∃x ∈ l,p x=true∧q x=false)→l.countP q < l.countP p
 | [],_,h=>by obtain⟨x,hx,_⟩:=h;cases hx
 | y::l,h,⟨x,hx,h1,h2⟩=>by
   have hle:l.countP q≤l.countP p:=List.countP_mono_left fun z hz hq=>h z (List.mem_cons_of_mem _ hz) hq
   rw[List.countP_cons,List.countP_cons];by_cases e:x=y
   ·subst e;simp[h1,h2];omega
   ·have hx':x ∈ l:=by
     cases hx with
     | head=>exact absurd rfl e
     | tail _ h=>exact h
    have:=yN (l:=l) (fun z hz=>h z (List.mem_cons_of_mem _ hz)) ⟨x,hx',h1,h2⟩;have hy:=h y List.mem_cons_self;cases hq:q y
    ·simp;omega
    ·simp[hy hq];omega
theorem Fm {n:Nat} {listed:Array Bool} {i:Nat} (hi:i < n) (hs:i < listed.size) (hns:¬ SS listed i):La n (listed.setIfInBounds i true) < La n listed:=by
 refine yN (fun j _ hj=>?_) ⟨i,List.mem_range.2 hi,?_,?_⟩
 ·simp only[Bool.not_eq_true'] at hj ⊢;cases hx:listed.getD j false
  ·rfl
  ·have:SS (listed.setIfInBounds i true) j:=(nQ hs j).2 (.inr hx);rw[show _=true from this] at hj;exact hj
 ·simp only[Bool.not_eq_true'];cases hx:listed.getD i false
  ·rfl
  ·exact absurd hx hns
 ·have:SS (listed.setIfInBounds i true) i:=(nQ hs i).2 (.inl rfl);rw[show _=true from this];rfl
theorem Bb {n:Nat} {listed:Array Bool} (h:La n listed=0) {i:Nat} (hi:i < n):SS listed i:=by
 unfold La at h;rw[List.countP_eq_zero] at h;have:=h i (List.mem_range.2 hi);simpa[SS] using this
section
variable {P:Program} {C:Nat→List AV→aa→Option (AV×aa)} {ops:Array Oper} {ss:List aU} {b:List Nat}
structure pL (P:Program) (ops:Array Oper) (ss:List aU) (b:List Nat):Prop where
 len:ss.length=ops.size
 comp:∀(i:Nat) (o:Oper),ops[i]? =some o→∃s:aU,ss[i]? =some s∧fp P ops o=some s
 Us:∀(i:Nat) (o:Oper),ops[i]? =some o→b.getD i 0=uB b o.after.toList
 back:∀(i:Nat) (o:Oper),ops[i]? =some o→∀e ∈ o.after,Region.binds .any e=true→e.on < i
 uniq:∀(i j:Nat) (s r:aU) (d:Nat),ss[i]? =some s→ss[j]? =some r→s.dst=some d→r.dst=some d→i=j
 ord:∀(i j:Nat) (s r:aU),i < j→ss[i]? =some s→ss[j]? =some r→s.mL=true→r.mL=true→bt b i j=true∨r.jd=true
 UJ:∀(i j:Nat) (s r:aU),ss[i]? =some s→ss[j]? =some r→s.AR=true→r.jd=true→j < i→bt b j i=true→∀(e:Nat) (q:aU),ss[e]? =some q→e < j→q.mL=true→bt b e i=true
 rd:∀(i j:Nat) (s r:aU) (d:Nat),i≠j→ss[i]? =some s→ss[j]? =some r→r.dst=some d→d ∈ s.reads→
  (j < i∧bt b j i=true∧(r.jd=true→∀(e:Nat) (q:aU),ss[e]? =some q→e < j→q.mL=true→bt b e i=true))∨(i < j∧bt b i j=true)
theorem ln {i:Nat}:∀{l:List Edge},(uB b l).testBit i=true→∃e ∈ l,Region.binds .any e=true∧(e.on=i∨bt b i e.on=true)
 | [],h=>by simp[uB] at h
 | e::r,h=>by
   unfold uB at h;split at h
   ·rename_i hb;rw[Nat.testBit_or,Nat.testBit_or,Nat.testBit_two_pow,Bool.or_eq_true,Bool.or_eq_true] at h;rcases h with (h | h) | h
    ·exact⟨e,by simp,hb,.inl (by simpa using h)⟩
    ·exact⟨e,by simp,hb,.inr h⟩
    ·obtain⟨e',h1,h2⟩:=ln h;exact⟨e',List.mem_cons_of_mem _ h1,h2⟩
   ·obtain⟨e',h1,h2⟩:=ln h;exact⟨e',List.mem_cons_of_mem _ h1,h2⟩
def Ib (ops:Array Oper) (S:Nat→Prop):Prop:=∀(j:Nat) (o:Oper),ops[j]? =some o→S j→∀e ∈ o.after,Region.binds .any e=true→S e.on
theorem gT (st:pL P ops ss b) {S:Nat→Prop} (hc:Ib ops S):∀(n j i:Nat),j < n→∀o,ops[j]? =some o→(∀e ∈ o.after,Region.binds .any e=true→S e.on)→bt b i j=true→S i
 | 0,j,i,hj,_,_,_,_=>by omega
 | n+1,j,i,hj,o,ho,he,hb=>by
   unfold bt at hb;rw[st.Us j o ho] at hb;obtain⟨e,h1,h2,h3⟩:=ln hb;have h1':e ∈ o.after:=by simpa using h1
   rcases h3 with rfl | h3
   ·exact he e h1' h2
   ·have hlt:=st.back j o ho e h1' h2;have hjs:j < ops.size:=(Array.getElem?_eq_some_iff.1 ho).1;have hoe:ops[e.on]? =some ops[e.on]:=Array.getElem?_eq_getElem (by omega);exact gT st hc n e.on i (by omega) _ hoe (hc e.on _ hoe (he e h1' h2)) h3
structure Tr (C:Nat→List AV→aa→Option (AV×aa)) (ss:List aU) (b:List Nat) (F:Nat→List AV) (H:Nat→aa):Prop where
 st:∀(i:Nat) (s:aU),ss[i]? =some s→∃hin hout,cd C s (F i) hin=some (F (i+1),hout)∧(H i).alike hin∧hout.alike (H (i+1))
 ld:∀(i j:Nat) (s r:aU) (n:Option Nat) (x:cI) (id off:Nat),ss[i]? =some s→ss[j]? =some r→s.op=.op (.ld n x)→x.ev (F i)=.ptr id off→r.mL=true→bt b i j=false→bt b j i=false→(H (j+1)).get id=(H j).get id
variable {F:Nat→List AV} {H:Nat→aa}
theorem Tr.put (T:Tr C ss b F H) {i:Nat} {s:aU} (hs:ss[i]? =some s):∃v,F (i+1)=eG (F i) s.dst v:=by
 obtain⟨hin,hout,e,_⟩:=T.st i s hs;obtain⟨v,e1,_⟩:=jg (fr':=F i) (fun _ _=>rfl) e;exact⟨v,e1⟩
theorem lB (fr:List AV) (d:Option Nat) (v:AV):(eG fr d v).length=fr.length:=by cases d<;>simp[eG]
theorem fx {fr:List AV} {d:Option Nat} {v:AV} {t:Nat} (h:d≠some t):(eG fr d v).getD t .undef=fr.getD t .undef:=by
 cases d with
 | none=>rfl
 | some d=>
   have hne:d≠t:=fun e=>h (by rw[e])
   simp[eG,List.getD_eq_getElem?_getD,List.getElem?_set_ne hne]
theorem y6 {fr fr':List AV} {d:Nat} {v:AV} (hl:fr'.length=fr.length):(eG fr' (some d) v).getD d .undef=(eG fr (some d) v).getD d .undef:=by
 simp[eG,List.getD_eq_getElem?_getD,List.getElem?_set,hl]
theorem Tr.len (T:Tr C ss b F H):∀i,i≤ss.length→(F i).length=(F 0).length
 | 0,_=>rfl
 | i+1,hi=>by
   obtain⟨v,e⟩:=T.put (List.getElem?_eq_getElem (show i < ss.length by omega));rw[e,lB];exact T.len i (by omega)
theorem Tr.eI (T:Tr C ss b F H) {d i:Nat}:∀(m:Nat),i+m≤ss.length→(∀(j:Nat) (s:aU),i≤j→j < i+m→ss[j]? =some s→s.dst≠some d)→(F (i+m)).getD d .undef=(F i).getD d .undef
 | 0,_,_=>rfl
 | m+1,hl,hno=>by
   have hs:=List.getElem?_eq_getElem (show i+m < ss.length by omega);obtain⟨v,e⟩:=T.put hs;rw[show i+(m+1)=(i+m)+1 by omega,e,fx (hno (i+m) _ (by omega) (by omega) hs)];exact T.eI m (by omega) fun j s h1 h2=>hno j s h1 (by omega)
theorem Tr.vA (T:Tr C ss b F H) {i:Nat} {s:aU} (hs:ss[i]? =some s) (he:s.mL=false):(H i).alike (H (i+1)):=by
 obtain⟨hin,hout,e,a1,a2⟩:=T.st i s hs;obtain⟨rfl,_⟩:=nd he e (h2:=hin) fun _ _ _ _ _ _=>rfl
 exact a1.trans a2
def O2 (F:Nat→List AV) (H:Nat→aa) (φ0 φ:dp) (pe:Nat→PE) (k:Nat) (a:Act) (w:World) (i:Nat) (s:aU):Prop:=
 ∃cs,∃vf:Nat→AV,((H i).alloc (.row cs)).alike (H (i+1))∧F (i+1)=eG (F i) s.dst (vf (H i).next)∧DK φ (H k) w (pe i) cs∧φ.gh (pe i).eM∧¬ φ0.gh (pe i).eM∧
   ∀d,s.dst=some d→d < (F 0).length→S0 (pe i) vf (a.tmps.getD d undef)
structure DI (ops:Array Oper) (ss:List aU) (F:Nat→List AV) (H:Nat→aa) (φ0:dp) (w0:World) (d0:List Deferred) (listed:Array Bool) (φ:dp) (pe:Nat→PE) (cu:List AV) (k:Nat) (a:Act) (w:World):Prop where
 sz:listed.size=ss.length
 cl:Ib ops (SS listed)
 kn:k≤ss.length
 lo:∀(i:Nat) (s:aU),i < k→ss[i]? =some s→s.mL=true→SS listed i
 hi:∀(i:Nat) (s:aU),k≤i→ss[i]? =some s→s.mL=true→SS listed i→s.jd=true
 hr:HR φ (H k) w
 fr:FR φ (H k) w cu a.tmps
 ex:ED φ0 (H 0) w0 φ (H k) w
 K1:cu.length=(F 0).length
 w1:∀(i:Nat) (s:aU) (d:Nat),ss[i]? =some s→s.dst=some d→SS listed i→(s.jd=true→i < k)→cu.getD d .undef=(F ss.length).getD d .undef
 w2:∀(i:Nat) (s:aU) (d:Nat),ss[i]? =some s→s.dst=some d→¬ SS listed i→cu.getD d .undef=(F 0).getD d .undef
 w3:∀d:Nat,(∀(i:Nat) (s:aU),ss[i]? =some s→s.dst≠some d)→cu.getD d .undef=(F 0).getD d .undef
 jd:∀(i:Nat) (s:aU),k≤i→ss[i]? =some s→s.jd=true→SS listed i→O2 F H φ0 φ pe k a w i s
 inj:∀(i j:Nat) (s r:aU),k≤i→k≤j→ss[i]? =some s→ss[j]? =some r→s.jd=true→r.jd=true→SS listed i→SS listed j→(pe i).eM=(pe j).eM→i=j
 gh:∀x,φ.gh x→φ0.gh x∨∃(i:Nat) (s:aU),k≤i∧ss[i]? =some s∧s.jd=true∧SS listed i∧x=(pe i).eM
 Ik:∀x,φ0.gh x→φ.gh x∧w.heap[x]? =w0.heap[x]?
 df:a.defers=d0
theorem rY {s:aU} (h:s.jd=true):s.mL=true:=by
 unfold aU.jd at h;unfold aU.mL;split at h
 ·rename_i hop;rw[hop];rfl
 ·rename_i hop;rw[hop];rfl
 ·cases h
theorem FR.PZ {φ:dp} {h:aa} {w:World} {fr:List AV} {tm:Array Value} (hf:FR φ h w fr tm) {d:Nat} {v:AV} (hv:dK φ h w v (tm.getD d undef)):FR φ h w (fr.set d v) tm:=by
 have:=hf.put hv d
 have e:tm.setIfInBounds d (tm.getD d undef)=tm:=by
  apply Array.ext
  ·simp
  ·intro j h1 h2;rw[Array.getElem_setIfInBounds];split
   ·rename_i e;subst e;simp[Array.getD,h2]
   ·rfl
 rw[e] at this;exact this
variable {φ0:dp} {w0:World} {d0:List Deferred}
theorem DI.advance (T:Tr C ss b F H) (st:pL P ops ss b):∀(m:Nat) {listed:Array Bool} {φ:dp} {pe:Nat→PE} {cu:List AV} {k:Nat} {a:Act} {w:World},ss.length≤k+m→DI ops ss F H φ0 w0 d0 listed φ pe cu k a w→
 ∃φ' cu' k',DI ops ss F H φ0 w0 d0 listed φ' pe cu' k' a w∧(k' < ss.length→∃s:aU,ss[k']? =some s∧s.mL=true∧¬ SS listed k')
 | m,listed,φ,pe,cu,k,a,w,hm,D=>by
   rcases Nat.lt_or_ge k ss.length with hk | hk
   case inr=>exact⟨φ,cu,k,D,fun h=>by omega⟩
   have hs:=List.getElem?_eq_getElem hk;by_cases hS:ss[k].mL=true∧¬ SS listed k
   ·exact⟨φ,cu,k,D,fun _=>⟨_,hs,hS.1,hS.2⟩⟩
   ·cases m with
    | zero=>omega
    | succ m=>
      by_cases he:ss[k].mL=true
      ·have hSk:SS listed k:=Classical.byContradiction fun h=>hS ⟨he,h⟩
       have hp:=D.hi k _ (Nat.le_refl _) hs he hSk;obtain⟨cs,vf,q1,q2,q3,q4,q5,q6⟩:=D.jd k _ (Nat.le_refl _) hs hp hSk;obtain⟨r1,r2⟩:=LQ D.hr q3 q4;obtain⟨r3,r4⟩:=r1.alike q1;have x:=r2.trans r4.vM;refine DI.advance T st m (k:=k+1) (φ:=⟨fun id=>if id=(H k).next then pe k else φ id,fun y=>φ.gh y∧y≠(pe k).eM⟩) (cu:=eG cu ss[k].dst (vf (H k).next)) (by omega) ?_;have hnx:(H (k+1)).next=(H k).next+1:=by rw[q1.1];rfl
       refine⟨D.sz,D.cl,hk,fun i s h1 h2 h3=>?_,fun i s h1 h2 h3 h4=>D.hi i s (by omega) h2 h3 h4,r3,?_,D.ex.trans x,by rw[lB];exact D.K1,fun i s d h1 h2 h3 h4=>?_,fun i s d h1 h2 h3=>?_,fun d h1=>?_,
        fun i s h1 h2 h3 h4=>?_,fun i j s r h1 h2=>D.inj i j s r (by omega) (by omega),fun y hy=>?_,fun y hy=>?_,D.df⟩
       ·rcases Nat.lt_or_ge i k with h | h
        ·exact D.lo i s h h2 h3
        ·obtain rfl:i=k:=by omega
         exact hSk
       ·cases hd:ss[k].dst with
        | none=>exact D.fr.vM x
        | some d=>
          rcases Nat.lt_or_ge d (F 0).length with hdl | hdl
          ·refine (D.fr.vM x).PZ ?_;exact q6 d hd hdl _ _ _ _ (H k).next (by simp) (by omega)
          ·have e:eG cu (some d) (vf (H k).next)=cu:=by
            simp only[eG];exact List.set_eq_of_length_le (by rw[D.K1];exact hdl)
           rw[e];exact D.fr.vM x
       ·by_cases hik:i=k
        ·subst hik
         have e1:(F ss.length).getD d .undef=(F (i+1)).getD d .undef:=by
          have:=T.eI (d:=d) (i:=i+1) (ss.length - (i+1)) (by omega) fun j r g1 g2 g3 g4=>by
           have:=st.uniq i j s r d h1 g3 h2 g4;omega
          rw[show i+1+(ss.length - (i+1))=ss.length by omega] at this;exact this
         have es:ss[i]=s:=by rw[hs] at h1;exact Option.some.inj h1
         rw[e1,q2,es,h2];exact y6 (by rw[D.K1,T.len i (by omega)])
        ·rw[fx (fun e=>hik (st.uniq i k s _ d h1 hs h2 e))];exact D.w1 i s d h1 h2 h3 fun h=>by have:=h4 h;omega
       ·rw[fx (fun e=>h3 ((st.uniq i k s _ d h1 hs h2 e) ▸ hSk))];exact D.w2 i s d h1 h2 h3
       ·rw[fx (h1 k _ hs)];exact D.w3 d h1
       ·obtain⟨cs',vf',p1,p2,p3,p4,p5,p6⟩:=D.jd i s (by omega) h2 h3 h4;refine⟨cs',vf',p1,p2,p3.vM x rfl,⟨p4,fun e=>?_⟩,p5,p6⟩;have:=D.inj i k s _ (by omega) (Nat.le_refl _) h2 hs h3 hp h4 hSk e;omega
       ·rcases D.gh y hy.1 with h | ⟨i,s,h1,h2,h3,h4,h5⟩
        ·exact .inl h
        ·refine .inr ⟨i,s,?_,h2,h3,h4,h5⟩;rcases Nat.lt_or_ge k i with h | h
         ·exact h
         ·obtain rfl:i=k:=by omega
          exact absurd h5 hy.2
       ·obtain⟨g1,g2⟩:=D.Ik y hy;exact⟨⟨g1,fun e=>q5 (e ▸ hy)⟩,g2⟩
      ·have he:ss[k].mL=false:=by simpa using he
       have hnp:ss[k].jd=false:=by
        cases hp:ss[k].jd with
        | false=>rfl
        | true=>rw[rY hp] at he;cases he
       have al:=T.vA hs he;obtain⟨r1,r2⟩:=D.hr.alike al;refine DI.advance T st m (k:=k+1) (φ:=φ) (cu:=cu) (by omega) ?_
       refine⟨D.sz,D.cl,hk,fun i s h1 h2 h3=>?_,fun i s h1 h2 h3 h4=>D.hi i s (by omega) h2 h3 h4,r1,D.fr.ext r2,D.ex.trans r2.vM,D.K1,fun i s d h1 h2 h3 h4=>?_,D.w2,D.w3,
        fun i s h1 h2 h3 h4=>?_,fun i j s r h1 h2=>D.inj i j s r (by omega) (by omega),fun y hy=>?_,D.Ik,D.df⟩
       ·rcases Nat.lt_or_ge i k with h | h
        ·exact D.lo i s h h2 h3
        ·obtain rfl:i=k:=by omega
         rw[hs] at h2;rw[←Option.some.inj h2,he] at h3;cases h3
       ·refine D.w1 i s d h1 h2 h3 fun h=>?_
        have:=h4 h;rcases Nat.lt_or_ge i k with h' | h'
        ·exact h'
        ·obtain rfl:i=k:=by omega
         rw[hs] at h1;rw[←Option.some.inj h1,hnp] at h;cases h
       ·obtain⟨cs',vf',p1,p2,p3,p4,p5,p6⟩:=D.jd i s (by omega) h2 h3 h4;exact⟨cs',vf',p1,p2,p3.vM r2.vM rfl,p4,p5,p6⟩
       ·rcases D.gh y hy with h | ⟨i,s,h1,h2,h3,h4,h5⟩
        ·exact .inl h
        ·refine .inr ⟨i,s,?_,h2,h3,h4,h5⟩;rcases Nat.lt_or_ge k i with h | h
         ·exact h
         ·obtain rfl:i=k:=by omega
          rw[hs] at h2;rw[←Option.some.inj h2,hnp] at h3;cases h3
end
end Sz

/- Regions whose order is drawn: every order answers as the text's order does. No program is named here. -/
namespace Sz
open Go
variable {X:World→Prop}
section
variable {P:Program} {C:Nat→List AV→aa→Option (AV×aa)} {ops:Array Oper} {ss:List aU} {b:List Nat} {F:Nat→List AV} {H:Nat→aa} {φ0:dp} {w0:World} {d0:List Deferred}
 {listed:Array Bool} {φ:dp} {pe:Nat→PE} {cu:List AV} {k:Nat} {a:Act} {w:World}
theorem JL (st:pL P ops ss b):∀(n j i:Nat),j < n→(∃o,ops[j]? =some o)→bt b i j=true→i < j
 | 0,j,i,hj,_,_=>by omega
 | n+1,j,i,hj,⟨o,ho⟩,hb=>by
   unfold bt at hb;rw[st.Us j o ho] at hb;obtain⟨e,h1,h2,h3⟩:=ln hb;have h1':e ∈ o.after:=by simpa using h1
   have hlt:=st.back j o ho e h1' h2;rcases h3 with rfl | h3
   ·exact hlt
   ·have hjs:j < ops.size:=(Array.getElem?_eq_some_iff.1 ho).1;have:=JL st n e.on i (by omega) ⟨_,Array.getElem?_eq_getElem (by omega)⟩ h3;omega
def KX (ss:List aU) (listed:Array Bool) (k:Nat):Prop:=k < ss.length→∃s:aU,ss[k]? =some s∧s.mL=true∧¬ SS listed k
theorem DI.reads (T:Tr C ss b F H) (st:pL P ops ss b) (D:DI ops ss F H φ0 w0 d0 listed φ pe cu k a w) (kx:KX ss listed k) {i:Nat} {o:Oper} {s:aU} (ho:ops[i]? =some o) (hs:ss[i]? =some s)
 (hre:∀e ∈ o.after,Region.binds .any e=true→SS listed e.on) (hns:¬ SS listed i):∀t ∈ s.reads,cu.getD t .undef=(F i).getD t .undef:=by
 intro t ht;have hil:i < ss.length:=(List.getElem?_eq_some_iff.1 hs).1;by_cases hw:∃(j:Nat) (r:aU),ss[j]? =some r∧r.dst=some t
 ·obtain⟨j,r,hj,hd⟩:=hw;have hjl:j < ss.length:=(List.getElem?_eq_some_iff.1 hj).1
  have head:i≤j→(F i).getD t .undef=(F 0).getD t .undef:=fun hle=>by
   have:=T.eI (d:=t) (i:=0) i (by omega) fun j' s' _ h2 h3 h4=>by
    have:=st.uniq j' j s' r t h3 hj h4 hd;omega
   simpa using this
  by_cases hji:j=i
  ·subst hji;rw[D.w2 j r t hj hd hns,head (Nat.le_refl _)]
  ·rcases st.rd i j s r t (Ne.symm hji) hs hj hd ht with⟨h1,h2,h3⟩ | ⟨h1,h2⟩
   ·have hSj:SS listed j:=gT st D.cl (i+1) i j (by omega) o ho hre h2;rw[D.w1 j r t hj hd hSj fun hp=>?_]
    ·have:=T.eI (d:=t) (i:=i) (ss.length - i) (by omega) fun j' s' g1 _ g3 g4=>by
      have:=st.uniq j' j s' r t g3 hj g4 hd;omega
     rw[show i+(ss.length - i)=ss.length by omega] at this;exact this
    ·rcases Nat.lt_or_ge j k with h | h
     ·exact h
     ·exfalso;obtain⟨q,hq,hqe,hqn⟩:=kx (by omega);by_cases e:k=j
      ·exact hqn (e ▸ hSj)
      ·have:=h3 hp k q hq (by omega) hqe;exact hqn (gT st D.cl (i+1) i k (by omega) o ho hre this)
   ·have hjo:∃o',ops[j]? =some o':=⟨_,Array.getElem?_eq_getElem (by rw[←st.len];exact hjl)⟩
    obtain⟨o',ho'⟩:=hjo;have hnj:¬ SS listed j:=fun h=>hns (gT st D.cl (j+1) j i (by omega) o' ho' (D.cl j o' ho' h) h2)
    rw[D.w2 j r t hj hd hnj,head (by omega)]
 ·have hno:∀(j:Nat) (r:aU),ss[j]? =some r→r.dst≠some t:=fun j r hj hd=>hw ⟨j,r,hj,hd⟩
  rw[D.w3 t hno];have:=T.eI (d:=t) (i:=0) i (by omega) fun j' s' _ _ h3=>hno j' s' h3
  simpa using this.symm
theorem tZ {id:Nat} {x:Nat}:∀(m:Nat),(∀j,x≤j→j < x+m→(H (j+1)).get id=(H j).get id)→(H (x+m)).get id=(H x).get id
 | 0,_=>rfl
 | m+1,h=>by
   rw[show x+(m+1)=(x+m)+1 by omega,h (x+m) (by omega) (by omega)];exact tZ m fun j h1 h2=>h j h1 (by omega)
theorem DI.load (T:Tr C ss b F H) (st:pL P ops ss b) (D:DI ops ss F H φ0 w0 d0 listed φ pe cu k a w) (kx:KX ss listed k) {i:Nat} {o:Oper} {s:aU} (ho:ops[i]? =some o) (hs:ss[i]? =some s)
 (hre:∀e ∈ o.after,Region.binds .any e=true→SS listed e.on) (hns:¬ SS listed i) {n:Option Nat} {x:cI} {id off:Nat} (hop:s.op=.op (.ld n x)) (hx:x.ev (F i)=.ptr id off):(H k).get id=(H i).get id:=by
 have hil:i < ss.length:=(List.getElem?_eq_some_iff.1 hs).1;have hld:s.AR=true:=by unfold aU.AR;rw[hop]
 have hne:s.mL=false:=by unfold aU.mL;rw[hop]
 have one:∀j,j < ss.length→(∀r,ss[j]? =some r→r.mL=true→bt b i j=false∧bt b j i=false)→(H (j+1)).get id=(H j).get id:=fun j hj hh=>by
  have hr:=List.getElem?_eq_getElem hj
  cases he:ss[j].mL with
  | false=>exact (T.vA hr he).get id
  | true=>
    obtain⟨g1,g2⟩:=hh _ hr he;exact T.ld i j s _ n x id off hs hr hop hx he g1 g2
 rcases Nat.le_total k i with hki | hki
 ·have:=tZ (H:=H) (id:=id) (x:=k) (i - k) fun j h1 h2=>one j (by omega) fun r hr he=>⟨?_,?_⟩
  ·rw[show k+(i - k)=i by omega] at this;exact this.symm
  ·cases hb:bt b i j with
   | false=>rfl
   | true=>
     have:=JL st (j+1) j i (by omega) ⟨_,Array.getElem?_eq_getElem (by rw[←st.len];omega)⟩ hb;omega
  ·cases hb:bt b j i with
   | false=>rfl
   | true=>
     exfalso;have hSj:=gT st D.cl (i+1) i j (by omega) o ho hre hb;have hp:=D.hi j r h1 hr he hSj;obtain⟨q,hq,hqe,hqn⟩:=kx (by omega);by_cases e:k=j
     ·exact hqn (e ▸ hSj)
     ·have:=st.UJ i j s r hs hr hld hp (by omega) hb k q hq (by omega) hqe;exact hqn (gT st D.cl (i+1) i k (by omega) o ho hre this)
 ·have hkn:=D.kn;have:=tZ (H:=H) (id:=id) (x:=i) (k - i) fun j h1 h2=>one j (by omega) fun r hr he=>⟨?_,?_⟩
  ·rw[show i+(k - i)=k by omega] at this;exact this
  ·cases hb:bt b i j with
   | false=>rfl
   | true=>
     exfalso;have hSj:=D.lo j r (by omega) hr he;have hjo:j < ops.size:=by rw[←st.len];omega
     have hoj:ops[j]? =some ops[j]:=Array.getElem?_eq_getElem hjo;exact hns (gT st D.cl (j+1) j i (by omega) _ hoj (D.cl j _ hoj hSj) hb)
  ·cases hb:bt b j i with
   | false=>rfl
   | true=>
     have:=JL st (i+1) i j (by omega) ⟨o,ho⟩ hb;omega
theorem n8 {d:Option Nat} {t:Nat} (h:d≠some t) (cv:Value):(a.put d cv).tmps.getD t undef=a.tmps.getD t undef:=by
 cases d with
 | none=>rfl
 | some d=>
   have hne:d≠t:=fun e=>h (by rw[e])
   simp[Act.put,Array.getElem?_setIfInBounds_ne hne]
theorem put_defers (d:Option Nat) (cv:Value):(a.put d cv).defers=a.defers:=by cases d<;>rfl
theorem DI.step (T:Tr C ss b F H) (st:pL P ops ss b) (D:DI ops ss F H φ0 w0 d0 listed φ pe cu k a w) {i k':Nat} {o:Oper} {s:aU} (ho:ops[i]? =some o) (hs:ss[i]? =some s) (hd:s.dst=o.dst)
 (hre:∀e ∈ o.after,Region.binds .any e=true→SS listed e.on) (hns:¬ SS listed i) (hk:(k'=k∧s.mL=false)∨(k'=k+1∧i=k)) {v:AV} (hF:F (i+1)=eG (F i) s.dst v) {φ':dp} {cv:Value} {w':World}
 (hf:FR φ' (H k') w' (eG cu s.dst v) (a.put o.dst cv).tmps) (hr:HR φ' (H k') w') (hx:Ext φ (H k) w φ' (H k') w'):
 DI ops ss F H φ0 w0 d0 (listed.setIfInBounds i true) φ' pe (eG cu s.dst v) k' (a.put o.dst cv) w':=by
 have hil:i < ss.length:=(List.getElem?_eq_some_iff.1 hs).1;have hsz:i < listed.size:=by rw[D.sz];exact hil
 have S':=nQ hsz;have hkn:=D.kn
 have hpi:∀j r,k'≤j→ss[j]? =some r→r.mL=true→j≠i:=fun j r h1 h2 h3 e=>by
  rcases hk with⟨_,h⟩ | ⟨h,h'⟩
  ·rw[e,hs] at h2;rw[←Option.some.inj h2,h] at h3;cases h3
  ·omega
 have hkk:k≤k':=by rcases hk with⟨h,_⟩ | ⟨h,_⟩<;>omega
 refine⟨by simp[D.sz],fun j o' h1 h2 e h3 h4=>(S' _).2 (.inr ?_),?_,fun j r h1 h2 h3=>(S' j).2 ?_,fun j r h1 h2 h3 h4=>?_,hr,hf,D.ex.trans hx.vM,by rw[lB];exact D.K1,fun j r d h1 h2 h3 h4=>?_,fun j r d h1 h2 h3=>?_,fun d h1=>?_,
  fun j r h1 h2 h3 h4=>?_,fun i1 j1 s1 r1 g1 g2 g3 g4 g5 g6 g7 g8 g9=>?_,fun y hy=>?_,fun y hy=>?_,by rw[put_defers];exact D.df⟩
 ·rcases (S' j).1 h2 with rfl | h2
  ·rw[ho] at h1;cases h1;exact hre e h3 h4
  ·exact D.cl j o' h1 h2 e h3 h4
 ·rcases hk with⟨h,_⟩ | ⟨h,h'⟩<;>omega
 ·rcases Nat.lt_or_ge j k with h | h
  ·exact .inr (D.lo j r h h2 h3)
  ·rcases hk with⟨h',_⟩ | ⟨h',h''⟩
   ·omega
   ·exact .inl (by omega)
 ·rcases (S' j).1 h4 with e | h4
  ·exact absurd e (hpi j r h1 h2 h3)
  ·exact D.hi j r (by omega) h2 h3 h4
 ·by_cases e:j=i
  ·subst e;rw[hs] at h1;cases h1
   have e1:(F ss.length).getD d .undef=(F (j+1)).getD d .undef:=by
    have:=T.eI (d:=d) (i:=j+1) (ss.length - (j+1)) (by omega) fun j' r' g1 g2 g3 g4=>by
     have:=st.uniq j j' s r' d hs g3 h2 g4;omega
    rw[show j+1+(ss.length - (j+1))=ss.length by omega] at this;exact this
   rw[e1,hF,h2];exact y6 (by rw[D.K1,T.len j (by omega)])
  ·have h3':SS listed j:=((S' j).1 h3).resolve_left e;rw[fx (fun e'=>e (st.uniq j i r s d h1 hs h2 e'))];refine D.w1 j r d h1 h2 h3' fun hp=>?_
   have:=h4 hp;rcases hk with⟨h,_⟩ | ⟨h,h'⟩<;>omega
 ·have e:j≠i:=fun e=>h3 ((S' j).2 (.inl e))
  rw[fx (fun e'=>e (st.uniq j i r s d h1 hs h2 e'))];exact D.w2 j r d h1 h2 fun h=>h3 ((S' j).2 (.inr h))
 ·rw[fx (h1 i s hs)];exact D.w3 d h1
 ·have e:=hpi j r h1 h2 (rY h3);have h4':SS listed j:=((S' j).1 h4).resolve_left e;obtain⟨cs,vf,p1,p2,p3,p4,p5,p6⟩:=D.jd j r (by omega) h2 h3 h4';refine⟨cs,vf,p1,p2,p3.vM hx.vM (hx.gh.2 _ p4),by rw[hx.gh.1];exact p4,p5,fun d g1 g2=>?_⟩;rw[n8 fun e'=>e (st.uniq j i r s d h2 hs g1 (hd.trans e'))];exact p6 d g1 g2
 ·exact D.inj i1 j1 s1 r1 (by omega) (by omega) g3 g4 g5 g6 (((S' i1).1 g7).resolve_left (hpi i1 s1 g1 g3 (rY g5))) (((S' j1).1 g8).resolve_left (hpi j1 r1 g2 g4 (rY g6))) g9
 ·rw[hx.gh.1] at hy;rcases D.gh y hy with h | ⟨i1,s1,h1,h2,h3,h4,h5⟩
  ·exact .inl h
  ·refine .inr ⟨i1,s1,?_,h2,h3,(S' i1).2 (.inr h4),h5⟩;rcases hk with⟨h,_⟩ | ⟨h,h'⟩
   ·omega
   ·have:i1≠k:=fun e=>hns (by rw[h',←e];exact h4)
    omega
 ·obtain⟨g1,g2⟩:=D.Ik y hy;exact⟨by rw[hx.gh.1];exact g1,(hx.gh.2 y g1).trans g2⟩
theorem DI.early (T:Tr C ss b F H) (st:pL P ops ss b) (D:DI ops ss F H φ0 w0 d0 listed φ pe cu k a w) {i:Nat} {o:Oper} {s:aU} (ho:ops[i]? =some o) (hs:ss[i]? =some s) (hd:s.dst=o.dst)
 (hre:∀e ∈ o.after,Region.binds .any e=true→SS listed e.on) (hns:¬ SS listed i) (hk:k < i) (hp:s.jd=true) {cs:List AV} {vf:Nat→AV} (hH:((H i).alloc (.row cs)).alike (H (i+1))) (hF:F (i+1)=eG (F i) s.dst (vf (H i).next))
 (hvf:(vf=fun id=>.ptr id 0)∨∃n sz,vf=fun id=>.vec id 0 n sz n) (hrf:AV.ai cs≤(H k).next) {φ1:dp} {cv:Value} {w':World}
 (hf:FR φ1 ((H k).alloc (.row cs)) w' (eG cu s.dst (vf (H k).next)) (a.put o.dst cv).tmps) (hr:HR φ1 ((H k).alloc (.row cs)) w') (hx:Ext φ (H k) w φ1 ((H k).alloc (.row cs)) w'):
 DI ops ss F H φ0 w0 d0 (listed.setIfInBounds i true) ⟨φ.at_,fun b=>φ.gh b∨b=(φ1 (H k).next).eM⟩ (fun j=>if j=i then φ1 (H k).next else pe j) (eG cu s.dst .undef) k (a.put o.dst cv) w':=by
 have hil:i < ss.length:=(List.getElem?_eq_some_iff.1 hs).1;have hsz:i < listed.size:=by rw[D.sz];exact hil
 have S':=nQ hsz;obtain⟨g1,g2,g3,g4⟩:=Hv D.hr hr hx hrf;have hpe:∀j,j≠i→(if j=i then φ1 (H k).next else pe j)=pe j:=fun j hj=>if_neg hj
 refine⟨by simp[D.sz],fun j o' h1 h2 e h3 h4=>(S' _).2 (.inr ?_),D.kn,fun j r h1 h2 h3=>(S' j).2 (.inr (D.lo j r h1 h2 h3)),fun j r h1 h2 h3 h4=>?_,g1,?_,D.ex.trans g2,by rw[lB];exact D.K1,fun j r d h1 h2 h3 h4=>?_,fun j r d h1 h2 h3=>?_,fun d h1=>?_,
  fun j r h1 h2 h3 h4=>?_,fun i1 j1 s1 r1 q1 q2 q3 q4 q5 q6 q7 q8 q9=>?_,fun y hy=>?_,fun y hy=>?_,by rw[put_defers];exact D.df⟩
 ·rcases (S' j).1 h2 with rfl | h2
  ·rw[ho] at h1;cases h1;exact hre e h3 h4
  ·exact D.cl j o' h1 h2 e h3 h4
 ·rcases (S' j).1 h4 with e | h4
  ·subst e;rw[hs] at h2;cases h2;exact hp
  ·exact D.hi j r h1 h2 h3 h4
 ·rw[hd];exact (mY (D.fr.vM g2) (RV.undef cv) o.dst).1
 ·by_cases e:j=i
  ·subst e;rw[hs] at h1;cases h1;have:=h4 hp;omega
  ·have h3':SS listed j:=((S' j).1 h3).resolve_left e;rw[fx (fun e'=>e (st.uniq j i r s d h1 hs h2 e'))];exact D.w1 j r d h1 h2 h3' h4
 ·have e:j≠i:=fun e=>h3 ((S' j).2 (.inl e))
  rw[fx (fun e'=>e (st.uniq j i r s d h1 hs h2 e'))];exact D.w2 j r d h1 h2 fun h=>h3 ((S' j).2 (.inr h))
 ·rw[fx (h1 i s hs)];exact D.w3 d h1
 ·by_cases e:j=i
  ·subst e;rw[hs] at h2;cases h2;refine⟨cs,vf,hH,hF,?_,?_,?_,fun d q1 q2=>?_⟩
   ·simp only[if_true];exact g3
   ·simp only[if_true];exact .inr trivial
   ·simp only[if_true];exact fun h=>g4 (D.Ik _ h).1
   ·simp only[if_true];have:=hf.2 d
    have e1:(eG cu s.dst (vf (H k).next)).getD d .undef=vf (H k).next:=by
     rw[q1];have hdl:d < cu.length:=by rw[D.K1];exact q2
     simp[eG,hdl]
    rw[e1] at this;exact S0.of hvf this
  ·have h4':SS listed j:=((S' j).1 h4).resolve_left e;obtain⟨cs',vf',p1,p2,p3,p4,p5,p6⟩:=D.jd j r h1 h2 h3 h4';refine⟨cs',vf',p1,p2,?_,?_,?_,fun d q1 q2=>?_⟩
   ·dsimp only;rw[hpe j e];exact p3.vM g2 (hx.gh.2 _ p4)
   ·dsimp only;rw[hpe j e];exact .inl p4
   ·dsimp only;rw[hpe j e];exact p5
   ·dsimp only;rw[hpe j e,n8 fun e'=>e (st.uniq j i r s d h2 hs q1 (hd.trans e'))];exact p6 d q1 q2
 ·by_cases e1:i1=i
  ·by_cases e2:j1=i
   ·omega
   ·exfalso;rw[if_pos e1,hpe j1 e2] at q9;obtain⟨_,_,_,_,_,p4,_⟩:=D.jd j1 r1 q2 q4 q6 (((S' j1).1 q8).resolve_left e2);exact g4 (q9 ▸ p4)
  ·by_cases e2:j1=i
   ·exfalso;rw[if_pos e2,hpe i1 e1] at q9;obtain⟨_,_,_,_,_,p4,_⟩:=D.jd i1 s1 q1 q3 q5 (((S' i1).1 q7).resolve_left e1);exact g4 (q9 ▸ p4)
   ·rw[hpe i1 e1,hpe j1 e2] at q9;exact D.inj i1 j1 s1 r1 q1 q2 q3 q4 q5 q6 (((S' i1).1 q7).resolve_left e1) (((S' j1).1 q8).resolve_left e2) q9
 ·rcases hy with hy | rfl
  ·rcases D.gh y hy with h | ⟨i1,s1,h1,h2,h3,h4,h5⟩
   ·exact .inl h
   ·refine .inr ⟨i1,s1,h1,h2,h3,(S' i1).2 (.inr h4),?_⟩;rw[hpe i1 fun e=>hns (e ▸ h4)];exact h5
  ·exact .inr ⟨i,s,by omega,hs,hp,(S' i).2 (.inl rfl),by simp⟩
 ·obtain⟨p1,p2⟩:=D.Ik y hy;exact⟨.inl p1,(hx.gh.2 y p1).trans p2⟩
theorem BC {o:Oper} {s:aU} (hc:fp P ops o=some s):s.dst=o.dst:=by
 unfold fp at hc;split at hc
 ·cases hc
 ·split at hc
  ·cases hc;rfl
  ·obtain⟨t,_,rfl⟩:=Option.map_eq_some_iff.1 hc;rfl
theorem fv.yT {Q:Program} {listed:Array Bool} {φ:dp} {pe:Nat→PE} {cu:List AV} {k:Nat} {a:Act} {w:World} (g:fv Q X φ0 (H 0) w0) (D:DI ops ss F H φ0 w0 d0 listed φ pe cu k a w):fv Q X φ (H k) w:=by
 obtain⟨w1,h1,h2⟩:=g;refine⟨w1,h1,fun b hb=>?_⟩;obtain⟨g1,g2,g3⟩:=h2 b hb;refine⟨Nat.lt_of_lt_of_le g1 D.ex.size,?_⟩;rcases g2 with g2 | g2
 ·exact⟨.inl (D.Ik b g2).1,(D.Ik b g2).2.trans g3⟩
 ·exact⟨.inr (D.ex.pr b g2).1,(D.ex.pr b g2).2.trans g3⟩
theorem Qe (hC:iE P X C) (hG:fv P X φ0 (H 0) w0) (T:Tr C ss b F H) (st:pL P ops ss b) {Q:Exit→Act→World→Prop}
 (hQ:∀φ' a' w',FR φ' (H ss.length) w' (F ss.length) a'.tmps→HR φ' (H ss.length) w'→Ext φ0 (H 0) w0 φ' (H ss.length) w'→a'.defers=d0→Q .normal a' w'):
 ∀(fuel:Nat) (listed:Array Bool) (φ:dp) (pe:Nat→PE) (cu:List AV) (k:Nat) (a:Act) (w:World),DI ops ss F H φ0 w0 d0 listed φ pe cu k a w→KX ss listed k→La ss.length listed≤fuel→
   wpAny P .any ops Q fuel listed a w:=by
 have hend:∀(listed:Array Bool) (φ:dp) (pe:Nat→PE) (cu:List AV) (k:Nat) (a:Act) (w:World),DI ops ss F H φ0 w0 d0 listed φ pe cu k a w→KX ss listed k→(∀i,i < ss.length→SS listed i)→Q .normal a w:=fun listed φ pe cu k a w D kx hall=>by
  have hk:k=ss.length:=by
   rcases Nat.lt_or_ge k ss.length with h | h
   ·obtain⟨s,_,_,hn⟩:=kx h;exact absurd (hall k h) hn
   ·have:=D.kn;omega
  subst hk
  have hcu:∀t,cu.getD t .undef=(F ss.length).getD t .undef:=fun t=>by
   by_cases hw:∃(j:Nat) (r:aU),ss[j]? =some r∧r.dst=some t
   ·obtain⟨j,r,hj,hd⟩:=hw;have hjl:j < ss.length:=(List.getElem?_eq_some_iff.1 hj).1;exact D.w1 j r t hj hd (hall j hjl) fun _=>hjl
   ·have hno:∀(j:Nat) (r:aU),ss[j]? =some r→r.dst≠some t:=fun j r hj hd=>hw ⟨j,r,hj,hd⟩
    rw[D.w3 t hno];have:=T.eI (d:=t) (i:=0) ss.length (by omega) fun j' s' _ _ h3=>hno j' s' h3
    simpa using this.symm
  refine hQ φ a w ⟨?_,fun t=>?_⟩ D.hr ?_ D.df
  ·rw[D.fr.1,D.K1,T.len ss.length (Nat.le_refl _)]
  ·rw[←hcu t];exact D.fr.2 t
  ·have x:=D.ex;refine⟨x.os,x.tape,x.output,x.size,x.next,x.uJ,x.pr,?_,fun y hy=>(D.Ik y hy).2⟩;funext y;refine propext ⟨fun hy=>?_,fun hy=>(D.Ik y hy).1⟩;rcases D.gh y hy with h | ⟨i,s,h1,h2,_⟩
   ·exact h
   ·have:=(List.getElem?_eq_some_iff.1 h2).1;omega
 have hnl:∀(listed:Array Bool) (i:Nat),listed.size=ss.length→listed.getD i true=false→i < ss.length∧¬ SS listed i:=fun listed i hsz h=>by
  have hlt:i < listed.size:=by
   rcases Nat.lt_or_ge i listed.size with h' | h'
   ·exact h'
   ·simp[Array.getElem?_eq_none h'] at h
  refine⟨by omega,fun hS=>?_⟩;unfold SS at hS;simp[hlt] at h hS;rw[h] at hS;cases hS
 intro fuel
 induction fuel with
 | zero=>
   intro listed φ pe cu k a w D kx hu;have hall:∀i,i < ss.length→SS listed i:=fun i hi=>Bb (by omega) hi
   refine⟨?_,hend listed φ pe cu k a w D kx hall⟩;apply List.eq_nil_iff_forall_not_mem.2;intro i hi;obtain⟨h1,h2⟩:=hnl listed i D.sz (mem_ready.1 hi).1;exact h2 (hall i h1)
 | succ fuel ih=>
   intro listed φ pe cu k a w D kx hu;refine⟨fun h0=>hend listed φ pe cu k a w D kx fun i hi=>?_,fun i hi=>?_⟩
   ·induction i using Nat.strongRecOn with
    | _ i ihi=>
      refine Classical.byContradiction fun hns=>?_
      have hio':i < ops.size:=by rw[←st.len];exact hi
      have hio:ops[i]? =some ops[i]:=Array.getElem?_eq_getElem hio'
      have:i ∈ Region.ready .any ops listed:=by
       rw[mem_ready];refine⟨?_,_,hio,fun e he hb=>?_⟩
       ·have hlt:i < listed.size:=by rw[D.sz];exact hi
        unfold SS at hns;simp[hlt] at hns ⊢;exact hns
       ·have:=st.back i _ hio e he hb;exact ihi e.on this (by omega)
      rw[h0] at this;cases this
   ·obtain⟨hun,o,ho,hedge⟩:=mem_ready.1 hi;obtain⟨hil,hns⟩:=hnl listed i D.sz hun;have hre:∀e ∈ o.after,Region.binds .any e=true→SS listed e.on:=hedge;obtain⟨s,hs,hcomp⟩:=st.comp i o ho;have hd:=BC hcomp;obtain⟨hin,hout,hev,a1,a2⟩:=T.st i s hs;have hrd:=D.reads T st kx ho hs hre hns;have hops:∀x ∈ s.op.jO,x.ev cu=x.ev (F i):=fun x hxm=>na fun t ht=>hrd t (List.mem_append_right _ (List.mem_flatMap.2 ⟨x,hxm,ht⟩))
    have hu':La ss.length (listed.setIfInBounds i true)≤fuel:=by
     have:=Fm hil (by rw[D.sz];exact hil) hns;omega
    unfold wpOp;rw[ho];dsimp only
    have fin:(if Region.wanted o (yielded ops a.tmps) then o.wp P a w (wpAny P .any ops Q fuel (listed.setIfInBounds i true)) Q else wpAny P .any ops Q fuel (listed.setIfInBounds i true) (a.put o.dst undef) w)→
     (if Region.wanted o (yielded ops a.tmps) then (o.wp P a w (wpAny P .any ops Q fuel (listed.setIfInBounds i true)) Q∨(o.asks P a w∧LetsOut Q)) else wpAny P .any ops Q fuel (listed.setIfInBounds i true) (a.put o.dst undef) w):=fun h=>by
     split
     ·rename_i hw;rw[if_pos hw] at h;exact .inl h
     ·rename_i hw;rw[if_neg hw] at h;exact h
    apply fin;by_cases he:s.mL=true
    ·rcases Nat.lt_trichotomy i k with hik | hik | hik
     ·exact absurd (D.lo i s hik hs he) hns
     ·subst hik;obtain⟨v,hF,hev'⟩:=jg hrd hev;obtain⟨r1,r2⟩:=D.hr.alike a1;refine rn hC hcomp hev' (D.fr.ext r2) r1 ((hG.yT D).ext r2) fun φ' cv w' f1 r3 e1=>?_
      obtain⟨r4,r5⟩:=r3.alike a2;have D1:=D.step T st (k':=i+1) ho hs hd hre hns (.inr ⟨rfl,rfl⟩) hF (f1.ext r5) r4 ((r2.trans e1).trans r5);obtain⟨φ2,cu2,k2,D2,kx2⟩:=D1.advance T st (ss.length) (by omega);exact ih _ φ2 pe cu2 k2 _ w' D2 kx2 hu'
     ·have hp:s.jd=true:=by
       obtain⟨q,hq,hqe,hqn⟩:=kx (by omega);rcases st.ord k i q s hik hq hs hqe he with h | h
       ·exact absurd (gT st D.cl (i+1) i k (by omega) o ho hre h) hqn
       ·exact h
      obtain⟨cs,vf,hh,hF,hvf,hall⟩:=uO hp hev;obtain⟨hev',hrf⟩:=hall cu (H k) hops;subst hh;refine rn hC hcomp hev' D.fr D.hr (hG.yT D) fun φ' cv w' f1 r3 e1=>?_
      have hnx:hin.next=(H i).next:=a1.1
      rw[hnx] at hF;have D1:=D.early T st ho hs hd hre hns hik hp ((a1.alloc _).trans a2) hF hvf (hrf _ _ _ D.fr) f1 r3 e1;refine ih _ _ _ _ k _ w' D1 (fun h=>?_) hu';obtain⟨q,hq,hqe,hqn⟩:=kx h;refine⟨q,hq,hqe,fun h'=>?_⟩;rcases (nQ (by rw[D.sz];exact hil) k).1 h' with e | e
      ·omega
      ·exact hqn e
    ·have he:s.mL=false:=by simpa using he
     obtain⟨v,hF,hev'⟩:=jg hrd hev
     obtain⟨_,hev2⟩:=nd (h2:=H k) he hev' fun n x id off hop hx=>by
      have hx':x.ev (F i)=.ptr id off:=by
       rw[←hops x (by rw[hop];simp[F6.jO,qR.jO])];exact hx
      rw[a1.get id];exact D.load T st kx ho hs hre hns hop hx'
     refine rn hC hcomp hev2 D.fr D.hr (hG.yT D) fun φ' cv w' f1 r3 e1=>?_
     have D1:=D.step T st (k':=k) ho hs hd hre hns (.inl ⟨rfl,he⟩) hF f1 r3 e1;refine ih _ _ _ _ k _ w' D1 (fun h=>?_) hu';obtain⟨q,hq,hqe,hqn⟩:=kx h;refine⟨q,hq,hqe,fun h'=>?_⟩;rcases (nQ (by rw[D.sz];exact hil) k).1 h' with e | e
     ·subst e;rw[hs] at hq;rw[←Option.some.inj hq,he] at hqe;cases hqe
     ·exact hqn e
end
end Sz

/- Regions whose order is drawn: the rule. No program is named here. -/
namespace Sz
open Go
variable {X:World→Prop}
def CW (h h':aa):Prop:=h.wf→CL h h'∧h'.wf
theorem CW.refl (h:aa):CW h h:=fun w=>⟨.refl _,w⟩
theorem CW.trans {h h1 h2:aa} (a:CW h h1) (b:CW h1 h2):CW h h2:=fun w=>by
 obtain⟨c1,w1⟩:=a w;obtain⟨c2,w2⟩:=b w1;exact⟨c1.trans c2,w2⟩
theorem Si {fr:List AV} {h h':aa} {aop:qR} {v:AV} (he:bE fr h aop=some (v,h')) (hw:h.wf):h'.wf:=by
 cases aop<;>simp only[bE] at he
 all_goals
  repeat' split at he
  all_goals first
   | (cases he;done)
   | (cases he;exact hw)
   | (cases he;exact aa.kb _ hw)
   | (cases he;exact aa.uZ _ _ (aa.wf_set _ _ hw))
   | (cases he;exact aa.kb _ (aa.wf_set _ _ hw))
   | (obtain⟨_,_,e⟩:=Option.map_eq_some_iff.1 he;cases e;exact hw)
   | (obtain⟨_,_,e⟩:=Option.map_eq_some_iff.1 he;cases e;exact aa.kb _ hw)
   | (obtain⟨_,_,e⟩:=Option.map_eq_some_iff.1 he;cases e;exact aa.uZ _ _ (aa.uZ _ _ (aa.wf_set _ _ hw)))
   | (obtain⟨p,_,e⟩:=Option.map_eq_some_iff.1 he;(repeat' split at e)<;>cases e<;>exact hw)
theorem So {fr:List AV} {h h':aa} {aop:qR} {v:AV} (he:bE fr h aop=some (v,h')):CW h h':=fun w=>⟨Q5 he,Si he w⟩
def ki (C:Nat→List AV→aa→Option (AV×aa)):Prop:=∀f args h v h',C f args h=some (v,h')→CW h h'
section
variable {P:Program} {C:Nat→List AV→aa→Option (AV×aa)} {ops:Array Oper} {ss:List aU} {b:List Nat}
theorem uX (hC:ki C) {s:aU} {fr fr':List AV} {h h':aa} (he:cd C s fr h=some (fr',h')):CW h h':=by
 unfold cd at he;split at he
 ·cases he
 ·cases he;exact .refl _
 ·split at he
  ·obtain⟨⟨v,h1⟩,h2,e⟩:=Option.map_eq_some_iff.1 he;cases e;exact hC _ _ _ _ _ h2
  ·split at he
   ·obtain⟨⟨v,h1⟩,h2,e⟩:=Option.map_eq_some_iff.1 he;cases e;exact hC _ _ _ _ _ h2
   ·cases he
  ·obtain⟨⟨v,h1⟩,h2,e⟩:=Option.map_eq_some_iff.1 he;cases e;exact So h2
theorem B2 (hC:ki C):∀{ss:List aU} {fr fr':List AV} {h h':aa},cB C ss fr h=some (fr',h')→CW h h'
 | [],fr,fr',h,h',he=>by
   simp only[cB,Option.some.injEq,Prod.mk.injEq] at he;obtain⟨rfl,rfl⟩:=he;exact .refl _
 | s::ss,fr,fr',h,h',he=>by
   simp only[cB] at he;split at he
   ·rename_i fr1 h1 h2;exact (uX hC h2).trans (B2 hC he)
   ·cases he
theorem CL.L6 {h h':aa} (c:CL {h with md:=h.next} h'):CL h {h' with md:=min h.md h'.md}:=
 ⟨c.next,c.wl,fun n h1 h2 h3=>c.le n h1 h2 h3,Nat.min_le_left _ _,fun id h1 h2=>c.same id (by dsimp only at h1;omega) h2⟩
theorem CW.L6 {h h':aa} (c:CW {h with md:=h.next} h'):CW h {h' with md:=min h.md h'.md}:=fun w=>by
 obtain⟨c1,w1⟩:=c w;exact⟨c1.L6,w1⟩
theorem NF (hC:ki C):∀{ss:List aU} {fr fr':List AV} {h h':aa} {tr:List (Nat×aa×aa)},nL C ss fr h=some (fr',h',tr)→CW h h'
 | [],fr,fr',h,h',tr,he=>by
   simp only[nL,Option.some.injEq,Prod.mk.injEq] at he;obtain⟨rfl,rfl,_⟩:=he;exact .refl _
 | s::ss,fr,fr',h,h',tr,he=>by
   simp only[nL] at he;split at he
   ·rename_i fr1 h1 h2;obtain⟨⟨fr2,h3,tr2⟩,h4,e⟩:=Option.map_eq_some_iff.1 he;cases e;exact (CW.L6 (uX hC h2)).trans (NF hC h4)
   ·cases he
theorem sa {α β:Type} {f:α→Option β}:∀{l:List α} {r:List β},dm f l=some r→r.length=l.length∧∀(i:Nat) (x:α),l[i]? =some x→∃y,r[i]? =some y∧f x=some y
 | [],r,h=>by
   simp only[dm,Option.some.injEq] at h;subst h;exact⟨rfl,fun i x hx=>by simp at hx⟩
 | x::l,r,h=>by
   unfold dm at h;split at h
   ·rename_i y s h1 h2;cases h;obtain⟨g1,g2⟩:=sa h2;refine⟨by simp[g1],fun i z hz=>?_⟩
    cases i with
    | zero=>
      simp only[List.getElem?_cons_zero,Option.some.injEq] at hz;subst hz;exact⟨y,by simp,h1⟩
    | succ i=>exact g2 i z (by simpa using hz)
   ·cases h
theorem EV (hs:dm (fp P ops) ops.toList=some ss) (hd:vX ops ss b=true):pL P ops ss b:=by
 obtain⟨hl,hg⟩:=sa hs;unfold vX at hd;rw[Bool.and_eq_true,List.all_eq_true,List.all_eq_true] at hd;obtain⟨he,hp⟩:=hd;have edge:∀(i:Nat) (o:Oper),ops[i]? =some o→ve b (o,i)=true:=fun i o ho=>he (o,i) (List.mk_mem_zipIdx_iff_getElem?.2 (by rw[Array.getElem?_toList];exact ho))
 have pair:∀(i j:Nat) (s r:aU),ss[i]? =some s→ss[j]? =some r→i≠j→tK b ss.zipIdx s i r j=true∧(i==j)=false:=fun i j s r h1 h2 hne=>by
  have:=hp (s,i) (List.mk_mem_zipIdx_iff_getElem?.2 h1);rw[List.all_eq_true] at this;exact⟨this (r,j) (List.mk_mem_zipIdx_iff_getElem?.2 h2),by simpa using hne⟩
 have allq:∀(i j:Nat),(ss.zipIdx.all fun q=>!(decide (q.2 < j)&&q.1.mL)||bt b q.2 i)=true→∀(e:Nat) (q:aU),ss[e]? =some q→e < j→q.mL=true→bt b e i=true:=fun i j h e q hq hlt hqe=>by
  rw[List.all_eq_true] at h;have:=h (q,e) (List.mk_mem_zipIdx_iff_getElem?.2 hq);simpa[hlt,hqe] using this
 refine⟨by rw[hl];simp,fun i o ho=>hg i o (by rw[Array.getElem?_toList];exact ho),fun i o ho=>?_,fun i o ho e hem hb=>?_,fun i j s r d h1 h2 h3 h4=>?_,fun i j s r hlt h1 h2 h3 h4=>?_,fun i j s r h1 h2 h3 h4 hlt hb=>?_,fun i j s r d hne h1 h2 h3 h4=>?_⟩
 ·have:=edge i o ho;unfold ve at this;rw[Bool.and_eq_true] at this;simpa using this.1
 ·have:=edge i o ho;unfold ve at this;rw[Bool.and_eq_true,List.all_eq_true] at this;have:=this.2 e (by simpa using hem);simpa[hb] using this
 ·refine Classical.byContradiction fun hne=>?_
  obtain⟨g,g'⟩:=pair i j s r h1 h2 hne;unfold tK at g;rw[h3,h4] at g;simp[g'] at g
 ·obtain⟨g,g'⟩:=pair i j s r h1 h2 (by omega);unfold tK at g;rw[g',Bool.false_or,Bool.and_eq_true,Bool.and_eq_true,Bool.and_eq_true] at g;have:=g.1.1.2;simpa[hlt,h3,h4] using this
 ·obtain⟨g,g'⟩:=pair i j s r h1 h2 (by omega);unfold tK at g;rw[g',Bool.false_or,Bool.and_eq_true,Bool.and_eq_true,Bool.and_eq_true] at g;have:=g.2;rw[Bool.or_eq_true] at this;rcases this with h | h
  ·simp[h3,h4,hlt,hb] at h
  ·exact allq i j h
 ·obtain⟨g,g'⟩:=pair i j s r h1 h2 hne;unfold tK at g;rw[g',Bool.false_or,Bool.and_eq_true,Bool.and_eq_true,Bool.and_eq_true,h3] at g;have:=g.1.2;dsimp only at this;rw[Bool.or_eq_true] at this;rcases this with h | h
  ·rw[List.contains_iff_mem.2 h4] at h;cases h
  ·split at h
   ·rename_i hlt;rw[Bool.and_eq_true,Bool.or_eq_true] at h;refine .inl ⟨hlt,h.1,fun hpd=>?_⟩;rcases h.2 with h | h
    ·rw[hpd] at h;cases h
    ·exact allq i j h
   ·exact .inr ⟨by omega,h⟩
theorem yt {i j:Nat} {s r:aU} (h1:ss[i]? =some s) (h2:ss[j]? =some r) (hl:s.AR=true) (he:r.mL=true) (b1:bt b i j=false) (b2:bt b j i=false):(i,j) ∈ l9 b ss.zipIdx:=by
 unfold l9;refine List.mem_flatMap.2 ⟨(s,i),List.mk_mem_zipIdx_iff_getElem?.2 h1,?_⟩;dsimp only;rw[if_pos hl];exact List.mem_filterMap.2 ⟨(r,j),List.mk_mem_zipIdx_iff_getElem?.2 h2,by simp[he,b1,b2]⟩
theorem uf:∀{ss:List aU} {fr fr':List AV} {h h':aa},cB C ss fr h=some (fr',h')→
 ∃(F:Nat→List AV) (H:Nat→aa),F 0=fr∧H 0=h∧F ss.length=fr'∧H ss.length=h'∧∀(i:Nat) (s:aU),ss[i]? =some s→cd C s (F i) (H i)=some (F (i+1),H (i+1))
 | [],fr,fr',h,h',he=>by
   simp only[cB,Option.some.injEq,Prod.mk.injEq] at he;obtain⟨rfl,rfl⟩:=he;exact⟨fun _=>fr,fun _=>h,rfl,rfl,rfl,rfl,fun i s hs=>by simp at hs⟩
 | s::ss,fr,fr',h,h',he=>by
   simp only[cB] at he;split at he
   ·rename_i fr1 h1 h2;obtain⟨F,H,g1,g2,g3,g4,g5⟩:=uf he;refine⟨fun i=>match i with | 0=>fr | i+1=>F i,fun i=>match i with | 0=>h | i+1=>H i,rfl,rfl,g3,g4,fun i r hr=>?_⟩
    cases i with
    | zero=>
      simp only[List.getElem?_cons_zero,Option.some.injEq] at hr;subst hr;dsimp only;rw[g1,g2];exact h2
    | succ i=>exact g5 i r (by simpa using hr)
   ·cases he
theorem CH:∀{ss:List aU} {fr fr':List AV} {h h':aa} {tr:List (Nat×aa×aa)},nL C ss fr h=some (fr',h',tr)→
 ∃(F:Nat→List AV) (H:Nat→aa),F 0=fr∧H 0=h∧F ss.length=fr'∧H ss.length=h'∧
   ∀(i:Nat) (s:aU),ss[i]? =some s→∃ho:aa,cd C s (F i) {H i with md:=(H i).next}=some (F (i+1),ho)∧H (i+1)={ho with md:=min (H i).md ho.md}∧∃hb:aa,hb.get=(H i).get∧tr[i]? =some (uV s (F i),hb,ho)
 | [],fr,fr',h,h',tr,he=>by
   simp only[nL,Option.some.injEq,Prod.mk.injEq] at he;obtain⟨rfl,rfl,_⟩:=he;exact⟨fun _=>fr,fun _=>h,rfl,rfl,rfl,rfl,fun i s hs=>by simp at hs⟩
 | s::ss,fr,fr',h,h',tr,he=>by
   simp only[nL] at he;split at he
   ·rename_i fr1 h1 h2;obtain⟨⟨fr2,h3,tr2⟩,h4,e⟩:=Option.map_eq_some_iff.1 he;cases e;obtain⟨F,H,g1,g2,g3,g4,g5⟩:=CH h4;refine⟨fun i=>match i with | 0=>fr | i+1=>F i,fun i=>match i with | 0=>h | i+1=>H i,rfl,rfl,g3,g4,fun i r hr=>?_⟩
    cases i with
    | zero=>
      simp only[List.getElem?_cons_zero,Option.some.injEq] at hr;subst hr;dsimp only;rw[g1,g2];exact⟨h1,h2,rfl,h,rfl,rfl⟩
    | succ i=>
      obtain⟨ho,q1,q2,hb,qb,q3⟩:=g5 i r (by simpa using hr);exact⟨ho,q1,q2,hb,qb,by simpa using q3⟩
   ·cases he
theorem Tr.of_steps {F:Nat→List AV} {H:Nat→aa} (hst:∀(i:Nat) (s:aU),ss[i]? =some s→cd C s (F i) (H i)=some (F (i+1),H (i+1))) (hp:l9 b ss.zipIdx=[]):Tr C ss b F H:=by
 refine⟨fun i s hs=>⟨H i,H (i+1),hst i s hs,aa.alike_refl _,aa.alike_refl _⟩,fun i j s r n x id off h1 h2 h3 h4 h5 h6 h7=>?_⟩;have:=yt (b:=b) h1 h2 (by unfold aU.AR;rw[h3]) h5 h6 h7;rw[hp] at this;cases this
mutual
theorem AV.DO:∀(a b:AV),a.Am b=true→a=b:=fun a b h=>by
 cases a<;>cases b<;>simp only[AV.Am,Bool.and_eq_true,beq_iff_eq,decide_eq_true_eq,Bool.false_eq_true] at h
 case bool.bool=>exact congrArg _ h
 case int.int=>obtain⟨rfl,rfl⟩:=h;rfl
 case str.str=>exact congrArg _ h
 case ptr.ptr=>rw[Nat.eq_of_beq_eq_true h.1,Nat.eq_of_beq_eq_true h.2]
 case ip.ip=>exact congrArg _ (AV.ng _ _ h)
 case sl.sl=>exact congrArg _ (AV.ng _ _ h)
 case vec.vec=>obtain⟨⟨⟨⟨h1,h2⟩,h3⟩,h4⟩,h5⟩:=h;rw[Nat.eq_of_beq_eq_true h1,Nat.eq_of_beq_eq_true h2,Nat.eq_of_beq_eq_true h3,Nat.eq_of_beq_eq_true h4,Nat.eq_of_beq_eq_true h5]
 case map.map=>exact congrArg _ (Nat.eq_of_beq_eq_true h)
 case fn.fn=>obtain⟨h1,h⟩:=h;rw[Nat.eq_of_beq_eq_true h1,AV.ng _ _ h]
 case iface.iface=>obtain⟨h1,h⟩:=h;rw[Nat.eq_of_beq_eq_true h1,AV.DO _ _ h]
 case agg.agg=>exact congrArg _ (AV.ng _ _ h)
 case tuple.tuple=>exact congrArg _ (AV.ng _ _ h)
 all_goals rfl
theorem AV.ng:∀(a b:List AV),AV.tg a b=true→a=b:=fun a b h=>by
 cases a with
 | nil=>cases b with
   | nil=>rfl
   | cons y s=>simp[AV.tg] at h
 | cons x r=>cases b with
   | nil=>simp[AV.tg] at h
   | cons y s=>
     simp only[AV.tg,Bool.and_eq_true] at h;rw[AV.DO x y h.1,AV.ng r s h.2]
end
theorem Ky {a b:Option bf} (h:F3 a b=true):a=b:=by
 unfold F3 at h;split at h
 ·rw[AV.ng _ _ h]
 ·cases h
theorem Jh {r:aU} {fr fr':List AV} {h h':aa} {id:Nat} (he:r.mL=true) (h0:0 < uV r fr) (hne:¬ id+1=uV r fr) (hev:cd C r fr h=some (fr',h')):h'.get id=h.get id:=by
 obtain⟨dst,op,guard⟩:=r;unfold uV at h0 hne;unfold aU.mL at he
 cases op with
 | call f args=>simp at h0
 | hU x args=>simp at h0
 | op o=>
   cases o with
   | ld n x=>simp at he
   | st n x v=>
     dsimp only at h0 hne;unfold cd at hev;dsimp only at hev;split at hev
     ·cases hev
     ·cases hev;rfl
     ·obtain⟨⟨v1,h1⟩,h2,e⟩:=Option.map_eq_some_iff.1 hev;cases e;simp only[bE] at h2;split at h2
      ·rename_i tid off vs hx hv;rw[hx] at h0 hne;split at h2
       ·rename_i cs hrow;split at h2
        ·cases h2;rw[aa.ir];exact aa.get_set_other (by dsimp only at hne;omega)
        ·cases h2
       ·cases h2
      ·cases h2
   | _=>simp at h0
theorem Tr.Nw (hC:ki C) {F:Nat→List AV} {H:Nat→aa} {tr:List (Nat×aa×aa)}
 (hst:∀(i:Nat) (s:aU),ss[i]? =some s→∃ho:aa,cd C s (F i) {H i with md:=(H i).next}=some (F (i+1),ho)∧H (i+1)={ho with md:=min (H i).md ho.md}∧∃hb:aa,hb.get=(H i).get∧tr[i]? =some (uV s (F i),hb,ho))
 (hw:(H 0).wf) (hp:AS tr (l9 b ss.zipIdx)=true):Tr C ss b F H:=by
 have wfs:∀j,j≤ss.length→(H j).wf:=fun j=>by
  induction j with
  | zero=>exact fun _=>hw
  | succ j ih=>
    intro hj;obtain⟨ho,g1,g2,_⟩:=hst j _ (List.getElem?_eq_getElem (show j < ss.length by omega));have:=(CW.L6 (uX hC g1) (ih (by omega))).2;rw[g2];exact this
 refine⟨fun i s hs=>?_,fun i j s r n x id off h1 h2 h3 h4 h5 h6 h7=>?_⟩
 ·obtain⟨ho,g1,g2,g3⟩:=hst i s hs;exact⟨_,ho,g1,⟨rfl,rfl⟩,by rw[g2];exact⟨rfl,rfl⟩⟩
 ·have hm:=yt (b:=b) h1 h2 (by unfold aU.AR;rw[h3]) h5 h6 h7;unfold AS at hp;rw[List.all_eq_true] at hp;have hp:=hp _ hm;obtain⟨ho,g1,g2,hb,gb,g3⟩:=hst i s h1;obtain⟨ho',g1',g2',hb',gb',g3'⟩:=hst j r h2;dsimp only at hp;rw[g3,g3'] at hp;have e:uV s (F i)=id+1:=by unfold uV;rw[h3];dsimp only;rw[h4]
  rw[e] at hp;rw[g2'];rw[Bool.or_eq_true,Bool.or_eq_true] at hp;rcases hp with (hp | hp) | hp
  ·have hlt:id < ho'.md:=by
    have:id+1≤ho'.md:=by simpa using hp
    omega
   have c:=(uX hC g1' (wfs j (by have:=(List.getElem?_eq_some_iff.1 h2).1;omega))).1;have hmd:=c.md;exact c.same id hlt (by dsimp only at hmd ⊢;omega)
  ·simp only[Bool.and_eq_true,decide_eq_true_eq,Bool.not_eq_true',beq_eq_false_iff_ne] at hp;have ho:=Jh h5 hp.1 hp.2 g1';exact ho
  ·simp only[Bool.and_eq_true,Nat.add_sub_cancel] at hp;have ho:=Ky hp.2;rw[gb'] at ho;exact ho.symm
theorem xO (hC:iE P X C) (hm:P.follows .mixedOrders=true) (hs:dm (fp P ops) ops.toList=some ss) (hd:vX ops ss b=true) {F:Nat→List AV} {H:Nat→aa} (T:Tr C ss b F H)
 {φ:dp} {w:World} {a:Act} {id:Nat} {Q:Exit→Act→World→Prop} (hf:FR φ (H 0) w (F 0) a.tmps) (hr:HR φ (H 0) w) (hG:fv P X φ (H 0) w)
 (hQ:∀φ' a' w',FR φ' (H ss.length) w' (F ss.length) a'.tmps→HR φ' (H ss.length) w'→Ext φ (H 0) w φ' (H ss.length) w'→a'.defers=a.defers→Q .normal a' w'):(Code.region id ops true).wp P Q a w:=by
 have st:=EV hs hd;obtain⟨r1,x1⟩:=hr.world (w':={w with drawn:=w.drawn+1}) rfl rfl rfl rfl;refine wp_region_any hm ?_
 have hnone:∀i,¬ SS (Array.replicate ops.size false) i:=fun i h=>by
  unfold SS at h;rw[Array.getD_eq_getD_getElem?,Array.getElem?_replicate] at h;split at h<;>cases h
 have D0:DI ops ss F H φ {w with drawn:=w.drawn+1} a.defers (Array.replicate ops.size false) φ (fun _=>default) (F 0) 0 a {w with drawn:=w.drawn+1}:=by
  refine⟨by simp[st.len],fun j o _ h=>absurd h (hnone j),Nat.zero_le _,fun i s h=>by omega,fun i s _ _ _ h=>absurd h (hnone i),r1,hf.ext x1,.refl _ _ _,rfl,fun i s d _ _ h=>absurd h (hnone i),fun _ _ _ _ _ _=>rfl,fun _ _=>rfl,
   fun i s _ _ _ h=>absurd h (hnone i),fun i j s r _ _ _ _ _ _ h=>absurd h (hnone i),fun y hy=>.inl hy,fun y hy=>⟨hy,rfl⟩,rfl⟩
 obtain⟨φ1,cu1,k1,D1,kx⟩:=D0.advance T st ss.length (by omega);refine Qe hC (hG.ext x1) T st (fun φ' a' w' f1 r2 e1 d1=>hQ φ' a' w' f1 r2 (x1.trans e1) d1) ops.size _ φ1 _ cu1 k1 a _ D1 kx ?_;unfold La;have:=List.countP_le_length (p:=fun i=>!(Array.replicate ops.size false).getD i false) (l:=List.range ss.length);rw[List.length_range,st.len] at this;rw[st.len];exact this
end
end Sz

/- A loop's head: what is let go. No program is named here. -/
namespace Sz
open Go
section
variable {C:Nat→List AV→aa→Option (AV×aa)}
theorem mJ (n0:Nat):∀(fr:List AV) (acc:List Nat),acc.Nodup→(∀id ∈ acc,n0≤id)→(keeps n0 fr acc).Nodup∧(∀id ∈ keeps n0 fr acc,n0≤id)∧(∀id ∈ acc,id ∈ keeps n0 fr acc)∧
 ∀v ∈ fr,∀id,v.top=some id→n0≤id→id ∈ keeps n0 fr acc
 | [],acc,h1,h2=>⟨h1,h2,fun _ h=>h,fun v hv=>by cases hv⟩
 | v::r,acc,h1,h2=>by
   have skip:(∀id,v.top=some id→n0≤id→id ∈ acc)→keeps n0 (v::r) acc=keeps n0 r acc→(keeps n0 (v::r) acc).Nodup∧(∀id ∈ keeps n0 (v::r) acc,n0≤id)∧(∀id ∈ acc,id ∈ keeps n0 (v::r) acc)∧
    ∀u ∈ v::r,∀id,u.top=some id→n0≤id→id ∈ keeps n0 (v::r) acc:=fun hv he=>by
    obtain⟨g1,g2,g3,g4⟩:=mJ n0 r acc h1 h2;rw[he];refine⟨g1,g2,g3,fun u hu id e hle=>?_⟩
    cases hu with
    | head=>exact g3 id (hv id e hle)
    | tail _ hu=>exact g4 u hu id e hle
   cases ht:v.top with
   | none=>exact skip (fun id e=>by rw[ht] at e;cases e) (by simp only[keeps,ht])
   | some id=>
     by_cases hc:n0≤id∧acc.contains id=false
     ·have hk:keeps n0 (v::r) acc=keeps n0 r (acc++[id]):=by simp only[keeps,ht];rw[if_pos hc]
      have hni:id ∉ acc:=fun hm=>by
       have:=List.contains_iff_mem.2 hm;rw[hc.2] at this;cases this
      obtain⟨g1,g2,g3,g4⟩:=mJ n0 r (acc++[id]) (by
       rw[List.nodup_append];refine⟨h1,by simp,fun x hx y hy=>?_⟩;rw[List.mem_singleton] at hy;subst hy;exact fun e=>hni (e ▸ hx)) (fun x hx=>by
       rcases List.mem_append.1 hx with hx | hx
       ·exact h2 x hx
       ·rw[List.mem_singleton] at hx;rw[hx];exact hc.1)
      rw[hk];refine⟨g1,g2,fun x hx=>g3 x (List.mem_append_left _ hx),fun u hu x e hle=>?_⟩
      cases hu with
      | head=>
        have e':id=x:=by rw[ht] at e;exact Option.some.inj e
        exact g3 x (by rw[e'];simp)
      | tail _ hu=>exact g4 u hu x e hle
     ·refine skip (fun x e hle=>?_) (by simp only[keeps,ht];rw[if_neg hc]);have e':id=x:=by rw[ht] at e;exact Option.some.inj e
      subst e';by_cases hm:acc.contains id=false
      ·exact absurd ⟨hle,hm⟩ hc
      ·exact List.contains_iff_mem.1 (by simpa using hm)
theorem oj {h:aa} {n0:Nat}:∀{ks:List Nat} {os:List bf},kj h n0 ks=some os→os.length=ks.length∧∀(i:Nat) (id:Nat),ks[i]? =some id→∃o,os[i]? =some o∧h.get id=some o∧mT n0 o=true
 | [],os,he=>by
   simp only[kj,Option.some.injEq] at he;subst he;exact⟨rfl,fun i id hi=>by simp at hi⟩
 | k::ks,os,he=>by
   simp only[kj] at he;split at he
   ·rename_i o os' h1 h2;split at he
    ·rename_i h3;cases he;obtain⟨g1,g2⟩:=oj h2;refine⟨by simp[g1],fun i id hi=>?_⟩
     cases i with
     | zero=>
       simp only[List.getElem?_cons_zero,Option.some.injEq] at hi;subst hi;exact⟨o,by simp,h1,h3⟩
     | succ i=>exact g2 i id (by simpa using hi)
    ·cases he
   ·cases he
theorem w9 {n0:Nat} {fr:List AV} {h:aa} (hwf:h.wf):(Bi n0 fr h=(fr,h))∨∃os,kj h n0 (keeps n0 fr [])=some os∧n0≤h.wl∧n0≤h.next∧(∀v ∈ fr,v.top.isSome=true∨v.refs≤n0)∧
 (Bi n0 fr h).1=fr.map (cN n0 (keeps n0 fr []))∧(Bi n0 fr h).2.next=n0+os.length∧(Bi n0 fr h).2.wl=h.wl∧(Bi n0 fr h).2.md=h.md∧(Bi n0 fr h).2.wf∧
 (∀id,id < n0→(Bi n0 fr h).2.get id=h.get id)∧∀i,(Bi n0 fr h).2.get (n0+i)=os[i]?:=by
 unfold Bi;split
 ·rename_i os hos;split
  ·rename_i hc;refine .inr ⟨os,hos,hc.1,hc.2.1,fun v hv=>?_,rfl,rfl,rfl,rfl,?_,fun id hid=>?_,fun i=>?_⟩
   ·have:=List.all_eq_true.1 hc.2.2 v hv;simpa using this
   ·unfold aa.wf at hwf ⊢;simp only[List.length_append,List.length_reverse,List.length_drop,hwf];omega
   ·unfold aa.get;dsimp only;rw[if_pos (by omega),if_pos (by omega),List.getElem?_append_right (by simp;omega),List.getElem?_drop];congr 1;simp;omega
   ·unfold aa.get;dsimp only;by_cases hi:i < os.length
    ·rw[if_pos (by omega),List.getElem?_append_left (by simp;omega),List.getElem?_reverse (by omega)];congr 1;omega
    ·rw[if_neg (by omega),List.getElem?_eq_none (by omega)]
  ·exact .inl rfl
 ·exact .inl rfl
theorem jk (n0:Nat):∀(a b:List AV) (acc:List Nat),keeps n0 (a++b) acc=keeps n0 b (keeps n0 a acc)
 | [],b,acc=>rfl
 | v::r,b,acc=>by
   rw[List.cons_append];simp only[keeps];split
   ·split
    ·exact jk n0 r b _
    ·exact jk n0 r b _
   ·exact jk n0 r b _
theorem rp {v:AV}:∀{os:List bf} {o:bf},o ∈ os→v ∈ gi o→v ∈ fZ os
 | a::r,o,ho,hv=>by
   rw[fZ,List.mem_append]
   cases ho with
   | head=>exact .inl hv
   | tail _ ho=>exact .inr (rp ho hv)
theorem zK {n0:Nat} {ks:List Nat} {v:AV} (h:v.refs≤n0):cN n0 ks v=v:=by
 cases v<;>simp only[cN]<;>simp only[AV.refs] at h<;>rw[lJ,if_pos (by omega)]
theorem vY {n0:Nat} {ks:List Nat} {o:bf} (h:fb n0 o=true):lR n0 ks o=o:=by
 unfold fb at h;rw[List.all_eq_true] at h
 cases o with
 | row cs=>
   simp only[lR,bf.row.injEq];have:∀v ∈ cs,cN n0 ks v=v:=fun v hv=>zK (by simpa using h v hv)
   simpa using List.map_congr_left this
 | map es=>
   simp only[lR,bf.map.injEq]
   have:∀e ∈ es,(cN n0 ks e.1,cN n0 ks e.2)=e:=fun e he=>by
    have h1:=h e.1 (by simp only[gi,List.mem_flatMap];exact⟨e,he,by simp⟩);have h2:=h e.2 (by simp only[gi,List.mem_flatMap];exact⟨e,he,by simp⟩);rw[zK (by simpa using h1),zK (by simpa using h2)]
   simpa using List.map_congr_left this
 | dead=>rfl
theorem w7 {n0:Nat} {fr:List AV} {h:aa} (hwf:h.wf):(Al n0 fr h=(fr,h))∨∃ks os,kj h n0 ks=some os∧ks.Nodup∧(∀id ∈ ks,n0≤id)∧n0≤h.next∧(∀v ∈ fr,(v.top.isSome=true∨v.refs≤n0)∧∀id,v.top=some id→n0≤id→id ∈ ks)∧
 (∀id o,id < n0→h.get id=some o→∀v ∈ gi o,(v.top.isSome=true∨v.refs≤n0)∧∀id,v.top=some id→n0≤id→id ∈ ks)∧
 (Al n0 fr h).1=fr.map (cN n0 ks)∧(Al n0 fr h).2.next=n0+os.length∧(Al n0 fr h).2.wl=h.wl∧(Al n0 fr h).2.md=min h.md h.wl∧(Al n0 fr h).2.wf∧
 (∀id,id < n0→(Al n0 fr h).2.get id=(h.get id).map (lR n0 ks))∧(∀i,(Al n0 fr h).2.get (n0+i)=os[i]?)∧
 ∀id o,id < n0→id < h.wl→h.get id=some o→fb n0 o=true:=by
 unfold Al;split
 ·rename_i os hos;split
  ·rename_i hc;obtain⟨hc1,hc2,hc3,hc4⟩:=hc;rw[←jk] at hos ⊢;generalize hol:h.fi.drop (h.next - n0)=ol at *;have hlen:ol.length=n0:=by rw[←hol,List.length_drop,hwf];omega
   have hget:∀id,id < n0→h.get id=ol[n0 - 1 - id]?:=fun id hid=>by
    unfold aa.get;rw[if_pos (by omega),←hol,List.getElem?_drop];congr 1;omega
   obtain⟨k1,k2,_,k4⟩:=mJ n0 (fr++fZ ol) [] List.nodup_nil (fun id hid=>by cases hid);refine .inr ⟨_,os,hos,k1,k2,hc1,fun v hv=>⟨?_,fun id=>k4 v (List.mem_append_left _ hv) id⟩,fun id o hid hg v hv=>?_,rfl,rfl,rfl,rfl,?_,fun id hid=>?_,fun i=>?_,fun id o hid hw hg=>?_⟩
   ·have:=List.all_eq_true.1 hc2 v hv;simpa[nv] using this
   ·rw[hget id hid] at hg;have hm:=rp (List.mem_of_getElem? hg) hv;have:=List.all_eq_true.1 hc3 v hm;exact⟨by simpa[nv] using this,fun id'=>k4 v (List.mem_append_right _ hm) id'⟩
   ·unfold aa.wf;simp only[List.length_append,List.length_reverse,List.length_map,hlen];omega
   ·rw[hget id hid];unfold aa.get;dsimp only;rw[if_pos (by omega),List.getElem?_append_right (by simp;omega),List.getElem?_map];congr 2;simp;omega
   ·unfold aa.get;dsimp only;by_cases hi:i < os.length
    ·rw[if_pos (by omega),List.getElem?_append_left (by simp;omega),List.getElem?_reverse (by omega)];congr 1;omega
    ·rw[if_neg (by omega),List.getElem?_eq_none (by omega)]
   ·rw[hget id hid] at hg;refine List.all_eq_true.1 hc4 o (List.mem_of_getElem? (i:=n0 - 1 - id - (n0 - h.wl)) ?_);rw[List.getElem?_drop,←hg];congr 1;omega
  ·exact .inl rfl
 ·exact .inl rfl
theorem Pf {he h:aa} {fr:List AV} (hwf:h.wf) (c:CL he h):CL he (Bi he.next fr h).2:=by
 rcases w9 (n0:=he.next) (fr:=fr) hwf with e | ⟨os,h1,h2,h3,h4,h5,h6,h7,h8,h9,h10,h11⟩
 ·rw[e];exact c
 ·refine⟨by rw[h6];omega,by rw[h7];exact c.wl,fun n q1 q2 q3 id hid=>?_,by rw[h8];exact c.md,fun id q1 q2=>?_⟩
  ·have:=c.le n q1 (by rw[←h7];exact q2) q3 id hid;unfold kU at this ⊢;rw[h10 id (by omega)];exact this
  ·rw[h10 id q2];exact c.same id (by rw[←h8];exact q1) q2
theorem OM {he h:aa} {fr:List AV} (hwf:h.wf) (c:CL he h):CL he (Al he.next fr h).2:=by
 rcases w7 (n0:=he.next) (fr:=fr) hwf with e | ⟨ks,os,h1,_,_,h3,_,_,h5,h6,h7,h8,h9,h10,h11,h12⟩
 ·rw[e];exact c
 ·have hid0:∀id,id < he.next→id < h.wl→(Al he.next fr h).2.get id=h.get id:=fun id q1 q2=>by
   rw[h10 id q1]
   cases hg:h.get id with
   | none=>rfl
   | some o=>rw[Option.map_some,vY (h12 id o q1 q2 hg)]
  refine⟨by rw[h6];omega,by rw[h7];exact c.wl,fun n q1 q2 q3 id hid=>?_,by rw[h8];have:=c.md;omega,fun id q1 q2=>?_⟩
  ·rw[h7] at q2;have:=c.le n q1 q2 q3 id hid;unfold kU at this ⊢;rw[hid0 id (by omega) (by omega)];exact this
  ·rw[h8] at q1;rw[hid0 id q2 (by omega)];exact c.same id (by omega) q2
theorem Sa {he h:aa} {fr:List AV} (hwf:h.wf) (c:CL he h):CL he (gc he.next fr h).2:=by
 unfold gc;split
 ·exact Pf hwf c
 ·exact OM hwf c
theorem QK {n0:Nat} {h:aa} {fr:List AV} (hwf:h.wf):(gc n0 fr h).2.wf:=by
 unfold gc;split
 ·rcases w9 (n0:=n0) (fr:=fr) hwf with e | ⟨os,_,_,_,_,_,_,_,_,h9,_⟩
  ·rw[e];exact hwf
  ·exact h9
 ·rcases w7 (n0:=n0) (fr:=fr) hwf with e | ⟨ks,os,h1,_,_,h3,_,_,h5,h6,h7,h8,h9,_⟩
  ·rw[e];exact hwf
  ·exact h9
theorem E1 {he h:aa} {fr:List AV} (c:CW he h):CW he (gc he.next fr h).2:=fun w=>by
 obtain⟨c1,w1⟩:=c w;exact⟨Sa w1 c1,QK w1⟩
theorem uY {B:List AV→aa→Option (Ex×List AV×aa)} (hB:∀fr h ex fr' h',B fr h=some (ex,fr',h')→CW h h') {live:List Bool} {he:aa}:∀{m:Nat} {fr fr':List AV} {h h':aa} {ex:Ex},mE B live he.next m fr h=some (ex,fr',h')→CW he h→CW he h'
 | 0,fr,fr',h,h',ex,hev,_=>by simp[mE] at hev
 | m+1,fr,fr',h,h',ex,hev,c=>by
   simp only[mE] at hev;have c1:=E1 (fr:=clear live fr) c;split at hev
   ·rename_i fr1 h1 h2;exact uY hB hev (c1.trans (hB _ _ _ _ _ h2))
   ·exact c1.trans (hB _ _ _ _ _ hev)
theorem CW.TT {h h':aa} (c:CW {h with wl:=h.next} h'):CW h {h' with wl:=min h.wl h'.wl}:=fun w=>by
 obtain⟨c1,w1⟩:=c w;exact⟨⟨c1.next,Nat.min_le_left _ _,fun n h1 h2 h3=>c1.le n h1 (by dsimp only at h2;omega) h3,c1.md,c1.same⟩,w1⟩
theorem mV (hC:ki C) {n:Nat}:∀{ac:bF} {fr fr':List AV} {h h':aa} {ex:Ex},aT C n ac fr h=some (ex,fr',h')→CW h h':=by
 intro ac
 induction ac with
 | skip=>
   intro fr fr' h h' ex he;simp only[aT,Option.some.injEq,Prod.mk.injEq] at he;obtain⟨_,_,rfl⟩:=he;exact .refl _
 | exit id _=>
   intro fr fr' h h' ex he;simp only[aT,Option.some.injEq,Prod.mk.injEq] at he;obtain⟨_,_,rfl⟩:=he;exact .refl _
 | ret _=>
   intro fr fr' h h' ex he;simp only[aT,Option.some.injEq,Prod.mk.injEq] at he;obtain⟨_,_,rfl⟩:=he;exact .refl _
 | aD ops=>
   intro fr fr' h h' ex he;simp only[aT,Option.map_eq_some_iff] at he;obtain⟨⟨fr1,h1⟩,he,e⟩:=he;cases e;exact B2 hC he
 | nS ops chk=>
   intro fr fr' h h' ex he;simp only[aT] at he;split at he
   ·rename_i fr1 h1 tr htr;split at he
    ·cases he;exact NF hC htr
    ·cases he
   ·cases he
 | seq a b iha ihb=>
   intro fr fr' h h' ex he;simp only[aT] at he;split at he
   ·rename_i fr1 h1 h2;exact (iha h2).trans (ihb he)
   ·exact iha he
 | cond c a b iha ihb=>
   intro fr fr' h h' ex he;simp only[aT] at he;split at he
   ·split at he
    ·exact iha he
    ·exact ihb he
   ·cases he
 | block id a iha=>
   intro fr fr' h h' ex he;simp only[aT] at he;split at he
   ·rename_i i fr1 h1 h2;cases he;exact iha h2
   ·exact iha he
 | loop live a iha=>
   intro fr fr' h h' ex he;simp only[aT] at he;obtain⟨⟨ex1,fr1,h1⟩,h2,e⟩:=Option.map_eq_some_iff.1 he;cases e;exact CW.TT (E1 (he:={h with wl:=h.next}) (fr:=fr1) (uY (he:={h with wl:=h.next}) (fun fr h ex fr' h' he=>iha he) h2 (.refl _)))
end
end Sz

/- The abstract run is sound: code. No program is named here. -/
namespace Sz
open Go
variable {X:World→Prop}
section
variable {P:Program} {C:Nat→List AV→aa→Option (AV×aa)}
def Na:Ex→Exit
 | .normal=>.normal
 | .exit id=>.exit id
 | .ret=>.ret
theorem mb {φ:dp} {h:aa} {w:World}:∀{live:List Bool} {fr:List AV} {tm:Array Value},FR φ h w fr tm→FR φ h w (clear live fr) tm:=by
 have len:∀(live:List Bool) (fr:List AV),(clear live fr).length=fr.length:=by
  intro live
  induction live with
  | nil=>intro fr;cases fr<;>rfl
  | cons b r ih=>intro fr;cases fr with
    | nil=>rfl
    | cons v vs=>simp[clear,ih]
 have get:∀(live:List Bool) (fr:List AV) (t:Nat),(clear live fr).getD t .undef=fr.getD t .undef∨(clear live fr).getD t .undef=.undef:=by
  intro live
  induction live with
  | nil=>intro fr t;cases fr<;>exact .inl rfl
  | cons b r ih=>intro fr t;cases fr with
    | nil=>exact .inl rfl
    | cons v vs=>
      cases t with
      | zero=>cases b<;>simp[clear]
      | succ t=>simpa[clear] using ih vs t
 intro live fr tm hf;refine⟨by rw[len];exact hf.1,fun t=>?_⟩;rcases get live fr t with e | e
 ·rw[e];exact hf.2 t
 ·rw[e];exact .undef _
def Ja (P:Program) (X:World→Prop) (C:Nat→List AV→aa→Option (AV×aa)) (n:Nat) (ac:bF) (c:Code):Prop:=
 ∀⦃φ:dp⦄ ⦃h h':aa⦄ ⦃w:World⦄ ⦃fr fr':List AV⦄ ⦃a:Act⦄ ⦃ex:Ex⦄,aT C n ac fr h=some (ex,fr',h')→FR φ h w fr a.tmps→HR φ h w→fv P X φ h w→∀⦃Q:Exit→Act→World→Prop⦄,
   (∀φ' a' w',FR φ' h' w' fr' a'.tmps→HR φ' h' w'→Ext φ h w φ' h' w'→a'.defers=a.defers→Q (Na ex) a' w')→c.wp P Q a w
theorem OW {φ φe:dp} {h he:aa} {w we:World} {fr:List AV} {tm:Array Value} (hr:HR φ h w) (hf:FR φ h w fr tm) (hx:Ext φe he we φ h w) (hre:HR φe he we) (c:CL he h):
 ∃φ',HR φ' (Bi he.next fr h).2 w∧FR φ' (Bi he.next fr h).2 w (Bi he.next fr h).1 tm∧Ext φe he we φ' (Bi he.next fr h).2 w:=by
 rcases w9 (n0:=he.next) (fr:=fr) hr.wf with e | ⟨os,h1,h2,h3,h4,h5,h6,h7,h8,h9,h10,h11⟩
 ·rw[e];exact⟨φ,hr,hf,hx⟩
 ·rw[h5];generalize hn0:he.next=n0 at *
  generalize hks:keeps n0 fr []=ks at *;generalize hg:(Bi n0 fr h).2=g at *;obtain⟨k1,k2,_,k4⟩:=mJ n0 fr [] List.nodup_nil (fun id hid=>by cases hid);rw[hks] at k1 k2 k4;obtain⟨o1,o2⟩:=oj h1;have hle:=c.le n0 (by omega) h2 (fun id hid=>by have:=hre.EG id (by omega);rw[hn0] at this;exact this)
  let φ':dp:=⟨fun id=>if id < n0 then φ id else φ (ks.getD (id - n0) 0),φ.gh⟩
  have old:∀id,id < n0→φ' id=φ id:=fun id hid=>if_pos hid
  have new:∀(i:Nat) (id:Nat),ks[i]? =some id→φ' (n0+i)=φ id:=fun i id hi=>by
   show (if n0+i < n0 then φ (n0+i) else φ (ks.getD (n0+i - n0) 0))=φ id;rw[if_neg (by omega),Nat.add_sub_cancel_left,List.getD_eq_getElem?_getD,hi];rfl
  have lv:∀id,live g id→∃id0,live h id0∧φ' id=φ id0∧((id < n0∧id0=id)∨(n0≤id∧ks[id - n0]? =some id0)):=fun id hl=>by
   obtain⟨o,ho,hd⟩:=hl;rcases Nat.lt_or_ge id n0 with hid | hid
   ·rw[h10 id hid] at ho;exact⟨id,⟨o,ho,hd⟩,old id hid,.inl ⟨hid,rfl⟩⟩
   ·have e:id=n0+(id - n0):=by omega
    rw[e,h11] at ho;have hlt:=(List.getElem?_eq_some_iff.1 ho).1;have hk:=List.getElem?_eq_getElem (show id - n0 < ks.length by omega);obtain⟨o',q1,q2,q3⟩:=o2 _ _ hk;rw[ho] at q1;cases q1;refine⟨_,⟨o,q2,hd⟩,?_,.inr ⟨hid,hk⟩⟩;have:=new (id - n0) _ hk;rw[←e] at this;exact this
  have pr:∀b,Pr φ h w b→Pr φ' g w b:=fun b hb=>⟨hb.1,fun id hl=>by
   obtain⟨id0,l0,e0,_⟩:=lv id hl;rw[e0];exact hb.2.1 id0 l0,hb.2.2⟩
  have mv:∀v cv,v.refs≤n0→dK φ h w v cv→dK φ' g w v cv:=fun v cv hv hrv=>hrv.mono (fun id q1 q2=>⟨old id (by omega),by rw[h6];omega⟩) fun b hb=>⟨pr b hb,rfl⟩
  have rowOf:∀id id0 cs,φ' id=φ id0→h.get id0=some (.row cs)→AV.ai cs≤n0→ov φ' g w id cs:=fun id id0 cs e0 hg0 hrf=>by
   obtain⟨cc,el,fz,r1,r2,r3,r4,r5,r6⟩:=hr.rows id0 cs hg0;refine⟨cc,el,fz,by rw[e0];exact r1,by rw[e0];exact r2,by rw[e0];exact r3,r4,by rw[e0];exact r5,fun j hj=>?_⟩;rw[e0];refine mv _ _ ?_ (r6 j hj);have:=AV.cA (List.getElem_mem hj);omega
  have mapOf:∀id id0 es,φ' id=φ id0→h.get id0=some (.map es)→(∀e ∈ es,e.1.refs≤n0∧e.2.refs≤n0)→rP φ' g w id es:=fun id id0 es e0 hg0 hrf=>by
   obtain⟨ents,clk,r1,r2,r3⟩:=hr.maps id0 es hg0;refine⟨ents,clk,by rw[e0];exact r1,r2,fun j hj=>?_⟩;have:=hrf _ (List.getElem_mem hj);exact⟨mv _ _ this.1 (r3 j hj).1,mv _ _ this.2 (r3 j hj).2⟩
  have kept:∀id o,n0≤id→g.get id=some o→∃id0,ks[id - n0]? =some id0∧h.get id0=some o∧mT n0 o=true∧φ' id=φ id0:=fun id o hid ho=>by
   have e:id=n0+(id - n0):=by omega
   have ho':=ho;rw[e,h11] at ho';have hlt:=(List.getElem?_eq_some_iff.1 ho').1;have hk:=List.getElem?_eq_getElem (show id - n0 < ks.length by omega);obtain⟨o',q1,q2,q3⟩:=o2 _ _ hk;rw[ho'] at q1;cases q1;refine⟨_,hk,q2,q3,?_⟩;have:=new (id - n0) _ hk;rw[←e] at this;exact this
  have hr':HR φ' g w:=by
   refine⟨h9,fun id cs hgi=>?_,fun id es hgi=>?_,fun i j hi hj hij=>?_,fun b hb=>⟨(hr.gh b hb).1,fun id hl=>?_⟩⟩
   ·rcases Nat.lt_or_ge id n0 with hid | hid
    ·rw[h10 id hid] at hgi;exact rowOf id id cs (old id hid) hgi ((hle id hid).1 cs hgi)
    ·obtain⟨id0,_,q2,q3,q4⟩:=kept id _ hid hgi;exact rowOf id id0 cs q4 q2 (by simpa[mT] using q3)
   ·rcases Nat.lt_or_ge id n0 with hid | hid
    ·rw[h10 id hid] at hgi;exact mapOf id id es (old id hid) hgi ((hle id hid).2 es hgi)
    ·obtain⟨id0,_,q2,q3,q4⟩:=kept id _ hid hgi;refine mapOf id id0 es q4 q2 fun e hem=>?_
     simp only[mT,List.all_eq_true] at q3;simpa using q3 e hem
   ·obtain⟨i0,li,ei,ci⟩:=lv i hi;obtain⟨j0,lj,ej,cj⟩:=lv j hj;rw[ei,ej] at hij;have hij0:=hr.inj i0 j0 li lj hij;rcases ci with⟨ci1,ci2⟩ | ⟨ci1,ci2⟩<;>rcases cj with⟨cj1,cj2⟩ | ⟨cj1,cj2⟩
    ·omega
    ·have:=k2 j0 (List.mem_of_getElem? cj2);omega
    ·have:=k2 i0 (List.mem_of_getElem? ci2);omega
    ·rw[hij0] at ci2;obtain⟨x1,y1⟩:=List.getElem?_eq_some_iff.1 ci2;obtain⟨x2,y2⟩:=List.getElem?_eq_some_iff.1 cj2;have:=(List.getElem_inj (h₀:=x1) (h₁:=x2) k1).1 (y1.trans y2.symm);omega
   ·obtain⟨id0,l0,e0,_⟩:=lv id hl;rw[e0];exact (hr.gh b hb).2 id0 l0
  have idx:∀id,n0≤id→id ∈ ks→φ' (n0+ks.idxOf id)=φ id∧n0+ks.idxOf id < g.next:=fun id hid hm=>by
   have hlt:=List.idxOf_lt_length_of_mem hm;exact⟨new _ _ (by rw[List.getElem?_eq_getElem hlt,List.getElem_idxOf]),by rw[h6];omega⟩
  have rid:∀v ∈ fr,∀id,v.top=some id→φ' (lJ n0 ks id)=φ id∧lJ n0 ks id < g.next:=fun v hv id ht=>by
   unfold lJ;split
   ·rename_i hid;exact⟨old id hid,by rw[h6];omega⟩
   ·rename_i hid;exact idx id (by omega) (k4 v hv id ht (by omega))
  have val:∀v ∈ fr,∀cv,dK φ h w v cv→dK φ' g w (cN n0 ks v) cv:=fun v hv cv hrv=>by
   cases ht:v.top with
   | none=>
     have hlow:v.refs≤n0:=by
      rcases h4 v hv with e | e
      ·rw[ht] at e;cases e
      ·exact e
     have e:cN n0 ks v=v:=by cases v<;>first | rfl | cases ht
     rw[e];exact mv v cv hlow hrv
   | some id=>
     obtain⟨q1,q2⟩:=rid v hv id ht;cases v<;>simp only[AV.top,Option.some.injEq,reduceCtorEq] at ht
     ·subst ht;obtain⟨rfl,_⟩:=hrv.oU;rw[←q1];exact .ptr _ _ q2
     ·subst ht;obtain⟨cap,ad,rfl,_,r2,r3,r4,r5⟩:=hrv.gW;rw[←q1] at r4 r5;exact .vec _ _ _ _ _ cap ad q2 r2 r3 r4 r5
     ·subst ht;obtain⟨rfl,_⟩:=hrv.nt;rw[←q1];exact .map _ q2
  refine⟨φ',hr',⟨by simp[hf.1],fun t=>?_⟩,⟨hx.os,hx.tape,hx.output,hx.size,by rw[h6];omega,fun id hid=>?_,fun b hb=>⟨pr b (hx.pr b hb).1,(hx.pr b hb).2⟩,hx.gh⟩⟩
  ·have:=hf.2 t;rw[List.getD_eq_getElem?_getD] at this ⊢;rw[List.getElem?_map]
   cases hv:fr[t]? with
   | none=>exact .undef _
   | some v=>
     rw[hv] at this;exact val v (List.mem_of_getElem? hv) _ this
  ·rw[hn0] at hid;exact (old id hid).trans (hx.uJ id (by omega))
theorem Pm {φ φe:dp} {h he:aa} {w we:World} {fr:List AV} {tm:Array Value} (hr:HR φ h w) (hf:FR φ h w fr tm) (hx:Ext φe he we φ h w) (hre:HR φe he we):
 ∃φ',HR φ' (Al he.next fr h).2 w∧FR φ' (Al he.next fr h).2 w (Al he.next fr h).1 tm∧Ext φe he we φ' (Al he.next fr h).2 w:=by
 rcases w7 (n0:=he.next) (fr:=fr) hr.wf with e | ⟨ks,os,h1,k1,k2,h3,h4,h4o,h5,h6,h7,h8,h9,h10,h11,h12⟩
 ·rw[e];exact⟨φ,hr,hf,hx⟩
 ·rw[h5];generalize hn0:he.next=n0 at *
  generalize hg:(Al n0 fr h).2=g at *;obtain⟨o1,o2⟩:=oj h1
  let φ':dp:=⟨fun id=>if id < n0 then φ id else φ (ks.getD (id - n0) 0),φ.gh⟩
  have old:∀id,id < n0→φ' id=φ id:=fun id hid=>if_pos hid
  have new:∀(i:Nat) (id:Nat),ks[i]? =some id→φ' (n0+i)=φ id:=fun i id hi=>by
   show (if n0+i < n0 then φ (n0+i) else φ (ks.getD (n0+i - n0) 0))=φ id;rw[if_neg (by omega),Nat.add_sub_cancel_left,List.getD_eq_getElem?_getD,hi];rfl
  have lv:∀id,live g id→∃id0,live h id0∧φ' id=φ id0∧((id < n0∧id0=id)∨(n0≤id∧ks[id - n0]? =some id0)):=fun id hl=>by
   obtain⟨o,ho,hd⟩:=hl;rcases Nat.lt_or_ge id n0 with hid | hid
   ·rw[h10 id hid] at ho;obtain⟨o',ho',e⟩:=Option.map_eq_some_iff.1 ho;exact⟨id,⟨o',ho',fun e'=>hd (by rw[←e,e'];rfl)⟩,old id hid,.inl ⟨hid,rfl⟩⟩
   ·have e:id=n0+(id - n0):=by omega
    rw[e,h11] at ho;have hlt:=(List.getElem?_eq_some_iff.1 ho).1;have hk:=List.getElem?_eq_getElem (show id - n0 < ks.length by omega);obtain⟨o',q1,q2,q3⟩:=o2 _ _ hk;rw[ho] at q1;cases q1;refine⟨_,⟨o,q2,hd⟩,?_,.inr ⟨hid,hk⟩⟩;have:=new (id - n0) _ hk;rw[←e] at this;exact this
  have pr:∀b,Pr φ h w b→Pr φ' g w b:=fun b hb=>⟨hb.1,fun id hl=>by
   obtain⟨id0,l0,e0,_⟩:=lv id hl;rw[e0];exact hb.2.1 id0 l0,hb.2.2⟩
  have mv:∀v cv,v.refs≤n0→dK φ h w v cv→dK φ' g w v cv:=fun v cv hv hrv=>hrv.mono (fun id q1 q2=>⟨old id (by omega),by rw[h6];omega⟩) fun b hb=>⟨pr b hb,rfl⟩
  have rowOf:∀id id0 cs,φ' id=φ id0→h.get id0=some (.row cs)→AV.ai cs≤n0→ov φ' g w id cs:=fun id id0 cs e0 hg0 hrf=>by
   obtain⟨cc,el,fz,r1,r2,r3,r4,r5,r6⟩:=hr.rows id0 cs hg0;refine⟨cc,el,fz,by rw[e0];exact r1,by rw[e0];exact r2,by rw[e0];exact r3,r4,by rw[e0];exact r5,fun j hj=>?_⟩;rw[e0];refine mv _ _ ?_ (r6 j hj);have:=AV.cA (List.getElem_mem hj);omega
  have mapOf:∀id id0 es,φ' id=φ id0→h.get id0=some (.map es)→(∀e ∈ es,e.1.refs≤n0∧e.2.refs≤n0)→rP φ' g w id es:=fun id id0 es e0 hg0 hrf=>by
   obtain⟨ents,clk,r1,r2,r3⟩:=hr.maps id0 es hg0;refine⟨ents,clk,by rw[e0];exact r1,r2,fun j hj=>?_⟩;have:=hrf _ (List.getElem_mem hj);exact⟨mv _ _ this.1 (r3 j hj).1,mv _ _ this.2 (r3 j hj).2⟩
  have kept:∀id o,n0≤id→g.get id=some o→∃id0,ks[id - n0]? =some id0∧h.get id0=some o∧mT n0 o=true∧φ' id=φ id0:=fun id o hid ho=>by
   have e:id=n0+(id - n0):=by omega
   have ho':=ho;rw[e,h11] at ho';have hlt:=(List.getElem?_eq_some_iff.1 ho').1;have hk:=List.getElem?_eq_getElem (show id - n0 < ks.length by omega);obtain⟨o',q1,q2,q3⟩:=o2 _ _ hk;rw[ho'] at q1;cases q1;refine⟨_,hk,q2,q3,?_⟩;have:=new (id - n0) _ hk;rw[←e] at this;exact this
  have idx:∀id,n0≤id→id ∈ ks→φ' (n0+ks.idxOf id)=φ id∧n0+ks.idxOf id < g.next:=fun id hid hm=>by
   have hlt:=List.idxOf_lt_length_of_mem hm;exact⟨new _ _ (by rw[List.getElem?_eq_getElem hlt,List.getElem_idxOf]),by rw[h6];omega⟩
  have rid:∀v:AV,(∀id,v.top=some id→n0≤id→id ∈ ks)→∀id,v.top=some id→φ' (lJ n0 ks id)=φ id∧lJ n0 ks id < g.next:=fun v hv id ht=>by
   unfold lJ;split
   ·rename_i hid;exact⟨old id hid,by rw[h6];omega⟩
   ·rename_i hid;exact idx id (by omega) (hv id ht (by omega))
  have val:∀v:AV,((v.top.isSome=true∨v.refs≤n0)∧∀id,v.top=some id→n0≤id→id ∈ ks)→∀cv,dK φ h w v cv→dK φ' g w (cN n0 ks v) cv:=fun v hv cv hrv=>by
   cases ht:v.top with
   | none=>
     have hlow:v.refs≤n0:=by
      rcases hv.1 with e | e
      ·rw[ht] at e;cases e
      ·exact e
     have e:cN n0 ks v=v:=by cases v<;>first | rfl | cases ht
     rw[e];exact mv v cv hlow hrv
   | some id=>
     obtain⟨q1,q2⟩:=rid v hv.2 id ht;cases v<;>simp only[AV.top,Option.some.injEq,reduceCtorEq] at ht
     ·subst ht;obtain⟨rfl,_⟩:=hrv.oU;rw[←q1];exact .ptr _ _ q2
     ·subst ht;obtain⟨cap,ad,rfl,_,r2,r3,r4,r5⟩:=hrv.gW;rw[←q1] at r4 r5;exact .vec _ _ _ _ _ cap ad q2 r2 r3 r4 r5
     ·subst ht;obtain⟨rfl,_⟩:=hrv.nt;rw[←q1];exact .map _ q2
  have hr':HR φ' g w:=by
   refine⟨h9,fun id cs hgi=>?_,fun id es hgi=>?_,fun i j hi hj hij=>?_,fun b hb=>⟨(hr.gh b hb).1,fun id hl=>?_⟩⟩
   ·rcases Nat.lt_or_ge id n0 with hid | hid
    ·rw[h10 id hid] at hgi;obtain⟨o,ho,e⟩:=Option.map_eq_some_iff.1 hgi;have hvs:=h4o id o hid ho;cases o<;>simp only[lR,bf.row.injEq,reduceCtorEq] at e;rename_i cs0;subst e;obtain⟨cc,el,fz,r1,r2,r3,r4,r5,r6⟩:=hr.rows id cs0 ho;refine⟨cc,el,fz,by rw[old id hid];exact r1,by rw[old id hid];exact r2,by rw[old id hid,List.length_map];exact r3,r4,by rw[old id hid];exact r5,fun j hj=>?_⟩;rw[old id hid,List.getElem_map];rw[List.length_map] at hj;exact val _ (hvs _ (by simp[gi])) _ (r6 j hj)
    ·obtain⟨id0,_,q2,q3,q4⟩:=kept id _ hid hgi;exact rowOf id id0 cs q4 q2 (by simpa[mT] using q3)
   ·rcases Nat.lt_or_ge id n0 with hid | hid
    ·rw[h10 id hid] at hgi;obtain⟨o,ho,e⟩:=Option.map_eq_some_iff.1 hgi;have hvs:=h4o id o hid ho;cases o<;>simp only[lR,bf.map.injEq,reduceCtorEq] at e;rename_i es0;subst e;obtain⟨ents,clk,r1,r2,r3⟩:=hr.maps id es0 ho;refine⟨ents,clk,by rw[old id hid];exact r1,by rw[List.length_map];exact r2,fun j hj=>?_⟩;rw[List.length_map] at hj;have hm:es0[j] ∈ es0:=List.getElem_mem hj;rw[List.getElem_map];exact⟨val _ (hvs _ (by simp only[gi,List.mem_flatMap];exact⟨_,hm,by simp⟩)) _ (r3 j hj).1,val _ (hvs _ (by simp only[gi,List.mem_flatMap];exact⟨_,hm,by simp⟩)) _ (r3 j hj).2⟩
    ·obtain⟨id0,_,q2,q3,q4⟩:=kept id _ hid hgi;refine mapOf id id0 es q4 q2 fun e hem=>?_
     simp only[mT,List.all_eq_true] at q3;simpa using q3 e hem
   ·obtain⟨i0,li,ei,ci⟩:=lv i hi;obtain⟨j0,lj,ej,cj⟩:=lv j hj;rw[ei,ej] at hij;have hij0:=hr.inj i0 j0 li lj hij;rcases ci with⟨ci1,ci2⟩ | ⟨ci1,ci2⟩<;>rcases cj with⟨cj1,cj2⟩ | ⟨cj1,cj2⟩
    ·omega
    ·have:=k2 j0 (List.mem_of_getElem? cj2);omega
    ·have:=k2 i0 (List.mem_of_getElem? ci2);omega
    ·rw[hij0] at ci2;obtain⟨x1,y1⟩:=List.getElem?_eq_some_iff.1 ci2;obtain⟨x2,y2⟩:=List.getElem?_eq_some_iff.1 cj2;have:=(List.getElem_inj (h₀:=x1) (h₁:=x2) k1).1 (y1.trans y2.symm);omega
   ·obtain⟨id0,l0,e0,_⟩:=lv id hl;rw[e0];exact (hr.gh b hb).2 id0 l0
  refine⟨φ',hr',⟨by simp[hf.1],fun t=>?_⟩,⟨hx.os,hx.tape,hx.output,hx.size,by rw[h6];omega,fun id hid=>?_,fun b hb=>⟨pr b (hx.pr b hb).1,(hx.pr b hb).2⟩,hx.gh⟩⟩
  ·have:=hf.2 t;rw[List.getD_eq_getElem?_getD] at this ⊢;rw[List.getElem?_map]
   cases hv:fr[t]? with
   | none=>exact .undef _
   | some v=>
     rw[hv] at this;exact val v (h4 v (List.mem_of_getElem? hv)) _ this
  ·rw[hn0] at hid;exact (old id hid).trans (hx.uJ id (by omega))
theorem EO {φ φe:dp} {h he:aa} {w we:World} {fr:List AV} {tm:Array Value} (hr:HR φ h w) (hf:FR φ h w fr tm) (hx:Ext φe he we φ h w) (hre:HR φe he we) (c:CL he h):
 ∃φ',HR φ' (gc he.next fr h).2 w∧FR φ' (gc he.next fr h).2 w (gc he.next fr h).1 tm∧Ext φe he we φ' (gc he.next fr h).2 w:=by
 unfold gc;split
 ·exact OW hr hf hx hre c
 ·exact Pm hr hf hx hre
theorem EA (hCL:ki C) {n:Nat} {ac:bF} {c:Code} {live:List Bool} (hb:Ja P X C n ac c) {φe:dp} {he:aa} {we:World} (hre:HR φe he we) (hG:fv P X φe he we):
 ∀(m:Nat) {φ:dp} {h h':aa} {w:World} {fr fr':List AV} {a:Act} {ex:Ex},mE (aT C n ac) live he.next m fr h=some (ex,fr',h')→
 FR φ h w fr a.tmps→HR φ h w→Ext φe he we φ h w→CW he h→∀{Q:Exit→Act→World→Prop},
 (∀φ' a' w',FR φ' h' w' fr' a'.tmps→HR φ' h' w'→Ext φe he we φ' h' w'→a'.defers=a.defers→Q (Na ex) a' w')→Code.rounds P c Q m a w
 | 0,φ,h,h',w,fr,fr',a,ex,hev,hf,hr,hx,hc,Q,hQ=>by simp[mE] at hev
 | m+1,φ,h,h',w,fr,fr',a,ex,hev,hf,hr,hx,hc,Q,hQ=>by
   rw[rounds_succ];simp only[mE] at hev;obtain⟨φ0,r0,f0,x0⟩:=EO hr (mb (live:=live) hf) hx hre (hc hre.wf).1;have c0:=E1 (fr:=clear live fr) hc;split at hev
   ·rename_i fr1 h1 h2;refine hb h2 f0 r0 (hG.ext x0) fun φ1 a1 w1 f1 r1 e1 d1=>?_
    exact EA hCL hb hre hG m hev f1 r1 (x0.trans e1) (c0.trans (mV hCL h2)) fun φ2 a2 w2 f2 r2 e2 d2=>hQ φ2 a2 w2 f2 r2 e2 (d2.trans d1)
   ·rename_i hne;refine hb hev f0 r0 (hG.ext x0) fun φ1 a1 w1 f1 r1 e1 d1=>?_
    have:=hQ φ1 a1 w1 f1 r1 (x0.trans e1) d1
    cases ex with
    | normal=>exact (hne _ _ hev).elim
    | exit id=>exact this
    | ret=>exact this
theorem fq {n:Nat} {ac:bF} {fr fr':List AV} {h h':aa} {ex:Ex} (hc:bF.aD [sj]=ac.strip) (he:aT C n ac fr h=some (ex,fr',h')):False:=by
 cases ac<;>simp[bF.strip] at hc;subst hc;simp[aT,cB,cd,sj,cG,bE] at he
theorem jU (hC:iE P X C) (hCL:ki C) (hm:P.follows .mixedOrders=true) (n:Nat):∀(c:Code) (ac:bF),bV P c=some ac.strip→Ja P X C n ac c
 | .skip,ac,hc=>by
   simp only[bV,Option.some.injEq] at hc;cases ac<;>simp[bF.strip] at hc;intro φ h h' w fr fr' a ex he hf hr hG Q hQ;simp only[aT,Option.some.injEq,Prod.mk.injEq] at he;obtain⟨rfl,rfl,rfl⟩:=he;exact wp_skip (hQ φ a w hf hr (.refl _ _ _) rfl)
 | .exit id,ac,hc=>by
   simp only[bV,Option.some.injEq] at hc;cases ac<;>simp[bF.strip] at hc;subst hc;intro φ h h' w fr fr' a ex he hf hr hG Q hQ;simp only[aT,Option.some.injEq,Prod.mk.injEq] at he;obtain⟨rfl,rfl,rfl⟩:=he;exact wp_exit (hQ φ a w (mb hf) hr (.refl _ _ _) rfl)
 | .ret,ac,hc=>by
   simp only[bV,Option.some.injEq] at hc;cases ac<;>simp[bF.strip] at hc;intro φ h h' w fr fr' a ex he hf hr hG Q hQ;simp only[aT,Option.some.injEq,Prod.mk.injEq] at he;obtain⟨rfl,rfl,rfl⟩:=he;exact wp_ret (hQ φ a w (mb hf) hr (.refl _ _ _) rfl)
 | .region id ops draw,ac,hc=>by
   simp only[bV] at hc;split at hc
   ·rename_i as has;split at hc
    ·rename_i hd;subst hd;split at hc
     ·rename_i hok;simp only[Option.some.injEq] at hc;intro φ h h' w fr fr' a ex he hf hr hG Q hQ;unfold Dg at hc;split at hc
      ·rename_i hp;cases ac<;>simp[bF.strip] at hc;subst hc;simp only[aT,Option.map_eq_some_iff] at he;obtain⟨⟨fr1,h1⟩,he,e⟩:=he;cases e;obtain⟨F,H,rfl,rfl,rfl,rfl,hst⟩:=uf he;exact xO hC hm has hok (Tr.of_steps hst hp) hf hr hG hQ
      ·cases ac<;>simp[bF.strip] at hc;obtain⟨rfl,rfl⟩:=hc;simp only[aT] at he;split at he
       ·rename_i fr1 h1 tr htr;split at he
        ·rename_i hchk;cases he;obtain⟨F,H,rfl,rfl,rfl,rfl,hst⟩:=CH htr;exact xO hC hm has hok (Tr.Nw hCL hst hr.wf hchk) hf hr hG hQ
        ·cases he
       ·cases he
     ·simp only[Option.some.injEq] at hc;intro φ h h' w fr fr' a ex he;exact (fq hc he).elim
    ·rename_i hd;have hd':draw=false:=by simpa using hd
     subst hd';simp only[Option.some.injEq] at hc;cases ac<;>simp[bF.strip] at hc;subst hc;intro φ h h' w fr fr' a ex he hf hr hG Q hQ;simp only[aT,Option.map_eq_some_iff] at he;obtain⟨⟨fr1,h1⟩,he,e⟩:=he;cases e;exact wp_region_list (B3 hC has he hf hr hG hQ)
   ·simp only[Option.some.injEq] at hc;intro φ h h' w fr fr' a ex he;exact (fq hc he).elim
 | .seq x y,ac,hc=>by
   simp only[bV] at hc;split at hc
   ·rename_i x' y' hx hy;simp only[Option.some.injEq] at hc;cases ac<;>simp[bF.strip] at hc;rename_i p q;obtain⟨rfl,rfl⟩:=hc;have ihx:=jU hC hCL hm n x p hx;have ihy:=jU hC hCL hm n y q hy;intro φ h h' w fr fr' a ex he hf hr hG Q hQ;refine wp_seq ?_;simp only[aT] at he;split at he
    ·rename_i fr1 h1 h2;refine ihx h2 hf hr hG fun φ1 a1 w1 f1 r1 e1 d1=>?_
     exact ihy he f1 r1 (hG.ext e1) fun φ2 a2 w2 f2 r2 e2 d2=>hQ φ2 a2 w2 f2 r2 (e1.trans e2) (d2.trans d1)
    ·rename_i hne;refine ihx he hf hr hG fun φ1 a1 w1 f1 r1 e1 d1=>?_
     have:=hQ φ1 a1 w1 f1 r1 e1 d1
     cases ex with
     | normal=>exact (hne _ _ he).elim
     | exit id=>exact this
     | ret=>exact this
   ·cases hc
 | .cond c x y,ac,hc=>by
   simp only[bV] at hc;split at hc
   ·rename_i c' x' y' h1 hx hy;simp only[Option.some.injEq] at hc;cases ac<;>simp[bF.strip] at hc;rename_i c2 p q;obtain⟨rfl,rfl,rfl⟩:=hc;have ihx:=jU hC hCL hm n x p hx;have ihy:=jU hC hCL hm n y q hy;intro φ h h' w fr fr' a ex he hf hr hG Q hQ;simp only[aT] at he;split at he
    ·rename_i t ht;have g:=bO h1 hf;rw[ht] at g;refine wp_cond g.eX ?_
     cases t with
     | true=>
       simp only[if_true] at he ⊢;exact ihx he hf hr hG hQ
     | false=>
       simp only[Bool.false_eq_true,if_false] at he ⊢;exact ihy he hf hr hG hQ
    ·cases he
   ·cases hc
 | .block id x,ac,hc=>by
   simp only[bV,Option.map_eq_some_iff] at hc;obtain⟨x',hx,hc⟩:=hc;cases ac<;>simp[bF.strip] at hc;rename_i id' p;obtain⟨rfl,rfl⟩:=hc;have ihx:=jU hC hCL hm n x p hx;intro φ h h' w fr fr' a ex he hf hr hG Q hQ;refine wp_block ?_;simp only[aT] at he;split at he
   ·rename_i i fr1 h1 h2;cases he;refine ihx h2 hf hr hG fun φ1 a1 w1 f1 r1 e1 d1=>?_
    have:=hQ φ1 a1 w1 f1 r1 e1 d1;show Exit.inBlock id Q (.exit i) a1 w1;unfold Exit.inBlock;dsimp only;by_cases hi:i=id
    ·rw[if_pos hi] at this ⊢;exact this
    ·rw[if_neg hi] at this ⊢;exact this
   ·rename_i hne;refine ihx he hf hr hG fun φ1 a1 w1 f1 r1 e1 d1=>?_
    have:=hQ φ1 a1 w1 f1 r1 e1 d1
    cases ex with
    | normal=>exact this
    | exit i=>exact (hne _ _ _ he).elim
    | ret=>exact this
 | .loop x,ac,hc=>by
   simp only[bV,Option.map_eq_some_iff] at hc;obtain⟨x',hx,hc⟩:=hc;cases ac<;>simp[bF.strip] at hc;rename_i live p;subst hc;have ihx:=jU hC hCL hm n x p hx;intro φ h h' w fr fr' a ex he hf hr hG Q hQ;simp only[aT] at he;obtain⟨⟨ex1,fr1,h1⟩,h2,e⟩:=Option.map_eq_some_iff.1 he;cases e;obtain⟨s1,s2⟩:=hr.nD h.next h.md
   have hcw:=uY (he:={h with wl:=h.next}) (fun fr h ex fr' h' he=>mV hCL he) h2 (.refl _);refine wp_loop_rounds n (EA hCL ihx (he:={h with wl:=h.next}) s1 (hG.ext s2) n h2 (hf.ext s2) s1 (.refl _ _ _) (.refl _) fun φ1 a1 w1 f1 r1 e1 d1=>?_);obtain⟨φ2,r2,f2,e2⟩:=EO r1 f1 e1 s1 (hcw s1.wf).1;obtain⟨t1,t2⟩:=r2.nD (min h.wl (gc h.next fr1 h1).2.wl) (gc h.next fr1 h1).2.md;exact hQ φ2 a1 w1 (f2.ext t2) t1 ((s2.trans e2).trans t2) d1
 | .rangeFunc ..,ac,hc=>by
   simp only[bV,Option.some.injEq] at hc;intro φ h h' w fr fr' a ex he;exact (fq hc he).elim
 | .scope ..,ac,hc=>by
   simp only[bV,Option.some.injEq] at hc;intro φ h h' w fr fr' a ex he;exact (fq hc he).elim
 | .label ..,ac,hc=>by
   simp only[bV,Option.some.injEq] at hc;intro φ h h' w fr fr' a ex he;exact (fq hc he).elim
 | .goto ..,ac,hc=>by
   simp only[bV,Option.some.injEq] at hc;intro φ h h' w fr fr' a ex he;exact (fq hc he).elim
 | .refuse ..,ac,hc=>by
   simp only[bV,Option.some.injEq] at hc;intro φ h h' w fr fr' a ex he;exact (fq hc he).elim
end
end Sz
