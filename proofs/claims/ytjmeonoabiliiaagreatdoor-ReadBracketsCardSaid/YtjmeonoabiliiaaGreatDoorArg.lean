import Derived.Test.YtjmeonoabiliiaaGreatDoorSz3
import Derived.ProofKit
import Derived.Handed
import Derived.Below
import Derived.ChangeSame
import Derived.ChangeAgain
set_option linter.unusedVariables false
set_option linter.unusedSimpArgs false
set_option linter.unusedSectionVars false
set_option maxHeartbeats 16000000
set_option maxRecDepth 100000

/- Readings of arguments as values of the abstract run; a law's last step. No program is named here. -/
namespace Sz
open Go Go.RowKit Go.ChangeShapes Go.WideShapes
section
variable {H:Type}
mutual
def kB:DataW H→AV
 | .lit (.bool b)=>.bool b
 | .lit (.int k n)=>.int k n
 | .lit (.string s)=>.str s
 | .slice elems _=>.sl (oc elems)
 | .agg parts=>.agg (rT parts)
 | .nil=>.sl []
 | _=>.undef
def oc:List (DataW H)→List AV
 | []=>[]
 | d::r=>kB d::oc r
def rT:List (DataW H)→List AV
 | []=>[]
 | d::r=>(kB d).cells++rT r
end
theorem kM:∀l:List (DataW H),oc l=l.map kB
 | []=>rfl
 | d::r=>by simp[oc,kM r]
theorem sA:∀l:List (DataW H),rT l=(l.map kB).flatMap AV.cells
 | []=>rfl
 | d::r=>by simp[rT,sA r]
end
mutual
inductive nE (P:Program):TypeId→AV→Prop
 | bool {t:TypeId} (h:P.underlying t=some .bool) (b:Bool):nE P t (.bool b)
 | int {t:TypeId} {k:IntKind} (h:P.underlying t=some (.int k)) (n:Int) (hn:(Lit.int k n).wf=true):nE P t (.int k n)
 | str {t:TypeId} (h:P.underlying t=some .string) (s:List UInt8) (hs:s.length≤maxLen):nE P t (.str s)
 | sl {t e:TypeId} (h:P.underlying t=some (.slice e)) (xs:List AV) (hl:xs.length≤maxLen) (hx:∀x ∈ xs,nE P e x):nE P t (.sl xs)
 | agg {t:TypeId} {fs:Array Field} (h:P.underlying t=some (.struct fs)) (vs:List AV) (hv:wq P fs.toList vs):nE P t (.agg (vs.flatMap AV.cells))
inductive wq (P:Program):List Field→List AV→Prop
 | nil:wq P [] []
 | cons {f:Field} {r:List Field} {v:AV} {vs:List AV} (h:nE P f.type v) (hr:wq P r vs):wq P (f::r) (v::vs)
end
inductive qd (P:Program):List TypeId→List AV→Prop
 | nil:qd P [] []
 | cons {t:TypeId} {r:List TypeId} {v:AV} {vs:List AV} (h:nE P t v) (hr:qd P r vs):qd P (t::r) (v::vs)
def tiled (P:Program) (S:List TypeId):List Field→Nat→Option Nat
 | [],n=>some n
 | f::r,n=>if f.offset=n∧S.contains f.type=true then tiled P S r (n+P.cellsOf f.type) else none
def H9 (P:Program) (S:List TypeId) (t:TypeId):Bool:=
 match P.underlying t with
 | some .bool=>true
 | some (.int _)=>true
 | some .string=>true
 | some (.slice e)=>S.contains e&&P.cellsOf e !=0
 | some (.struct fs)=>tiled P S fs.toList 0==some (P.cellsOf t)
 | _=>false
theorem xa {α β:Type} {f:α→Option β}:∀{l:List α} {r:List β},l.mapM f=some r→r.length=l.length∧∀(i:Nat) (h:i < l.length) (h':i < r.length),f l[i]=some r[i]
 | [],r,h=>by
   simp only[List.mapM_nil,Option.pure_def,Option.some.injEq] at h;subst h;exact⟨rfl,fun i h=>by simp at h⟩
 | x::l,r,h=>by
   simp only[List.mapM_cons,Option.pure_def,Option.bind_eq_bind,Option.bind_eq_some_iff] at h;obtain⟨y,hy,s,hs,e⟩:=h;cases e;obtain⟨g1,g2⟩:=xa hs;refine⟨by simp[g1],fun i h h'=>?_⟩
   cases i with
   | zero=>exact hy
   | succ i=>exact g2 i (by simpa using h) (by simpa using h')
section
variable {H:Type} {enc:TypeId×Value→H} {P:Program} {w:World} {φ:dp} {nx:Nat} {pr:Nat→Prop}
theorem np {v:AV} {cs:List AV} (h:v.cells? =some cs):v.cells=cs:=by
 cases v<;>simp[AV.cells?] at h<;>subst h<;>rfl
structure Read (P:Program) (φ:dp) (nx:Nat) (pr:Nat→Prop) (w:World) (t:TypeId) (v:AV) (cs:List Value):Prop where
 ty:nE P t v
 len:v.cells?.map List.length=some cs.length
 refs:v.refs=0
 rv:∀j,j < cs.length→RV φ nx pr w (v.cells.getD j .undef) (cs.getD j default)
 one:∀j,j < cs.length→(cs.getD j default).oneCell'=true
theorem Read.single {t:TypeId} {v:AV} {c:Value} (ty:nE P t v) (hc:v.cells=[v]) (hc2:v.cells? =some [v]) (hr:v.refs=0) (h:RV φ nx pr w v c) (h1:c.oneCell'=true):Read P φ nx pr w t v [c]:=
 ⟨ty,by rw[hc2];rfl,hr,fun j hj=>by
  have:j=0:=by simpa using hj
  subst this;rw[hc];exact h,fun j hj=>by
  have:j=0:=by simpa using hj
  subst this;exact h1⟩
theorem Read.Ll {t:TypeId} {v:AV} {cs:List Value} (h:Read P φ nx pr w t v cs):v.cells.length=cs.length:=by
 obtain⟨l,hl,e⟩:=Option.map_eq_some_iff.1 h.len;rw[np hl,e]
theorem A0 {v:AV} {cs:List Value} {t:TypeId} (h:Read P φ nx pr w t v cs):AV.ai v.cells=0:=by
 obtain⟨l,hl,_⟩:=Option.map_eq_some_iff.1 h.len;rw[np hl,mS hl];exact h.refs
theorem uL {S:List TypeId} {fuel:Nat} {spare:Nat→Bool} (ih:∀t cs d ps,t ∈ S→DataW.trod enc P w 0 spare true fuel t cs=some (d,ps)→Read P φ nx pr w t (kB d) cs) (cs:List Value):
 ∀(fs:List Field) (xs:List (DataW H×List MemPlace)) (n m:Nat),fs.mapM (fun f=>DataW.trod enc P w 0 spare true fuel f.type ((cs.drop f.offset).take (P.cellsOf f.type)))=some xs→tiled P S fs n=some m→m≤cs.length→
   n≤m∧wq P fs (xs.map fun x=>kB x.1)∧((xs.map fun x=>kB x.1).flatMap AV.cells).length=m - n∧AV.ai ((xs.map fun x=>kB x.1).flatMap AV.cells)=0∧
   ∀j,n+j < m→RV φ nx pr w (((xs.map fun x=>kB x.1).flatMap AV.cells).getD j .undef) (cs.getD (n+j) default)∧(cs.getD (n+j) default).oneCell'=true
 | [],xs,n,m,h,ht,hm=>by
   simp only[List.mapM_nil,Option.pure_def,Option.some.injEq] at h;subst h;simp only[tiled,Option.some.injEq] at ht;subst ht;exact⟨Nat.le_refl _,.nil,by simp,by simp[AV.ai],fun j hj=>by omega⟩
 | f::fs,xs,n,m,h,ht,hm=>by
   simp only[List.mapM_cons,Option.pure_def,Option.bind_eq_bind,Option.bind_eq_some_iff] at h;obtain⟨y,hy,ys,hys,e⟩:=h;cases e;simp only[tiled] at ht;split at ht
   ·rename_i hc;obtain⟨rfl,hS⟩:=hc;obtain⟨g1,g2,g3,g4,g5⟩:=uL ih cs fs ys _ m hys ht hm;have r:=ih f.type _ y.1 y.2 (List.contains_iff_mem.1 hS) hy;have hl:((cs.drop f.offset).take (P.cellsOf f.type)).length=P.cellsOf f.type:=by simp;omega
    have rl:=r.Ll;rw[hl] at rl;refine⟨by omega,.cons r.ty g2,?_,?_,fun j hj=>?_⟩
    ·simp only[List.map_cons,List.flatMap_cons,List.length_append,rl,g3];omega
    ·simp only[List.map_cons,List.flatMap_cons,se,g4,A0 r];rfl
    ·simp only[List.map_cons,List.flatMap_cons];by_cases hj2:j < P.cellsOf f.type
     ·have q1:=r.rv j (by omega);have q2:=r.one j (by omega)
      have e1:((cs.drop f.offset).take (P.cellsOf f.type)).getD j default=cs.getD (f.offset+j) default:=by
       rw[List.getD_eq_getElem?_getD,List.getD_eq_getElem?_getD,List.getElem?_take,if_pos hj2,List.getElem?_drop]
      rw[e1] at q1 q2;refine⟨?_,q2⟩;rw[List.getD_eq_getElem?_getD,List.getElem?_append_left (by omega),←List.getD_eq_getElem?_getD];exact q1
     ·have q:=g5 (j - P.cellsOf f.type) (by omega);rw[show f.offset+P.cellsOf f.type+(j - P.cellsOf f.type)=f.offset+j by omega] at q;refine⟨?_,q.2⟩;rw[List.getD_eq_getElem?_getD,List.getElem?_append_right (by omega),rl,←List.getD_eq_getElem?_getD];exact q.1
   ·cases ht
theorem G1 {a:Addr} {v:Value} (h:w.cell? a=some v):a.spot=none∧a.block < w.heap.size:=by
 unfold World.cell? at h;split at h
 ·rename_i c x y hx;split at h
  ·cases h
  ·rename_i hs;refine⟨by simpa using hs,?_⟩;exact (Array.getElem?_eq_some_iff.1 hx).1
 ·cases h
theorem rm {S:List TypeId} (hS:∀t ∈ S,H9 P S t=true) (hpr:∀b,b < w.heap.size→pr b) {spare:Nat→Bool}:
 ∀fuel t cs d ps,t ∈ S→DataW.trod enc P w 0 spare true fuel t cs=some (d,ps)→Read P φ nx pr w t (kB d) cs
 | 0,t,cs,d,ps,_,h=>by simp[DataW.trod] at h
 | fuel+1,t,cs,d,ps,ht,h=>by
   have ih:=rm hS hpr (spare:=spare) fuel;have hok:=hS t ht;unfold H9 at hok;unfold DataW.trod at h
   cases hu:P.underlying t with
   | none=>rw[hu] at hok;cases hok
   | some u=>
     rw[hu] at hok;cases u
     case bool=>
      simp only[hu] at h;split at h<;>rename_i hx<;>try cases hx
      ·rename_i b;cases h;exact .single (.bool hu b) rfl rfl rfl (.bool b) rfl
      all_goals (first | cases h | (rename_i q;cases q))
     case int k=>
      simp only[hu] at h;split at h<;>rename_i hx<;>try cases hx
      ·rename_i k' n;split at h
       ·rename_i hc;obtain⟨rfl,hwf⟩:=hc;cases h;exact .single (.int hu n hwf) rfl rfl rfl (.int _ n) rfl
       ·cases h
      all_goals (first | cases h | (rename_i q;cases q))
     case string=>
      simp only[hu] at h;split at h<;>rename_i hx<;>try cases hx
      ·rename_i s;split at h
       ·rename_i hs;cases h;exact .single (.str hu _ (by simpa using hs)) rfl rfl rfl (.str s) rfl
       ·cases h
      all_goals (first | cases h | (rename_i q;cases q))
     case slice e=>
      simp only[Bool.and_eq_true] at hok;obtain⟨he,hne⟩:=hok;have he':e ∈ S:=List.contains_iff_mem.1 he;have hn0:P.cellsOf e≠0:=by simpa using hne
      simp only[hu] at h;split at h<;>rename_i hx<;>try cases hx
      ·cases h;exact .single (.sl hu [] (by simp) fun x hx=>by cases hx) rfl rfl rfl (.slnil none 0) rfl
      ·rename_i a len cap;split at h
       ·rename_i hc;obtain⟨elems,h1,h2⟩:=Option.bind_eq_some_iff.1 h;obtain⟨rest,h3,h4⟩:=Option.map_eq_some_iff.1 h2;cases h4;obtain⟨g1,g2⟩:=xa h1;simp only[List.length_range] at g1
        have hel:∀i (hi:i < elems.length),∃cs,w.cells? 0 (a.add (i*P.cellsOf e)) (P.cellsOf e)=some cs∧Read P φ nx pr w e (kB elems[i].1) cs:=fun i hi=>by
         have:=g2 i (by simpa using (by omega)) hi;rw[List.getElem_range] at this;obtain⟨cs,k1,k2⟩:=Option.bind_eq_some_iff.1 this;exact⟨cs,k1,ih e cs _ _ he' k2⟩
        have hcell:∀i (cs:List Value),w.cells? 0 (a.add (i*P.cellsOf e)) (P.cellsOf e)=some cs→cs.length=P.cellsOf e∧∀j (hj:j < cs.length),w.cell? ((a.add (i*P.cellsOf e)).add j)=some cs[j]:=fun i cs hcs=>by
         unfold World.cells? at hcs;rw[if_pos (Nat.zero_le _)] at hcs;obtain⟨k1,k2⟩:=xa hcs;simp only[List.length_range] at k1;refine⟨k1,fun j hj=>?_⟩;have:=k2 j (by simpa using (by omega)) hj;rwa[List.getElem_range] at this
        have hty:nE P t (.sl (oc (elems.map (·.1)))):=by
         refine .sl hu _ ?_ fun x hx=>?_
         ·rw[kM];simp;omega
         ·rw[kM] at hx;simp only[List.map_map,List.mem_map,Function.comp_apply] at hx;obtain⟨y,hy,rfl⟩:=hx;obtain⟨i,hi,rfl⟩:=List.getElem_of_mem hy;obtain⟨cs,_,r⟩:=hel i hi;exact r.ty
        have hrf:AV.ai (oc (elems.map (·.1)))=0:=by
         have:AV.ai (oc (elems.map (·.1)))≤0:=AV.gE fun x hx=>by
          rw[kM] at hx;simp only[List.map_map,List.mem_map,Function.comp_apply] at hx;obtain⟨y,hy,rfl⟩:=hx;obtain⟨i,hi,rfl⟩:=List.getElem_of_mem hy;obtain⟨cs,_,r⟩:=hel i hi;exact Nat.le_of_eq r.refs
         omega
        refine .single (by simpa[kB] using hty) rfl rfl rfl ?_ rfl;rcases Nat.eq_zero_or_pos elems.length with h0 | h0
        ·have e0:elems=[]:=List.length_eq_zero_iff.1 h0;subst e0;have:len=0:=by simpa using g1.symm
         subst this;exact .slnil _ _
        ·obtain⟨cs0,k1,k2⟩:=hel 0 h0;obtain⟨q1,q2⟩:=hcell 0 cs0 k1;have q3:=q2 0 (by omega);simp only[Nat.zero_mul,Addr.add,if_true] at q3;obtain⟨s1,s2⟩:=G1 q3;obtain⟨ab,ao,asp⟩:=a;dsimp only at s1 s2;subst s1
         have hadd:∀i j,((⟨ab,ao,none⟩:Addr).add (i*P.cellsOf e)).add j=⟨ab,ao+i*P.cellsOf e+j,none⟩:=fun i j=>by
          unfold Addr.add;split<;>split<;>simp_all
         have xl:(oc (elems.map (·.1))).length=len:=by rw[kM];simp[g1]
         have xg:∀i (hi:i < (oc (elems.map (·.1))).length),∃hi':i < elems.length,(oc (elems.map (·.1)))[i]=kB elems[i].1:=fun i hi=>by
          have hi':i < elems.length:=by omega
          refine⟨hi',?_⟩;simp[kM]
         have key:=RV.sl (φ:=φ) (nx:=nx) (pr:=pr) (w:=w) (oc (elems.map (·.1))) ab ao cap (P.cellsOf e) (fun i j=>match w.cells? 0 ((⟨ab,ao,none⟩:Addr).add (i*P.cellsOf e)) (P.cellsOf e) with
          | some cs=>if i < len∧j < cs.length then cs.getD j default else default
          | none=>default) (hpr ab s2) (by omega) hrf (fun i j=>?_) (fun i hi=>?_) (fun i j hi hj=>?_) fun i hi j hj=>?_
         ·rw[xl] at key;exact key
         ·split
          ·rename_i cs hcs;split
           ·rename_i hlt;obtain⟨cs',k1,r⟩:=hel i (by omega);rw[hcs] at k1;cases k1;exact r.one j hlt.2
           ·rfl
          ·rfl
         ·obtain⟨hi',e1⟩:=xg i hi;obtain⟨cs,k1,r⟩:=hel i hi';rw[e1,r.len,(hcell i cs k1).1]
         ·have hi':i < elems.length:=by omega
          obtain⟨cs,k1,r⟩:=hel i hi';obtain⟨c1,c2⟩:=hcell i cs k1;rw[k1];dsimp only;rw[if_pos ⟨by omega,by omega⟩];have:=c2 j (by omega);rw[hadd] at this;rw[this,List.getD_eq_getElem?_getD,List.getElem?_eq_getElem (by omega)];rfl
         ·obtain⟨hi',e1⟩:=xg i hi;obtain⟨cs,k1,r⟩:=hel i hi'
          have hj':j < cs.length:=by
           have:=r.Ll;rw[←e1] at this;omega
          rw[k1];dsimp only;rw[if_pos ⟨by omega,hj'⟩];have:=r.rv j hj';rw[←e1,List.getD_eq_getElem?_getD,List.getElem?_eq_getElem hj] at this;exact this
       ·cases h
      all_goals (first | cases h | (rename_i q;cases q))
     case struct fs=>
      have htl:tiled P S fs.toList 0=some (P.cellsOf t):=by simpa using hok
      simp only[hu] at h
      ·split at h
       ·rename_i hlen;obtain⟨xs,h1,h2⟩:=Option.map_eq_some_iff.1 h;cases h2;obtain⟨g1,g2,g3,g4,g5⟩:=uL (φ:=φ) (nx:=nx) (pr:=pr) ih cs fs.toList xs 0 (P.cellsOf t) h1 htl (by omega)
        have e:kB (.agg (xs.map (·.1)))=.agg ((xs.map fun x=>kB x.1).flatMap AV.cells):=by
         simp only[kB,sA,List.map_map];rfl
        rw[e];refine⟨.agg hu _ g2,?_,?_,fun j hj=>?_,fun j hj=>?_⟩
        ·simp only[AV.cells?,Option.map_some,Option.some.injEq];omega
        ·simpa[AV.refs] using g4
        ·have:=(g5 j (by omega)).1;rw[Nat.zero_add] at this;exact this
        ·have:=(g5 j (by omega)).2;rw[Nat.zero_add] at this;exact this
       ·cases h
     all_goals (simp at hok)
end
end Sz

/- A law's last step: from the abstract run to the statement. No program is named here. -/
namespace Sz
open Go Go.RowKit Go.ChangeShapes Go.WideShapes
variable {X:World→Prop}
section
variable {H:Type} {enc:TypeId×Value→H} {P:Program}
theorem xE {f:Func} {s:ChangeSpec} {apart fresh handsOn again:Bool} {W W':World} {args:Array Value} {v:Value} {ds gs:List (DataW H)} {before pa pv:List MemPlace}
 (hW:DataW.Whole enc P f.params.toList s.vars apart W args.toList ds gs before)
 (hres:∀(b:Nat) (sp:Nat→Bool) (hd:Bool),DataW.TrodAll enc P W' b sp hd f.resultTypes.toList (v.resultList f.resultTypes.size) (s.fn H (ds++gs)).results [])
 (hargs:∀sp:Nat→Bool,(∀p ∈ before,sp p.block=true)→DataW.TrodAll enc P W' 0 sp true f.params.toList args.toList (s.fn H (ds++gs)).args pa)
 (hvars:∀sp:Nat→Bool,(∀p ∈ before,sp p.block=true)→DataW.TrodVars enc P W' sp s.vars (s.fn H (ds++gs)).vars pv)
 (hps:before=pa++pv) (hb:Below W.heap.size W W')
 (hok:∀(j:Nat) (t:TypeId) (r:Value),f.resultTypes[j]? =some t→(v.resultList f.resultTypes.size)[j]? =some r→Value.okWide P W' .any 0 t r):
 s.post enc P f apart fresh handsOn again W args v W':=by
 have hlt:∀p ∈ before,p.block < W.heap.size:=fun p hp=>hW.lt p hp
 have hold:∀p ∈ before,(fun b=>decide (b < W.heap.size)) p.block=true:=fun p hp=>by simpa using hlt p hp
 refine⟨ds,gs,before,[],pa,pv,hW,hres _ _ _,hargs _ hold,hvars _ hold,World.keptBut_mono (fun p hp=>⟨hp,?_⟩) (hb.frame (· ∈ before)),fun _=>?_⟩
 ·rw[hps,List.mem_append] at hp;exact Or.inr hp
 ·obtain⟨_,_,_,_,_,hz,hn⟩:=hW;refine⟨hok,_,_,([]++pa)++pv,⟨[]++pa,pv,trodAll_append (hargs _ (fun _ _=>rfl)) (hres _ _ _),hvars _ (fun _ _=>rfl),rfl,?_,?_⟩,?_⟩
  ·intro b off hp;have hin:MemPlace.cell b off ∈ before:=by rw[hps];simpa using hp
   rw[hb.frozen (hlt _ hin)];exact hz b off hin
  ·intro ha;have:=hn ha;rw[hps] at this;simpa using this
  ·intro p hp _;rw[hps];simpa using hp
def Dd:dp:=⟨fun _=>default,fun _=>False⟩
theorem Fb (id:Nat):¬ live h0 id:=fun⟨o,hg,_⟩=>by simp[aa.get,h0] at hg
theorem MD (w:World):HR Dd h0 w:=
 ⟨rfl,fun id cs hg=>by simp[aa.get,h0] at hg,fun id es hg=>by simp[aa.get,h0] at hg,fun i j hi=>absurd hi (Fb i),fun b hb=>hb.elim⟩
theorem K4 (w:World) (b:Nat) (hb:b < w.heap.size):Pr Dd h0 w b:=⟨hb,fun id hl=>absurd hl (Fb id),fun h=>h⟩
theorem C6 {t:TypeId} {v:AV} {cv:Value} {φ:dp} {nx:Nat} {pr:Nat→Prop} {w:World} {base:Nat} (hr:Read P φ nx pr w t v cv.cells.toList) (hv:Value.okWide P w .any base t cv):RV φ nx pr w v cv:=by
 cases hr.ty with
 | bool h b=>
   have h1:=hr.rv 0;have h2:=hr.len;cases cv<;>simp[AV.cells?,Value.cells] at h2 h1<;>try exact h1
   rename_i cs;simp[Value.okWide,h,Cell.okWide,Cell.ok] at hv
 | int h n hn=>
   have h1:=hr.rv 0;have h2:=hr.len;cases cv<;>simp[AV.cells?,Value.cells] at h2 h1<;>try exact h1
   rename_i cs;simp[Value.okWide,h,Cell.okWide,Cell.ok] at hv
 | str h s hs=>
   have h1:=hr.rv 0;have h2:=hr.len;cases cv<;>simp[AV.cells?,Value.cells] at h2 h1<;>try exact h1
   rename_i cs;simp[Value.okWide,h,Cell.okWide,Cell.ok] at hv
 | sl h xs hl hx=>
   have h1:=hr.rv 0;have h2:=hr.len;cases cv<;>simp[AV.cells?,Value.cells] at h2 h1<;>try exact h1
   rename_i cs;simp[Value.okWide,h,Cell.okWide,Cell.ok] at hv
 | agg h vs hv'=>
   simp only[Value.okWide,h] at hv;obtain⟨cs,rfl,_⟩:=hv;refine .agg _ _ ?_ (fun j=>?_) fun j hj=>?_
   ·have:=hr.Ll;simpa[AV.cells,Value.cells] using this.symm
   ·by_cases hj:j < cs.size
    ·have:=hr.one j (by simpa[Value.cells] using hj);simpa[Value.cells,List.getD_eq_getElem?_getD,Array.getD_eq_getD_getElem?] using this
    ·simp[Array.getD,hj];rfl
   ·have hl:=hr.Ll;have hj':j < (Value.agg cs).cells.toList.length:=by rw[←hl];exact hj
    have:=hr.rv j hj';rw[List.getD_eq_getElem?_getD,List.getElem?_eq_getElem (by simpa[AV.cells] using hj)] at this;simpa[AV.cells,Value.cells,List.getD_eq_getElem?_getD,Array.getD_eq_getD_getElem?] using this
theorem rG {S:List TypeId} (hS:∀t ∈ S,H9 P S t=true) {w:World} {base:Nat} {spare:Nat→Bool}:∀(ts:List TypeId) (vs:List Value) (ds:List (DataW H)) (ps:List MemPlace),DataW.TrodAll enc P w 0 spare true ts vs ds ps→(∀t ∈ ts,t ∈ S)→
 (∀(j:Nat) (t:TypeId) (v:Value),ts[j]? =some t→vs[j]? =some v→Value.okWide P w .any base t v)→
 qd P ts (ds.map kB)∧vs.length=ds.length∧AV.ai (ds.map kB)=0∧∀(j:Nat) (h:j < ds.length),dK Dd h0 w (kB ds[j]) (vs.getD j default)
 | [],vs,ds,ps,h,_,_=>by
   obtain⟨rfl,rfl,rfl⟩:=trodAll_nil h;exact⟨.nil,rfl,rfl,fun j h=>by simp at h⟩
 | t::ts,vs,ds,ps,h,hts,hok=>by
   obtain⟨v,vs',d,ds',p,q,rfl,rfl,rfl,⟨fuel,h1⟩,h2⟩:=trodAll_cons h;have hr:=rm (φ:=Dd) (nx:=h0.next) (pr:=Pr Dd h0 w) hS (K4 w) fuel t _ d p (hts t (by simp)) h1;obtain⟨g1,g2,g3,g4⟩:=rG hS ts vs' ds' q h2 (fun t ht=>hts t (by simp[ht])) fun j t v h1 h2=>hok (j+1) t v h1 h2
   refine⟨.cons hr.ty g1,by simp[g2],by simp only[List.map_cons,AV.ai,g3,hr.refs];rfl,fun j hj=>?_⟩
   cases j with
   | zero=>exact C6 hr (hok 0 t v rfl rfl)
   | succ j=>exact g4 j (by simpa using hj)
theorem Bw {f:Nat} {fn:Func} (hfn:P.funcs[f]? =some fn) (hname:(fn.name== "runtime.NumGoroutine")=false) (hbody:fn.body.isSome=true) (cargs:Array Value) (w:World):(callFunc f cargs).run P w=.ok (.enter f cargs) w:=by
 obtain⟨c,hc⟩:=Option.isSome_iff_exists.1 hbody;have hne:¬ fn.name= "runtime.NumGoroutine" :=by simpa using hname
 simp[callFunc,hfn,hne,hc]
theorem C9 {f:Nat} {fn:Func} (hfn:P.funcs[f]? =some fn) (hname:(fn.name== "runtime.NumGoroutine")=false) (hbody:fn.body.isSome=true) {S:List TypeId} (hS:(S.all fun t=>H9 P S t&&P.readableRec t&&decide (t < P.types.size))=true)
 (hpar:(fn.params.toList.all fun t=>S.contains t)=true) {tb:TypeId} (htb:P.underlying tb=some .bool) (hres:fn.resultTypes=#[tb]) (hlaid:laidOutB P=true)
 {s:ChangeSpec} (hvars:s.vars=[]) (hfun:∀ds:List (DataW H),ds.length=fn.params.size→s.fn H ds={results:=[.lit (.bool true)],args:=ds})
 {apart fresh handsOn again:Bool}
 {W:World} {base:Nat} {args:Array Value} {ds gs:List (DataW H)} {before:List MemPlace}
 (hlaw:qd P fn.params.toList (ds.map kB)→fX P X f (ds.map kB) (.bool true))
 (hval:∀(j:Nat) t v,fn.params[j]? =some t→args[j]? =some v→Value.okWide P W .any base t v)
 (hW:DataW.Whole enc P fn.params.toList s.vars apart W args.toList ds gs before) (hsh:W.ShapedOpen P) (hX:X W):
 Calls P f args W fun e W'=>∃v,e=.returned v∧s.post enc P fn apart fresh handsOn again W args v W':=by
 have hS':∀t ∈ S,H9 P S t=true∧P.readableRec t=true∧t < P.types.size:=fun t ht=>by
  have:=List.all_eq_true.1 hS t ht;simp only[Bool.and_eq_true,decide_eq_true_eq] at this;exact⟨this.1.1,this.1.2,this.2⟩
 have hp':∀t ∈ fn.params.toList,t ∈ S:=fun t ht=>List.contains_iff_mem.1 (List.all_eq_true.1 hpar t ht)
 have hW0:=hW;obtain⟨p,q,hA,hV,hps,hfz,hnd⟩:=hW0;rw[hvars] at hV
 have hgq:gs=[]∧q=[]:=by
  cases gs with
  | nil=>exact⟨rfl,hV⟩
  | cons g r=>exact hV.elim
 obtain⟨rfl,rfl⟩:=hgq;have hps:before=p:=by rw[hps];simp
 subst hps;obtain⟨g1,g2,g3,g4⟩:=rG (base:=base) (fun t ht=>(hS' t ht).1) fn.params.toList args.toList ds before hA hp' fun j t v h1 h2=>hval j t v (by simpa using h1) (by simpa using h2)
 have hdl:ds.length=fn.params.size:=by
  have:∀(ts:List TypeId) (l:List AV),qd P ts l→l.length=ts.length:=by
   intro ts l h
   induction h with
   | nil=>rfl
   | cons _ _ ih=>simp[ih]
  have:=this _ _ g1;simpa using this
 have hargs:iv Dd h0 W (ds.map kB) args:=⟨by simpa using g2,fun j hj=>by
  have hj':j < ds.length:=by simpa using hj
  have:=g4 j hj'
  have e:args.toList.getD j default=args.getD j default:=by
   rw[List.getD_eq_getElem?_getD,Array.getD_eq_getD_getElem?];simp
  rw[e] at this;simpa using this⟩
 have henter:=Bw hfn hname hbody args W;rcases hlaw g1 Dd h0 W args (MD W) ⟨W,⟨hsh,hX⟩,fun b hb=>⟨hb,.inr (K4 W b hb),rfl⟩⟩ hargs with⟨_,hc⟩ | ⟨cv,w',e1,_⟩
 ·refine hc.mono fun e W' he=>?_
  obtain⟨cv,rfl,r1,r2,r3,r4⟩:=he;have hcv:=r1.eX;subst hcv;have hb:Below W.heap.size W W':=⟨r3.os,r3.tape,r3.output,r3.size,fun b hb=>(r3.pr b (K4 W b hb)).2⟩
  have hlt:∀x ∈ before,x.block < W.heap.size:=fun x hx=>hW.lt x hx
  have hsp:∀(sp:Nat→Bool),(∀x ∈ before,sp x.block=true)→∀(ts:List TypeId) (vs:List Value) (ds:List (DataW H)) (ps:List MemPlace),(∀t ∈ ts,t ∈ S)→(∀x ∈ ps,x ∈ before)→DataW.TrodAll enc P W 0 (fun _=>true) true ts vs ds ps→DataW.TrodAll enc P W' 0 sp true ts vs ds ps:=by
   intro sp hsp ts
   induction ts with
   | nil=>
     intro vs ds ps _ _ h;obtain⟨rfl,rfl,rfl⟩:=trodAll_nil h;rfl
   | cons t ts ih=>
     intro vs ds ps hts hin h;obtain⟨v,vs',d,ds',p,q,rfl,rfl,rfl,h1,h2⟩:=trodAll_cons h;refine⟨p,q,?_,ih vs' ds' q (fun t ht=>hts t (by simp[ht])) (fun x hx=>hin x (by simp[hx])) h2,rfl⟩;exact WideElems.Trod_stays hlaid (hS' t (hts t (by simp))).2.1 (hS' t (hts t (by simp))).2.2 h1 (fun x hx=>hb.same (hlt x (hin x (by simp[hx])))) (fun x hx=>hsp x (hin x (by simp[hx])))
  refine⟨.bool true,rfl,xE (pa:=before) (pv:=[]) hW (fun b sp hd=>?_) (fun sp hs=>?_) (fun sp _=>?_) (by simp) hb ?_⟩
  ·rw[hres,List.append_nil,hfun ds hdl];exact trodAll_mk1 (shut_bool htb true)
  ·rw[List.append_nil,hfun ds hdl];exact hsp sp hs _ _ _ _ hp' (fun x hx=>hx) hA
  ·rw[hvars,List.append_nil,hfun ds hdl];rfl
  ·exact ok_one hres rfl (okWide_bool_mk htb true)
 ·rw[henter] at e1;cases e1
end
end Sz

/- What a type's values are. No program is named here. -/
namespace Sz
open Go
section
variable {P:Program} {t e:TypeId} {v:AV}
theorem Px (hu:P.underlying t=some .string) (h:nE P t v):∃s:List UInt8,v=.str s∧s.length≤maxLen:=by
 cases h with
 | str h s hs=>exact⟨s,rfl,hs⟩
 | bool h=>rw[hu] at h;cases h
 | int h=>rw[hu] at h;cases h
 | sl h=>rw[hu] at h;cases h
 | agg h=>rw[hu] at h;cases h
theorem JG {H:Type} {enc:TypeId×Value→H} {ts:List TypeId} {vars:List String} (hv:vars=[]) {apart:Bool} {W:World} {vs:List Value} {ds gs:List (DataW H)} {before:List MemPlace} (h:DataW.Whole enc P ts vars apart W vs ds gs before):gs=[]:=by
 obtain⟨p,q,hA,hV,_⟩:=h;rw[hv] at hV
 cases gs with
 | nil=>rfl
 | cons g r=>exact hV.elim
end
end Sz

/- Contracts of the library's as known calls. No program is named here. -/
namespace Sz
open Go Go.RowKit
variable {X:World→Prop}
section
variable {P:Program}
theorem fv.shaped {φ:dp} {h:aa} {w:World} (g:fv P X φ h w):w.ShapedOpen P:=by
 obtain⟨w1,h1,h2⟩:=g;have h3:({w1 with os:=w.os,output:=w.output}:World).ShapedOpen P:=World.ShapedOpen.of_heap rfl h1.1;refine World.ShapedOpen.keptBut (may:=fun _=>False) h3 ⟨rfl,rfl,fun i hi=>?_⟩ fun p hp=>hp.elim
 have e:=(h2 i hi).2.2
 show match w1.heap[i]?,w.heap[i]? with
  | some (.cells c t fr),some (.cells c' t' fr')=>_
  | some (.map es clock),some (.map es' clock')=>_
  | o,o'=>_
 rw[e]
 cases w1.heap[i]? with
 | none=>rfl
 | some o=>cases o<;>simp
theorem eO {φ:dp} {nx:Nat} {pr:Nat→Prop} {w:World} {s:List UInt8} {cv:Value} (h:RV φ nx pr w (.str s) cv):cv=.string ⟨s.toArray⟩:=by
 obtain⟨b,rfl,rfl⟩:=h.eO;simp
theorem RV.Ud {φ:dp} {nx:Nat} {pr:Nat→Prop} {w:World} (s:List UInt8):RV φ nx pr w (.str s) (.string ⟨s.toArray⟩):=RV.qI (by simp)
theorem NU {φ:dp} {h:aa} {w:World} {args:List AV} {cargs:Array Value} (ha:iv φ h w args cargs):cargs.toList.length=args.length∧∀j (hj:j < args.length),dK φ h w args[j] (cargs.toList.getD j default):=by
 refine⟨by simpa using ha.1,fun j hj=>?_⟩;have:=ha.2 j hj
 have e:cargs.toList.getD j default=cargs.getD j default:=by
  rw[List.getD_eq_getElem?_getD,Array.getD_eq_getD_getElem?];simp
 rw[e];exact this
theorem wB {φ:dp} {h:aa} {w:World} {x y:AV} {cargs:Array Value} (ha:iv φ h w [x,y] cargs):∃cx cy,cargs=#[cx,cy]∧dK φ h w x cx∧dK φ h w y cy:=by
 obtain⟨h1,h2⟩:=NU ha;obtain⟨l⟩:=cargs
 match l,h1 with
 | [cx,cy],_=>exact⟨cx,cy,rfl,h2 0 (by simp),h2 1 (by simp)⟩
theorem kS {f:Nat} {args:List AV} {v:AV} (hent:∀cargs w,(callFunc f cargs).run P w=.ok (.enter f cargs) w)
 (hc:∀φ h w cargs,HR φ h w→fv P X φ h w→iv φ h w args cargs→Calls P f cargs w fun e w'=>Below w.heap.size w w'∧∃cv,e=.returned cv∧dK φ h w' v cv):fX P X f args v:=by
 intro φ h w cargs hr hG ha;refine .inl ⟨hent _ _,(hc φ h w cargs hr hG ha).mono fun e w' ⟨hb,cv,he,hv⟩=>?_⟩;obtain⟨s1,s2⟩:=zy hr hb.os hb.tape hb.output hb.size hb.block;exact⟨cv,he,hv,s1,s2,hb.block⟩
theorem yz {f:Nat} {s p r:List UInt8} (hent:∀cargs w,(callFunc f cargs).run P w=.ok (.enter f cargs) w)
 (hc:∀w,w.ShapedOpen P→Calls P f #[.string ⟨s.toArray⟩,.string ⟨p.toArray⟩] w fun e w'=>e=.returned (.string ⟨r.toArray⟩)∧Below w.heap.size w w'):fX P X f [.str s,.str p] (.str r):=
 kS hent fun φ h w cargs hr hG ha=>by
  obtain⟨cx,cy,rfl,h1,h2⟩:=wB ha;rw[eO h1,eO h2];exact (hc w hG.shaped).mono fun e w' ⟨he,hb⟩=>⟨hb,_,he,.Ud r⟩
theorem Gg {f:Nat} {s p:List UInt8} {r:Bool} (hent:∀cargs w,(callFunc f cargs).run P w=.ok (.enter f cargs) w)
 (hc:∀w,w.ShapedOpen P→Calls P f #[.string ⟨s.toArray⟩,.string ⟨p.toArray⟩] w fun e w'=>e=.returned (.bool r)∧Below w.heap.size w w'):fX P X f [.str s,.str p] (.bool r):=
 kS hent fun φ h w cargs hr hG ha=>by
  obtain⟨cx,cy,rfl,h1,h2⟩:=wB ha;rw[eO h1,eO h2];exact (hc w hG.shaped).mono fun e w' ⟨he,hb⟩=>⟨hb,_,he,.bool r⟩
end
end Sz
