import Derived.Test.YtjmeonoabiliiaaGreatDoorSz3
import Derived.ProofKit
import Derived.Handed
import Derived.Below
import Derived.ChangeSame
import Derived.ChangeAgain
set_option linter.all false
set_option maxHeartbeats 16000000
set_option maxRecDepth 100000
namespace Sz
open Go
section
open Go.RowKit Go.ChangeShapes Go.WideShapes
section
variable {H:Type}
mutual
def jv:DataW H->AV
 |.lit (.bool b)=>.bool b
 |.lit (.int k n)=>.int k n
 |.lit (.string s)=>.str s
 |.slice elems _=>.sl (qx elems)
 |.agg parts=>.agg (pG parts)
 |.nil=>.sl []
 |_=>.undef
def qx:List (DataW H)->List AV
 |[]=>[]
 |d::r=>jv d::qx r
def pG:List (DataW H)->List AV
 |[]=>[]
 |d::r=>(jv d).cells++pG r
end
theorem nK:∀l:List (DataW H),qx l=l.map jv
 |[]=>rfl
 |d::r=>by simp[qx,nK r]
theorem zq:∀l:List (DataW H),pG l=(l.map jv).flatMap AV.cells
 |[]=>rfl
 |d::r=>by simp[pG,zq r]
end
mutual
inductive lH (P:Program):TypeId->AV->Prop
 |bool {t:TypeId} (h:P.underlying t=some .bool) (b:Bool):lH P t (.bool b)
 |int {t:TypeId} {k:IntKind} (h:P.underlying t=some (.int k)) (n:Int) (hn:(Lit.int k n).wf=true):lH P t (.int k n)
 |str {t:TypeId} (h:P.underlying t=some .string) (s:List UInt8) (hs:s.length<=maxLen):lH P t (.str s)
 |sl {t e:TypeId} (h:P.underlying t=some (.slice e)) (xs:List AV) (hl:xs.length<=maxLen) (hx:∀x∈xs,lH P e x):lH P t (.sl xs)
 |agg {t:TypeId} {fs:Array Field} (h:P.underlying t=some (.struct fs)) (vs:List AV) (hv:Bs P fs.toList vs):lH P t (.agg (vs.flatMap AV.cells))
inductive Bs (P:Program):List Field->List AV->Prop
 |nil:Bs P [] []
 |cons {f:Field} {r:List Field} {v:AV} {vs:List AV} (h:lH P f.type v) (hr:Bs P r vs):Bs P (f::r) (v::vs)
end
inductive wc (P:Program):List TypeId->List AV->Prop
 |nil:wc P [] []
 |cons {t:TypeId} {r:List TypeId} {v:AV} {vs:List AV} (h:lH P t v) (hr:wc P r vs):wc P (t::r) (v::vs)
def tiled(P:Program)(S:List TypeId):List Field->Nat->Option Nat
 |[],n=>some n
 |f::r,n=>if f.offset=n/\S.contains f.type=true then tiled P S r (n+P.cellsOf f.type) else none
def X7(P:Program)(S:List TypeId)(t:TypeId):Bool:=
 match P.underlying t with
 |some .bool=>true
 |some (.int _)=>true
 |some .string=>true
 |some (.slice e)=>S.contains e&&P.cellsOf e !=0
 |some (.struct fs)=>tiled P S fs.toList 0==some (P.cellsOf t)
 |_=>false
theorem D7{α β:Type}{f:α->Option β}:∀{l:List α} {r:List β},l.mapM f=some r->r.length=l.length/\∀(i:Nat) (h:i<l.length) (h':i<r.length),f l[i]=some r[i]
 |[],r,h=>by simp only[List.mapM_nil,Option.pure_def,Option.some.injEq] at h;subst h;exact⟨rfl,λi h=>by simp at h⟩
 |x::l,r,h=>by
   simp only[List.mapM_cons,Option.pure_def,Option.bind_eq_bind,Option.bind_eq_some_iff] at h;obtain⟨y,hy,s,hs,e⟩:=h;cases e;obtain⟨g1,g2⟩:=D7 hs;refine⟨by simp[g1],λi h h'=>?_⟩
   cases i with
   |zero=>exact hy
   |succ i=>exact g2 i (by simpa using h) (by simpa using h')
variable {v:AV}
section
variable {H:Type}{enc:TypeId×Value->H}{P:Program}{w:World}{φ:eJ}{nx:Nat}{pr:Nat->Prop}
theorem tY{cs:List AV}(h:v.cells? =some cs):v.cells=cs:=by cases v<;>simp[AV.cells?] at h<;>subst h<;>rfl
structure Read(P:Program)(φ:eJ)(nx:Nat)(pr:Nat->Prop)(w:World)(t:TypeId)(v:AV)(cs:List Value):Prop where
 ty:lH P t v
 len:v.cells?.map List.length=some cs.length
 aJ:v.aJ=0
 rv:∀j,j<cs.length->RV φ nx pr w (v.cells.getD j .undef) (cs.getD j default)
 one:∀j,j<cs.length->(cs.getD j default).oneCell'=true
theorem Read.single{t:TypeId}{c:Value}(ty:lH P t v)(hc:v.cells=[v])(N0:v.cells? =some [v])(hr:v.aJ=0)(h:RV φ nx pr w v c)(h1:c.oneCell'=true):Read P φ nx pr w t v [c]:=
 ⟨ty,by rw[N0];rfl,hr,λj hj=>by
  have:j=0:=by simpa using hj
  subst this;rw[hc];exact h,λj hj=>by
  have:j=0:=by simpa using hj
  subst this;exact h1⟩
theorem Read.abK{t:TypeId}{cs:List Value}(h:Read P φ nx pr w t v cs):v.cells.length=cs.length:=by obtain⟨l,hl,e⟩:=Option.map_eq_some_iff.1 h.len;rw[tY hl,e]
theorem LJ{cs:List Value}{t:TypeId}(h:Read P φ nx pr w t v cs):AV.ah v.cells=0:=by obtain⟨l,hl,_⟩:=Option.map_eq_some_iff.1 h.len;rw[tY hl,tQ hl];exact h.aJ
theorem Cx{S:List TypeId}{fuel:Nat}{spare:Nat->Bool}(ih:∀t cs d ps,t∈S->DataW.trod enc P w 0 spare true fuel t cs=some (d,ps)->Read P φ nx pr w t (jv d) cs)(cs:List Value):
 ∀(fs:List Field) (xs:List (DataW H×List MemPlace)) (n m:Nat),fs.mapM (λf=>DataW.trod enc P w 0 spare true fuel f.type ((cs.drop f.offset).take (P.cellsOf f.type)))=some xs->tiled P S fs n=some m->m<=cs.length->
   n<=m/\Bs P fs (xs.map λx=>jv x.1)/\((xs.map λx=>jv x.1).flatMap AV.cells).length=m-n/\AV.ah ((xs.map λx=>jv x.1).flatMap AV.cells)=0/\
   ∀j,n+j<m->RV φ nx pr w (((xs.map λx=>jv x.1).flatMap AV.cells).getD j .undef) (cs.getD (n+j) default)/\(cs.getD (n+j) default).oneCell'=true
 |[],xs,n,m,h,ht,hm=>by simp only[List.mapM_nil,Option.pure_def,Option.some.injEq] at h;subst h;simp only[tiled,Option.some.injEq] at ht;subst ht;exact⟨Nat.le_refl _,.nil,by simp,by simp[AV.ah],λj hj=>by omega⟩
 |f::fs,xs,n,m,h,ht,hm=>by
   simp only[List.mapM_cons,Option.pure_def,Option.bind_eq_bind,Option.bind_eq_some_iff] at h;obtain⟨y,hy,ys,hys,e⟩:=h;cases e;simp only[tiled] at ht;split at ht
   .rename_i hc;obtain⟨rfl,hS⟩:=hc;obtain⟨g1,g2,g3,g4,g5⟩:=Cx ih cs fs ys _ m hys ht hm;have r:=ih f.type _ y.1 y.2 (List.contains_iff_mem.1 hS) hy;have hl:((cs.drop f.offset).take (P.cellsOf f.type)).length=P.cellsOf f.type:=by simp;omega
    have rl:=r.abK;rw[hl] at rl;refine⟨by omega,.cons r.ty g2,?_,?_,λj hj=>?_⟩
    .simp only[List.map_cons,List.flatMap_cons,List.length_append,rl,g3];omega
    .simp only[List.map_cons,List.flatMap_cons,Ak,g4,LJ r];rfl
    .simp only[List.map_cons,List.flatMap_cons];by_cases DO:j<P.cellsOf f.type
     .have q1:=r.rv j (by omega);have q2:=r.one j (by omega)
      have e1:((cs.drop f.offset).take (P.cellsOf f.type)).getD j default=cs.getD (f.offset+j) default:=by rw[List.getD_eq_getElem?_getD,List.getD_eq_getElem?_getD,List.getElem?_take,if_pos DO,List.getElem?_drop]
      rw[e1] at q1 q2;refine⟨?_,q2⟩;rw[List.getD_eq_getElem?_getD,List.getElem?_append_left (by omega),<-List.getD_eq_getElem?_getD];exact q1
     .have q:=g5 (j-P.cellsOf f.type) (by omega);rw[show f.offset+P.cellsOf f.type+(j-P.cellsOf f.type)=f.offset+j by omega] at q;refine⟨?_,q.2⟩;rw[List.getD_eq_getElem?_getD,List.getElem?_append_right (by omega),rl,<-List.getD_eq_getElem?_getD];exact q.1
   .cases ht
theorem Vp{a:Addr}{v:Value}(h:w.cell? a=some v):a.spot=none/\a.block<w.heap.size:=by
 unfold World.cell? at h;split at h
 .rename_i c x y hx;split at h
  .cases h
  .rename_i hs;refine⟨by simpa using hs,?_⟩;exact (Array.getElem?_eq_some_iff.1 hx).1
 .cases h
theorem Az{S:List TypeId}(hS:∀t∈S,X7 P S t=true)(mF:∀b,b<w.heap.size->pr b){spare:Nat->Bool}:
 ∀fuel t cs d ps,t∈S->DataW.trod enc P w 0 spare true fuel t cs=some (d,ps)->Read P φ nx pr w t (jv d) cs
 |0,t,cs,d,ps,_,h=>by simp[DataW.trod] at h
 |fuel+1,t,cs,d,ps,ht,h=>by
   have ih:=Az hS mF (spare:=spare) fuel;have cT:=hS t ht;unfold X7 at cT;unfold DataW.trod at h
   cases hu:P.underlying t with
   |none=>rw[hu] at cT;cases cT
   |some u=>
     rw[hu] at cT;cases u
     case bool=>
      simp only[hu] at h;split at h<;>rename_i hx<;>try cases hx
      .rename_i b;cases h;exact .single (.bool hu b) rfl rfl rfl (.bool b) rfl
      all_goals (first|cases h|(rename_i q;cases q))
     case int k=>
      simp only[hu] at h;split at h<;>rename_i hx<;>try cases hx
      .rename_i k' n;split at h
       .rename_i hc;obtain⟨rfl,Gq⟩:=hc;cases h;exact .single (.int hu n Gq) rfl rfl rfl (.int _ n) rfl
       .cases h
      all_goals (first|cases h|(rename_i q;cases q))
     case string=>
      simp only[hu] at h;split at h<;>rename_i hx<;>try cases hx
      .rename_i s;split at h
       .rename_i hs;cases h;exact .single (.str hu _ (by simpa using hs)) rfl rfl rfl (.str s) rfl
       .cases h
      all_goals (first|cases h|(rename_i q;cases q))
     case slice e=>
      simp only[Bool.and_eq_true] at cT;obtain⟨he,eR⟩:=cT;have Oj:e∈S:=List.contains_iff_mem.1 he;have KL:P.cellsOf e≠0:=by simpa using eR
      simp only[hu] at h;split at h<;>rename_i hx<;>try cases hx
      .cases h;exact .single (.sl hu [] (by simp) λx hx=>by cases hx) rfl rfl rfl (.slnil none 0) rfl
      .rename_i a len cap;split at h
       .rename_i hc;obtain⟨elems,h1,h2⟩:=Option.bind_eq_some_iff.1 h;obtain⟨rest,h3,h4⟩:=Option.map_eq_some_iff.1 h2;cases h4;obtain⟨g1,g2⟩:=D7 h1;simp only[List.length_range] at g1
        have hel:∀i (hi:i<elems.length),∃cs,w.cells? 0 (a.add (i*P.cellsOf e)) (P.cellsOf e)=some cs/\Read P φ nx pr w e (jv elems[i].1) cs:=λi hi=>by have:=g2 i (by simpa using (by omega)) hi;rw[List.getElem_range] at this;obtain⟨cs,k1,k2⟩:=Option.bind_eq_some_iff.1 this;exact⟨cs,k1,ih e cs _ _ Oj k2⟩
        have mG:∀i (cs:List Value),w.cells? 0 (a.add (i*P.cellsOf e)) (P.cellsOf e)=some cs->cs.length=P.cellsOf e/\∀j (hj:j<cs.length),w.cell? ((a.add (i*P.cellsOf e)).add j)=some cs[j]:=λi cs nQ=>by unfold World.cells? at nQ;rw[if_pos (Nat.zero_le _)] at nQ;obtain⟨k1,k2⟩:=D7 nQ;simp only[List.length_range] at k1;refine⟨k1,λj hj=>?_⟩;have:=k2 j (by simpa using (by omega)) hj;rwa[List.getElem_range] at this
        have hty:lH P t (.sl (qx (elems.map (·.1)))):=by
         refine .sl hu _ ?_ λx hx=>?_
         .rw[nK];simp;omega
         .rw[nK] at hx;simp only[List.map_map,List.mem_map,Function.comp_apply] at hx;obtain⟨y,hy,rfl⟩:=hx;obtain⟨i,hi,rfl⟩:=List.getElem_of_mem hy;obtain⟨cs,_,r⟩:=hel i hi;exact r.ty
        have wi:AV.ah (qx (elems.map (·.1)))=0:=by
         have:AV.ah (qx (elems.map (·.1)))<=0:=AV.kB λx hx=>by rw[nK] at hx;simp only[List.map_map,List.mem_map,Function.comp_apply] at hx;obtain⟨y,hy,rfl⟩:=hx;obtain⟨i,hi,rfl⟩:=List.getElem_of_mem hy;obtain⟨cs,_,r⟩:=hel i hi;exact Nat.le_of_eq r.aJ
         omega
        refine .single (by simpa[jv] using hty) rfl rfl rfl ?_ rfl;rcases Nat.eq_zero_or_pos elems.length with h0|h0
        .have e0:elems=[]:=List.length_eq_zero_iff.1 h0;subst e0;have:len=0:=by simpa using g1.symm
         subst this;exact .slnil _ _
        .obtain⟨cs0,k1,k2⟩:=hel 0 h0;obtain⟨q1,q2⟩:=mG 0 cs0 k1;have q3:=q2 0 (by omega);simp only[Nat.zero_mul,Addr.add,if_true] at q3;obtain⟨s1,s2⟩:=Vp q3;obtain⟨ab,ao,asp⟩:=a;dsimp only at s1 s2;subst s1
         have anD:∀i j,((⟨ab,ao,none⟩:Addr).add (i*P.cellsOf e)).add j=⟨ab,ao+i*P.cellsOf e+j,none⟩:=λi j=>by unfold Addr.add;split<;>split<;>simp_all
         have xl:(qx (elems.map (·.1))).length=len:=by rw[nK];simp[g1]
         have xg:∀i (hi:i<(qx (elems.map (·.1))).length),∃iO:i<elems.length,(qx (elems.map (·.1)))[i]=jv elems[i].1:=λi hi=>by
          have iO:i<elems.length:=by omega
          refine⟨iO,?_⟩;simp[nK]
         have key:=RV.sl (φ:=φ) (nx:=nx) (pr:=pr) (w:=w) (qx (elems.map (·.1))) ab ao cap (P.cellsOf e) (λi j=>match w.cells? 0 ((⟨ab,ao,none⟩:Addr).add (i*P.cellsOf e)) (P.cellsOf e) with
          |some cs=>if i<len/\j<cs.length then cs.getD j default else default
          |none=>default) (mF ab s2) (by omega) wi (λi j=>?_) (λi hi=>?_) (λi j hi hj=>?_) λi hi j hj=>?_
         .rw[xl] at key;exact key
         .split
          .rename_i cs nQ;split
           .rename_i cY;obtain⟨iN,k1,r⟩:=hel i (by omega);rw[nQ] at k1;cases k1;exact r.one j cY.2
           .rfl
          .rfl
         .obtain⟨iO,e1⟩:=xg i hi;obtain⟨cs,k1,r⟩:=hel i iO;rw[e1,r.len,(mG i cs k1).1]
         .have iO:i<elems.length:=by omega
          obtain⟨cs,k1,r⟩:=hel i iO;obtain⟨c1,c2⟩:=mG i cs k1;rw[k1];dsimp only;rw[if_pos ⟨by omega,by omega⟩];have:=c2 j (by omega);rw[anD] at this;rw[this,List.getD_eq_getElem?_getD,List.getElem?_eq_getElem (by omega)];rfl
         .obtain⟨iO,e1⟩:=xg i hi;obtain⟨cs,k1,r⟩:=hel i iO
          have jC:j<cs.length:=by have:=r.abK;rw[<-e1] at this;omega
          rw[k1];dsimp only;rw[if_pos ⟨by omega,jC⟩];have:=r.rv j jC;rw[<-e1,List.getD_eq_getElem?_getD,List.getElem?_eq_getElem hj] at this;exact this
       .cases h
      all_goals (first|cases h|(rename_i q;cases q))
     case struct fs=>
      have htl:tiled P S fs.toList 0=some (P.cellsOf t):=by simpa using cT
      simp only[hu] at h
      .split at h
       .rename_i dI;obtain⟨xs,h1,h2⟩:=Option.map_eq_some_iff.1 h;cases h2;obtain⟨g1,g2,g3,g4,g5⟩:=Cx (φ:=φ) (nx:=nx) (pr:=pr) ih cs fs.toList xs 0 (P.cellsOf t) h1 htl (by omega)
        have e:jv (.agg (xs.map (·.1)))=.agg ((xs.map λx=>jv x.1).flatMap AV.cells):=by simp only[jv,zq,List.map_map];rfl
        rw[e];refine⟨.agg hu _ g2,?_,?_,λj hj=>?_,λj hj=>?_⟩
        .simp only[AV.cells?,Option.map_some,Option.some.injEq];omega
        .simpa[AV.aJ] using g4
        .have:=(g5 j (by omega)).1;rw[Nat.zero_add] at this;exact this
        .have:=(g5 j (by omega)).2;rw[Nat.zero_add] at this;exact this
       .cases h
     all_goals (simp at cT)
end
end
section
open Go.RowKit Go.ChangeShapes Go.WideShapes
variable {X:World->Prop}
variable {f base:Nat}{s:ChangeSpec}{apart fresh handsOn again:Bool}{before:List MemPlace}{fn:Func}
section
variable {H:Type}{enc:TypeId×Value->H}{P:Program}
theorem GO{f:Func}{W W':World}{args:Array Value}{v:Value}{ds gs:List (DataW H)}{pa pv:List MemPlace}
 (hW:DataW.Whole enc P f.params.toList s.vars apart W args.toList ds gs before)
 (Gs:∀(b:Nat) (sp:Nat->Bool) (hd:Bool),DataW.TrodAll enc P W' b sp hd f.resultTypes.toList (v.resultList f.resultTypes.size) (s.fn H (ds++gs)).results [])
 (kV:∀sp:Nat->Bool,(∀p∈before,sp p.block=true)->DataW.TrodAll enc P W' 0 sp true f.params.toList args.toList (s.fn H (ds++gs)).args pa)
 (Oa:∀sp:Nat->Bool,(∀p∈before,sp p.block=true)->DataW.TrodVars enc P W' sp s.vars (s.fn H (ds++gs)).vars pv)
 (AL:before=pa++pv) (hb:Below W.heap.size W W')
 (cT:∀(j:Nat) (t:TypeId) (r:Value),f.resultTypes[j]? =some t->(v.resultList f.resultTypes.size)[j]? =some r->Value.okWide P W' .any 0 t r):
 s.post enc P f apart fresh handsOn again W args v W':=by
 have cY:∀p∈before,p.block<W.heap.size:=λp hp=>hW.lt p hp
 have hold:∀p∈before,(λb=>decide (b<W.heap.size)) p.block=true:=λp hp=>by simpa using cY p hp
 refine⟨ds,gs,before,[],pa,pv,hW,Gs _ _ _,kV _ hold,Oa _ hold,World.keptBut_mono (λp hp=>⟨hp,?_⟩) (hb.frame (·∈before)),λ_=>?_⟩
 .rw[AL,List.mem_append] at hp;exact Or.inr hp
 .obtain⟨_,_,_,_,_,hz,hn⟩:=hW;refine⟨cT,_,_,([]++pa)++pv,⟨[]++pa,pv,trodAll_append (kV _ (λ_ _=>rfl)) (Gs _ _ _),Oa _ (λ_ _=>rfl),rfl,?_,?_⟩,?_⟩
  .intro b off hp;have AM:MemPlace.cell b off∈before:=by rw[AL];simpa using hp
   rw[hb.frozen (cY _ AM)];exact hz b off AM
  .intro ha;have:=hn ha;rw[AL] at this;simpa using this
  .intro p hp _;rw[AL];simpa using hp
def PB:eJ:=⟨λ_=>default,λ_=>False⟩
theorem Ro(id:Nat):¬live h0 id:=λ⟨o,hg,_⟩=>by simp[af.get,h0] at hg
theorem C5(w:World):HR PB h0 w:=⟨rfl,λid cs hg=>by simp[af.get,h0] at hg,λid es hg=>by simp[af.get,h0] at hg,λi j hi=>absurd hi (Ro i),λb hb=>hb.elim⟩
theorem Z8(w:World)(b:Nat)(hb:b<w.heap.size):Pr PB h0 w b:=⟨hb,λid hl=>absurd hl (Ro id),λh=>h⟩
theorem OC{t:TypeId}{v:AV}{cv:Value}{φ:eJ}{nx:Nat}{pr:Nat->Prop}{w:World}(hr:Read P φ nx pr w t v cv.cells.toList)(hv:Value.okWide P w .any base t cv):RV φ nx pr w v cv:=by
 cases hr.ty with
 |bool h b=>
   have h1:=hr.rv 0;have h2:=hr.len;cases cv<;>simp[AV.cells?,Value.cells] at h2 h1<;>try exact h1
   rename_i cs;simp[Value.okWide,h,Cell.okWide,Cell.ok] at hv
 |int h n hn=>
   have h1:=hr.rv 0;have h2:=hr.len;cases cv<;>simp[AV.cells?,Value.cells] at h2 h1<;>try exact h1
   rename_i cs;simp[Value.okWide,h,Cell.okWide,Cell.ok] at hv
 |str h s hs=>
   have h1:=hr.rv 0;have h2:=hr.len;cases cv<;>simp[AV.cells?,Value.cells] at h2 h1<;>try exact h1
   rename_i cs;simp[Value.okWide,h,Cell.okWide,Cell.ok] at hv
 |sl h xs hl hx=>
   have h1:=hr.rv 0;have h2:=hr.len;cases cv<;>simp[AV.cells?,Value.cells] at h2 h1<;>try exact h1
   rename_i cs;simp[Value.okWide,h,Cell.okWide,Cell.ok] at hv
 |agg h vs NX=>
   simp only[Value.okWide,h] at hv;obtain⟨cs,rfl,_⟩:=hv;refine .agg _ _ ?_ (λj=>?_) λj hj=>?_
   .have:=hr.abK;simpa[AV.cells,Value.cells] using this.symm
   .by_cases hj:j<cs.size
    .have:=hr.one j (by simpa[Value.cells] using hj);simpa[Value.cells,List.getD_eq_getElem?_getD,Array.getD_eq_getD_getElem?] using this
    .simp[Array.getD,hj];rfl
   .have hl:=hr.abK;have jC:j<(Value.agg cs).cells.toList.length:=by rw[<-hl];exact hj
    have:=hr.rv j jC;rw[List.getD_eq_getElem?_getD,List.getElem?_eq_getElem (by simpa[AV.cells] using hj)] at this;simpa[AV.cells,Value.cells,List.getD_eq_getElem?_getD,Array.getD_eq_getD_getElem?] using this
theorem Al{S:List TypeId}(hS:∀t∈S,X7 P S t=true){w:World}{base:Nat}{spare:Nat->Bool}:∀(ts:List TypeId) (vs:List Value) (ds:List (DataW H)) (ps:List MemPlace),DataW.TrodAll enc P w 0 spare true ts vs ds ps->(∀t∈ts,t∈S)->
 (∀(j:Nat) (t:TypeId) (v:Value),ts[j]? =some t->vs[j]? =some v->Value.okWide P w .any base t v)->
 wc P ts (ds.map jv)/\vs.length=ds.length/\AV.ah (ds.map jv)=0/\∀(j:Nat) (h:j<ds.length),fe PB h0 w (jv ds[j]) (vs.getD j default)
 |[],vs,ds,ps,h,_,_=>by obtain⟨rfl,rfl,rfl⟩:=trodAll_nil h;exact⟨.nil,rfl,rfl,λj h=>by simp at h⟩
 |t::ts,vs,ds,ps,h,hts,cT=>by
   obtain⟨v,vs',d,ds',p,q,rfl,rfl,rfl,⟨fuel,h1⟩,h2⟩:=trodAll_cons h;have hr:=Az (φ:=PB) (nx:=h0.next) (pr:=Pr PB h0 w) hS (Z8 w) fuel t _ d p (hts t (by simp)) h1;obtain⟨g1,g2,g3,g4⟩:=Al hS ts vs' ds' q h2 (λt ht=>hts t (by simp[ht])) λj t v h1 h2=>cT (j+1) t v h1 h2
   refine⟨.cons hr.ty g1,by simp[g2],by simp only[List.map_cons,AV.ah,g3,hr.aJ];rfl,λj hj=>?_⟩
   cases j with
   |zero=>exact OC hr (cT 0 t v rfl rfl)
   |succ j=>exact g4 j (by simpa using hj)
theorem L1(AU:P.funcs[f]? =some fn)(AQ:(fn.name== "runtime.NumGoroutine")=false)(wq:fn.body.isSome=true)(aV:Array Value)(w:World):(callFunc f aV).run P w=.ok (.enter f aV) w:=by
 obtain⟨c,hc⟩:=Option.isSome_iff_exists.1 wq;have eR:¬fn.name= "runtime.NumGoroutine" :=by simpa using AQ
 simp[callFunc,AU,eR,hc]
theorem FP(AU:P.funcs[f]? =some fn)(AQ:(fn.name== "runtime.NumGoroutine")=false)(wq:fn.body.isSome=true){S:List TypeId}(hS:(S.all λt=>X7 P S t&&P.readableRec t&&decide (t<P.types.size))=true)
 (anF:(fn.params.toList.all λt=>S.contains t)=true) {tb:TypeId} (htb:P.underlying tb=some .bool) (Gs:fn.resultTypes=#[tb]) (aj0:laidOutB P=true)
 (Oa:s.vars=[]) (agS:∀ds:List (DataW H),ds.length=fn.params.size->s.fn H ds={results:=[.lit (.bool true)],args:=ds})
  {W:World} {args:Array Value} {ds gs:List (DataW H)}
  (anG:wc P fn.params.toList (ds.map jv)->gD P X f (ds.map jv) (.bool true))
  (KB:∀(j:Nat) t v,fn.params[j]? =some t->args[j]? =some v->Value.okWide P W .any base t v)
  (hW:DataW.Whole enc P fn.params.toList s.vars apart W args.toList ds gs before) (hsh:W.ShapedOpen P) (hX:X W):
  Calls P f args W λe W'=>∃v,e=.returned v/\s.post enc P fn apart fresh handsOn again W args v W':=by
 have hS':∀t∈S,X7 P S t=true/\P.readableRec t=true/\t<P.types.size:=λt ht=>by have:=List.all_eq_true.1 hS t ht;simp only[Bool.and_eq_true,decide_eq_true_eq] at this;exact⟨this.1.1,this.1.2,this.2⟩
 have hp':∀t∈fn.params.toList,t∈S:=λt ht=>List.contains_iff_mem.1 (List.all_eq_true.1 anF t ht)
 have hW0:=hW;obtain⟨p,q,hA,hV,AL,ZE,N9⟩:=hW0;rw[Oa] at hV
 have hgq:gs=[]/\q=[]:=by
  cases gs with
  |nil=>exact⟨rfl,hV⟩
  |cons g r=>exact hV.elim
 obtain⟨rfl,rfl⟩:=hgq;have AL:before=p:=by rw[AL];simp
 subst AL;obtain⟨g1,g2,g3,g4⟩:=Al (base:=base) (λt ht=>(hS' t ht).1) fn.params.toList args.toList ds before hA hp' λj t v h1 h2=>KB j t v (by simpa using h1) (by simpa using h2)
 have hdl:ds.length=fn.params.size:=by
  have:∀(ts:List TypeId) (l:List AV),wc P ts l->l.length=ts.length:=by
   intro ts l h
   induction h with
   |nil=>rfl
   |cons _ _ ih=>simp[ih]
  have:=this _ _ g1;simpa using this
 have kV:kU PB h0 W (ds.map jv) args:=⟨by simpa using g2,λj hj=>by
  have jC:j<ds.length:=by simpa using hj
  have:=g4 j jC
  have e:args.toList.getD j default=args.getD j default:=by rw[List.getD_eq_getElem?_getD,Array.getD_eq_getD_getElem?];simp
  rw[e] at this;simpa using this⟩
 have agT:=L1 AU AQ wq args W;rcases anG g1 PB h0 W args (C5 W) ⟨W,⟨hsh,hX⟩,λb hb=>⟨hb,.inr (Z8 W b hb),rfl⟩⟩ kV with⟨_,hc⟩|⟨cv,w',e1,_⟩
 .refine hc.mono λe W' he=>?_
  obtain⟨cv,rfl,r1,r2,r3,r4⟩:=he;have hcv:=r1.gM;subst hcv;have hb:Below W.heap.size W W':=⟨r3.os,r3.tape,r3.output,r3.size,λb hb=>(r3.pr b (Z8 W b hb)).2⟩
  have cY:∀x∈before,x.block<W.heap.size:=λx hx=>hW.lt x hx
  have hsp:∀(sp:Nat->Bool),(∀x∈before,sp x.block=true)->∀(ts:List TypeId) (vs:List Value) (ds:List (DataW H)) (ps:List MemPlace),(∀t∈ts,t∈S)->(∀x∈ps,x∈before)->DataW.TrodAll enc P W 0 (λ_=>true) true ts vs ds ps->DataW.TrodAll enc P W' 0 sp true ts vs ds ps:=by
   intro sp hsp ts
   induction ts with
   |nil=>intro vs ds ps _ _ h;obtain⟨rfl,rfl,rfl⟩:=trodAll_nil h;rfl
   |cons t ts ih=>intro vs ds ps hts AM h;obtain⟨v,vs',d,ds',p,q,rfl,rfl,rfl,h1,h2⟩:=trodAll_cons h;refine⟨p,q,?_,ih vs' ds' q (λt ht=>hts t (by simp[ht])) (λx hx=>AM x (by simp[hx])) h2,rfl⟩;exact WideElems.Trod_stays aj0 (hS' t (hts t (by simp))).2.1 (hS' t (hts t (by simp))).2.2 h1 (λx hx=>hb.same (cY x (AM x (by simp[hx])))) (λx hx=>hsp x (AM x (by simp[hx])))
  refine⟨.bool true,rfl,GO (pa:=before) (pv:=[]) hW (λb sp hd=>?_) (λsp hs=>?_) (λsp _=>?_) (by simp) hb ?_⟩
  .rw[Gs,List.append_nil,agS ds hdl];exact trodAll_mk1 (shut_bool htb true)
  .rw[List.append_nil,agS ds hdl];exact hsp sp hs _ _ _ _ hp' (λx hx=>hx) hA
  .rw[Oa,List.append_nil,agS ds hdl];rfl
  .exact ok_one Gs rfl (okWide_bool_mk htb true)
 .rw[agT] at e1;cases e1
end
end
section
section
variable {P:Program}{t e:TypeId}{v:AV}
theorem Oz(hu:P.underlying t=some .string)(h:lH P t v):∃s:List UInt8,v=.str s/\s.length<=maxLen:=by
 cases h with
 |str h s hs=>exact⟨s,rfl,hs⟩
 |bool h=>rw[hu] at h;cases h
 |int h=>rw[hu] at h;cases h
 |sl h=>rw[hu] at h;cases h
 |agg h=>rw[hu] at h;cases h
theorem aeA{k:IntKind}(hu:P.underlying t=some (.int k))(h:lH P t v):∃n:Int,v=.int k n/\(Lit.int k n).wf=true:=by
 cases h with
 |int h n hn=>rw[hu] at h;cases h;exact⟨n,rfl,hn⟩
 |str h=>rw[hu] at h;cases h
 |bool h=>rw[hu] at h;cases h
 |sl h=>rw[hu] at h;cases h
 |agg h=>rw[hu] at h;cases h
theorem Qs(hu:P.underlying t=some (.int .i64))(h:lH P t v):∃n:Int,v=.int .i64 n/\-9223372036854775808<=n/\n<9223372036854775808:=by obtain⟨n,rfl,hn⟩:=aeA hu h;refine⟨n,rfl,?_⟩;have e:IntKind.i64.min=-9223372036854775808:=rfl;simp[Lit.wf] at hn;rw[e] at hn;omega
theorem adB(hu:P.underlying t=some (.slice e))(h:lH P t v):∃xs:List AV,v=.sl xs/\xs.length<=maxLen/\∀x∈xs,lH P e x:=by
 cases h with
 |sl h xs hl hx=>rw[hu] at h;cases h;exact⟨xs,rfl,hl,hx⟩
 |str h=>rw[hu] at h;cases h
 |bool h=>rw[hu] at h;cases h
 |int h=>rw[hu] at h;cases h
 |agg h=>rw[hu] at h;cases h
theorem XF{fs:Array Field}(hu:P.underlying t=some (.struct fs))(h:lH P t v):∃vs:List AV,v=.agg (vs.flatMap AV.cells)/\Bs P fs.toList vs:=by
 cases h with
 |agg h vs hv=>rw[hu] at h;cases h;exact⟨vs,rfl,hv⟩
 |str h=>rw[hu] at h;cases h
 |bool h=>rw[hu] at h;cases h
 |int h=>rw[hu] at h;cases h
 |sl h=>rw[hu] at h;cases h
theorem O6{α:Type}{f:α->AV}:∀{xs:List AV},(∀x∈xs,∃a,x=f a)->∃l:List α,xs=l.map f
 |[],_=>⟨[],rfl⟩
 |x::r,h=>by
   obtain⟨a,rfl⟩:=h x (by simp);obtain⟨l,rfl⟩:=O6 (xs:=r) λy hy=>h y (by simp[hy])
   exact⟨a::l,rfl⟩
theorem KT{H:Type}{enc:TypeId×Value->H}{ts:List TypeId}{vars:List String}(hv:vars=[]){apart:Bool}{W:World}{vs:List Value}{ds gs:List (DataW H)}{before:List MemPlace}(h:DataW.Whole enc P ts vars apart W vs ds gs before):gs=[]:=by
 obtain⟨p,q,hA,hV,_⟩:=h;rw[hv] at hV
 cases gs with
 |nil=>rfl
 |cons g r=>exact hV.elim
end
end
section
open Go.RowKit
variable {X:World->Prop}
variable {φ:eJ}{h:af}{nx f:Nat}{s r p:List UInt8}{args:List AV}{aV:Array Value}{x:AV}
section
variable {P:Program}
theorem ir.shaped{w:World}(g:ir P X φ h w):w.ShapedOpen P:=by
 obtain⟨w1,h1,h2⟩:=g;have h3:({w1 with os:=w.os,output:=w.output}:World).ShapedOpen P:=World.ShapedOpen.of_heap rfl h1.1;refine World.ShapedOpen.keptBut (may:=λ_=>False) h3 ⟨rfl,rfl,λi hi=>?_⟩ λp hp=>hp.elim
 have e:=(h2 i hi).2.2
 show match w1.heap[i]?,w.heap[i]? with
  |some (.cells c t fr),some (.cells c' t' de)=>_
  |some (.map es clock),some (.map uW clock')=>_
  |o,o'=>_
 rw[e]
 cases w1.heap[i]? with
 |none=>rfl
 |some o=>cases o<;>simp
theorem fS{pr:Nat->Prop}{w:World}{cv:Value}(h:RV φ nx pr w (.str s) cv):cv=.string ⟨s.toArray⟩:=by obtain⟨b,rfl,rfl⟩:=h.fS;simp
theorem RV.Y0{pr:Nat->Prop}{w:World}(s:List UInt8):RV φ nx pr w (.str s) (.string ⟨s.toArray⟩):=RV.yi (by simp)
theorem Xf{w:World}(ha:kU φ h w args aV):aV.toList.length=args.length/\∀j (hj:j<args.length),fe φ h w args[j] (aV.toList.getD j default):=by
 refine⟨by simpa using ha.1,λj hj=>?_⟩;have:=ha.2 j hj
 have e:aV.toList.getD j default=aV.getD j default:=by rw[List.getD_eq_getElem?_getD,Array.getD_eq_getD_getElem?];simp
 rw[e];exact this
theorem EV{w:World}(ha:kU φ h w [x] aV):∃cx,aV=#[cx]/\fe φ h w x cx:=by
 obtain⟨h1,h2⟩:=Xf ha;obtain⟨l⟩:=aV
 match l,h1 with
 |[cx],_=>exact⟨cx,rfl,h2 0 (by simp)⟩
theorem ov{w:World}{y:AV}(ha:kU φ h w [x,y] aV):∃cx cy,aV=#[cx,cy]/\fe φ h w x cx/\fe φ h w y cy:=by
 obtain⟨h1,h2⟩:=Xf ha;obtain⟨l⟩:=aV
 match l,h1 with
 |[cx,cy],_=>exact⟨cx,cy,rfl,h2 0 (by simp),h2 1 (by simp)⟩
theorem kv{v:AV}(yN:∀aV w,(callFunc f aV).run P w=.ok (.enter f aV) w)
 (hc:∀φ h w aV,HR φ h w->ir P X φ h w->kU φ h w args aV->Calls P f aV w λe w'=>Below w.heap.size w w'/\∃cv,e=.returned cv/\fe φ h w' v cv):gD P X f args v:=by
 intro φ h w aV hr hG ha;refine .inl ⟨yN _ _,(hc φ h w aV hr hG ha).mono λe w' ⟨hb,cv,he,hv⟩=>?_⟩;obtain⟨s1,s2⟩:=Jf hr hb.os hb.tape hb.output hb.size hb.block;exact⟨cv,he,hv,s1,s2,hb.block⟩
theorem Iq(yN:∀aV w,(callFunc f aV).run P w=.ok (.enter f aV) w)
 (hc:∀w,w.ShapedOpen P->Calls P f #[.string ⟨s.toArray⟩,.string ⟨p.toArray⟩] w λe w'=>e=.returned (.string ⟨r.toArray⟩)/\Below w.heap.size w w'):gD P X f [.str s,.str p] (.str r):=
 kv yN λφ h w aV hr hG ha=>by obtain⟨cx,cy,rfl,h1,h2⟩:=ov ha;rw[fS h1,fS h2];exact (hc w hG.shaped).mono λe w' ⟨he,hb⟩=>⟨hb,_,he,.Y0 r⟩
theorem T5{r:Bool}(yN:∀aV w,(callFunc f aV).run P w=.ok (.enter f aV) w)
 (hc:∀w,w.ShapedOpen P->Calls P f #[.string ⟨s.toArray⟩,.string ⟨p.toArray⟩] w λe w'=>e=.returned (.bool r)/\Below w.heap.size w w'):gD P X f [.str s,.str p] (.bool r):=
 kv yN λφ h w aV hr hG ha=>by obtain⟨cx,cy,rfl,h1,h2⟩:=ov ha;rw[fS h1,fS h2];exact (hc w hG.shaped).mono λe w' ⟨he,hb⟩=>⟨hb,_,he,.bool r⟩
theorem U0{xs:List (List UInt8)}(yN:∀aV w,(callFunc f aV).run P w=.ok (.enter f aV) w)
 (h0:xs=[]->∀a c w,Calls P f #[.slice a 0 c,.string ⟨p.toArray⟩] w λe w'=>e=.returned (.string ⟨r.toArray⟩)/\Below w.heap.size w w')
 (h1:∀bk o c (w:World),(∀(j:Nat) x,(xs.map λx=>(⟨x.toArray⟩:ByteArray))[j]? =some x->w.cell? ⟨bk,o+j,none⟩=some (.string x))->bk<w.heap.size->xs.length<=c->
  Calls P f #[.slice (some ⟨bk,o,none⟩) xs.length c,.string ⟨p.toArray⟩] w λe w'=>e=.returned (.string ⟨r.toArray⟩)/\Below w.heap.size w w'):
 gD P X f [.sl (xs.map .str),.str p] (.str r)/\(xs=[]->gD P X f [.aF,.str p] (.str r)):=by
 refine⟨kv yN λφ h w aV hr hG ha=>?_,λhx=>kv yN λφ h w aV hr hG ha=>?_⟩
 .obtain⟨cx,cy,rfl,g1,g2⟩:=ov ha;rw[fS g2];have hl:(xs.map AV.str).length=xs.length:=by simp
  rcases g1.tU with⟨ad,cap,e1,rfl⟩|⟨b,o,cap,sz,vs,rfl,hp,kI,_,_,iE,mG,hv⟩
  .exact (h0 (by simpa using e1) ad cap w).mono λe w' ⟨he,hb⟩=>⟨hb,_,he,.Y0 r⟩
  .rw[hl] at kI|-;refine (h1 b o cap w (λj x hj=>?_) hp.1 kI).mono λe w' ⟨he,hb⟩=>⟨hb,_,he,.Y0 r⟩
   have jC:j<xs.length:=by have:=(List.getElem?_eq_some_iff.1 hj).1;simpa using this
   have DO:j<(xs.map AV.str).length:=by simpa using jC
   have h3:=iE j DO;simp[AV.cells?] at h3;subst h3;have h4:=mG j 0 DO (by omega);have h5:=hv j DO 0 (by simp[AV.cells]);simp only[List.getElem_map,AV.cells,List.getElem_cons_zero] at h5;rw[fS h5] at h4;simp only[Nat.mul_one,Nat.add_zero] at h4;rw[h4];simp[jC] at hj;rw[hj]
 .obtain⟨cx,cy,rfl,g1,g2⟩:=ov ha;rw[fS g2];obtain⟨ad,rfl⟩:=g1.nh;exact (h0 hx ad 0 w).mono λe w' ⟨he,hb⟩=>⟨hb,_,he,.Y0 r⟩
end
end
end Sz
