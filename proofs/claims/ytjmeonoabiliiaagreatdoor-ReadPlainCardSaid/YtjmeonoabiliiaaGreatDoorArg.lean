import Derived.Test.YtjmeonoabiliiaaGreatDoorSz3
import Derived.ProofKit
import Derived.Handed
import Derived.Below
import Derived.ChangeSame
import Derived.ChangeAgain
set_option linter.all false
set_option maxHeartbeats 16000000
set_option maxRecDepth 100000
namespace Sz
open Go
section
open Go.RowKit Go.ChangeShapes Go.WideShapes
section
variable {H:Type}
mutual
def oD:DataW H->AV
 |.lit (.bool b)=>.bool b
 |.lit (.int k n)=>.int k n
 |.lit (.string s)=>.str s
 |.slice elems _=>.sl (tX elems)
 |.agg parts=>.agg (xQ parts)
 |.nil=>.sl []
 |_=>.undef
def tX:List (DataW H)->List AV
 |[]=>[]
 |d::r=>oD d::tX r
def xQ:List (DataW H)->List AV
 |[]=>[]
 |d::r=>(oD d).cells++xQ r
end
theorem oV:∀l:List (DataW H),tX l=l.map oD
 |[]=>rfl
 |d::r=>by simp[tX,oV r]
theorem x7:∀l:List (DataW H),xQ l=(l.map oD).flatMap AV.cells
 |[]=>rfl
 |d::r=>by simp[xQ,x7 r]
end
mutual
inductive tB (P:Program):TypeId->AV->Prop
 |bool {t:TypeId} (h:P.underlying t=some .bool) (b:Bool):tB P t (.bool b)
 |int {t:TypeId} {k:IntKind} (h:P.underlying t=some (.int k)) (n:Int) (hn:(Lit.int k n).wf=true):tB P t (.int k n)
 |str {t:TypeId} (h:P.underlying t=some .string) (s:List UInt8) (hs:s.length<=maxLen):tB P t (.str s)
 |sl {t e:TypeId} (h:P.underlying t=some (.slice e)) (xs:List AV) (hl:xs.length<=maxLen) (hx:∀x∈xs,tB P e x):tB P t (.sl xs)
 |agg {t:TypeId} {fs:Array Field} (h:P.underlying t=some (.struct fs)) (vs:List AV) (hv:Dy P fs.toList vs):tB P t (.agg (vs.flatMap AV.cells))
inductive Dy (P:Program):List Field->List AV->Prop
 |nil:Dy P [] []
 |cons {f:Field} {r:List Field} {v:AV} {vs:List AV} (h:tB P f.type v) (hr:Dy P r vs):Dy P (f::r) (v::vs)
end
inductive xy (P:Program):List TypeId->List AV->Prop
 |nil:xy P [] []
 |cons {t:TypeId} {r:List TypeId} {v:AV} {vs:List AV} (h:tB P t v) (hr:xy P r vs):xy P (t::r) (v::vs)
def tiled(P:Program)(S:List TypeId):List Field->Nat->Option Nat
 |[],n=>some n
 |f::r,n=>if f.offset=n/\S.contains f.type=true then tiled P S r (n+P.cellsOf f.type) else none
def UX(P:Program)(S:List TypeId)(t:TypeId):Bool:=
 match P.underlying t with
 |some .bool=>true
 |some (.int _)=>true
 |some .string=>true
 |some (.slice e)=>S.contains e&&P.cellsOf e !=0
 |some (.struct fs)=>tiled P S fs.toList 0==some (P.cellsOf t)
 |_=>false
theorem Cv{α β:Type}{f:α->Option β}:∀{l:List α} {r:List β},l.mapM f=some r->r.length=l.length/\∀(i:Nat) (h:i<l.length) (h':i<r.length),f l[i]=some r[i]
 |[],r,h=>by simp only[List.mapM_nil,Option.pure_def,Option.some.injEq] at h;subst h;exact⟨rfl,λi h=>by simp at h⟩
 |x::l,r,h=>by
   simp only[List.mapM_cons,Option.pure_def,Option.bind_eq_bind,Option.bind_eq_some_iff] at h;obtain⟨y,hy,s,hs,e⟩:=h;cases e;obtain⟨g1,g2⟩:=Cv hs;refine⟨by simp[g1],λi h h'=>?_⟩
   cases i with
   |zero=>exact hy
   |succ i=>exact g2 i (by simpa using h) (by simpa using h')
section
variable {H:Type}{enc:TypeId×Value->H}{P:Program}{w:World}{φ:eL}{nx:Nat}{pr:Nat->Prop}
theorem su{v:AV}{cs:List AV}(h:v.cells? =some cs):v.cells=cs:=by cases v<;>simp[AV.cells?] at h<;>subst h<;>rfl
structure Read(P:Program)(φ:eL)(nx:Nat)(pr:Nat->Prop)(w:World)(t:TypeId)(v:AV)(cs:List Value):Prop where
 ty:tB P t v
 len:v.cells?.map List.length=some cs.length
 aK:v.aK=0
 rv:∀j,j<cs.length->RV φ nx pr w (v.cells.getD j .undef) (cs.getD j default)
 one:∀j,j<cs.length->(cs.getD j default).oneCell'=true
theorem Read.single{t:TypeId}{v:AV}{c:Value}(ty:tB P t v)(hc:v.cells=[v])(Oe:v.cells? =some [v])(hr:v.aK=0)(h:RV φ nx pr w v c)(h1:c.oneCell'=true):Read P φ nx pr w t v [c]:=
 ⟨ty,by rw[Oe];rfl,hr,λj hj=>by
  have:j=0:=by simpa using hj
  subst this;rw[hc];exact h,λj hj=>by
  have:j=0:=by simpa using hj
  subst this;exact h1⟩
theorem Read.Zc{t:TypeId}{v:AV}{cs:List Value}(h:Read P φ nx pr w t v cs):v.cells.length=cs.length:=by obtain⟨l,hl,e⟩:=Option.map_eq_some_iff.1 h.len;rw[su hl,e]
theorem JK{v:AV}{cs:List Value}{t:TypeId}(h:Read P φ nx pr w t v cs):AV.aw v.cells=0:=by obtain⟨l,hl,_⟩:=Option.map_eq_some_iff.1 h.len;rw[su hl,rX hl];exact h.aK
theorem Bp{S:List TypeId}{fuel:Nat}{spare:Nat->Bool}(ih:∀t cs d ps,t∈S->DataW.trod enc P w 0 spare true fuel t cs=some (d,ps)->Read P φ nx pr w t (oD d) cs)(cs:List Value):
 ∀(fs:List Field) (xs:List (DataW H×List MemPlace)) (n m:Nat),fs.mapM (λf=>DataW.trod enc P w 0 spare true fuel f.type ((cs.drop f.offset).take (P.cellsOf f.type)))=some xs->tiled P S fs n=some m->m<=cs.length->
   n<=m/\Dy P fs (xs.map λx=>oD x.1)/\((xs.map λx=>oD x.1).flatMap AV.cells).length=m-n/\AV.aw ((xs.map λx=>oD x.1).flatMap AV.cells)=0/\
   ∀j,n+j<m->RV φ nx pr w (((xs.map λx=>oD x.1).flatMap AV.cells).getD j .undef) (cs.getD (n+j) default)/\(cs.getD (n+j) default).oneCell'=true
 |[],xs,n,m,h,ht,hm=>by simp only[List.mapM_nil,Option.pure_def,Option.some.injEq] at h;subst h;simp only[tiled,Option.some.injEq] at ht;subst ht;exact⟨Nat.le_refl _,.nil,by simp,by simp[AV.aw],λj hj=>by omega⟩
 |f::fs,xs,n,m,h,ht,hm=>by
   simp only[List.mapM_cons,Option.pure_def,Option.bind_eq_bind,Option.bind_eq_some_iff] at h;obtain⟨y,hy,ys,hys,e⟩:=h;cases e;simp only[tiled] at ht;split at ht
   .rename_i hc;obtain⟨rfl,hS⟩:=hc;obtain⟨g1,g2,g3,g4,g5⟩:=Bp ih cs fs ys _ m hys ht hm;have r:=ih f.type _ y.1 y.2 (List.contains_iff_mem.1 hS) hy;have hl:((cs.drop f.offset).take (P.cellsOf f.type)).length=P.cellsOf f.type:=by simp;omega
    have rl:=r.Zc;rw[hl] at rl;refine⟨by omega,.cons r.ty g2,?_,?_,λj hj=>?_⟩
    .simp only[List.map_cons,List.flatMap_cons,List.length_append,rl,g3];omega
    .simp only[List.map_cons,List.flatMap_cons,Ii,g4,JK r];rfl
    .simp only[List.map_cons,List.flatMap_cons];by_cases I6:j<P.cellsOf f.type
     .have q1:=r.rv j (by omega);have q2:=r.one j (by omega)
      have e1:((cs.drop f.offset).take (P.cellsOf f.type)).getD j default=cs.getD (f.offset+j) default:=by rw[List.getD_eq_getElem?_getD,List.getD_eq_getElem?_getD,List.getElem?_take,if_pos I6,List.getElem?_drop]
      rw[e1] at q1 q2;refine⟨?_,q2⟩;rw[List.getD_eq_getElem?_getD,List.getElem?_append_left (by omega),<-List.getD_eq_getElem?_getD];exact q1
     .have q:=g5 (j-P.cellsOf f.type) (by omega);rw[show f.offset+P.cellsOf f.type+(j-P.cellsOf f.type)=f.offset+j by omega] at q;refine⟨?_,q.2⟩;rw[List.getD_eq_getElem?_getD,List.getElem?_append_right (by omega),rl,<-List.getD_eq_getElem?_getD];exact q.1
   .cases ht
theorem Sr{a:Addr}{v:Value}(h:w.cell? a=some v):a.spot=none/\a.block<w.heap.size:=by
 unfold World.cell? at h;split at h
 .rename_i c x y hx;split at h
  .cases h
  .rename_i hs;refine⟨by simpa using hs,?_⟩;exact (Array.getElem?_eq_some_iff.1 hx).1
 .cases h
theorem yX{S:List TypeId}(hS:∀t∈S,UX P S t=true)(SF:∀b,b<w.heap.size->pr b){spare:Nat->Bool}:
 ∀fuel t cs d ps,t∈S->DataW.trod enc P w 0 spare true fuel t cs=some (d,ps)->Read P φ nx pr w t (oD d) cs
 |0,t,cs,d,ps,_,h=>by simp[DataW.trod] at h
 |fuel+1,t,cs,d,ps,ht,h=>by
   have ih:=yX hS SF (spare:=spare) fuel;have bV:=hS t ht;unfold UX at bV;unfold DataW.trod at h
   cases hu:P.underlying t with
   |none=>rw[hu] at bV;cases bV
   |some u=>
     rw[hu] at bV;cases u
     case bool=>
      simp only[hu] at h;split at h<;>rename_i hx<;>try cases hx
      .rename_i b;cases h;exact .single (.bool hu b) rfl rfl rfl (.bool b) rfl
      all_goals (first|cases h|(rename_i q;cases q))
     case int k=>
      simp only[hu] at h;split at h<;>rename_i hx<;>try cases hx
      .rename_i k' n;split at h
       .rename_i hc;obtain⟨rfl,ER⟩:=hc;cases h;exact .single (.int hu n ER) rfl rfl rfl (.int _ n) rfl
       .cases h
      all_goals (first|cases h|(rename_i q;cases q))
     case string=>
      simp only[hu] at h;split at h<;>rename_i hx<;>try cases hx
      .rename_i s;split at h
       .rename_i hs;cases h;exact .single (.str hu _ (by simpa using hs)) rfl rfl rfl (.str s) rfl
       .cases h
      all_goals (first|cases h|(rename_i q;cases q))
     case slice e=>
      simp only[Bool.and_eq_true] at bV;obtain⟨he,fy⟩:=bV;have he':e∈S:=List.contains_iff_mem.1 he;have SO:P.cellsOf e≠0:=by simpa using fy
      simp only[hu] at h;split at h<;>rename_i hx<;>try cases hx
      .cases h;exact .single (.sl hu [] (by simp) λx hx=>by cases hx) rfl rfl rfl (.slnil none 0) rfl
      .rename_i a len cap;split at h
       .rename_i hc;obtain⟨elems,h1,h2⟩:=Option.bind_eq_some_iff.1 h;obtain⟨rest,h3,h4⟩:=Option.map_eq_some_iff.1 h2;cases h4;obtain⟨g1,g2⟩:=Cv h1;simp only[List.length_range] at g1
        have hel:∀i (hi:i<elems.length),∃cs,w.cells? 0 (a.add (i*P.cellsOf e)) (P.cellsOf e)=some cs/\Read P φ nx pr w e (oD elems[i].1) cs:=λi hi=>by have:=g2 i (by simpa using (by omega)) hi;rw[List.getElem_range] at this;obtain⟨cs,k1,k2⟩:=Option.bind_eq_some_iff.1 this;exact⟨cs,k1,ih e cs _ _ he' k2⟩
        have nh:∀i (cs:List Value),w.cells? 0 (a.add (i*P.cellsOf e)) (P.cellsOf e)=some cs->cs.length=P.cellsOf e/\∀j (hj:j<cs.length),w.cell? ((a.add (i*P.cellsOf e)).add j)=some cs[j]:=λi cs oC=>by unfold World.cells? at oC;rw[if_pos (Nat.zero_le _)] at oC;obtain⟨k1,k2⟩:=Cv oC;simp only[List.length_range] at k1;refine⟨k1,λj hj=>?_⟩;have:=k2 j (by simpa using (by omega)) hj;rwa[List.getElem_range] at this
        have hty:tB P t (.sl (tX (elems.map (·.1)))):=by
         refine .sl hu _ ?_ λx hx=>?_
         .rw[oV];simp;omega
         .rw[oV] at hx;simp only[List.map_map,List.mem_map,Function.comp_apply] at hx;obtain⟨y,hy,rfl⟩:=hx;obtain⟨i,hi,rfl⟩:=List.getElem_of_mem hy;obtain⟨cs,_,r⟩:=hel i hi;exact r.ty
        have wi:AV.aw (tX (elems.map (·.1)))=0:=by
         have:AV.aw (tX (elems.map (·.1)))<=0:=AV.kI λx hx=>by rw[oV] at hx;simp only[List.map_map,List.mem_map,Function.comp_apply] at hx;obtain⟨y,hy,rfl⟩:=hx;obtain⟨i,hi,rfl⟩:=List.getElem_of_mem hy;obtain⟨cs,_,r⟩:=hel i hi;exact Nat.le_of_eq r.aK
         omega
        refine .single (by simpa[oD] using hty) rfl rfl rfl ?_ rfl;rcases Nat.eq_zero_or_pos elems.length with h0|h0
        .have e0:elems=[]:=List.length_eq_zero_iff.1 h0;subst e0;have:len=0:=by simpa using g1.symm
         subst this;exact .slnil _ _
        .obtain⟨cs0,k1,k2⟩:=hel 0 h0;obtain⟨q1,q2⟩:=nh 0 cs0 k1;have q3:=q2 0 (by omega);simp only[Nat.zero_mul,Addr.add,if_true] at q3;obtain⟨s1,s2⟩:=Sr q3;obtain⟨ab,ao,asp⟩:=a;dsimp only at s1 s2;subst s1
         have akN:∀i j,((⟨ab,ao,none⟩:Addr).add (i*P.cellsOf e)).add j=⟨ab,ao+i*P.cellsOf e+j,none⟩:=λi j=>by unfold Addr.add;split<;>split<;>simp_all
         have xl:(tX (elems.map (·.1))).length=len:=by rw[oV];simp[g1]
         have xg:∀i (hi:i<(tX (elems.map (·.1))).length),∃jE:i<elems.length,(tX (elems.map (·.1)))[i]=oD elems[i].1:=λi hi=>by
          have jE:i<elems.length:=by omega
          refine⟨jE,?_⟩;simp[oV]
         have key:=RV.sl (φ:=φ) (nx:=nx) (pr:=pr) (w:=w) (tX (elems.map (·.1))) ab ao cap (P.cellsOf e) (λi j=>match w.cells? 0 ((⟨ab,ao,none⟩:Addr).add (i*P.cellsOf e)) (P.cellsOf e) with
          |some cs=>if i<len/\j<cs.length then cs.getD j default else default
          |none=>default) (SF ab s2) (by omega) wi (λi j=>?_) (λi hi=>?_) (λi j hi hj=>?_) λi hi j hj=>?_
         .rw[xl] at key;exact key
         .split
          .rename_i cs oC;split
           .rename_i cR;obtain⟨jt,k1,r⟩:=hel i (by omega);rw[oC] at k1;cases k1;exact r.one j cR.2
           .rfl
          .rfl
         .obtain⟨jE,e1⟩:=xg i hi;obtain⟨cs,k1,r⟩:=hel i jE;rw[e1,r.len,(nh i cs k1).1]
         .have jE:i<elems.length:=by omega
          obtain⟨cs,k1,r⟩:=hel i jE;obtain⟨c1,c2⟩:=nh i cs k1;rw[k1];dsimp only;rw[if_pos ⟨by omega,by omega⟩];have:=c2 j (by omega);rw[akN] at this;rw[this,List.getD_eq_getElem?_getD,List.getElem?_eq_getElem (by omega)];rfl
         .obtain⟨jE,e1⟩:=xg i hi;obtain⟨cs,k1,r⟩:=hel i jE
          have kP:j<cs.length:=by have:=r.Zc;rw[<-e1] at this;omega
          rw[k1];dsimp only;rw[if_pos ⟨by omega,kP⟩];have:=r.rv j kP;rw[<-e1,List.getD_eq_getElem?_getD,List.getElem?_eq_getElem hj] at this;exact this
       .cases h
      all_goals (first|cases h|(rename_i q;cases q))
     case struct fs=>
      have htl:tiled P S fs.toList 0=some (P.cellsOf t):=by simpa using bV
      simp only[hu] at h
      .split at h
       .rename_i fZ;obtain⟨xs,h1,h2⟩:=Option.map_eq_some_iff.1 h;cases h2;obtain⟨g1,g2,g3,g4,g5⟩:=Bp (φ:=φ) (nx:=nx) (pr:=pr) ih cs fs.toList xs 0 (P.cellsOf t) h1 htl (by omega)
        have e:oD (.agg (xs.map (·.1)))=.agg ((xs.map λx=>oD x.1).flatMap AV.cells):=by simp only[oD,x7,List.map_map];rfl
        rw[e];refine⟨.agg hu _ g2,?_,?_,λj hj=>?_,λj hj=>?_⟩
        .simp only[AV.cells?,Option.map_some,Option.some.injEq];omega
        .simpa[AV.aK] using g4
        .have:=(g5 j (by omega)).1;rw[Nat.zero_add] at this;exact this
        .have:=(g5 j (by omega)).2;rw[Nat.zero_add] at this;exact this
       .cases h
     all_goals (simp at bV)
end
end
section
open Go.RowKit Go.ChangeShapes Go.WideShapes
variable {X:World->Prop}
section
variable {H:Type}{enc:TypeId×Value->H}{P:Program}
theorem E8{f:Func}{s:ChangeSpec}{apart fresh handsOn again:Bool}{W W':World}{args:Array Value}{v:Value}{ds gs:List (DataW H)}{before pa pv:List MemPlace}
 (hW:DataW.Whole enc P f.params.toList s.vars apart W args.toList ds gs before)
 (ES:∀(b:Nat) (sp:Nat->Bool) (hd:Bool),DataW.TrodAll enc P W' b sp hd f.resultTypes.toList (v.resultList f.resultTypes.size) (s.fn H (ds++gs)).results [])
 (nX:∀sp:Nat->Bool,(∀p∈before,sp p.block=true)->DataW.TrodAll enc P W' 0 sp true f.params.toList args.toList (s.fn H (ds++gs)).args pa)
 (LL:∀sp:Nat->Bool,(∀p∈before,sp p.block=true)->DataW.TrodVars enc P W' sp s.vars (s.fn H (ds++gs)).vars pv)
 (zd:before=pa++pv) (hb:Below W.heap.size W W')
 (bV:∀(j:Nat) (t:TypeId) (r:Value),f.resultTypes[j]? =some t->(v.resultList f.resultTypes.size)[j]? =some r->Value.okWide P W' .any 0 t r):
 s.post enc P f apart fresh handsOn again W args v W':=by
 have cR:∀p∈before,p.block<W.heap.size:=λp hp=>hW.lt p hp
 have hold:∀p∈before,(λb=>decide (b<W.heap.size)) p.block=true:=λp hp=>by simpa using cR p hp
 refine⟨ds,gs,before,[],pa,pv,hW,ES _ _ _,nX _ hold,LL _ hold,World.keptBut_mono (λp hp=>⟨hp,?_⟩) (hb.frame (·∈before)),λ_=>?_⟩
 .rw[zd,List.mem_append] at hp;exact Or.inr hp
 .obtain⟨_,_,_,_,_,hz,hn⟩:=hW;refine⟨bV,_,_,([]++pa)++pv,⟨[]++pa,pv,trodAll_append (nX _ (λ_ _=>rfl)) (ES _ _ _),LL _ (λ_ _=>rfl),rfl,?_,?_⟩,?_⟩
  .intro b off hp;have A0:MemPlace.cell b off∈before:=by rw[zd];simpa using hp
   rw[hb.frozen (cR _ A0)];exact hz b off A0
  .intro ha;have:=hn ha;rw[zd] at this;simpa using this
  .intro p hp _;rw[zd];simpa using hp
def Nf:eL:=⟨λ_=>default,λ_=>False⟩
theorem O5(id:Nat):¬live h0 id:=λ⟨o,hg,_⟩=>by simp[ai.get,h0] at hg
theorem ZF(w:World):HR Nf h0 w:=⟨rfl,λid cs hg=>by simp[ai.get,h0] at hg,λid es hg=>by simp[ai.get,h0] at hg,λi j hi=>absurd hi (O5 i),λb hb=>hb.elim⟩
theorem Xm(w:World)(b:Nat)(hb:b<w.heap.size):Pr Nf h0 w b:=⟨hb,λid hl=>absurd hl (O5 id),λh=>h⟩
theorem Me{t:TypeId}{v:AV}{cv:Value}{φ:eL}{nx:Nat}{pr:Nat->Prop}{w:World}{base:Nat}(hr:Read P φ nx pr w t v cv.cells.toList)(hv:Value.okWide P w .any base t cv):RV φ nx pr w v cv:=by
 cases hr.ty with
 |bool h b=>
   have h1:=hr.rv 0;have h2:=hr.len;cases cv<;>simp[AV.cells?,Value.cells] at h2 h1<;>try exact h1
   rename_i cs;simp[Value.okWide,h,Cell.okWide,Cell.ok] at hv
 |int h n hn=>
   have h1:=hr.rv 0;have h2:=hr.len;cases cv<;>simp[AV.cells?,Value.cells] at h2 h1<;>try exact h1
   rename_i cs;simp[Value.okWide,h,Cell.okWide,Cell.ok] at hv
 |str h s hs=>
   have h1:=hr.rv 0;have h2:=hr.len;cases cv<;>simp[AV.cells?,Value.cells] at h2 h1<;>try exact h1
   rename_i cs;simp[Value.okWide,h,Cell.okWide,Cell.ok] at hv
 |sl h xs hl hx=>
   have h1:=hr.rv 0;have h2:=hr.len;cases cv<;>simp[AV.cells?,Value.cells] at h2 h1<;>try exact h1
   rename_i cs;simp[Value.okWide,h,Cell.okWide,Cell.ok] at hv
 |agg h vs LB=>
   simp only[Value.okWide,h] at hv;obtain⟨cs,rfl,_⟩:=hv;refine .agg _ _ ?_ (λj=>?_) λj hj=>?_
   .have:=hr.Zc;simpa[AV.cells,Value.cells] using this.symm
   .by_cases hj:j<cs.size
    .have:=hr.one j (by simpa[Value.cells] using hj);simpa[Value.cells,List.getD_eq_getElem?_getD,Array.getD_eq_getD_getElem?] using this
    .simp[Array.getD,hj];rfl
   .have hl:=hr.Zc;have kP:j<(Value.agg cs).cells.toList.length:=by rw[<-hl];exact hj
    have:=hr.rv j kP;rw[List.getD_eq_getElem?_getD,List.getElem?_eq_getElem (by simpa[AV.cells] using hj)] at this;simpa[AV.cells,Value.cells,List.getD_eq_getElem?_getD,Array.getD_eq_getD_getElem?] using this
theorem yL{S:List TypeId}(hS:∀t∈S,UX P S t=true){w:World}{base:Nat}{spare:Nat->Bool}:∀(ts:List TypeId) (vs:List Value) (ds:List (DataW H)) (ps:List MemPlace),DataW.TrodAll enc P w 0 spare true ts vs ds ps->(∀t∈ts,t∈S)->
 (∀(j:Nat) (t:TypeId) (v:Value),ts[j]? =some t->vs[j]? =some v->Value.okWide P w .any base t v)->
 xy P ts (ds.map oD)/\vs.length=ds.length/\AV.aw (ds.map oD)=0/\∀(j:Nat) (h:j<ds.length),fI Nf h0 w (oD ds[j]) (vs.getD j default)
 |[],vs,ds,ps,h,_,_=>by obtain⟨rfl,rfl,rfl⟩:=trodAll_nil h;exact⟨.nil,rfl,rfl,λj h=>by simp at h⟩
 |t::ts,vs,ds,ps,h,hts,bV=>by
   obtain⟨v,vs',d,ds',p,q,rfl,rfl,rfl,⟨fuel,h1⟩,h2⟩:=trodAll_cons h;have hr:=yX (φ:=Nf) (nx:=h0.next) (pr:=Pr Nf h0 w) hS (Xm w) fuel t _ d p (hts t (by simp)) h1;obtain⟨g1,g2,g3,g4⟩:=yL hS ts vs' ds' q h2 (λt ht=>hts t (by simp[ht])) λj t v h1 h2=>bV (j+1) t v h1 h2
   refine⟨.cons hr.ty g1,by simp[g2],by simp only[List.map_cons,AV.aw,g3,hr.aK];rfl,λj hj=>?_⟩
   cases j with
   |zero=>exact Me hr (bV 0 t v rfl rfl)
   |succ j=>exact g4 j (by simpa using hj)
theorem JY{f:Nat}{fn:Func}(EZ:P.funcs[f]? =some fn)(zg:(fn.name== "runtime.NumGoroutine")=false)(uZ:fn.body.isSome=true)(bu:Array Value)(w:World):(callFunc f bu).run P w=.ok (.enter f bu) w:=by
 obtain⟨c,hc⟩:=Option.isSome_iff_exists.1 uZ;have fy:¬fn.name= "runtime.NumGoroutine" :=by simpa using zg
 simp[callFunc,EZ,fy,hc]
theorem NK{f:Nat}{fn:Func}(EZ:P.funcs[f]? =some fn)(zg:(fn.name== "runtime.NumGoroutine")=false)(uZ:fn.body.isSome=true){S:List TypeId}(hS:(S.all λt=>UX P S t&&P.readableRec t&&decide (t<P.types.size))=true)
 (akP:(fn.params.toList.all λt=>S.contains t)=true) {tb:TypeId} (htb:P.underlying tb=some .bool) (ES:fn.resultTypes=#[tb]) (aht:laidOutB P=true)
 {s:ChangeSpec} (LL:s.vars=[]) (aek:∀ds:List (DataW H),ds.length=fn.params.size->s.fn H ds={results:=[.lit (.bool true)],args:=ds})
 {apart fresh handsOn again:Bool}
 {W:World} {base:Nat} {args:Array Value} {ds gs:List (DataW H)} {before:List MemPlace}
 (akQ:xy P fn.params.toList (ds.map oD)->jA P X f (ds.map oD) (.bool true))
 (IS:∀(j:Nat) t v,fn.params[j]? =some t->args[j]? =some v->Value.okWide P W .any base t v)
 (hW:DataW.Whole enc P fn.params.toList s.vars apart W args.toList ds gs before) (hsh:W.ShapedOpen P) (hX:X W):
 Calls P f args W λe W'=>∃v,e=.returned v/\s.post enc P fn apart fresh handsOn again W args v W':=by
 have hS':∀t∈S,UX P S t=true/\P.readableRec t=true/\t<P.types.size:=λt ht=>by have:=List.all_eq_true.1 hS t ht;simp only[Bool.and_eq_true,decide_eq_true_eq] at this;exact⟨this.1.1,this.1.2,this.2⟩
 have hp':∀t∈fn.params.toList,t∈S:=λt ht=>List.contains_iff_mem.1 (List.all_eq_true.1 akP t ht)
 have hW0:=hW;obtain⟨p,q,hA,hV,zd,WG,Fq⟩:=hW0;rw[LL] at hV
 have hgq:gs=[]/\q=[]:=by
  cases gs with
  |nil=>exact⟨rfl,hV⟩
  |cons g r=>exact hV.elim
 obtain⟨rfl,rfl⟩:=hgq;have zd:before=p:=by rw[zd];simp
 subst zd;obtain⟨g1,g2,g3,g4⟩:=yL (base:=base) (λt ht=>(hS' t ht).1) fn.params.toList args.toList ds before hA hp' λj t v h1 h2=>IS j t v (by simpa using h1) (by simpa using h2)
 have LZ:ds.length=fn.params.size:=by
  have:∀(ts:List TypeId) (l:List AV),xy P ts l->l.length=ts.length:=by
   intro ts l h
   induction h with
   |nil=>rfl
   |cons _ _ ih=>simp[ih]
  have:=this _ _ g1;simpa using this
 have nX:mo Nf h0 W (ds.map oD) args:=⟨by simpa using g2,λj hj=>by
  have kP:j<ds.length:=by simpa using hj
  have:=g4 j kP
  have e:args.toList.getD j default=args.getD j default:=by rw[List.getD_eq_getElem?_getD,Array.getD_eq_getD_getElem?];simp
  rw[e] at this;simpa using this⟩
 have ael:=JY EZ zg uZ args W;rcases akQ g1 Nf h0 W args (ZF W) ⟨W,⟨hsh,hX⟩,λb hb=>⟨hb,.inr (Xm W b hb),rfl⟩⟩ nX with⟨_,hc⟩|⟨cv,w',e1,_⟩
 .refine hc.mono λe W' he=>?_
  obtain⟨cv,rfl,r1,r2,r3,r4⟩:=he;have hcv:=r1.jd;subst hcv;have hb:Below W.heap.size W W':=⟨r3.os,r3.tape,r3.output,r3.size,λb hb=>(r3.pr b (Xm W b hb)).2⟩
  have cR:∀x∈before,x.block<W.heap.size:=λx hx=>hW.lt x hx
  have hsp:∀(sp:Nat->Bool),(∀x∈before,sp x.block=true)->∀(ts:List TypeId) (vs:List Value) (ds:List (DataW H)) (ps:List MemPlace),(∀t∈ts,t∈S)->(∀x∈ps,x∈before)->DataW.TrodAll enc P W 0 (λ_=>true) true ts vs ds ps->DataW.TrodAll enc P W' 0 sp true ts vs ds ps:=by
   intro sp hsp ts
   induction ts with
   |nil=>intro vs ds ps _ _ h;obtain⟨rfl,rfl,rfl⟩:=trodAll_nil h;rfl
   |cons t ts ih=>intro vs ds ps hts A0 h;obtain⟨v,vs',d,ds',p,q,rfl,rfl,rfl,h1,h2⟩:=trodAll_cons h;refine⟨p,q,?_,ih vs' ds' q (λt ht=>hts t (by simp[ht])) (λx hx=>A0 x (by simp[hx])) h2,rfl⟩;exact WideElems.Trod_stays aht (hS' t (hts t (by simp))).2.1 (hS' t (hts t (by simp))).2.2 h1 (λx hx=>hb.same (cR x (A0 x (by simp[hx])))) (λx hx=>hsp x (A0 x (by simp[hx])))
  refine⟨.bool true,rfl,E8 (pa:=before) (pv:=[]) hW (λb sp hd=>?_) (λsp hs=>?_) (λsp _=>?_) (by simp) hb ?_⟩
  .rw[ES,List.append_nil,aek ds LZ];exact trodAll_mk1 (shut_bool htb true)
  .rw[List.append_nil,aek ds LZ];exact hsp sp hs _ _ _ _ hp' (λx hx=>hx) hA
  .rw[LL,List.append_nil,aek ds LZ];rfl
  .exact ok_one ES rfl (okWide_bool_mk htb true)
 .rw[ael] at e1;cases e1
end
end
section
section
variable {P:Program}{t e:TypeId}{v:AV}
theorem abo(hu:P.underlying t=some .string)(h:tB P t v):∃s:List UInt8,v=.str s/\s.length<=maxLen:=by
 cases h with
 |str h s hs=>exact⟨s,rfl,hs⟩
 |bool h=>rw[hu] at h;cases h
 |int h=>rw[hu] at h;cases h
 |sl h=>rw[hu] at h;cases h
 |agg h=>rw[hu] at h;cases h
theorem S3{H:Type}{enc:TypeId×Value->H}{ts:List TypeId}{vars:List String}(hv:vars=[]){apart:Bool}{W:World}{vs:List Value}{ds gs:List (DataW H)}{before:List MemPlace}(h:DataW.Whole enc P ts vars apart W vs ds gs before):gs=[]:=by
 obtain⟨p,q,hA,hV,_⟩:=h;rw[hv] at hV
 cases gs with
 |nil=>rfl
 |cons g r=>exact hV.elim
end
end
section
open Go.RowKit
variable {X:World->Prop}
section
variable {P:Program}
theorem jM.shaped{φ:eL}{h:ai}{w:World}(g:jM P X φ h w):w.ShapedOpen P:=by
 obtain⟨w1,h1,h2⟩:=g;have h3:({w1 with os:=w.os,output:=w.output}:World).ShapedOpen P:=World.ShapedOpen.of_heap rfl h1.1;refine World.ShapedOpen.keptBut (may:=λ_=>False) h3 ⟨rfl,rfl,λi hi=>?_⟩ λp hp=>hp.elim
 have e:=(h2 i hi).2.2
 show match w1.heap[i]?,w.heap[i]? with
  |some (.cells c t fr),some (.cells c' t' eD)=>_
  |some (.map es clock),some (.map es' clock')=>_
  |o,o'=>_
 rw[e]
 cases w1.heap[i]? with
 |none=>rfl
 |some o=>cases o<;>simp
theorem hP{φ:eL}{nx:Nat}{pr:Nat->Prop}{w:World}{s:List UInt8}{cv:Value}(h:RV φ nx pr w (.str s) cv):cv=.string ⟨s.toArray⟩:=by obtain⟨b,rfl,rfl⟩:=h.hP;simp
theorem RV.ajX{φ:eL}{nx:Nat}{pr:Nat->Prop}{w:World}(s:List UInt8):RV φ nx pr w (.str s) (.string ⟨s.toArray⟩):=RV.Ag (by simp)
theorem aaA{φ:eL}{h:ai}{w:World}{args:List AV}{bu:Array Value}(ha:mo φ h w args bu):bu.toList.length=args.length/\∀j (hj:j<args.length),fI φ h w args[j] (bu.toList.getD j default):=by
 refine⟨by simpa using ha.1,λj hj=>?_⟩;have:=ha.2 j hj
 have e:bu.toList.getD j default=bu.getD j default:=by rw[List.getD_eq_getElem?_getD,Array.getD_eq_getD_getElem?];simp
 rw[e];exact this
theorem C3{φ:eL}{h:ai}{w:World}{x y:AV}{bu:Array Value}(ha:mo φ h w [x,y] bu):∃cx cy,bu=#[cx,cy]/\fI φ h w x cx/\fI φ h w y cy:=by
 obtain⟨h1,h2⟩:=aaA ha;obtain⟨l⟩:=bu
 match l,h1 with
 |[cx,cy],_=>exact⟨cx,cy,rfl,h2 0 (by simp),h2 1 (by simp)⟩
theorem pn{f:Nat}{args:List AV}{v:AV}(WY:∀bu w,(callFunc f bu).run P w=.ok (.enter f bu) w)
 (hc:∀φ h w bu,HR φ h w->jM P X φ h w->mo φ h w args bu->Calls P f bu w λe w'=>Below w.heap.size w w'/\∃cv,e=.returned cv/\fI φ h w' v cv):jA P X f args v:=by
 intro φ h w bu hr hG ha;refine .inl ⟨WY _ _,(hc φ h w bu hr hG ha).mono λe w' ⟨hb,cv,he,hv⟩=>?_⟩;obtain⟨s1,s2⟩:=Hj hr hb.os hb.tape hb.output hb.size hb.block;exact⟨cv,he,hv,s1,s2,hb.block⟩
theorem GG{f:Nat}{s p r:List UInt8}(WY:∀bu w,(callFunc f bu).run P w=.ok (.enter f bu) w)
 (hc:∀w,w.ShapedOpen P->Calls P f #[.string ⟨s.toArray⟩,.string ⟨p.toArray⟩] w λe w'=>e=.returned (.string ⟨r.toArray⟩)/\Below w.heap.size w w'):jA P X f [.str s,.str p] (.str r):=
 pn WY λφ h w bu hr hG ha=>by obtain⟨cx,cy,rfl,h1,h2⟩:=C3 ha;rw[hP h1,hP h2];exact (hc w hG.shaped).mono λe w' ⟨he,hb⟩=>⟨hb,_,he,.ajX r⟩
theorem Rl{f:Nat}{s p:List UInt8}{r:Bool}(WY:∀bu w,(callFunc f bu).run P w=.ok (.enter f bu) w)
 (hc:∀w,w.ShapedOpen P->Calls P f #[.string ⟨s.toArray⟩,.string ⟨p.toArray⟩] w λe w'=>e=.returned (.bool r)/\Below w.heap.size w w'):jA P X f [.str s,.str p] (.bool r):=
 pn WY λφ h w bu hr hG ha=>by obtain⟨cx,cy,rfl,h1,h2⟩:=C3 ha;rw[hP h1,hP h2];exact (hc w hG.shaped).mono λe w' ⟨he,hb⟩=>⟨hb,_,he,.bool r⟩
end
end
end Sz
