import Derived.Test.YtjmeonoabiliiaaGreatDoorAt
import Derived.Test.YtjmeonoabiliiaaGreatDoorBd4
import Derived.Test.YtjmeonoabiliiaaGreatDoorBd3
import Derived.Test.YtjmeonoabiliiaaGreatDoorBd1
import Derived.Test.YtjmeonoabiliiaaGreatDoorArg
import Derived.Test.YtjmeonoabiliiaaGreatDoorRows
import Derived.ProofKit
import Derived.Test.YtjmeonoabiliiaaGreatDoorBd2
set_option linter.unusedVariables false
set_option linter.unusedSimpArgs false
set_option linter.unusedSectionVars false
set_option maxHeartbeats 16000000
set_option maxRecDepth 100000

namespace Go.Proofs.YtjmeonoabiliiaaGreatDoor
open Go Sz
noncomputable def sC:List ai:=[wb,gf]
theorem PO:∀s ∈ sC,ck Tryz.prog dm s:=by simp[sC,OC.lift,rD]
noncomputable def vS (N:Nat):List aU:=[fa 3000,lZ N,ow N,jt N]
theorem EM (n N:Nat) (t:Tm) (K M S:AV) (x yv:AV) (T:List aF) (vs:List Int) (hx:a6 x=some T) (hy:ft yv=some vs) (hT:T.length < 1000000) (hv:vs.length < 100000) (hg:bM T=true) (hus:∀y ∈ t.args,ib y∧y.size < N) (hal:t.args.length < 100000):∀(post pre:List Tm) (acc:List UInt8) (m md:Nat),t.args=pre++post→post.length < m→acc.length+150*Tm.aI post≤1000000000→
 ∃md',er 2 1 (aT (ak (aw (cW sC (vS N)) (n+1)) (n+1) yl) il 2 m (LW (.ptr 0 0) (.ptr 1 0) (.str acc) (.int .i64 pre.length)) ⟨2,[.row [K,M,S,t.aJ],.row [x,yv]],2,md⟩)=
   some (.exit 1,FM 141 [(10,.str (acc++me (if pre.length=0 then 40 else 44) (post.map fun y=>wF T true (eS vs) y 999 false)))],⟨2,[.row [K,M,S,t.aJ],.row [x,yv]],1,md'⟩)
 | _,_,_,0,_,_,h,_=>by omega
 | [],pre,acc,m+1,md,hs,_,_=>by
   rw[ae];rw[List.append_nil] at hs;have hlv:=fB t;have hpl:pre.length=t.args.length:=by rw[hs]
   have h6:((pre.length:Int) < (t.args.length:Int))=False:=eq_false (by omega);exact⟨md,by simp[yl,il,hlv,h6,me]⟩
 | y::r,pre,acc,m+1,md,hs,hm,hab=>by
   rw[ae];simp only[Tm.aI] at hab;have hps:pre.length+r.length+1=t.args.length:=by rw[hs];simp;omega
   have hc:t.args[pre.length]? =some y:=by rw[hs];simp
   have hym:y ∈ t.args:=by rw[hs];simp
   have hav:=xu hc;have hye:y.enc=.agg [.int .i64 y.kind,.int .i64 y.num,.str y.name,y.aJ]:=by rw[Tm.ay];rfl
   have hyr:=ah y;have htr:=aB t.args;have hcU:(t.args.map Tm.enc)[pre.length]? =some (.agg [.int .i64 y.kind,.int .i64 y.num,.str y.name,y.aJ]):=by rw[List.getElem?_map,hc];exact congrArg some hye
   have hUl:(t.args.map Tm.enc).length=t.args.length:=List.length_map _;have h3:IntKind.i64.wrap ((pre.length:Int)+1)=(pre.length:Int)+1:=wrap_i64 (by omega) (by omega);have h6:((pre.length:Int) < (t.args.length:Int))=True:=eq_true (by omega);have q:=je N hx hy hT hv y ⟨⟨(hus y hym).1,hg⟩,(hus y hym).2⟩ 999 false;have hwl:=eR T true (eS vs) (ij hv) y 999 false (hus y hym).1;rw[List.map_cons];show ∃md',_=some (Ex.exit 1,FM 141 [(10,.str (acc++([if pre.length=0 then 40 else 44]++wF T true (eS vs) y 999 false++me 44 (r.map fun y=>wF T true (eS vs) y 999 false))))],_);generalize wF T true (eS vs) y 999 false=w at *;obtain⟨md',ih⟩:=EM n N t K M S x yv T vs hx hy hT hv hg hus hal r (pre++[y]) (acc++[if pre.length=0 then 40 else 44]++w) m md (by rw[hs];simp) (by simp at hm;omega) (by simp;omega);refine⟨md',?_⟩;have ht:=fU hx hy;have hok:=jS hx hy;have hsg:=hO hx hy;have b1:acc.length+1 < 9223372036854775808:=by omega
   have b2:acc.length+1+w.length < 9223372036854775808:=by omega
   have b3:acc.length+(w.length+1) < 9223372036854775808:=by omega
   have e0:(if (pre++[y]).length=0 then (40:UInt8) else 44)=44:=by simp
   rw[e0] at ih;rw[hye] at q;rw[hav] at ih ⊢;simp only[List.length_append,List.length_cons,List.length_nil,Nat.zero_add,Int.natCast_add,Int.natCast_one,List.append_assoc,vS,sC] at ih ⊢;generalize t.args.map Tm.enc=U at *;by_cases hp:pre.length=0
   ·have hp':(pre=[])=True:=eq_true (List.length_eq_zero_iff.1 hp);rw[if_pos hp] at ih ⊢;simp[yl,il,hcU,hUl,h3,h6,hp',hyr,htr,q,ht,hok,hsg,-aN,-bm,-aY,b1,b2,b3,dT,aP,a7,cI,dh,bu];simp only[List.append_assoc,List.cons_append,List.nil_append] at ih;exact ih
   ·have hp':(pre=[])=False:=eq_false (fun e=>hp (by rw[e];rfl));rw[if_neg hp] at ih ⊢;simp[yl,il,hcU,hUl,h3,h6,hp',hyr,htr,q,ht,hok,hsg,-aN,-bm,-aY,b1,b2,b3,dT,aP,a7,cI,dh,bu];simp only[List.append_assoc,List.cons_append,List.nil_append] at ih;exact ih
theorem El {T:List aF} {b:Bool} (vr:Int→List UInt8) {t:Tm} (h:ib t) (n:Int) (hk:t.kind=0∨t.kind=1):wF [] false vr t 999 false=if t.kind=0 then vr t.num else fj t.num:=by
 rw[RS vr t h];by_cases k0:t.kind=0
 ·rw[if_pos k0,if_pos k0]
 ·rw[if_neg k0,if_neg k0,if_pos (by omega)]
theorem Qj (N:Nat) (x y:AV) (T:List aF) (vs:List Int) (hx:a6 x=some T) (hy:ft y=some vs) (hT:T.length < 1000000) (hv:vs.length < 100000) (t:Tm) (hok:ib t) (hg:bM T=true) (hsN:t.size=N) (n:Int) (bs:Bool):
 ∃m,aw (cW sC (vS N)) 200000 55 [.ptr 0 0,t.enc,.int .i64 n,.bool bs] ⟨1,[.row [x,y]],1,1⟩=some (.str (wF T true (eS vs) t n bs),⟨1,[.row [x,y]],1,m⟩):=by
 have qno:=LY N hx hy hT hv t (by omega) n bs;have har:=ah t;have hlv:=fB t;have hfx:=fun h=>nV hx h 0 7
 have hs:=aM t;have hgt:=hok.1;simp only[dp,Bool.and_eq_true,decide_eq_true_eq] at hgt;have hnm:=ln hok;have hq:=fK hnm;have hte:t.enc=.agg [.int .i64 t.kind,.int .i64 t.num,.str t.name,t.aJ]:=by rw[Tm.ay];rfl
 have ht:=fU hx hy;have hro:=jS hx hy;have hsg:=hO hx hy;rw[VU hg (eS vs) t n bs hok];have qp:=lS 3000 hx hy hT hv t ⟨hok,by omega⟩;by_cases k0:t.kind=0
 ·rw[if_pos k0];rw[El (T:=T) (b:=true) (eS vs) hok n (.inl k0),if_pos k0] at qp;rw[hte] at qno qp ⊢;simp only[sC,vS];rw[k0] at qno qp ⊢;exact⟨1,by simp[fG,zR,dT,aP,a7,cI,dh,bu,qno,dy,qp,ht,hro,hsg,-aN,-bm,-aY,har,ag]⟩
 rw[if_neg k0];by_cases k1:t.kind=1
 ·rw[if_pos k1];rw[El (T:=T) (b:=true) (eS vs) hok n (.inr k1),if_neg k0] at qp;have hil:=jx t.num (xa hok);have b1:1+(fj t.num).length < 9223372036854775808:=by omega
  have b2:(fj t.num).length+1 < 9223372036854775808:=by omega
  have b3:(fj t.num).length+1+1 < 9223372036854775808:=by omega
  rw[hte] at qno qp ⊢;simp only[sC,vS];rw[k1] at qno qp ⊢;generalize fj t.num=I at *;by_cases c1:t.num < 0
  ·cases bs with
   | true=>exact⟨1,by simp[fG,zR,dT,aP,a7,cI,dh,bu,qno,dy,qp,ht,hro,hsg,-aN,-bm,-aY,har,ag,c1,b1,b2,b3]⟩
   | false=>exact⟨1,by simp[fG,zR,dT,aP,a7,cI,dh,bu,qno,dy,qp,ht,hro,hsg,-aN,-bm,-aY,har,ag,c1,b1,b2,b3]⟩
  ·exact⟨1,by simp[fG,zR,dT,aP,a7,cI,dh,bu,qno,dy,qp,ht,hro,hsg,-aN,-bm,-aY,har,ag,c1,b1,b2,b3]⟩
 rw[if_neg k1];clear qp;have q3:=n5 t.name;by_cases k2:t.args.length=0
 ·rw[if_pos k2];have k2':((t.args.length:Int)=0)=True:=eq_true (by omega);have ql:=Pp hx t.name (by omega);generalize cb t.name=Q at *;generalize uM T t.name=lv at *;have b1:1+Q.length < 9223372036854775808:=by omega
  have b2:Q.length+1 < 9223372036854775808:=by omega
  have b3:Q.length+1+1 < 9223372036854775808:=by omega
  rw[hte] at qno ⊢;simp only[sC,vS];by_cases c1:0 < lv
  ·by_cases c2:n < lv
   ·rw[if_pos ⟨c1,.inl c2⟩];exact⟨1,by simp[fG,zR,hfx,dT,aP,a7,cI,dh,bu,qno,dy,ht,hro,hsg,-aN,-bm,-aY,har,ag,hlv,k0,k1,k2,k2',ql,q3,c1,c2,b1,b2,b3]⟩
   ·cases bs with
    | true=>
      rw[if_pos ⟨c1,.inr rfl⟩];exact⟨1,by simp[fG,zR,hfx,dT,aP,a7,cI,dh,bu,qno,dy,ht,hro,hsg,-aN,-bm,-aY,har,ag,hlv,k0,k1,k2,k2',ql,q3,c1,c2,b1,b2,b3]⟩
    | false=>
      rw[if_neg (by rintro⟨_,h | h⟩;exact c2 h;cases h)];exact⟨1,by simp[fG,zR,hfx,dT,aP,a7,cI,dh,bu,qno,dy,ht,hro,hsg,-aN,-bm,-aY,har,ag,hlv,k0,k1,k2,k2',ql,q3,c1,c2,b1,b2,b3]⟩
  ·rw[if_neg (fun h=>c1 h.1)];exact⟨1,by simp[fG,zR,hfx,dT,aP,a7,cI,dh,bu,qno,dy,ht,hro,hsg,-aN,-bm,-aY,har,ag,hlv,k0,k1,k2,k2',ql,q3,c1,b1,b2,b3]⟩
 rw[if_neg k2];have k2':((t.args.length:Int)=0)=False:=eq_false (by omega);have hsub:∀y ∈ t.args,ib y∧y.size < N:=fun y hy=>⟨dI hok hy,by have:=iV hy;omega⟩
 by_cases k3:(decide (t.name=[46])&&decide (t.args.length=2))=true
 ·rw[if_pos k3];simp only[Bool.and_eq_true,decide_eq_true_eq] at k3
  have hdot:dx t=true:=by
   have hk:=td hok k2;simp[dx,hk,k3.1,k3.2]
  have ql:=HI N hx hy hT hv t ⟨⟨hok,hg⟩,hdot,by omega⟩;have l2':((t.args.length:Int)=2)=True:=eq_true (by omega);generalize qO T true (eS vs) t=L at *;rw[hte] at qno ql ⊢;simp only[sC,vS];rw[k3.1] at qno ql ⊢;exact⟨1,by simp[fG,zR,hfx,dT,aP,a7,cI,dh,bu,qno,dy,ht,hro,hsg,-aN,-bm,-aY,har,ag,hlv,k0,k1,k2,k2',k3.2,l2',ql]⟩
 rw[if_neg k3];have nd:t.args.length=2→t.name≠[46]:=fun h1 h2=>k3 (by simp[h1,h2])
 by_cases k4:(decide (t.name=[123,125])&&decide (t.args.length=1))=true
 ·rw[if_pos k4];simp only[Bool.and_eq_true,decide_eq_true_eq] at k4;obtain⟨y0,ha,hav,hy0⟩:=mJ k4.2;have oky:=hsub y0 (by rw[ha];simp);have q:=je N hx hy hT hv y0 ⟨⟨oky.1,hg⟩,oky.2⟩ 1200 false;have hwl:=eR T true (eS vs) (ij hv) y0 1200 false oky.1;rw[hy0];have hls:(wF T true (eS vs) y0 1200 false).length < 1000000:=by have:=oky.2;omega
  generalize wF T true (eS vs) y0 1200 false=A at *;have hye:y0.enc=.agg [.int .i64 y0.kind,.int .i64 y0.num,.str y0.name,y0.aJ]:=by rw[Tm.ay];rfl
  have hyr:=ah y0;have b1:1+A.length < 9223372036854775808:=by omega
  have b2:A.length+1 < 9223372036854775808:=by omega
  have b3:A.length+1+1 < 9223372036854775808:=by omega
  rw[hte,hav,hye] at qno ⊢;rw[hye] at q;simp only[sC,vS];rw[k4.1] at qno ⊢;exact⟨1,by simp[fG,zR,hfx,dT,aP,a7,cI,dh,bu,qno,dy,ht,hro,hsg,-aN,-bm,-aY,hyr,ag,k0,k1,q,b1,b2,b3]⟩
 rw[if_neg k4];have qo:=JZ N hx hy hT hv t ⟨⟨hok,hg⟩,nd,by omega⟩;have hlb:(wF T true (eS vs) t n bs).length+10≤150*t.size:=eR T true (eS vs) (ij hv) t n bs hok
 have hob:(j7 T (eS vs) t).2≠0→(j7 T (eS vs) t).1.length < 1000000:=fun ho=>by
  rw[VU hg (eS vs) t n bs hok,if_neg k0,if_neg k1,if_neg k2,if_neg k3,if_neg k4,if_neg ho] at hlb;split at hlb
  ·simp at hlb;omega
  ·omega
 have c46:t.name=[46]→((t.args.length:Int)=2)=False:=fun h=>eq_false fun e=>nd (by omega) h
 have c123:t.name=[123,125]→((t.args.length:Int)=1)=False:=fun h=>eq_false fun e=>k4 (by simp[h];omega)
 by_cases ho:(j7 T (eS vs) t).2=0
 ·rw[if_pos ho];have hla:=ct t.args;obtain⟨md',lp⟩:=EM 199998 N t (.int .i64 t.kind) (.int .i64 t.num) (.str t.name) x y T vs hx hy hT hv hg hsub (by omega) t.args [] (cb t.name) 199999 1 rfl (by omega) (by omega)
  have hjl:(me 40 (t.args.map fun y=>wF T true (eS vs) y 999 false)).length≤150*Tm.aI t.args+1:=by
   cases ha:t.args with
   | nil=>rw[ha] at k2;simp at k2
   | cons a r=>
     rw[List.map_cons,kN];have j1:=iU [44] ((a::r).map fun y=>wF T true (eS vs) y 999 false);have j2:=n7 (f:=fun y=>(wF T true (eS vs) y 999 false).length) (a::r) (fun z hz=>eR T true (eS vs) (ij hv) z 999 false (hsub z (by rw[ha];exact hz)).1);rw[List.map_map] at j1;have j4:(Lib.join ((a::r).map fun y=>wF T true (eS vs) y 999 false) [44]).length≤150*Tm.aI (a::r):=Nat.le_trans j1 j2;rw[List.map_cons] at j4;simp only[List.length_append,List.length_cons,List.length_nil] at j4 ⊢;omega
  simp only[il,LW,List.length_nil,if_true,Int.natCast_zero,vS,sC] at lp;generalize me 40 (t.args.map fun y=>wF T true (eS vs) y 999 false)=J at *;generalize cb t.name=Q at *;have b1:Q.length+J.length+1 < 9223372036854775808:=by omega
  have b2:Q.length+(J.length+1) < 9223372036854775808:=by omega
  rw[ho] at qo;generalize (j7 T (eS vs) t).1=Z at *;rw[hte] at qno qo ⊢;simp only[sC,vS]
  have fin:∀nm:List UInt8,t.name=nm→∀e1 e2:Bool,(nm==[46])=e1→(nm==[123,125])=e2→
   ∃m,aw (cW [wb,gf] [fa 3000,lZ N,ow N,jt N]) 200000 55 [.ptr 0 0,.agg [.int .i64 t.kind,.int .i64 t.num,.str nm,t.aJ],.int .i64 n,.bool bs] ⟨1,[.row [x,y]],1,1⟩=some (.str (Q++J++[41]),⟨1,[.row [x,y]],1,m⟩):=fun nm hnm e1 e2 he1 he2=>by
   rw[hnm] at qno qo q3 lp c46 c123
   cases e1 with
   | true=>
     have he':nm=[46]:=by simpa using he1
     subst he';exact⟨_,by simp[fG,zR,il,hfx,dT,aP,a7,cI,dh,bu,qno,dy,ht,hro,hsg,-aN,-bm,-aY,har,ag,hlv,k0,k1,k2,k2',c46 rfl,qo,q3,lp,b1,b2];rfl⟩
   | false=>
     have n46:¬ nm=[46]:=by simpa using he1
     cases e2 with
     | true=>
       have he':nm=[123,125]:=by simpa using he2
       subst he';exact⟨_,by simp[fG,zR,il,hfx,dT,aP,a7,cI,dh,bu,qno,dy,ht,hro,hsg,-aN,-bm,-aY,har,ag,hlv,k0,k1,k2,k2',c123 rfl,qo,q3,lp,b1,b2];rfl⟩
     | false=>
       have n2:¬ nm=[123,125]:=by simpa using he2
       exact⟨_,by simp[fG,zR,il,hfx,dT,aP,a7,cI,dh,bu,qno,dy,ht,hro,hsg,-aN,-bm,-aY,har,ag,hlv,k0,k1,k2,k2',he1,he2,n46,n2,qo,q3,lp,b1,b2];rfl⟩
  exact fin t.name rfl _ _ rfl rfl
 ·rw[if_neg ho];have hl:=hob ho;generalize (j7 T (eS vs) t).2=lv at *;generalize (j7 T (eS vs) t).1=Z at *;have b1:Z.length+1 < 9223372036854775808:=by omega
  have b2:Z.length+1+1 < 9223372036854775808:=by omega
  have b3:1+Z.length < 9223372036854775808:=by omega
  rw[hte] at qno qo ⊢;simp only[sC,vS]
  have fin:∀nm:List UInt8,t.name=nm→∀e1 e2:Bool,(nm==[46])=e1→(nm==[123,125])=e2→
   ∃m,aw (cW [wb,gf] [fa 3000,lZ N,ow N,jt N]) 200000 55 [.ptr 0 0,.agg [.int .i64 t.kind,.int .i64 t.num,.str nm,t.aJ],.int .i64 n,.bool bs] ⟨1,[.row [x,y]],1,1⟩=some (.str (if n < lv then [40]++Z++[41] else Z),⟨1,[.row [x,y]],1,m⟩):=fun nm hnm e1 e2 he1 he2=>by
   rw[hnm] at qno qo c46 c123;by_cases hc:n < lv
   ·rw[if_pos hc]
    cases e1 with
    | true=>
      have he':nm=[46]:=by simpa using he1
      subst he';exact⟨1,by simp[fG,zR,il,hfx,dT,aP,a7,cI,dh,bu,qno,dy,ht,hro,hsg,-aN,-bm,-aY,har,ag,hlv,k0,k1,k2,k2',c46 rfl,qo,ho,hc,b1,b2,b3]⟩
    | false=>
      have n46:¬ nm=[46]:=by simpa using he1
      cases e2 with
      | true=>
        have he':nm=[123,125]:=by simpa using he2
        subst he';exact⟨1,by simp[fG,zR,il,hfx,dT,aP,a7,cI,dh,bu,qno,dy,ht,hro,hsg,-aN,-bm,-aY,har,ag,hlv,k0,k1,k2,k2',c123 rfl,qo,ho,hc,b1,b2,b3]⟩
      | false=>
        have n2:¬ nm=[123,125]:=by simpa using he2
        exact⟨1,by simp[fG,zR,il,hfx,dT,aP,a7,cI,dh,bu,qno,dy,ht,hro,hsg,-aN,-bm,-aY,har,ag,hlv,k0,k1,k2,k2',he1,he2,n46,n2,qo,ho,hc,b1,b2,b3]⟩
   ·rw[if_neg hc]
    cases e1 with
    | true=>
      have he':nm=[46]:=by simpa using he1
      subst he';exact⟨1,by simp[fG,zR,il,hfx,dT,aP,a7,cI,dh,bu,qno,dy,ht,hro,hsg,-aN,-bm,-aY,har,ag,hlv,k0,k1,k2,k2',c46 rfl,qo,ho,hc,b1,b2,b3]⟩
    | false=>
      have n46:¬ nm=[46]:=by simpa using he1
      cases e2 with
      | true=>
        have he':nm=[123,125]:=by simpa using he2
        subst he';exact⟨1,by simp[fG,zR,il,hfx,dT,aP,a7,cI,dh,bu,qno,dy,ht,hro,hsg,-aN,-bm,-aY,har,ag,hlv,k0,k1,k2,k2',c123 rfl,qo,ho,hc,b1,b2,b3]⟩
      | false=>
        have n2:¬ nm=[123,125]:=by simpa using he2
        exact⟨1,by simp[fG,zR,il,hfx,dT,aP,a7,cI,dh,bu,qno,dy,ht,hro,hsg,-aN,-bm,-aY,har,ag,hlv,k0,k1,k2,k2',he1,he2,n46,n2,qo,ho,hc,b1,b2,b3]⟩
  exact fin t.name rfl _ _ rfl rfl
theorem Ar:∀N,ch Tryz.prog dm (jt N)
 | 0=>fun args os v r hv=>by
   unfold jt at hv;dsimp only at hv;split at hv
   ·split at hv
    ·split at hv
     ·rename_i hc;exact absurd hc.2 (by omega)
     ·cases hv
    ·cases hv
   ·cases hv
 | N+1=>fun args os v r hv=>by
   have hN:=Ar N;unfold jt at hv;dsimp only at hv;split at hv
   ·rename_i os v0 n bs;split at hv
    ·rename_i D t hD ht;split at hv
     ·rename_i hc;cases hv;obtain⟨x,y,hx,hy,rfl,hT,hvl⟩:=nc hD;rw[bc ht];by_cases hlt:t.size < N
      ·exact hN _ _ _ _ (je N hx hy hT hvl t ⟨hc.1,hlt⟩ _ _)
      ·obtain⟨T,vs⟩:=D;dsimp only at hx hy hT hvl hc ⊢;rw[bu];have hE:dA Tryz.prog dm (cW sC (vS N)):=dv PO (by simp[vS,hN,nz 3000,HW N hN,KT N hN]);obtain⟨m,e⟩:=Qj N x y T vs hx hy hT hvl t hc.1.1 hc.1.2 (by omega) _ _;exact u0 hE hx hy e (by simp[AV.refs]) (by simp[AV.af,Tm.ba,AV.refs])
     ·cases hv
    ·cases hv
   ·cases hv
def kY (T:List aF) (t:Tm):List UInt8×Int:=sv T true (j5 (bN t)) t
def iq (t:Tm):List UInt8×Int:=sv [] false (j5 (bN t)) t
theorem Ir (t:Tm):lG (j5 (bN t))=true:=Jr _ _ (by have:=pT t;omega)
theorem BF (t:Tm):eD (bN t)=.ax∧bN t=[]∨eD (bN t)=.sl (ints (bN t)):=by
 unfold eD;split
 ·rename_i h;exact .inl ⟨rfl,h⟩
 ·exact .inr rfl
noncomputable def nS:ai:=⟨24,fun
 | [v]=>(match dB v with
   | some t=>if rQ t then some (.tuple [.str (iq t).1,.int .i64 (iq t).2]) else none
   | none=>none)
 | _=>none⟩
theorem pF:nS.f=24:=(rfl)
theorem ya (t:Tm) (h:rQ t):nS.S [t.enc]=some (.tuple [.str (iq t).1,.int .i64 (iq t).2]):=by
 simp only[nS,aX];rw[if_pos h]
theorem yD:ck Tryz.prog dm nS:=fun args v hv=>by
 unfold nS at hv ⊢;dsimp only at hv ⊢;split at hv
 ·rename_i v0;split at hv
  ·rename_i t ht;split at hv
   ·rename_i hc;cases hv;rw[bc ht];have hE:dA Tryz.prog dm (cW [sD] [sA]):=dv (by simp[DT.lift]) (by simp[EA]);refine aH (n:=3000) (h':=h0) hE ?_ (by simp[AV.refs,AV.af]) (by simp[AV.af,Tm.ba]);have q1:=EG t hc.1;have q2:=DX (x:=.ax) (T:=[]) rfl false (j5 (bN t)) (by simp) (Ir t) t hc;have hl:=pT t;have hnd:=wq t;unfold iq;generalize sv [] false (j5 (bN t)) t=R at *;obtain⟨r1,r2⟩:=R;have har:=ah t;have hcl:=Tm.an t;simp only[gY] at q2;rw[Tm.ay,hcl] at q1 q2 ⊢;rcases BF t with⟨e1,e2⟩ | e1
    ·rw[e1] at q1;rw[e2] at q2;have e3:eO (j5 [])=[]:=rfl;rw[e3] at q2;simp[Mi,c24,B3,T5,jB,nv,ae,xi,sn,q1,q2,har,ag]
    ·rw[e1] at q1;have hil:(ints (bN t)).length=(bN t).length:=by simp[ints]
     have hir:=cd (bN t);generalize bN t=vs at *;have lp:=fun C n w hw os=>Bf C n w hw vs (by omega) hnd os vs [] 2998 1 (by omega) rfl (by omega)
     have e3:eO (j5 [])=[]:=rfl;simp only[jB,B7,e3,List.length_nil,Int.natCast_zero] at lp;replace lp:=lp (aw (cW [sD] [sA]) 2998) 2998 1 rfl [.row [.int .i64 t.kind,.int .i64 t.num,.str t.name,t.aJ],.row [.int .i64 t.kind,.int .i64 t.num,.str t.name,t.aJ]];generalize ints vs=I at *;simp[Mi,c24,B3,T5,jB,xi,sn,bZ,bB,-bL,-bw,q1,q2,har,hil,hir,ag,lp]
   ·cases hv
  ·cases hv
 ·cases hv
noncomputable def nZ:ai:=⟨20,fun
 | [.agg [x],v]=>(match a6 x,dB v with
   | some T,some t=>if rQ t∧T.length < 1000000 then some (.tuple [.str (kY T t).1,.int .i64 (kY T t).2]) else none
   | _,_=>none)
 | _=>none⟩
theorem pS:nZ.f=20:=(rfl)
theorem yO {x:AV} {T:List aF} (hx:a6 x=some T) (t:Tm) (h:rQ t) (hT:T.length < 1000000):nZ.S [.agg [x],t.enc]=some (.tuple [.str (kY T t).1,.int .i64 (kY T t).2]):=by
 simp only[nZ,hx,aX];rw[if_pos ⟨h,hT⟩]
theorem yy:ck Tryz.prog dm nZ:=fun args v hv=>by
 unfold nZ at hv ⊢;dsimp only at hv ⊢;split at hv
 ·rename_i x v0;split at hv
  ·rename_i T t hx ht;split at hv
   ·rename_i hc;cases hv;rw[bc ht];have hxr:=bC hx;have hE:dA Tryz.prog dm (cW [sD] [sA]):=dv (by simp[DT.lift]) (by simp[EA]);refine aH (n:=3000) (h':=h0) hE ?_ (by simp[AV.refs,AV.af]) (by simp[AV.af,Tm.ba,AV.refs,hxr]);obtain⟨hc,hT⟩:=hc;have q1:=EG t hc.1;have q2:=DX hx true (j5 (bN t)) hT (Ir t) t hc;have hl:=pT t;have hnd:=wq t;unfold kY;generalize sv T true (j5 (bN t)) t=R at *;obtain⟨r1,r2⟩:=R;have har:=ah t;have hpr:=aZ T;have hcl:=Tm.an t;simp only[gY] at q2;rw[Tm.ay,hcl] at q1 q2 ⊢;rcases BF t with⟨e1,e2⟩ | e1
    ·rw[e1] at q1;rw[e2] at q2;have e3:eO (j5 [])=[]:=rfl;rw[e3] at q2;rcases aD hx with⟨rfl,rfl⟩ | rfl<;>
     simp[On,c20,O5,c49,B3,T5,jB,nv,ae,xi,sn,q1,q2,har,hpr,ag]
    ·rw[e1] at q1;have hil:(ints (bN t)).length=(bN t).length:=by simp[ints]
     have hir:=cd (bN t);generalize bN t=vs at *;have lp:=fun C n w hw os=>AZ C n w hw vs (by omega) hnd os vs [] 2998 2 (by omega) rfl (by omega)
     have e3:eO (j5 [])=[]:=rfl;simp only[jB,B7,e3,List.length_nil,Int.natCast_zero] at lp;replace lp:=lp (aw (cW [sD] [sA]) 2998) 2998 2 rfl [.row [.int .i64 t.kind,.int .i64 t.num,.str t.name,t.aJ],.row [.int .i64 t.kind,.int .i64 t.num,.str t.name,t.aJ],.row [x]];generalize ints vs=I at *;rcases aD hx with⟨rfl,rfl⟩ | rfl<;>
     simp[On,c20,O5,c49,B3,T5,jB,xi,sn,bZ,bB,-bL,-bw,q1,q2,har,hpr,hil,hir,ag,lp]
   ·cases hv
  ·cases hv
 ·cases hv
def u9 (vs:List Int) (x:Tm):Bool:=!decide (x.kind=0)||decide (x.num ∈ vs)
theorem Bh {p q:Tm→Bool} (h:∀x,p x=true→q x=true):∀t:Tm,t.eM p=true→t.eM q=true:=by
 have key:∀(k:Nat) (t:Tm),t.size≤k→t.eM p=true→t.eM q=true:=fun k=>by
  induction k with
  | zero=>intro t hk;have:=aM t;omega
  | succ k ih=>
    intro t hk ht;rw[dd,Bool.and_eq_true] at ht ⊢;refine⟨h t ht.1,?_⟩;have hs:=aM t
    have go:∀us:List Tm,Tm.aI us≤k→Tm.eN p us=true→Tm.eN q us=true:=fun us=>by
     induction us with
     | nil=>intro _ _;rfl
     | cons y r ih2=>
       intro hk2 h2;simp only[Tm.aI] at hk2;simp only[Tm.eN,Bool.and_eq_true] at h2 ⊢;exact⟨ih y (by omega) h2.1,ih2 (by omega) h2.2⟩
    exact go t.args (by omega) ht.2
 exact fun t=>key t.size t (Nat.le_refl _)
theorem Ev (n:Int) (l:List Int):n ∈ lJ n l:=by
 unfold lJ;split
 ·assumption
 ·simp
theorem EV (n:Int) (l:List Int):∀x ∈ l,x ∈ lJ n l:=fun x h=>by
 unfold lJ;split
 ·exact h
 ·exact List.mem_append_left _ h
mutual
theorem K6:∀(t:Tm) (l:List Int),∀x ∈ l,x ∈ fQ t l
 | .nl k n s,l=>fun x hx=>by
   rw[iS];split
   ·exact EV _ _ x hx
   ·exact hx
 | .mk k n s us,l=>fun x hx=>by
   rw[iS];split
   ·exact EV _ _ x hx
   ·exact rM us l x hx
theorem rM:∀(us:List Tm) (l:List Int),∀x ∈ l,x ∈ cO us l
 | [],l=>fun x hx=>hx
 | t::r,l=>fun x hx=>rM r _ x (K6 t l x hx)
end
def ER (x:Tm):Bool:=!decide (x.kind=0)||decide (x.args.length=0)
mutual
theorem BN:∀(t:Tm) (l:List Int),t.eM ER=true→t.eM (u9 (fQ t l))=true
 | .nl k n s,l,_=>by
   show u9 _ _=true;unfold u9;rw[iS];by_cases h:(Tm.nl k n s).kind=0
   ·rw[if_pos h,decide_eq_true (Ev _ _)];simp
   ·rw[decide_eq_false h];rfl
 | .mk k n s us,l,hn=>by
   rw[dd,Bool.and_eq_true] at hn ⊢;rw[iS];by_cases h:(Tm.mk k n s us).kind=0
   ·rw[if_pos h];have h2:=hn.1;unfold ER at h2;rw[decide_eq_true h] at h2;simp only[Bool.not_true,Bool.false_or,decide_eq_true_eq] at h2;have:us=[]:=List.length_eq_zero_iff.1 h2;subst this;refine⟨?_,rfl⟩;unfold u9;rw[decide_eq_true (Ev _ _)];simp
   ·rw[if_neg h];refine⟨by unfold u9;rw[decide_eq_false h];rfl,yu us l hn.2⟩
theorem yu:∀(us:List Tm) (l:List Int),Tm.eN ER us=true→Tm.eN (u9 (cO us l)) us=true
 | [],l,_=>rfl
 | t::r,l,hn=>by
   simp only[Tm.eN,Bool.and_eq_true] at hn ⊢;refine⟨Bh (fun x hx=>?_) t (BN t l hn.1),yu r _ hn.2⟩;unfold u9 at hx ⊢;by_cases h:x.kind=0
   ·rw[decide_eq_true h] at hx ⊢;simp only[Bool.not_true,Bool.false_or,decide_eq_true_eq] at hx ⊢;exact rM r _ _ hx
   ·rw[decide_eq_false h];rfl
end
theorem Q2 {x:Tm} (h:fc x=true):ER x=true:=by
 unfold ER;by_cases h0:x.kind=0
 ·unfold fc at h;rw[if_pos h0] at h;simp only[Bool.and_eq_true,decide_eq_true_eq] at h;rw[decide_eq_true (show x.args.length=0 by omega)];simp
 ·rw[decide_eq_false h0];rfl
theorem Mj {t:Tm} (h:ib t):t.eM (u9 (bN t))=true:=by
 have h1:=h.1;rw[sw,if_pos h1];simp only[dp,Bool.and_eq_true,decide_eq_true_eq] at h1;exact BN t [] (Bh (fun x=>Q2) t h1.2)
theorem IJ (T:List aF) (b:Bool) {vr vr':Int→List UInt8} {vs:List Int} (hv:∀n ∈ vs,vr n=vr' n):∀(N:Nat) (t:Tm) (n:Int) (bs:Bool),ib t→t.eM (u9 vs)=true→wT T b vr N t n bs=wT T b vr' N t n bs
 | 0,t,n,bs,_,_=>rfl
 | N+1,t,n,bs,h,ha=>by
   have hh:=ha;rw[dd,Bool.and_eq_true] at ha;have sub:∀y ∈ t.args,∀n bs,wT T b vr N y n bs=wT T b vr' N y n bs:=fun y hy n bs=>IJ T b hv N y n bs (dI h hy) (pO ha.2 y hy)
   unfold wT;by_cases k0:t.kind=0
   ·rw[if_pos k0,if_pos k0];have:=ha.1;unfold u9 at this;rw[decide_eq_true k0] at this;simp only[Bool.not_true,Bool.false_or,decide_eq_true_eq] at this;exact hv _ this
   rw[if_neg k0,if_neg k0];by_cases k1:t.kind=1
   ·rw[if_pos k1,if_pos k1]
   rw[if_neg k1,if_neg k1];by_cases k2:t.args.length=0
   ·rw[if_pos k2,if_pos k2]
   rw[if_neg k2,if_neg k2];by_cases k3:((b&&decide (t.name=[46]))&&decide (t.args.length=2))=true
   ·rw[if_pos k3,if_pos k3];obtain⟨i1,i2,i3⟩:=jG t.size t (Nat.le_refl _) h
    have ia:∀(k:Nat) (u:Tm),u.size≤k→ib u→u.eM (u9 vs)=true→(∀y ∈ (aE u).1,y.eM (u9 vs)=true)∧(aE u).2.eM (u9 vs)=true:=fun k=>by
     induction k with
     | zero=>intro u hk;have:=aM u;omega
     | succ k ih=>
       intro u hk hu hau
       cases hd:dx u with
       | false=>rw[fT hd];exact⟨fun y hy=>by simp at hy,hau⟩
       | true=>
         obtain⟨x,r,e1,e2⟩:=eb hd;have hs:=aM u;rw[e1] at hs;simp only[Tm.aI] at hs;rw[dd,Bool.and_eq_true,e1] at hau;simp only[Tm.eN,Bool.and_eq_true] at hau;have:=ih r (by omega) (dI hu (by rw[e1];simp)) hau.2.2.1;rw[e2];refine⟨fun y hy=>?_,this.2⟩;rcases List.mem_cons.1 hy with rfl | hy
         ·exact hau.2.1
         ·exact this.1 y hy
    obtain⟨j1,j2⟩:=ia t.size t (Nat.le_refl _) h hh
    have e1:((aE t).1.map fun x=>wT T b vr N x 999 false)=(aE t).1.map fun x=>wT T b vr' N x 999 false:=
     List.map_congr_left fun y hy=>IJ T b hv N y 999 false (i1 y hy).1 (j1 y hy)
    rw[e1,IJ T b hv N (aE t).2 999 false i2 j2]
   rw[if_neg k3,if_neg k3];by_cases k4:((b&&decide (t.name=[123,125]))&&decide (t.args.length=1))=true
   ·rw[if_pos k4,if_pos k4,sub _ (jb (by omega))]
   rw[if_neg k4,if_neg k4];by_cases k5:(cZ T b t).2=true
   ·have hl:=(eB k5).1;rw[if_pos k5,if_pos k5,sub _ (jb (by omega)),sub _ (C9 (by omega))]
   rw[if_neg k5,if_neg k5];by_cases k6:(dn T b t).2=true
   ·rw[if_pos k6,if_pos k6,sub _ (jb (by omega))]
   rw[if_neg k6,if_neg k6]
   have e1:(t.args.map fun x=>wT T b vr N x 999 false)=t.args.map fun x=>wT T b vr' N x 999 false:=
    List.map_congr_left fun y hy=>sub y hy _ _
   rw[e1]
theorem Wf (T:List aF) (b:Bool) {t:Tm} (h:ib t) (n:Int) (bs:Bool):wF T b (eS (bN t)) t n bs=wF T b (iv (j5 (bN t))) t n bs:=
 IJ T b (fun _ hn=>Sv hn) t.size t n bs h (Mj h)
theorem J0 (vr:Int→List UInt8) {t:Tm} (h:ib t):wF [] false vr t 1200 false=wF [] false vr t 999 false:=by
 rw[zx [] false vr t 1200 false h,zx [] false vr t 999 false h];simp[tQ,yV,cZ,dn]
noncomputable def vu:ai:=⟨53,fun | [.str s]=>some (if 4096 < s.length then .tuple [.str [],.int .i64 3] else .tuple [.str s,.int .i64 0]) | _=>none⟩
theorem kW:vu.f=53:=(rfl)
theorem An (s:List UInt8):vu.S [.str s]=some (if 4096 < s.length then .tuple [.str [],.int .i64 3] else .tuple [.str s,.int .i64 0]):=(rfl)
theorem BM:az Tryz.prog vu:=fun args v hv=>by
 unfold vu at hv ⊢;dsimp only at hv ⊢;split at hv
 ·rename_i s;cases hv;refine aH (n:=6) (h':=h0) (aG (ss:=[]) (by simp)) ?_ (by split<;>simp[AV.refs,AV.af]) (by simp[AV.af,AV.refs]);by_cases h:4096 < s.length
  ·have h':((4096:Int) < (s.length:Int))=True:=eq_true (by omega);rw[if_pos h];simp[RA,c53,h']
  ·have h':((4096:Int) < (s.length:Int))=False:=eq_false (by omega);rw[if_neg h];simp[RA,c53,h']
 ·cases hv
theorem wg (t:Tm):(bN t).length < 100000:=by have:=pT t;omega
noncomputable def mS:ai:=⟨25,fun
 | [v]=>(match dB v with
   | some t=>if rQ t then some (.tuple [.str (iq t).1,.int .i64 (iq t).2]) else none
   | none=>none)
 | _=>none⟩
theorem qY:mS.f=25:=(rfl)
theorem Fg (t:Tm) (h:rQ t):mS.S [t.enc]=some (.tuple [.str (iq t).1,.int .i64 (iq t).2]):=by
 simp only[mS,aX];rw[if_pos h]
theorem MF (h:aa) (n0 d:Nat) (vs:List Int):gr h n0 (d+1) (eD vs)=some (eD vs,[]):=by
 cases vs<;>rfl
theorem DR:ck Tryz.prog dm mS:=fun args v hv=>by
 unfold mS at hv ⊢;dsimp only at hv ⊢;split at hv
 ·rename_i v0;split at hv
  ·rename_i t ht;split at hv
   ·rename_i hc;cases hv;rw[bc ht];have hE:dA Tryz.prog dm (cW [jg,r8,vu] [fa 3000]):=dv (by simp[uA.lift,Bv.lift,BM.lift]) (by simp[nz 3000]);refine aH (n:=10) (h':=h0) hE ?_ (by simp[AV.refs,AV.af]) (by simp[AV.af,Tm.ba]);have q1:=uP t hc.1;have har:=ah t;have hcl:=Tm.an t;unfold iq sv
    cases hg:dp t with
    | false=>
      rw[hg] at q1;rw[if_neg (by simp)];rw[Tm.ay,hcl] at q1 ⊢;simp[Ht,Uv,bY,kU,kW,a7,q1,har,ag]
    | true=>
      rw[hg] at q1;have hok:ib t:=⟨hg,hc.1,hc.2⟩
      rw[if_pos ⟨rfl,by decide⟩,←Wf [] false hok 1200 false,J0 _ hok];have q2:=BT t hc.1;have hgt:=hg;simp only[dp,Bool.and_eq_true,decide_eq_true_eq] at hgt;have q3:=lS 3000 (x:=.ax) (T:=[]) rfl (lT (bN t)) (by decide) (wg t) t ⟨hok,by omega⟩;have q4:=An (wF [] false (eS (bN t)) t 999 false);have ht':=fU (x:=.ax) (T:=[]) rfl (lT (bN t));have hro:=jS (x:=.ax) (T:=[]) rfl (lT (bN t));have hsg:=hO (x:=.ax) (T:=[]) rfl (lT (bN t));have hvr:=nr (bN t);have hfv:=fun h=>MF h 0 7 (bN t)
      have hvc:(eD (bN t)).cells=[eD (bN t)]:=by unfold eD;split<;>rfl
      have hvc2:(eD (bN t)).cells? =some [eD (bN t)]:=by unfold eD;split<;>rfl
      generalize wF [] false (eS (bN t)) t 999 false=W at *;generalize eD (bN t)=V at *;rw[Tm.ay,hcl] at q1 q2 q3 ⊢;by_cases hl:4096 < W.length
      ·rw[if_pos hl] at q4 ⊢;simp[Ht,Uv,bY,kU,kW,a7,q1,q2,q3,q4,ht',hro,hsg,-aN,-bm,-aY,hvr,har,ag,hfv,hvc,hvc2]
      ·rw[if_neg hl] at q4 ⊢;simp[Ht,Uv,bY,kU,kW,a7,q1,q2,q3,q4,ht',hro,hsg,-aN,-bm,-aY,hvr,har,ag,hfv,hvc,hvc2]
   ·cases hv
  ·cases hv
 ·cases hv
noncomputable def pG:ai:=⟨21,fun
 | [x,v]=>(match a6 x,dB v with
   | some T,some t=>if rQ t∧T.length < 1000000 then some (.tuple [.str (kY T t).1,.int .i64 (kY T t).2]) else none
   | _,_=>none)
 | _=>none⟩
theorem va:pG.f=21:=(rfl)
theorem Gt {x:AV} {T:List aF} (hx:a6 x=some T) (t:Tm) (h:rQ t) (hT:T.length < 1000000):pG.S [x,t.enc]=some (.tuple [.str (kY T t).1,.int .i64 (kY T t).2]):=by
 simp only[pG,hx,aX];rw[if_pos ⟨h,hT⟩]
theorem HY:ck Tryz.prog dm pG:=fun args v hv=>by
 unfold pG at hv ⊢;dsimp only at hv ⊢;split at hv
 ·rename_i x v0;split at hv
  ·rename_i T t hx ht;split at hv
   ·rename_i hc;cases hv;obtain⟨hc,hT⟩:=hc;rw[bc ht];have hxr:=bC hx;have hfx:=fun h=>nV hx h 0 7
    have hE:dA Tryz.prog dm (cW [pA,jg,r8,vu] [jt 3000]):=dv (by simp[G2.lift,uA.lift,Bv.lift,BM.lift]) (by simp[Ar 3000]);refine aH (n:=10) (h':=h0) hE ?_ (by simp[AV.refs,AV.af]) (by simp[AV.af,Tm.ba,hxr]);have q0:=GM hx (by omega);have q1:=uP t hc.1;have har:=ah t;have hcl:=Tm.an t;unfold kY sv
    cases hgo:bM T with
    | false=>
      rw[hgo] at q0;rw[if_neg (by simp)];rw[Tm.ay,hcl] at q1 ⊢;simp[CD,c21,hfx,pJ,bY,kU,kW,bu,q0,har,ag]
    | true=>
      rw[hgo] at q0
      cases hg:dp t with
      | false=>
        rw[hg] at q1;rw[if_neg (by simp)];rw[Tm.ay,hcl] at q1 ⊢;simp[CD,c21,hfx,pJ,bY,kU,kW,bu,q0,q1,har,ag]
      | true=>
        rw[hg] at q1;have hok:ib t:=⟨hg,hc.1,hc.2⟩
        rw[if_pos ⟨rfl,rfl⟩,←Wf T true hok 1200 false];have q2:=BT t hc.1;have hgt:=hg;simp only[dp,Bool.and_eq_true,decide_eq_true_eq] at hgt;have q3:=je 3000 hx (lT (bN t)) hT (wg t) t ⟨⟨hok,hgo⟩,by omega⟩ 1200 false;have q4:=An (wF T true (eS (bN t)) t 1200 false);have ht':=fU hx (lT (bN t));have hro:=jS hx (lT (bN t));have hsg:=hO hx (lT (bN t));have hvr:=nr (bN t);have hfv:=fun h=>MF h 0 7 (bN t)
        have hvc:(eD (bN t)).cells=[eD (bN t)]:=by unfold eD;split<;>rfl
        have hvc2:(eD (bN t)).cells? =some [eD (bN t)]:=by unfold eD;split<;>rfl
        have hxc:x.cells=[x]:=by rcases aD hx with⟨rfl,_⟩ | rfl<;>rfl
        have hxc2:x.cells? =some [x]:=by rcases aD hx with⟨rfl,_⟩ | rfl<;>rfl
        generalize wF T true (eS (bN t)) t 1200 false=W at *;generalize eD (bN t)=V at *;rw[Tm.ay,hcl] at q1 q2 q3 ⊢;by_cases hl:4096 < W.length
        ·rw[if_pos hl] at q4 ⊢;simp[CD,c21,hfx,pJ,bY,kU,kW,bu,q0,q1,q2,q3,q4,ht',hro,hsg,-aN,-bm,-aY,hvr,har,ag,hfv,hvc,hvc2,hxc,hxc2]
        ·rw[if_neg hl] at q4 ⊢;simp[CD,c21,hfx,pJ,bY,kU,kW,bu,q0,q1,q2,q3,q4,ht',hro,hsg,-aN,-bm,-aY,hvr,har,ag,hfv,hvc,hvc2,hxc,hxc2]
   ·cases hv
  ·cases hv
 ·cases hv
def EO:List UInt8:=[120,102,120]
def Wt:List UInt8:=[120,102,121]
def Oz:List UInt8:=[121,102,120]
def Xh:List UInt8:=[102,121]
def mH:List aF:=[⟨[58,45],EO,1200⟩,⟨[59],Wt,1100⟩,⟨[45,62],Wt,1050⟩,⟨[44],Wt,1000⟩,⟨[92,43],Xh,900⟩,
 ⟨[61],EO,700⟩,⟨[92,61],EO,700⟩,⟨[61,61],EO,700⟩,⟨[92,61,61],EO,700⟩,⟨[64,60],EO,700⟩,⟨[64,62],EO,700⟩,⟨[64,61,60],EO,700⟩,⟨[64,62,61],EO,700⟩,
 ⟨[61,46,46],EO,700⟩,⟨[105,115],EO,700⟩,⟨[61,58,61],EO,700⟩,⟨[61,92,61],EO,700⟩,⟨[60],EO,700⟩,⟨[62],EO,700⟩,⟨[61,60],EO,700⟩,⟨[62,61],EO,700⟩,
 ⟨[43],Oz,500⟩,⟨[45],Oz,500⟩,⟨[47,92],Oz,500⟩,⟨[92,47],Oz,500⟩,⟨[120,111,114],Oz,500⟩,
 ⟨[42],Oz,400⟩,⟨[47,47],Oz,400⟩,⟨[109,111,100],Oz,400⟩,⟨[114,101,109],Oz,400⟩,⟨[62,62],Oz,400⟩,⟨[60,60],Oz,400⟩,
 ⟨[94],Wt,200⟩,⟨[45],Xh,200⟩,⟨[92],Xh,200⟩]
def oQ:ai:=⟨12,fun | []=>some (.agg [.sl (mH.map aF.enc)]) | _=>none⟩
theorem GS:oQ.f=12:=(rfl)
theorem FO:oQ.S []=some (.agg [.sl (mH.map aF.enc)]):=(rfl)
theorem EJ:(aw (a8 []) 60 12 [] h0).map (·.1)=some (.agg [.sl (mH.map aF.enc)]):=by kernel_rfl
theorem ES:az Tryz.prog oQ:=fun args v hv=>by
 unfold oQ at hv ⊢;dsimp only at hv ⊢;split at hv
 ·cases hv;obtain⟨p,h1,h2⟩:=Option.map_eq_some_iff.1 EJ;obtain⟨a,h'⟩:=p;dsimp only at h2;subst h2;exact aH (n:=60) (h':=h') (aG (ss:=[]) (by simp)) h1 (by decide+kernel) rfl
 ·cases hv
theorem oG (T:List aF) (b:Bool) (vr:Int→List UInt8):∀(N:Nat) (t:Tm) (n:Int) (bs:Bool),wT T b vr N (bH t) n bs=wT T b vr N t n bs
 | 0,t,n,bs=>rfl
 | N+1,t,n,bs=>by
   have a0:t.args.length≠0→om (bH t)=bH (om t):=fun h=>by
    unfold om;rw[gD]
    cases ha:t.args with
    | nil=>rw[ha] at h;simp at h
    | cons y r=>rfl
   have a1:t.args.length=2→Of (bH t)=bH (Of t):=fun h=>by
    unfold Of;rw[gD]
    match ha:t.args with
    | [y,z]=>rfl
    | []=>rw[ha] at h;simp at h
    | [y]=>rw[ha] at h;simp at h
    | y::z::w::r=>rw[ha] at h;simp at h
   have einf:∀u:Tm,cZ T b (bH u)=cZ T b u:=fun u=>by unfold cZ;rw[pB,ll]
   have epre:dn T b (bH t)=dn T b t:=by
    unfold dn;rw[pB,ll];by_cases h:t.args.length=1
    ·rw[a0 (by omega),mY]
    ·simp[h]
   have hit:=Ao t.size t (Nat.le_refl _);unfold wT;rw[mY,xo,ll,pB,einf,epre,hit];by_cases k0:t.kind=0
   ·rw[if_pos k0,if_pos k0]
   rw[if_neg k0,if_neg k0];by_cases k1:t.kind=1
   ·rw[if_pos k1,if_pos k1]
   rw[if_neg k1,if_neg k1];by_cases k2:t.args.length=0
   ·rw[if_pos k2,if_pos k2]
   rw[if_neg k2,if_neg k2];have hn:mC (bH (aE t).2)=mC (aE t).2:=by unfold mC;rw[mY,ll,pB]
   by_cases k3:((b&&decide (t.name=[46]))&&decide (t.args.length=2))=true
   ·rw[if_pos k3,if_pos k3];dsimp only;rw[hn,oG T b vr N,List.map_map];have:((fun x=>wT T b vr N x 999 false) ∘bH)=fun x=>wT T b vr N x 999 false:=funext fun x=>oG T b vr N x 999 false
    rw[this]
   rw[if_neg k3,if_neg k3];rw[a0 k2];by_cases k4:((b&&decide (t.name=[123,125]))&&decide (t.args.length=1))=true
   ·rw[if_pos k4,if_pos k4,oG T b vr N]
   rw[if_neg k4,if_neg k4];have el:∀o,lW T b o (bH t)=lW T b o t:=fun o=>by unfold lW;rw[a0 k2,einf]
   by_cases k5:(cZ T b t).2=true
   ·have hl:=(eB k5).1;rw[if_pos k5,if_pos k5,a1 hl,oG T b vr N,oG T b vr N,el]
   rw[if_neg k5,if_neg k5];by_cases k6:(dn T b t).2=true
   ·rw[if_pos k6,if_pos k6,oG T b vr N]
   rw[if_neg k6,if_neg k6,gD,List.map_map];have:((fun x=>wT T b vr N x 999 false) ∘bH)=fun x=>wT T b vr N x 999 false:=funext fun x=>oG T b vr N x 999 false
   rw[this]
mutual
theorem BG:∀(t:Tm) (l:List Int),fQ (bH t) l=fQ t l
 | .nl k n s,l=>rfl
 | .mk k n s us,l=>by
   rw[iS,iS,mY,xo,gD];show (if k=0 then lJ n l else cO (us.map bH) l)=if k=0 then lJ n l else cO us l
   rw[xM us l]
theorem xM:∀(us:List Tm) (l:List Int),cO (us.map bH) l=cO us l
 | [],l=>rfl
 | t::r,l=>by
   rw[List.map_cons];show cO (r.map bH) (fQ (bH t) l)=cO r (fQ t l);rw[BG t l,xM r]
end
theorem BX (t:Tm):bN (bH t)=bN t:=by rw[sw,sw,DW,BG]
theorem DS (T:List aF) (b:Bool) (ps:List (Int×Int)) (t:Tm):sv T b ps (bH t)=sv T b ps t:=by
 unfold sv wF;rw[DW,zm,oG]
theorem KS (T:List aF) (t:Tm):kY T (bH t)=kY T t:=by unfold kY;rw[BX,DS]
theorem H7 (t:Tm):iq (bH t)=iq t:=by unfold iq;rw[BX,DS]
mutual
theorem Jd:∀t:Tm,(bH t).eM kZ=t.eM kZ
 | .nl k n s=>rfl
 | .mk k n s us=>by
   rw[dd,gD];show (kZ (bH (Tm.mk k n s us))&&Tm.eN kZ (us.map bH))=(kZ (Tm.mk k n s us)&&Tm.eN kZ us);rw[FV us];unfold kZ;rw[xo]
theorem FV:∀us:List Tm,Tm.eN kZ (us.map bH)=Tm.eN kZ us
 | []=>rfl
 | t::r=>by
   show ((bH t).eM kZ&&Tm.eN kZ (r.map bH))=(t.eM kZ&&Tm.eN kZ r);rw[Jd t,FV r]
end
theorem Ez {t:Tm} (h:rQ t):rQ (bH t):=⟨by rw[D9];exact h.1,by rw[Jd];exact h.2⟩
def tA (s:List UInt8):Tm:=.nl 2 0 s
def Ub:Tm:=.mk 2 0 [43] [tA [97],.mk 2 0 [42] [tA [98],tA [99]]]
def tF:Tm:=.mk 2 0 [102] [.nl 0 7 [],.nl 1 (-1) []]
noncomputable def SC:List ai:=[oQ,Fi,yp,nZ,OO,M1,nS]
theorem QT:∀s ∈ SC,ck Tryz.prog dm s:=by simp[SC,ES.lift,Pe.lift,Om.lift,yy,QE.lift,Rj.lift,yD]
theorem QI:kY mH Ub=([97,32,43,32,98,32,42,32,99],0):=by decide+kernel
theorem V8:iq tF=([102,40,95,48,44,45,49,41],0):=by decide+kernel
def sx:ai:=⟨18,fun | []=>some (.bool true) | _=>none⟩
theorem vO:sx.f=18:=(rfl)
theorem HB:sx.S []=some (.bool true):=(rfl)
theorem Hp:ck Tryz.prog dm sx:=fun args v hv=>by
 unfold sx at hv ⊢;dsimp only at hv ⊢;split at hv
 ·cases hv;refine aH (n:=10) (h':=h0) (gQ QT) ?_ rfl rfl;have q0:=FO;have qa:∀s,Fi.S [.str s]=some (.agg [.int .i64 2,.int .i64 0,.str s,.ax]):=fun s=>rfl
  have qb:yp.S [.str [42],.sl [.agg [.int .i64 2,.int .i64 0,.str [98],.ax],.agg [.int .i64 2,.int .i64 0,.str [99],.ax]]]=some (.agg [.int .i64 2,.int .i64 0,.str [42],.sl [.agg [.int .i64 2,.int .i64 0,.str [98],.ax],.agg [.int .i64 2,.int .i64 0,.str [99],.ax]]]):=by kernel_rfl
  have qc:yp.S [.str [43],.sl [.agg [.int .i64 2,.int .i64 0,.str [97],.ax],.agg [.int .i64 2,.int .i64 0,.str [42],.sl [.agg [.int .i64 2,.int .i64 0,.str [98],.ax],.agg [.int .i64 2,.int .i64 0,.str [99],.ax]]]]]=
   some (.agg [.int .i64 2,.int .i64 0,.str [43],.sl [.agg [.int .i64 2,.int .i64 0,.str [97],.ax],.agg [.int .i64 2,.int .i64 0,.str [42],.sl [.agg [.int .i64 2,.int .i64 0,.str [98],.ax],.agg [.int .i64 2,.int .i64 0,.str [99],.ax]]]]]):=by kernel_rfl
  have qd:=yO (pE mH) Ub (by decide+kernel) (by decide);rw[QI] at qd;have qv:OO.S [.int .i64 7]=some (.agg [.int .i64 0,.int .i64 7,.str [],.ax]):=rfl;have qi:M1.S [.int .i64 (-1)]=some (.agg [.int .i64 1,.int .i64 (-1),.str [],.ax]):=rfl;have qf:yp.S [.str [102],.sl [.agg [.int .i64 0,.int .i64 7,.str [],.ax],.agg [.int .i64 1,.int .i64 (-1),.str [],.ax]]]=some (.agg [.int .i64 2,.int .i64 0,.str [102],.sl [.agg [.int .i64 0,.int .i64 7,.str [],.ax],.agg [.int .i64 1,.int .i64 (-1),.str [],.ax]]]):=by kernel_rfl
  have qg:=ya tF (by decide+kernel);rw[V8] at qg;have e1:Ub.enc=.agg [.int .i64 2,.int .i64 0,.str [43],.sl [.agg [.int .i64 2,.int .i64 0,.str [97],.ax],.agg [.int .i64 2,.int .i64 0,.str [42],.sl [.agg [.int .i64 2,.int .i64 0,.str [98],.ax],.agg [.int .i64 2,.int .i64 0,.str [99],.ax]]]]]:=rfl;have e2:tF.enc=.agg [.int .i64 2,.int .i64 0,.str [102],.sl [.agg [.int .i64 0,.int .i64 7,.str [],.ax],.agg [.int .i64 1,.int .i64 (-1),.str [],.ax]]]:=rfl;rw[e1] at qd;rw[e2] at qg;simp only[SC];generalize mH.map aF.enc=P at *;simp[Vy,Wy,GS,QK,PW,pS,T2,Uf,pF,q0,qa,qb,qc,qd,qv,qi,qf,qg]
 ·cases hv
noncomputable def Lm:List ai:=[sx,ik 70,nZ,qm,gU 1000000000,pG,nS,mS]
theorem Qe:∀s ∈ Lm,ck Tryz.prog dm s:=by simp[Lm,Hp,(zD 70 (by decide)).lift,yy,G8.lift,(yz 1000000000 (by decide)).lift,HY,yD,DR]
theorem zV (T:List aF) (t:Tm) (hb:t.eU < 100000000) (hr:t.eM kZ=true):∃h',aw (a8 Lm) 10 6 [.sl (T.map aF.enc),t.enc] h0=some (.bool true,h'):=by
 have q0:=HB;have hUl:(T.map aF.enc).length=T.length:=List.length_map _;have hpr:=aZ T;have har:=ah t;have hcl:=Tm.an t;have hok:rQ t:=⟨by omega,hr⟩
 have hsz:=iD t;by_cases hl:60 < T.length
 ·have hl':((60:Int) < (T.length:Int))=True:=eq_true (by omega);refine⟨h0,?_⟩;rw[Tm.ay,hcl];simp only[Lm];simp[Sy,c6,vO,gF,pS,ve,j3,va,pF,qY,q0,har,ag,hl']
 have hl':((60:Int) < (T.length:Int))=False:=eq_false (by omega);have q1:(ik 70).S [t.enc,.int .i64 70]=some (.bool (nh 70 t)):=AK 70 t
 cases hd:nh 70 t with
 | true=>
   rw[hd] at q1;refine⟨h0,?_⟩;rw[Tm.ay,hcl] at q1 ⊢;simp only[Lm];simp[Sy,c6,vO,gF,pS,ve,j3,va,pF,qY,q0,q1,har,ag,hl']
 | false=>
   rw[hd] at q1;have q2:=yO (pE T) t hok (by omega);have q3:=GK (pE T) (by omega);have q4:=pY 1000000000 t (by omega);have q5:=Gt (Eh T) (bH t) (Ez hok) (by omega);have q6:=ya t hok;have q7:=Fg (bH t) (Ez hok);rw[KS] at q5;rw[H7] at q7;have hvr:=BQ T;have hfv:∀h,gr h 0 8 (opsV T)=some (opsV T,[]):=fun h=>nV (Eh T) h 0 7
   have hor:=ah (bH t);have hoc:(bH t).cells=[.int .i64 (bH t).kind,.int .i64 (bH t).num,.str (bH t).name,(bH t).aJ]:=rfl;have hvc:(opsV T).cells=[opsV T]:=by unfold opsV;split<;>rfl
   have hvc2:(opsV T).cells? =some [opsV T]:=by unfold opsV;split<;>rfl
   generalize kY T t=R at *;obtain⟨r1,r2⟩:=R;generalize iq t=S at *;obtain⟨s1,s2⟩:=S;generalize opsV T=V at *;generalize bH t=u at *;refine⟨h0,?_⟩;rw[Tm.ay t,hcl] at q1 q2 q4 q6 ⊢;rw[Tm.ay u,hoc] at q4 q5 q7;simp only[Lm];generalize T.map aF.enc=U at *;simp[Sy,c6,vO,gF,pS,ve,j3,va,pF,qY,q0,q1,q2,q3,q4,q5,q6,q7,har,hor,hvr,hpr,ag,hfv,hvc,hvc2,hl',hUl]
theorem Tryz.own:ownKnob Tryz.prog.godebug=none:=by kernel_rfl
theorem Tryz.laidOut:laidOutB Tryz.prog=true:=by kernel_rfl
theorem Rl {l:List (String×DataW Unit)} {W:World} (hL:laidMetH Tryz.prog l W)
 (h:(l.filter fun x=>x.1== "internal/strconv.uint64pow10")=[("internal/strconv.uint64pow10",Lib.tabData .u64 Lib.pow10Tab)]∧(l.filter fun x=>x.1== "strconv.ErrRange")=[("strconv.ErrRange",Rows.laid_strconv_ErrRange)]):dm W:=by
 have h1:=hL.filter fun x=>x.1== "internal/strconv.uint64pow10"
 rw[h.1,MakeChecks.laidMetH_plain _ _ _ (by kernel_rfl)] at h1;have h2:=hL.filter fun x=>x.1== "strconv.ErrRange"
 rw[h.2,MakeChecks.laidMetH_plain _ _ _ (by kernel_rfl)] at h2;refine⟨Lib.tabIs_of_head (g:=5) (by kernel_rfl) (t:=251) (by kernel_rfl) (e:=213) (n:=20) (by kernel_rfl) (by kernel_rfl) (by kernel_rfl) (by kernel_rfl) h1,?_⟩;exact Af (g:=2) (t:=170) (ms:=#[("Error",139)]) (by kernel_rfl) (by kernel_rfl) (by kernel_rfl) h2
end Go.Proofs.YtjmeonoabiliiaaGreatDoor

namespace Go.Proofs.YtjmeonoabiliiaaGreatDoor
open Go Sz Go.ChangeShapes Go.WideShapes Go.ChangeAt Go.RowKit
theorem Ga:∀(n:Nat) (v:AV),SizeOf.sizeOf v≤n→hY Tryz.prog 31 v→∃t:Tm,v=t.enc∧(∃k n s us,t=.mk k n s us)∧t.eM kZ=true
 | 0,v,h,_=>by cases v<;>simp at h
 | n+1,v,hn,h=>by
   obtain⟨vs,rfl,hv⟩:=Nw Tryz.underlying31 h
   cases hv with
   | cons h1 r1=>cases r1 with
     | cons h2 r2=>cases r2 with
       | cons h3 r3=>cases r3 with
         | cons h4 r4=>
           cases r4;obtain⟨k,rfl,_⟩:=Hz Tryz.underlying3 h1;obtain⟨q,rfl,hq1,hq2⟩:=Hz Tryz.underlying2 h2;obtain⟨s,rfl,_⟩:=GR Tryz.underlying9 h3;obtain⟨xs,rfl,_,hx⟩:=RJ Tryz.underlying29 h4
           have hsz:SizeOf.sizeOf xs≤n:=by
            simp only[List.flatMap_cons,List.flatMap_nil,AV.cells,List.cons_append,List.nil_append,List.append_nil,AV.agg.sizeOf_spec,List.cons.sizeOf_spec,AV.sl.sizeOf_spec] at hn;omega
           obtain⟨us,rfl⟩:=Hl (f:=Tm.enc) fun x hm=>by
            obtain⟨t,e,_⟩:=Ga n x (by have:=List.sizeOf_lt_of_mem hm;omega) (hx x hm);exact⟨t,e⟩
           refine⟨.mk k q s us,by simp[Tm.enc,AV.cells,j6],⟨k,q,s,us,rfl⟩,?_⟩
           have hall:∀u ∈ us,u.eM kZ=true:=fun u hu=>by
            have hm:u.enc ∈ us.map Tm.enc:=List.mem_map_of_mem hu;obtain⟨t,e,_,ht⟩:=Ga n u.enc (by have:=List.sizeOf_lt_of_mem hm;omega) (hx _ hm);have e2:some u=some t:=by rw[←aX u,e,aX]
            cases e2;exact ht
           have hL:∀us:List Tm,(∀u ∈ us,u.eM kZ=true)→Tm.eN kZ us=true:=fun us=>by
            induction us with
            | nil=>intro _;rfl
            | cons y r ih=>
              intro h;simp only[Tm.eN,Bool.and_eq_true];exact⟨h y (by simp),ih fun u hu=>h u (List.mem_cons_of_mem _ hu)⟩
           rw[dd,Bool.and_eq_true];refine⟨?_,hL us hall⟩;show (decide (-9223372036854775808≤q)&&decide (q < 9223372036854775808))=true;rw[decide_eq_true hq1,decide_eq_true hq2];rfl
theorem U7 {v:AV} (h:hY Tryz.prog 31 v):∃t:Tm,v=t.enc∧(∃k n s us,t=.mk k n s us)∧t.eM kZ=true:=Ga _ v (Nat.le_refl _) h
theorem TG {v:AV} (h:hY Tryz.prog 65 v):∃o:aF,v=o.enc:=by
 obtain⟨vs,rfl,hv⟩:=Nw Tryz.underlying65 h
 cases hv with
 | cons h1 r1=>cases r1 with
   | cons h2 r2=>cases r2 with
     | cons h3 r3=>
       cases r3;obtain⟨a,rfl,_⟩:=GR Tryz.underlying9 h1;obtain⟨b,rfl,_⟩:=GR Tryz.underlying9 h2;obtain⟨l,rfl,_⟩:=Hz Tryz.underlying3 h3;exact⟨⟨a,b,l⟩,rfl⟩
theorem Qn {v:AV} (h:hY Tryz.prog 23 v):∃l:List aF,v=.sl (l.map aF.enc):=by
 obtain⟨xs,rfl,_,hx⟩:=RJ Tryz.underlying23 h;obtain⟨l,rfl⟩:=Hl (f:=aF.enc) fun x hm=>TG (hx x hm)
 exact⟨l,rfl⟩
mutual
def vb:AV→Nat
 | .bool _=>1
 | .int ..=>1
 | .str s=>s.length+1
 | .sl xs=>zS xs+1
 | .agg cs=>zS cs
 | _=>0
def zS:List AV→Nat
 | []=>0
 | v::r=>vb v+zS r
end
theorem Gw (a b:List AV):zS (a++b)=zS a+zS b:=by
 induction a with
 | nil=>simp[zS]
 | cons v r ih=>simp[zS,ih];omega
theorem Kp (v:AV):zS v.cells=vb v:=by
 cases v<;>simp[AV.cells,zS,vb]
mutual
theorem R5 {H:Type}:∀d:DataW H,vb (gA d)≤Rows.uptoBulk d
 | .lit l=>by cases l<;>simp[gA,vb,Rows.uptoBulk,String.length,ByteArray.size]
 | .nil=>by simp[gA,vb,zS,Rows.uptoBulk]
 | .ptr d=>by simp[gA,vb]
 | .slice es sp=>by have:=Hj es;simp[gA,vb,Rows.uptoBulk];omega
 | .agg ps=>by have:=Mg ps;simp[gA,vb,Rows.uptoBulk];omega
 | .iface _ d=>by simp[gA,vb]
 | .map _=>by simp[gA,vb]
 | .held _=>by simp[gA,vb]
theorem Hj {H:Type}:∀l:List (DataW H),zS (lU l)≤Rows.uptoBulkAll l
 | []=>by simp[lU,zS]
 | d::r=>by have:=R5 d;have:=Hj r;simp[lU,zS,Rows.uptoBulkAll];omega
theorem Mg {H:Type}:∀l:List (DataW H),zS (lg l)≤Rows.uptoBulkAll l
 | []=>by simp[lg,zS]
 | d::r=>by have:=R5 d;have:=Mg r;simp[lg,Gw,Kp,Rows.uptoBulkAll];omega
end
theorem P2 {H:Type} {ds:List (DataW H)} (h:Rows.uptoSmall H ds=true):zS (ds.map gA)≤1048576:=by
 have h1:=Hj ds;rw[jK] at h1;have h2:Rows.uptoBulkAll ds≤1048576:=of_decide_eq_true h;omega
mutual
theorem I1:∀t:Tm,t.eU≤vb t.enc
 | .nl k n s=>by simp[Tm.eU,Tm.enc,vb,zS];omega
 | .mk k n s us=>by have:=Fu us;simp[Tm.eU,Tm.enc,vb,zS];omega
theorem Fu:∀l:List Tm,Tm.kA l≤zS (Tm.qC l)
 | []=>by simp[Tm.kA]
 | t::r=>by have:=I1 t;have:=Fu r;simp[Tm.kA,Tm.qC,zS];omega
end
end Go.Proofs.YtjmeonoabiliiaaGreatDoor

namespace Go.Proofs.YtjmeonoabiliiaaGreatDoor
open Go Sz
theorem Hn (T:List aF) (t:Tm) (hb:t.eU < 100000000) (hr:t.eM kZ=true):fL Tryz.prog dm 6 [.sl (T.map aF.enc),t.enc] (.bool true):=by
 obtain⟨h',e⟩:=zV T t hb hr;exact aH (gQ Qe) e rfl (by simp[AV.af,Tm.ba,AV.refs,aZ])
theorem xD {H:Type} (ds:List (DataW H)) (h:rC Tryz.prog Tryz.f6.params.toList (ds.map gA)) (_:(DataW.weightsEach Tryz.prog Tryz.f6.params.toList ds).all (·≤reachBytes)=true) (hk:Rows.uptoSmall H ds=true):fL Tryz.prog dm 6 (ds.map gA) (.bool true):=by
 have hb:=P2 hk;generalize ds.map gA=avs at h hb;rw[Tryz.params6] at h
 cases h with
 | cons h1 r1=>
   cases r1 with
   | cons h2 r2=>
     cases r2;obtain⟨T,rfl⟩:=Qn h1;obtain⟨t,rfl,_,hr⟩:=U7 h2;have:=I1 t;simp only[zS] at hb;exact Hn T t (by omega) hr
end Go.Proofs.YtjmeonoabiliiaaGreatDoor
