import Derived.Test.YtjmeonoabiliiaaGreatDoorAt
import Derived.Test.YtjmeonoabiliiaaGreatDoorBd2
set_option linter.all false
set_option maxHeartbeats 16000000
set_option maxRecDepth 100000
namespace Sz
theorem abn(o:aT):gE (λi=>i) o=o:=by
 cases o with
 |dead=>rfl
 |row cs=>
   simp only[gE];congr 1;conv=>rhs;rw[<-List.map_id cs]
   exact List.map_congr_left λv _=>E1
 |map es=>
   simp only[gE];congr 1;conv=>rhs;rw[<-List.map_id es]
   exact List.map_congr_left λe _=>by rw[E1,E1];rfl
theorem Fe{P:Go.Program}{X:Go.World->Prop}{E:Env}(hE:cb P X E){n f:Nat}{ax:List AV}{os:List aT}{v:AV}{h1:af}(he:aH E n f (.ptr 0 0::ax) (D3 os)=some (v,h1))(hg:∀i,i<os.length->h1.get i=os[i]?)
 (hv:v.aJ=0) (hr:AV.ah ax=0) (h0:0<os.length) (hc:∀o∈os,C7 os.length o=true):cp P X f (.ptr 0 0::ax) os v none:=
 DB (qs:=[]) hE he hv (λa ha=>by
  rcases List.mem_cons.1 ha with rfl|ha
  .exact decide_eq_true h0
  .exact l9 _ (by have:=AV.cR ha;omega)) (Nat.le_refl _) (DL (by simp) (by simp) (by simp) λi o ho _=>by
   simp only[Option.getD] at ho;obtain⟨hi,rfl⟩:=List.getElem?_eq_some_iff.1 ho;have hl:=hc _ (List.getElem_mem hi);refine⟨?_,hl⟩
   have e:gE (uO os.length []) os[i]=os[i]:=by rw[NT (g':=λi=>i) (λj hj=>by unfold uO;rw[if_pos hj]) hl,abn]
   rw[e];have e2:uO os.length [] i=i:=by unfold uO;rw[if_pos hi]
   rw[e2,hg i hi];exact List.getElem?_eq_getElem hi)
end Sz
namespace Go.Proofs.YtjmeonoabiliiaaGreatDoor
open Go Sz
def gZ(ps:List (Int×Int)):List (AV×AV):=ps.map λp=>(.int .i64 p.1,.int .i64 p.2)
def PY:List (AV×AV)->Option (List (Int×Int))
 |[]=>some []
 |(.int .i64 a,.int .i64 b)::r=>(PY r).map ((a,b)::·)
 |_=>none
theorem MJ:∀ps,PY (gZ ps)=some ps
 |[]=>rfl
 |(a,b)::r=>by have:=MJ r;unfold gZ at this|-;simp[PY,this]
theorem Mq:∀{es:List (AV×AV)} {ps:List (Int×Int)},PY es=some ps->es=gZ ps
 |[],ps,h=>by simp[PY] at h;subst h;rfl
 |(x,y)::r,ps,h=>by
   unfold PY at h;split at h
   .rename_i he;cases he
   .rename_i a b r' he;cases he;simp only[Option.map_eq_some_iff] at h;obtain⟨q,h1,rfl⟩:=h;rw[Mq h1];rfl
   .cases h
def NO(n:Int):List (Int×Int)->Option Int
 |[]=>none
 |(a,b)::r=>if n=a then some b else NO n r
theorem V1(n:Int):∀ps,oX 1 (.int .i64 n) (gZ ps)=some ((NO n ps).map λb=>.int .i64 b)
 |[]=>rfl
 |(a,b)::r=>by
   have ih:=V1 n r;unfold gZ at ih|-;simp only[List.map_cons,oX,NO];by_cases h:n=a
   .subst h;simp[iC]
   .simp[iC,h,ih]
def qW(ps:List (Int×Int))(n:Int):Int:=(NO n ps).getD 0
def qe(ps:List (Int×Int)):Bool:=ps.all λp=>decide (0<=p.2)&&decide (p.2<1000000000)
theorem Ap{ps:List (Int×Int)}(h:qe ps=true)(n:Int):0<=qW ps n/\qW ps n<1000000000:=by
 unfold qW
 induction ps with
 |nil=>simp[NO]
 |cons p r ih=>
   obtain⟨a,b⟩:=p;simp only[qe,List.all_cons,Bool.and_eq_true,decide_eq_true_eq] at h;unfold NO;split
   .exact h.1
   .exact ih h.2
def k9(ps:List (Int×Int))(n:Int):List UInt8:=[95]++cn (qW ps n)
theorem nZ{ps:List (Int×Int)}(h:qe ps=true)(n:Int):(k9 ps n).length<=21:=by have:=Ap h n;have:=xi (qW ps n) (by omega);simp[k9];omega
theorem dj(τ:List Nat)(ps:List (Int×Int)):okO τ (.map (gZ ps))=true:=by rw[cV,List.all_eq_true];intro e he;obtain⟨p,_,rfl⟩:=List.mem_map.1 he;rfl
theorem cJ(g:Nat->Nat)(ps:List (Int×Int)):gE g (.map (gZ ps))=.map (gZ ps):=by rw[cA];congr 1;unfold gZ;rw[List.map_map];rfl
theorem Xu(n:Nat)(ps:List (Int×Int)):C7 n (.map (gZ ps))=true:=by show ((gZ ps).all λe=>dk n e.1&&dk n e.2)=true;rw[List.all_eq_true];intro e he;obtain⟨p,_,rfl⟩:=List.mem_map.1 he;rfl
structure Wr where
 T:List a7
 b:Bool
 ps:List (Int×Int)
def CX:List aT->Option Wr
 |[.row [x,.bool b,.map 1],.map es]=>(match aZ x,PY es with
   |some T,some ps=>if T.length<1000000/\qe ps=true then some ⟨T,b,ps⟩ else none
   |_,_=>none)
 |_=>none
def ly(x:AV)(b:Bool)(ps:List (Int×Int)):List aT:=[.row [x,.bool b,.map 1],.map (gZ ps)]
theorem mO{os:List aT}{W:Wr}(h:CX os=some W):∃x,aZ x=some W.T/\os=ly x W.b W.ps/\W.T.length<1000000/\qe W.ps=true:=by
 unfold CX at h;split at h
 .rename_i x b es;split at h
  .rename_i T ps h1 h2;split at h
   .rename_i hc;cases h;exact⟨x,h1,by rw[Mq h2];rfl,hc.1,hc.2⟩
   .cases h
  .cases h
 .cases h
theorem o9{x:AV}{T:List a7}(hx:aZ x=some T)(b:Bool)(ps:List (Int×Int))(hT:T.length<1000000)(hp:qe ps=true):CX (ly x b ps)=some ⟨T,b,ps⟩:=by simp only[CX,ly,hx,MJ];rw[if_pos ⟨hT,hp⟩]
theorem Zu{x:AV}{T:List a7}(hx:aZ x=some T)(b:Bool)(ps:List (Int×Int)):∀o∈ly x b ps,C7 (ly x b ps).length o=true:=λo ho=>by
 simp only[ly,List.mem_cons,List.not_mem_nil,or_false] at ho;rcases ho with rfl|rfl
 .show List.all _ _=true;simp only[List.all_cons,List.all_nil,Bool.and_true];rw[l9 _ (fb hx)];rfl
 .exact Xu _ _
theorem qV{X:World->Prop}{E:Env}(hE:cb Tryz.prog X E){n f:Nat}{ax:List AV}{x:AV}{T:List a7}(hx:aZ x=some T){b:Bool}{ps:List (Int×Int)}{v:AV}{m:Nat}
 (he:aH E n f (.ptr 0 0::ax) ⟨2,[.map (gZ ps),.row [x,.bool b,.map 1]],2,2⟩=some (v,⟨2,[.map (gZ ps),.row [x,.bool b,.map 1]],2,m⟩)) (hv:v.aJ=0) (hr:AV.ah ax=0):cp Tryz.prog X f (.ptr 0 0::ax) (ly x b ps) v none:=
 Fe hE he (λi hi=>by
  match i,hi with
  |0,_=>rfl
  |1,_=>rfl
  |i+2,hi=>exact absurd (show i+2<2 from hi) (by omega)) hv hr (by simp[ly]) (Zu hx b ps)
def lJ:aW:=⟨136,λ|[.str s,.bool b]=>if s.length<1000000000 then some (.str (JI s b)) else none|_=>none⟩
theorem ew:lJ.f=136:=(rfl)
theorem qR(s:List UInt8)(b:Bool)(h:s.length<1000000000):lJ.S [.str s,.bool b]=some (.str (JI s b)):=if_pos h
theorem Cm:aX Tryz.prog lJ:=λaa v hv=>by
 unfold lJ at hv|-;dsimp only at hv|-;split at hv
 .rename_i s b;split at hv
  .rename_i hl;cases hv;refine bL (n:=5) (h':=h0) (bK (ss:=[]) (by simp)) ?_ (by simp[AV.aJ]) (by simp[AV.aJ,AV.ah]);have h1:s.length+1<9223372036854775808:=by omega
   have h2:1+s.length<9223372036854775808:=by omega
   have h3:s.length+1+1<9223372036854775808:=by omega
   have h4:1+s.length+1<9223372036854775808:=by omega
   unfold JI;cases b<;>simp[afY,aaW,h1,h2,h3,h4]
  .cases hv
 .cases hv
def jy:cw:=⟨139,λ
 |[.ptr 0 0,v],os=>(match CX os,fK v with
   |some W,some t=>some (.tuple [(fc W.T W.b t).1.aL,.bool (fc W.T W.b t).2],none)
   |_,_=>none)
 |_,_=>none⟩
theorem cP:jy.f=139:=(rfl)
theorem CE{x:AV}{T:List a7}(hx:aZ x=some T)(b:Bool)(ps:List (Int×Int))(hT:T.length<1000000)(hp:qe ps=true)(t:Tm):
 jy.S [.ptr 0 0,t.aL] (ly x b ps)=some (.tuple [(fc T b t).1.aL,.bool (fc T b t).2],none):=by
 simp only[jy,o9 hx b ps hT hp,cd]
theorem n9(a b:List UInt8):(a==b)=decide (a=b):=by
 by_cases h:a=b
 .subst h;simp
 .rw[decide_eq_false h];simpa using h
theorem pE(t:Tm)(fr:List AV)(h:af)(o:dY)(ho:o.ev fr=t.bh):bG fr h (.vj o)=some (.int .i64 t.aa.length,h):=by rw[dZ,ho];cases t<;>simp[Tm.bh,Tm.aa]
theorem CH:mP Tryz.prog jy:=λaa os v r hv=>by
 unfold jy at hv;dsimp only at hv;split at hv
 .rename_i v0 os;split at hv
  .rename_i W t hW ht;cases hv;obtain⟨x,hx,rfl,hT,hp⟩:=mO hW;obtain⟨T,b,ps⟩:=W;dsimp only at hx hT hp|-;rw[cf ht,cP];have eF:=pE t;have q:=BE hx t.az (by omega);have cI:=fb hx;have nt:=ar t;have e1:=n9 t.az [46];have dq:=Tm.aY t;simp only[a7.aL,a7.cells] at q;refine qV (n:=6) (m:=2) (wZ (ss:=[KQ]) (ms:=[]) (by simp[Gi]) (by simp)) hx ?_ (by simp[AV.aJ,AV.ah,a7.aL,a7.cells]) (by simp[AV.ah,Tm.bC]);rw[Tm.bm,dq];unfold fc
   cases b with
   |false=>simp[zN,c139,hP,eF,nt,aw,a7.aL,a7.cells,fL]
   |true=>
     by_cases h2:t.aa.length=2
     .have DW:((t.aa.length:Int)=2)=True:=eq_true (by omega);by_cases h3:t.az=[46]
      .have e2:(t.az==[46])=true:=by rw[e1];exact decide_eq_true h3
       simp[zN,c139,hP,eF,nt,aw,h2,DW,h3,a7.aL,a7.cells,fL]
      .have e2:(t.az==[46])=false:=by rw[e1];exact decide_eq_false h3
       rcases bb hx with⟨rfl,rfl⟩|rfl
       .simp[zN,c139,hP,eF,nt,aw,h2,DW,h3,e2,q,a7.aL,a7.cells]
       .simp[zN,c139,hP,eF,nt,aw,h2,DW,h3,e2,q,a7.aL,a7.cells]
     .have DW:((t.aa.length:Int)=2)=False:=eq_false (by omega);simp[zN,c139,hP,eF,nt,aw,h2,DW,a7.aL,a7.cells,fL]
  .cases hv
 .cases hv
end Go.Proofs.YtjmeonoabiliiaaGreatDoor
namespace Sz
theorem Dt{P:Go.Program}{X:Go.World->Prop}{E:Env}(hE:cb P X E){n f:Nat}{ax:List AV}{os nC:List aT}{v:AV}{h1:af}{qs:List Nat}(he:aH E n f (.ptr 0 0::ax) (D3 os)=some (v,h1))(hv:v.aJ=0)
 (hr:AV.ah ax=0) (h0:0<os.length) (hle:os.length<=nC.length) (hs:GX h1 (uO os.length qs) nC):cp P X f (.ptr 0 0::ax) os v (some nC):=
 DB hE he hv (λa ha=>by
  rcases List.mem_cons.1 ha with rfl|ha
  .exact decide_eq_true h0
  .exact l9 _ (by have:=AV.cR ha;omega)) hle hs
end Sz
namespace Go.Proofs.YtjmeonoabiliiaaGreatDoor
open Go Sz
section
def bo(l:List (List UInt8×Int)):List AV:=l.flatMap λp=>[.str p.1,.int .i64 p.2]
theorem rW(l:List (List UInt8×Int)):(bo l).length=l.length*2:=by
 induction l with
 |nil=>rfl
 |cons p r ih=>simp[bo] at ih|-;omega
theorem bW(l:List (List UInt8×Int)):AV.ah (bo l)=0:=by
 induction l with
 |nil=>rfl
 |cons p r ih=>have e:bo (p::r)=.str p.1::.int .i64 p.2::bo r:=rfl;rw[e];simp only[AV.ah,ih,AV.aJ];rfl
theorem Qc(l:List (List UInt8×Int))(p:List UInt8×Int):bo (l++[p])=bo l++[.str p.1,.int .i64 p.2]:=by simp[bo]
def Cz:List AV->Option (List (List UInt8×Int))
 |[]=>some []
 |.str s::.int .i64 n::r=>(Cz r).map ((s,n)::·)
 |_=>none
theorem MK:∀l,Cz (bo l)=some l
 |[]=>rfl
 |p::r=>by have e:bo (p::r)=.str p.1::.int .i64 p.2::bo r:=rfl;rw[e,Cz,MK r];rfl
theorem IA:∀{xs:List AV} {l:List (List UInt8×Int)},Cz xs=some l->xs=bo l
 |[],l,h=>by simp[Cz] at h;subst h;rfl
 |x::r,l,h=>by
   unfold Cz at h;split at h
   .rename_i he;cases he
   .rename_i s n q he;cases he;simp only[Option.map_eq_some_iff] at h;obtain⟨a,h1,rfl⟩:=h;rw[IA h1];rfl
   .cases h
def oK(k:Nat)(l:List (List UInt8×Int)):AV:=match l with
 |[]=>.aF
 |_::_=>.vec k 0 l.length 2 l.length
def zh(l:List (List UInt8×Int)):List aT:=match l with
 |[]=>[]
 |_::_=>[.row (bo l)]
def acv:AV->List aT->Option (List (List UInt8×Int))
 |.aF,[]=>some []
 |.vec 1 0 n 2 m,[.row F]=>(match Cz F with
   |some l=>if l≠[]/\n=l.length/\m=l.length then some l else none
   |none=>none)
 |_,_=>none
theorem aaw(l:List (List UInt8×Int)):acv (oK 1 l) (zh l)=some l:=by
 cases l with
 |nil=>rfl
 |cons p r=>show (match Cz (bo (p::r)) with|some l=>if l≠[]/\(p::r).length=l.length/\(p::r).length=l.length then some l else none|none=>none)=_;rw[MK];exact if_pos ⟨by simp,rfl,rfl⟩
theorem WK{v:AV}{os:List aT}{l:List (List UInt8×Int)}(h:acv v os=some l):v=oK 1 l/\os=zh l:=by
 unfold acv at h;split at h
 .cases h;exact⟨rfl,rfl⟩
 .split at h
  .rename_i l' hl;split at h
   .rename_i hc;cases h;obtain⟨h1,rfl,rfl⟩:=hc;rw[IA hl]
    cases l with
    |nil=>exact absurd rfl h1
    |cons p r=>exact⟨rfl,rfl⟩
   .cases h
  .cases h
 .cases h
def yV:AV->Option Tok
 |.agg [.int .i64 k,.str t,.int .i64 n,.bool o,.int .i64 a]=>some ⟨k,t,n,o,a⟩
 |_=>none
theorem Iy(t:Tok):yV t.aL=some t:=rfl
theorem zH{v:AV}{t:Tok}(h:yV v=some t):v=t.aL:=by
 unfold yV at h;split at h
 .cases h;rfl
 .cases h
def BW:List AV->Option (List Tok)
 |[]=>some []
 |v::r=>match yV v,BW r with
   |some t,some l=>some (t::l)
   |_,_=>none
theorem Et:∀l:List Tok,BW (l.map Tok.aL)=some l
 |[]=>rfl
 |t::r=>by show (match yV t.aL,BW (r.map Tok.aL) with|some t,some l=>some (t::l)|_,_=>none)=_;rw[Iy,Et r]
theorem Ii:∀{xs:List AV} {l:List Tok},BW xs=some l->xs=l.map Tok.aL
 |[],l,h=>by cases h;rfl
 |v::r,l,h=>by
   unfold BW at h;split at h
   .rename_i o os h1 h2;cases h;rw[zH h1,Ii h2];rfl
   .cases h
def bE:AV->Option (List Tok)
 |.aF=>some []
 |.sl xs=>BW xs
 |_=>none
theorem uZ{y:AV}{l:List Tok}(h:bE y=some l):(y=.aF/\l=[])\/y=.sl (l.map Tok.aL):=by
 cases y<;>simp[bE] at h
 .exact .inl ⟨rfl,h⟩
 .exact .inr (by rw[Ii h])
theorem T3(l:List Tok):bE (rS l)=some l:=by
 cases l with
 |nil=>rfl
 |cons t r=>exact Et (t::r)
structure Laid(x:AV):Prop where
 aJ:x.aJ=0
 top:x.top=none
 ok:∀τ,okV τ x=true
 sg:∀g,sig g x=x
 fr:∀h n d,jL h n (d+1) x=some (x,[])
 cl:x.cells=[x]
 cl2:x.cells? =some [x]
theorem Hc:Laid .aF:=⟨rfl,rfl,λ_=>rfl,λ_=>rfl,λ_ _ _=>rfl,rfl,rfl⟩
theorem RS(xs:List AV):Laid (.sl xs):=⟨rfl,rfl,λ_=>rfl,λ_=>rfl,λ_ _ _=>rfl,rfl,rfl⟩
theorem bM{x:AV}{T:List a7}(h:aZ x=some T):Laid x:=by
 rcases bb h with⟨rfl,_⟩|rfl
 .exact Hc
 .exact RS _
theorem bB{y:AV}{L:List Tok}(h:bE y=some L):Laid y:=by
 rcases uZ h with⟨rfl,_⟩|rfl
 .exact Hc
 .exact RS _
theorem Wa(l:List (List UInt8×Int))(τ:List Nat):(bo l).all (okV τ)=true:=by rw[List.all_eq_true];intro v hv;obtain⟨p,_,hp⟩:=List.mem_flatMap.1 hv;simp only[List.mem_cons,List.not_mem_nil,or_false] at hp;rcases hp with rfl|rfl<;>rfl
theorem VY(l:List (List UInt8×Int))(g:Nat->Nat):(bo l).map (sig g)=bo l:=by
 conv=>rhs;rw[<-List.map_id (bo l)]
 refine List.map_congr_left λv hv=>?_
 obtain⟨p,_,hp⟩:=List.mem_flatMap.1 hv;simp only[List.mem_cons,List.not_mem_nil,or_false] at hp;rcases hp with rfl|rfl<;>rfl
structure RC(T:List a7)(L:List Tok)(st:St):Prop where
 ax:st.ax=(mZ L).drop st.bQ
 le:st.bQ<=L.length+1
 nx:st.next<=st.bQ
 nm:st.ae.length<=st.next
 lb:L.length<=100000
 tb:T.length<1000000
 tk:(mZ L).all yD=true
 rg:∀p∈st.ae,0<=p.2/\p.2<st.next
 S7:Ju st.ae=true
 zU:(L.all λt=>decide (0<=t.bQ)&&decide (t.bQ<1000000))=true
structure Rd where
 x:AV
 y:AV
 T:List a7
 L:List Tok
 st:St
noncomputable def ye:List aT->Option Rd
 |.row [x,y,.int .i64 a,.int .i64 b,v]::os=>(match aZ x,bE y,acv v os with
   |some T,some L,some l=>open Classical in if 0<=a/\0<=b/\RC T L ⟨a.toNat,(mZ L).drop a.toNat,b.toNat,l⟩ then some ⟨x,y,T,L,⟨a.toNat,(mZ L).drop a.toNat,b.toNat,l⟩⟩ else none
   |_,_,_=>none)
 |_=>none
def dA(x y:AV)(st:St):List aT:=.row [x,y,.int .i64 st.bQ,.int .i64 st.next,oK 1 st.ae]::zh st.ae
theorem lR{x y:AV}{T:List a7}{L:List Tok}{st:St}(hx:aZ x=some T)(hy:bE y=some L)(h:RC T L st):ye (dA x y st)=some ⟨x,y,T,L,st⟩:=by
 have e:(⟨(st.bQ:Int).toNat,(mZ L).drop (st.bQ:Int).toNat,(st.next:Int).toNat,st.ae⟩:St)=st:=by rw[Int.toNat_natCast,Int.toNat_natCast,<-h.ax]
 unfold dA ye;simp only[hx,hy,aaw];rw[e];exact if_pos ⟨by omega,by omega,h⟩
theorem kG{os:List aT}{R:Rd}(h:ye os=some R):aZ R.x=some R.T/\bE R.y=some R.L/\os=dA R.x R.y R.st/\RC R.T R.L R.st:=by
 unfold ye at h;split at h
 .rename_i x y a b v os;split at h
  .rename_i T L l h1 h2 h3;split at h
   .rename_i hc;cases h;obtain⟨rfl,rfl⟩:=WK h3;refine⟨h1,h2,?_,hc.2.2⟩;unfold dA;dsimp only;rw[Int.toNat_of_nonneg hc.1,Int.toNat_of_nonneg hc.2.1]
   .cases h
  .cases h
 .cases h
def dF(x y:AV)(l:List (List UInt8×Int))(dH:St):List aT:=match l with
 |[]=>dA x y dH
 |_::_=>[.row [x,y,.int .i64 dH.bQ,.int .i64 dH.next,oK 2 dH.ae],.dead,.row (bo dH.ae)]
theorem wM{x y:AV}(hx:Laid x)(hy:Laid y)(g:Nat->Nat)(a b:Int)(v:AV):gE g (.row [x,y,.int .i64 a,.int .i64 b,v])=.row [x,y,.int .i64 a,.int .i64 b,sig g v]:=by show aT.row [sig g x,sig g y,.int .i64 a,.int .i64 b,sig g v]=_;rw[hx.sg,hy.sg]
theorem zS{x y:AV}(hx:Laid x)(hy:Laid y){n:Nat}(a b:Int){v:AV}(hv:dk n v=true):C7 n (.row [x,y,.int .i64 a,.int .i64 b,v])=true:=by simp only[C7,List.all_cons,List.all_nil,Bool.and_true,l9 n hx.aJ,l9 n hy.aJ,hv];rfl
theorem lz{x y:AV}(hx:Laid x)(hy:Laid y)(a b:Int):gN [x,y,.int .i64 a,.int .i64 b,.aF] [0]=[0]:=by simp only[gN,hx.top,hy.top];rfl
theorem lh{x y:AV}(hx:Laid x)(hy:Laid y)(a b:Int)(k l:Nat)(hk:(0=k)=False):gN [x,y,.int .i64 a,.int .i64 b,.vec k 0 l 2 l] [0]=[0,k]:=by simp only[gN,hx.top,hy.top];show (if xZ [0] k then ([0]:List Nat) else [0,k])=_;simp only[xZ,hk,if_false];rfl
theorem lD{x y:AV}(hx:Laid x)(hy:Laid y)(τ:List Nat)(a b:Int):okO τ (.row [x,y,.int .i64 a,.int .i64 b,.aF])=true:=by simp only[okO,List.all_cons,List.all_nil,hx.ok,hy.ok];rfl
theorem lq{x y:AV}(hx:Laid x)(hy:Laid y)(τ:List Nat)(a b:Int)(k l:Nat):okO τ (.row [x,y,.int .i64 a,.int .i64 b,.vec k 0 l 2 l])=xZ τ k:=by simp only[okO,List.all_cons,List.all_nil,hx.ok,hy.ok];show (true&&(true&&(true&&(true&&(xZ τ k&&true)))))=_;simp
theorem kY{x y:AV}(hx:Laid x)(hy:Laid y)(g:Nat->Nat)(a b:Int):gE g (.row [x,y,.int .i64 a,.int .i64 b,.aF])=.row [x,y,.int .i64 a,.int .i64 b,.aF]:=wM hx hy g a b .aF
theorem kW{x y:AV}(hx:Laid x)(hy:Laid y)(g:Nat->Nat)(a b:Int)(k l:Nat):gE g (.row [x,y,.int .i64 a,.int .i64 b,.vec k 0 l 2 l])=.row [x,y,.int .i64 a,.int .i64 b,.vec (g k) 0 l 2 l]:=wM hx hy g a b _
theorem fh(l:List (List UInt8×Int))(τ:List Nat):okO τ (.row (bo l))=true:=Wa l τ
theorem fi(l:List (List UInt8×Int))(g:Nat->Nat):gE g (.row (bo l))=.row (bo l):=congrArg aT.row (VY l g)
section
variable {X:World->Prop}{P:Program}{E:Env}(hE:cb P X E){n f:Nat}{ax:List AV}{x y v:AV}{st dH:St}(hx:Laid x)(hy:Laid y)
include hE hx hy
theorem dy(h0:st.ae=[])(h1:dH.ae=[])(he:(aH E n f (.ptr 0 0::ax) ⟨1,[.row [x,y,.int .i64 st.bQ,.int .i64 st.next,.aF]],1,1⟩).map (λp=>(p.1,p.2.get 0))=some (v,some (.row [x,y,.int .i64 dH.bQ,.int .i64 dH.next,.aF])))
 (hv:v.aJ=0) (hr:AV.ah ax=0):cp P X f (.ptr 0 0::ax) (dA x y st) v (some (dF x y st.ae dH)):=by
 have e1:dA x y st=[.row [x,y,.int .i64 st.bQ,.int .i64 st.next,.aF]]:=by unfold dA;rw[h0];rfl
 have e2:dF x y st.ae dH=[.row [x,y,.int .i64 dH.bQ,.int .i64 dH.next,.aF]]:=by unfold dF;rw[h0];unfold dA;rw[h1];rfl
 rw[e1,e2];exact w9 hE he hv hr (by simp[AV.ah,hx.aJ,hy.aJ,AV.aJ])
theorem eB(k:Nat)(hk:1<=k)(h0:st.ae=[])(h1:dH.ae≠[])(he:(aH E n f (.ptr 0 0::ax) ⟨1,[.row [x,y,.int .i64 st.bQ,.int .i64 st.next,.aF]],1,1⟩).map (λp=>(p.1,p.2.get 0,p.2.get k))=
 some (v,some (.row [x,y,.int .i64 dH.bQ,.int .i64 dH.next,.vec k 0 dH.ae.length 2 dH.ae.length]),some (.row (bo dH.ae))))
 (hv:v.aJ=0) (hr:AV.ah ax=0):cp P X f (.ptr 0 0::ax) (dA x y st) v (some (dF x y st.ae dH)):=by
 have e1:dA x y st=[.row [x,y,.int .i64 st.bQ,.int .i64 st.next,.aF]]:=by unfold dA;rw[h0];rfl
 have e2:dF x y st.ae dH=[.row [x,y,.int .i64 dH.bQ,.int .i64 dH.next,.vec 1 0 dH.ae.length 2 dH.ae.length],.row (bo dH.ae)]:=by
  unfold dF;rw[h0];unfold dA oK zh
  cases hn:dH.ae with
  |nil=>exact absurd hn h1
  |cons p r=>rfl
 rw[e1,e2];obtain⟨⟨v1,h⟩,g1,g2⟩:=Option.map_eq_some_iff.1 he;simp only[Prod.mk.injEq] at g2;obtain⟨rfl,g3,g4⟩:=g2;refine Dt (qs:=[k]) hE g1 hv hr (by simp) (by simp) ⟨λi o ho _=>?_,λi j o o' hi hj _ _ e=>?_⟩
 .match i,ho with
  |0,ho=>simp only[List.getElem?_cons_zero,Option.some.injEq] at ho;subst ho;rw[wM hx hy];exact⟨g3,zS hx hy _ _ (by rfl)⟩
  |1,ho=>simp only[List.getElem?_cons_succ,List.getElem?_cons_zero,Option.some.injEq] at ho;subst ho;rw[rJ _ (bW _)];exact⟨g4,pz _ (bW _)⟩
  |i+2,ho=>simp at ho
 .have iO:=(List.getElem?_eq_some_iff.1 hi).1;have jC:=(List.getElem?_eq_some_iff.1 hj).1;simp only[List.length_cons,List.length_nil] at iO jC
  have r0:∀i,i<2->uO 1 [k] i=if i=0 then 0 else k:=λi hi=>by
   match i,hi with
   |0,_=>rfl
   |1,_=>rfl
  rw[List.length_cons,List.length_nil,r0 i iO,r0 j jC] at e;split at e<;>split at e<;>omega
theorem di(k:Nat)(hk:1<=k)(h0:st.ae≠[])(h1:dH.ae≠[])(he:(aH E n f (.ptr 0 0::ax) ⟨2,[.row (bo st.ae),.row [x,y,.int .i64 st.bQ,.int .i64 st.next,.vec 1 0 st.ae.length 2 st.ae.length]],2,2⟩).map (λp=>(p.1,p.2.get 0,p.2.get k))=
 some (v,some (.row [x,y,.int .i64 dH.bQ,.int .i64 dH.next,.vec k 0 dH.ae.length 2 dH.ae.length]),some (.row (bo dH.ae))))
 (hv:v.aJ=0) (hr:AV.ah ax=0):cp P X f (.ptr 0 0::ax) (dA x y st) v (some (dF x y st.ae dH)):=by
 have e1:dA x y st=[.row [x,y,.int .i64 st.bQ,.int .i64 st.next,.vec 1 0 st.ae.length 2 st.ae.length],.row (bo st.ae)]:=by
  unfold dA oK zh
  cases hn:st.ae with
  |nil=>exact absurd hn h0
  |cons p r=>rfl
 have e2:dF x y st.ae dH=[.row [x,y,.int .i64 dH.bQ,.int .i64 dH.next,.vec 2 0 dH.ae.length 2 dH.ae.length],.dead,.row (bo dH.ae)]:=by
  unfold dF
  cases hn:st.ae with
  |nil=>exact absurd hn h0
  |cons p r=>
    dsimp only;unfold oK
    cases hm:dH.ae with
    |nil=>exact absurd hm h1
    |cons q s=>rfl
 rw[e1,e2];obtain⟨⟨v1,h⟩,g1,g2⟩:=Option.map_eq_some_iff.1 he;simp only[Prod.mk.injEq] at g2;obtain⟨rfl,g3,g4⟩:=g2;refine Dt (qs:=[k]) hE g1 hv hr (by simp) (by simp) ⟨λi o ho hd=>?_,λi j o o' hi hj hdi hdj e=>?_⟩
 .match i,ho with
  |0,ho=>simp only[List.getElem?_cons_zero,Option.some.injEq] at ho;subst ho;rw[wM hx hy];exact⟨g3,zS hx hy _ _ (by rfl)⟩
  |1,ho=>simp only[List.getElem?_cons_succ,List.getElem?_cons_zero,Option.some.injEq] at ho;exact absurd ho.symm hd
  |2,ho=>simp only[List.getElem?_cons_succ,List.getElem?_cons_zero,Option.some.injEq] at ho;subst ho;rw[rJ _ (bW _)];exact⟨g4,pz _ (bW _)⟩
  |i+3,ho=>simp at ho
 .have pick:∀(i:Nat) (o:aT),([.row [x,y,.int .i64 dH.bQ,.int .i64 dH.next,.vec 2 0 dH.ae.length 2 dH.ae.length],.dead,.row (bo dH.ae)]:List aT)[i]? =some o->(∀_:o=.dead,False)->(i=0/\uO 2 [k] i=0)\/(i=2/\uO 2 [k] i=k):=λi o ho hd=>by
   match i,ho with
   |0,_=>exact .inl ⟨rfl,rfl⟩
   |1,ho=>simp only[List.getElem?_cons_succ,List.getElem?_cons_zero,Option.some.injEq] at ho;exact absurd ho.symm hd
   |2,_=>exact .inr ⟨rfl,rfl⟩
   |i+3,ho=>simp at ho
  simp only[List.length_cons,List.length_nil,Nat.zero_add] at e;rcases pick i o hi hdi with⟨a1,a2⟩|⟨a1,a2⟩<;>rcases pick j o' hj hdj with⟨b1,b2⟩|⟨b1,b2⟩<;>rw[a2,b2] at e<;>omega
end
end
section
theorem Il{y:AV}{L:List Tok}(hy:bE y=some L):∀(fr:List AV) (h:af) (o:dY),o.ev fr=y->bG fr h (.vj o)=some (.int .i64 L.length,h):=λfr h o ho=>by
 rw[dZ,ho];rcases uZ hy with⟨rfl,rfl⟩|rfl
 .rfl
 .simp
def bf(L:List Tok)(st:St):Tok:=L.getD st.bQ AF
theorem bz{T:List a7}{L:List Tok}{st:St}(h:RC T L st):aP st=⟨(bf L st).aj,(bf L st).aI,(bf L st).bj,(bf L st).js,abl (bf L st) (L.drop (st.bQ+1))⟩:=by
 unfold aP bf;rw[h.ax,HW];by_cases hl:st.bQ<L.length
 .rw[List.drop_eq_getElem_cons hl];simp[mZ,List.getD,hl]
 .rw[List.drop_of_length_le (by omega),List.drop_of_length_le (by omega)];simp[mZ,List.getD,show L.length<=st.bQ by omega,YM,AF,abl]
theorem Ye{T:List a7}{L:List Tok}{st:St}(h:RC T L st):(st.bQ<L.length/\L[st.bQ]? =some (bf L st))\/(L.length<=st.bQ/\bf L st=AF):=by
 unfold bf;by_cases hl:st.bQ<L.length
 .exact .inl ⟨hl,by simp[List.getD,hl]⟩
 .exact .inr ⟨by omega,by simp[List.getD,show L.length<=st.bQ by omega]⟩
theorem fY{T:List a7}{L:List Tok}{st:St}(h:RC T L st)(hk:(aP st).aj≠0):st.bQ<L.length:=by
 rw[bz h] at hk;rcases Ye h with⟨h1,_⟩|⟨_,h2⟩
 .exact h1
 .rw[h2] at hk;exact absurd rfl hk
theorem afS{T:List a7}{L:List Tok}{st:St}(h:RC T L st)(hl:st.bQ<=L.length):st.bQ+st.ax.length=L.length:=by rw[h.ax,List.length_drop,jd];omega
theorem RC.GJ{T:List a7}{L:List Tok}{st:St}(h:RC T L st)(hl:st.bQ<=L.length):RC T L (aA st):=by
 refine⟨?_,?_,?_,h.nm,h.lb,h.tb,h.tk,h.rg,h.S7,h.zU⟩
 .show st.ax.tail=(mZ L).drop (st.bQ+1);rw[h.ax,List.tail_drop]
 .show st.bQ+1<=_;omega
 .show st.next<=st.bQ+1
  have:=h.nx;omega
theorem RC.ok{T:List a7}{L:List Tok}{st dH:St}(h:RC T L st)(g:Ok st dH):RC T L dH/\dH.bQ<=L.length:=by
 have hl:st.bQ<=L.length:=by have hp:=g.pos;rw[h.ax,List.length_drop,jd] at hp;omega
 have t1:=afS h hl;have t2:=g.tot;obtain⟨k,hk⟩:=g.lv.suf;have dI:dH.ax.length=st.ax.length-k:=by rw[hk,List.length_drop]
 have lP:=g.pos;have:=g.nxr;have:=g.lv.nm;have:=g.lv.nx;have h1:=h.nx;have h2:=h.nm;have DQ:k<=st.ax.length\/st.ax.length<k:=by omega
 refine⟨⟨?_,by omega,by omega,by omega,h.lb,h.tb,h.tk,g.lv.rg h.rg,g.lv.S7 h.S7,h.zU⟩,by omega⟩;rw[hk,h.ax,List.drop_drop];rcases DQ with DQ|DQ
 .congr 1;omega
 .have e1:(mZ L).length=L.length:=jd L;rw[List.drop_of_length_le (by rw[e1];omega),List.drop_of_length_le (by rw[e1];omega)]
section
variable {X:World->Prop}{P:Program}{E:Env}(hE:cb P X E){n f:Nat}{ax:List AV}{x y v:AV}{st dH:St}(hx:Laid x)(hy:Laid y)
include hE hx hy
theorem A0(h1:st.ae=[]->(aH E n f (.ptr 0 0::ax) ⟨1,[.row [x,y,.int .i64 st.bQ,.int .i64 st.next,.aF]],1,1⟩).map (λp=>(p.1,p.2.get 0))=some (v,some (.row [x,y,.int .i64 st.bQ,.int .i64 st.next,.aF])))
 (h2:st.ae≠[]->(aH E n f (.ptr 0 0::ax) ⟨2,[.row (bo st.ae),.row [x,y,.int .i64 st.bQ,.int .i64 st.next,.vec 1 0 st.ae.length 2 st.ae.length]],2,2⟩).map (λp=>(p.1,p.2.get 0,p.2.get 1))=
  some (v,some (.row [x,y,.int .i64 st.bQ,.int .i64 st.next,.vec 1 0 st.ae.length 2 st.ae.length]),some (.row (bo st.ae))))
 (hv:v.aJ=0) (hr:AV.ah ax=0):cp P X f (.ptr 0 0::ax) (dA x y st) v none:=by
 by_cases h0:st.ae=[]
 .have e1:dA x y st=[.row [x,y,.int .i64 st.bQ,.int .i64 st.next,.aF]]:=by unfold dA;rw[h0];rfl
  rw[e1];obtain⟨⟨v1,h⟩,g1,g2⟩:=Option.map_eq_some_iff.1 (h1 h0);simp only[Prod.mk.injEq] at g2;obtain⟨rfl,g3⟩:=g2;exact Ih hE g1 g3 hv hr (by simp[AV.ah,hx.aJ,hy.aJ,AV.aJ])
 .have e1:dA x y st=[.row [x,y,.int .i64 st.bQ,.int .i64 st.next,.vec 1 0 st.ae.length 2 st.ae.length],.row (bo st.ae)]:=by
   unfold dA oK zh
   cases hn:st.ae with
   |nil=>exact absurd hn h0
   |cons p r=>rfl
  rw[e1];obtain⟨⟨v1,h⟩,g1,g2⟩:=Option.map_eq_some_iff.1 (h2 h0);simp only[Prod.mk.injEq] at g2;obtain⟨rfl,g3,g4⟩:=g2;refine Fe hE g1 (λi hi=>?_) hv hr (by simp) (λo ho=>?_)
  .match i,hi with
   |0,_=>exact g3
   |1,_=>exact g4
   |i+2,hi=>simp only[List.length_cons,List.length_nil] at hi;omega
  .simp only[List.mem_cons,List.not_mem_nil,or_false] at ho;rcases ho with rfl|rfl
   .exact zS hx hy _ _ (by rfl)
   .exact pz _ (bW _)
theorem TK(qU:dH.ae=st.ae)(h1:st.ae=[]->(aH E n f (.ptr 0 0::ax) ⟨1,[.row [x,y,.int .i64 st.bQ,.int .i64 st.next,.aF]],1,1⟩).map (λp=>(p.1,p.2.get 0))=some (v,some (.row [x,y,.int .i64 dH.bQ,.int .i64 dH.next,.aF])))
 (h2:st.ae≠[]->(aH E n f (.ptr 0 0::ax) ⟨2,[.row (bo st.ae),.row [x,y,.int .i64 st.bQ,.int .i64 st.next,.vec 1 0 st.ae.length 2 st.ae.length]],2,2⟩).map (λp=>(p.1,p.2.get 0,p.2.get 1))=
  some (v,some (.row [x,y,.int .i64 dH.bQ,.int .i64 dH.next,.vec 1 0 st.ae.length 2 st.ae.length]),some (.row (bo st.ae))))
 (hv:v.aJ=0) (hr:AV.ah ax=0):cp P X f (.ptr 0 0::ax) (dA x y st) v (some (dA x y dH)):=by
 by_cases h0:st.ae=[]
 .have e1:dA x y st=[.row [x,y,.int .i64 st.bQ,.int .i64 st.next,.aF]]:=by unfold dA;rw[h0];rfl
  have e2:dA x y dH=[.row [x,y,.int .i64 dH.bQ,.int .i64 dH.next,.aF]]:=by unfold dA;rw[qU,h0];rfl
  rw[e1,e2];exact w9 hE (h1 h0) hv hr (by simp[AV.ah,hx.aJ,hy.aJ,AV.aJ])
 .have e1:∀s:St,s.ae=st.ae->dA x y s=[.row [x,y,.int .i64 s.bQ,.int .i64 s.next,.vec 1 0 st.ae.length 2 st.ae.length],.row (bo st.ae)]:=λs hs=>by
   unfold dA oK zh;rw[hs]
   cases hn:st.ae with
   |nil=>exact absurd hn h0
   |cons p r=>rfl
  rw[e1 st rfl,e1 dH qU];obtain⟨⟨v1,h⟩,g1,g2⟩:=Option.map_eq_some_iff.1 (h2 h0);simp only[Prod.mk.injEq] at g2;obtain⟨rfl,g3,g4⟩:=g2;refine Dt (qs:=[]) hE g1 hv hr (by simp) (by simp) (DL (by simp) (by simp) (by simp) λi o ho _=>?_)
  match i,ho with
  |0,ho=>simp only[List.getElem?_cons_zero,Option.some.injEq] at ho;subst ho;rw[wM hx hy];exact⟨g3,zS hx hy _ _ (by rfl)⟩
  |1,ho=>simp only[List.getElem?_cons_succ,List.getElem?_cons_zero,Option.some.injEq] at ho;subst ho;rw[rJ _ (bW _)];exact⟨g4,pz _ (bW _)⟩
  |i+2,ho=>simp at ho
end
noncomputable def xA:cw:=⟨72,λ
 |[.ptr 0 0],os=>(match ye os with|some R=>some ((bf R.L R.st).aL,none)|none=>none)
 |_,_=>none⟩
theorem fP:xA.f=72:=(rfl)
theorem dK{x y:AV}{T:List a7}{L:List Tok}{st:St}(hx:aZ x=some T)(hy:bE y=some L)(h:RC T L st):xA.S [.ptr 0 0] (dA x y st)=some ((bf L st).aL,none):=by simp only[xA,lR hx hy h]
theorem Rz(v:AV)(hv:v=.aF\/∃k l,v=.vec k 0 l 2 l)(x y:AV)(T:List a7)(L:List Tok)(st:St)(hx:aZ x=some T)(hy:bE y=some L)(h:RC T L st):
 (aH (cm [] []) 4 72 [.ptr 0 0] ⟨1,[.row [x,y,.int .i64 st.bQ,.int .i64 st.next,v]],1,1⟩=some ((bf L st).aL,⟨1,[.row [x,y,.int .i64 st.bQ,.int .i64 st.next,v]],1,1⟩))/\
 ∀F,(aH (cm [] []) 4 72 [.ptr 0 0] ⟨2,[.row F,.row [x,y,.int .i64 st.bQ,.int .i64 st.next,v]],2,2⟩=some ((bf L st).aL,⟨2,[.row F,.row [x,y,.int .i64 st.bQ,.int .i64 st.next,v]],2,2⟩)):=by
 have bD:=Il hy;have p8:=h.lb;have Dd:(bf L st).aL=.agg [.int .i64 (bf L st).aj,.str (bf L st).aI,.int .i64 (bf L st).bj,.bool (bf L st).js,.int .i64 (bf L st).bQ]:=rfl;rcases Ye h with⟨h1,h2⟩|⟨h1,h2⟩
 .have h3:((L.length:Int)<=(st.bQ:Int))=False:=eq_false (by omega)
  have hyl:y=.sl (L.map Tok.aL):=by
   rcases uZ hy with⟨rfl,rfl⟩|rfl
   .simp at h1
   .rfl
  subst hyl;have hc:(L.map Tok.aL)[st.bQ]? =some (.agg [.int .i64 (bf L st).aj,.str (bf L st).aI,.int .i64 (bf L st).bj,.bool (bf L st).js,.int .i64 (bf L st).bQ]):=by rw[List.getElem?_map,h2];rfl
  have QV:(L.map Tok.aL).length=L.length:=List.length_map _;have b0:(0:Int)<=(st.bQ:Int):=by omega
  rw[Dd];generalize bf L st=t at *;have KJ:(L.length<=st.bQ)=False:=eq_false (by omega);generalize L.map Tok.aL=U at *;refine⟨?_,λF=>?_⟩
  .simp[Jd,c72,QV,h3,KJ,hc,b0]
  .simp[Jd,c72,QV,h3,KJ,hc,b0]
 .have h3:((L.length:Int)<=(st.bQ:Int))=True:=eq_true (by omega);rw[Dd,h2];refine⟨?_,λF=>?_⟩
  .simp[Jd,c72,bD,h3,AF,h1]
  .simp[Jd,c72,bD,h3,AF,h1]
theorem AI:cB Tryz.prog bV xA:=λaa os v r hv=>by
 unfold xA at hv;dsimp only at hv;split at hv
 .rename_i os;split at hv
  .rename_i R hR;cases hv;obtain⟨hx,hy,rfl,hc⟩:=kG hR;rw[fP];have hE:cb Tryz.prog bV (cm [] []):=ey (by simp) (by simp);refine A0 (n:=4) hE (bM hx) (bB hy) (λ_=>?_) (λ_=>?_) (by simp[Tok.aL,Tok.cells,AV.aJ,AV.ah]) rfl
   .rw[(Rz .aF (.inl rfl) _ _ _ _ _ hx hy hc).1];rfl
   .rw[(Rz (.vec 1 0 _ 2 _) (.inr ⟨1,_,rfl⟩) _ _ _ _ _ hx hy hc).2];rfl
  .cases hv
 .cases hv
def rR:aW:=⟨162,λ|[v]=>(yV v).map λt=>.bool (decide (t.aj=1)||decide (t.aj=2))|_=>none⟩
theorem fq:rR.f=162:=(rfl)
theorem fV(t:Tok):rR.S [.agg [.int .i64 t.aj,.str t.aI,.int .i64 t.bj,.bool t.js,.int .i64 t.bQ]]=some (.bool (decide (t.aj=1)||decide (t.aj=2))):=(rfl)
theorem E5:aX Tryz.prog rR:=λaa v hv=>by
 unfold rR at hv|-;dsimp only at hv|-;split at hv
 .obtain⟨t,ht,rfl⟩:=Option.map_eq_some_iff.1 hv;rw[zH ht];refine bL (n:=4) (h':=h0) (bK (ss:=[]) (by simp)) ?_ rfl (by simp[Tok.aL,Tok.cells,AV.aJ,AV.ah]);have Dd:t.aL=.agg [.int .i64 t.aj,.str t.aI,.int .i64 t.bj,.bool t.js,.int .i64 t.bQ]:=rfl;rw[Dd];by_cases h1:t.aj=1
  .simp[PS,c162,h1]
  .by_cases h2:t.aj=2
   .simp[PS,c162,h2]
   .simp[PS,c162,h1,h2]
 .cases hv
def eK(T:List a7)(t:Tok):a7×Bool:=cX T ⟨t.aj,t.aI,t.bj,t.js,false⟩
theorem rM{T:List a7}{L:List Tok}{st:St}(h:RC T L st):cX T (aP st)=eK T (bf L st):=by rw[bz h];rfl
noncomputable def HD:cw:=⟨121,λ
 |[.ptr 0 0,w],os=>(match ye os,yV w with|some R,some t=>some (.tuple [(eK R.T t).1.aL,.bool (eK R.T t).2],none)|_,_=>none)
 |_,_=>none⟩
theorem Jt:HD.f=121:=(rfl)
theorem sD{x y:AV}{T:List a7}{L:List Tok}{st:St}(hx:aZ x=some T)(hy:bE y=some L)(h:RC T L st)(t:Tok):
 HD.S [.ptr 0 0,.agg [.int .i64 t.aj,.str t.aI,.int .i64 t.bj,.bool t.js,.int .i64 t.bQ]] (dA x y st)=some (.tuple [(eK T t).1.aL,.bool (eK T t).2],none):=by
 have e:yV (.agg [.int .i64 t.aj,.str t.aI,.int .i64 t.bj,.bool t.js,.int .i64 t.bQ])=some t:=rfl;simp only[HD,lR hx hy h,e]
theorem MX(x:AV)(T:List a7)(hx:aZ x=some T)(hT:T.length<1000000)(t:Tok)(y a b v:AV):
 (aH (cm [rR,KQ] []) 6 121 [.ptr 0 0,t.aL] ⟨1,[.row [x,y,a,b,v]],1,1⟩=some (.tuple [(eK T t).1.aL,.bool (eK T t).2],⟨1,[.row [x,y,a,b,v]],1,1⟩))/\
 ∀F,(aH (cm [rR,KQ] []) 6 121 [.ptr 0 0,t.aL] ⟨2,[.row F,.row [x,y,a,b,v]],2,2⟩=some (.tuple [(eK T t).1.aL,.bool (eK T t).2],⟨2,[.row F,.row [x,y,a,b,v]],2,2⟩)):=by
 have hl:=bM hx;have Dd:t.aL=.agg [.int .i64 t.aj,.str t.aI,.int .i64 t.bj,.bool t.js,.int .i64 t.bQ]:=rfl;have q1:=fV t;have q2:=BE hx t.aI (by omega);have uM:=λh=>hl.fr h 0 6
 have cI:=hl.aJ;rw[Dd];unfold eK cX eC;simp only[a7.aL,a7.cells] at q2|-
 have fin:∀s:List UInt8,t.aI=s->∀e:Bool,(s==[44])=e->∀F:List AV,
  (aH (cm [rR,KQ] []) 6 121 [.ptr 0 0,.agg [.int .i64 t.aj,.str s,.int .i64 t.bj,.bool t.js,.int .i64 t.bQ]] ⟨1,[.row [x,y,a,b,v]],1,1⟩=some (.tuple [.agg [.str (if !(decide (t.aj=1)||decide (t.aj=2))&&(!decide (t.aj=5)||!decide (s=[44])) then (fL,false) else aS T s false).1.n,.str (if !(decide (t.aj=1)||decide (t.aj=2))&&(!decide (t.aj=5)||!decide (s=[44])) then (fL,false) else aS T s false).1.k,.int .i64 (if !(decide (t.aj=1)||decide (t.aj=2))&&(!decide (t.aj=5)||!decide (s=[44])) then (fL,false) else aS T s false).1.l],.bool (if !(decide (t.aj=1)||decide (t.aj=2))&&(!decide (t.aj=5)||!decide (s=[44])) then (fL,false) else aS T s false).2],⟨1,[.row [x,y,a,b,v]],1,1⟩))/\
  (aH (cm [rR,KQ] []) 6 121 [.ptr 0 0,.agg [.int .i64 t.aj,.str s,.int .i64 t.bj,.bool t.js,.int .i64 t.bQ]] ⟨2,[.row F,.row [x,y,a,b,v]],2,2⟩=some (.tuple [.agg [.str (if !(decide (t.aj=1)||decide (t.aj=2))&&(!decide (t.aj=5)||!decide (s=[44])) then (fL,false) else aS T s false).1.n,.str (if !(decide (t.aj=1)||decide (t.aj=2))&&(!decide (t.aj=5)||!decide (s=[44])) then (fL,false) else aS T s false).1.k,.int .i64 (if !(decide (t.aj=1)||decide (t.aj=2))&&(!decide (t.aj=5)||!decide (s=[44])) then (fL,false) else aS T s false).1.l],.bool (if !(decide (t.aj=1)||decide (t.aj=2))&&(!decide (t.aj=5)||!decide (s=[44])) then (fL,false) else aS T s false).2],⟨2,[.row F,.row [x,y,a,b,v]],2,2⟩)):=λs hs e he F=>by
  rw[hs] at q1 q2;by_cases k1:t.aj=1
  .simp[xv,JM,fq,hP,uM,cI,k1] at q1|-;simp[xv,JM,fq,hP,uM,cI,k1,q1,q2]
  by_cases k2:t.aj=2
  .simp[k1,k2] at q1|-;simp[xv,JM,fq,hP,uM,cI,k1,k2,q1,q2]
  by_cases k5:t.aj=5
  .rw[k5] at q1|-
   cases e with
   |true=>
     have Oj:s=[44]:=by simpa using he
     subst Oj;simp at q1|-;simp[xv,JM,fq,hP,uM,cI,q1,q2]
   |false=>
     have Oj:¬s=[44]:=by simpa using he
     simp[Oj] at q1|-;simp[xv,JM,fq,hP,uM,cI,q1,q2,he,Oj,fL]
  .simp[k1,k2,k5] at q1|-;simp[xv,JM,fq,hP,uM,cI,k1,k2,k5,q1,q2,fL]
 exact⟨(fin t.aI rfl _ rfl []).1,λF=>(fin t.aI rfl _ rfl F).2⟩
theorem X5:cB Tryz.prog bV HD:=λaa os v r hv=>by
 unfold HD at hv;dsimp only at hv;split at hv
 .rename_i w os;split at hv
  .rename_i R t hR ht;cases hv;obtain⟨hx,hy,rfl,hc⟩:=kG hR;rw[Jt,zH ht];have hE:cb Tryz.prog bV (cm [rR,KQ] []):=ey (by simp[E5.lift,Gi.lift]) (by simp);refine A0 (n:=6) hE (bM hx) (bB hy) (λ_=>?_) (λ_=>?_) (by simp[a7.aL,a7.cells,AV.aJ,AV.ah]) (by simp[Tok.aL,Tok.cells,AV.aJ,AV.ah])
   .rw[(MX _ _ hx hc.tb t _ _ _ _).1];rfl
   .rw[(MX _ _ hx hc.tb t _ _ _ _).2];rfl
  .cases hv
 .cases hv
theorem bd{x y:AV}{st:St}(h:st.ae=[]):dA x y st=[.row [x,y,.int .i64 st.bQ,.int .i64 st.next,.aF]]:=by unfold dA;rw[h];rfl
theorem a6{x y:AV}{st:St}(h:st.ae≠[]):dA x y st=[.row [x,y,.int .i64 st.bQ,.int .i64 st.next,.vec 1 0 st.ae.length 2 st.ae.length],.row (bo st.ae)]:=by
 unfold dA oK zh
 cases hn:st.ae with
 |nil=>exact absurd hn h
 |cons p r=>rfl
theorem dh{x y:AV}{dH:St}(h:dH.ae=[]):dF x y [] dH=[.row [x,y,.int .i64 dH.bQ,.int .i64 dH.next,.aF]]:=bd h
theorem cO{x y:AV}{dH:St}(h:dH.ae≠[]):dF x y [] dH=[.row [x,y,.int .i64 dH.bQ,.int .i64 dH.next,.vec 1 0 dH.ae.length 2 dH.ae.length],.row (bo dH.ae)]:=a6 h
theorem dX{x y:AV}{l:List (List UInt8×Int)}{dH:St}(h0:l≠[])(h:dH.ae≠[]):dF x y l dH=[.row [x,y,.int .i64 dH.bQ,.int .i64 dH.next,.vec 2 0 dH.ae.length 2 dH.ae.length],.dead,.row (bo dH.ae)]:=by
 unfold dF
 cases l with
 |nil=>exact absurd rfl h0
 |cons p r=>
   dsimp only;unfold oK
   cases hm:dH.ae with
   |nil=>exact absurd hm h
   |cons q s=>rfl
theorem Lv.ae{st dH:St}(h:Lv st dH)(h0:st.ae≠[]):dH.ae≠[]:=by obtain⟨q,hq⟩:=h.pre;rw[hq];intro e;exact h0 (List.append_eq_nil_iff.1 e).1
theorem cq(t:Tok):t.aL=.agg [.int .i64 t.aj,.str t.aI,.int .i64 t.bj,.bool t.js,.int .i64 t.bQ]:=rfl
noncomputable def CN:cw:=⟨160,λ
 |[.ptr 0 0,.str s],os=>(match ye os with|some R=>some (.bool (ba s R.st).1,some (dA R.x R.y (ba s R.st).2))|none=>none)
 |_,_=>none⟩
theorem gV:CN.f=160:=(rfl)
theorem iZ{x y:AV}{T:List a7}{L:List Tok}{st:St}(hx:aZ x=some T)(hy:bE y=some L)(h:RC T L st)(s:List UInt8):CN.S [.ptr 0 0,.str s] (dA x y st)=some (.bool (ba s st).1,some (dA x y (ba s st).2)):=by simp only[CN,lR hx hy h]
theorem fX(s:List UInt8)(st:St):(ba s st).2.ae=st.ae/\(ba s st).2.next=st.next:=by unfold ba;split<;>exact⟨rfl,rfl⟩
theorem FD:cB Tryz.prog bV CN:=λaa os v r hv=>by
 unfold CN at hv;dsimp only at hv;split at hv
 .rename_i os s;split at hv
  .rename_i R hR;cases hv;obtain⟨hx,hy,rfl,hc⟩:=kG hR;obtain⟨x,y,T,L,st⟩:=R;dsimp only at hx hy hc|-;rw[gV];have hE:cb Tryz.prog bV (cm [] [xA]):=ey (by simp) (by simp[AI]);have bA:=bM hx;have bD:=bB hy;have q:=dK hx hy hc;rw[cq] at q;have tq:=bz hc;have cY:=hc.le;have p8:=hc.lb;have w:=wrap_i64 (n:=(st.bQ:Int)+1) (by omega) (by omega);have x1:=bA.aJ;have y1:=bD.aJ;have g1:=lz bA bD;have g2:=lh bA bD;have g3:=lD bA bD;have g4:=lq bA bD;have g5:=kY bA bD;have g6:=kW bA bD
   have key:∀c d:Bool,(bf L st).aj=5/\c=true\/¬(bf L st).aj=5/\c=false->((bf L st).aI==s)=d->
    (st.ae=[]->(aH (cm [] [xA]) 6 160 [.ptr 0 0,.str s] ⟨1,[.row [x,y,.int .i64 st.bQ,.int .i64 st.next,.aF]],1,1⟩).map (λp=>(p.1,p.2.get 0))=some (.bool (c&&d),some (.row [x,y,.int .i64 (if c&&d then (st.bQ:Int)+1 else st.bQ),.int .i64 st.next,.aF])))/\
    (st.ae≠[]->(aH (cm [] [xA]) 6 160 [.ptr 0 0,.str s] ⟨2,[.row (bo st.ae),.row [x,y,.int .i64 st.bQ,.int .i64 st.next,.vec 1 0 st.ae.length 2 st.ae.length]],2,2⟩).map (λp=>(p.1,p.2.get 0,p.2.get 1))=
     some (.bool (c&&d),some (.row [x,y,.int .i64 (if c&&d then (st.bQ:Int)+1 else st.bQ),.int .i64 st.next,.vec 1 0 st.ae.length 2 st.ae.length]),some (.row (bo st.ae)))):=λc d hcd hd=>by
    have f1:=fh st.ae;have f2:=fi st.ae;have f3:=bW st.ae;refine⟨λh0=>?_,λh0=>?_⟩
    .rw[bd h0] at q;generalize bf L st=t at *;rcases hcd with⟨k5,rfl⟩|⟨k5,rfl⟩
     .rw[k5] at q
      cases d with
      |true=>
        have:t.aI=s:=by simpa using hd
        subst this;simp[wL,c160,fP,q,x1,y1,g1,g2,g3,g4,g5,g6,-ak,-au,-aq,w]
      |false=>
        have hn:¬t.aI=s:=by simpa using hd
        simp[wL,c160,fP,q,x1,y1,g1,g2,g3,g4,g5,g6,-ak,-au,-aq,w,hd,hn]
     .simp[wL,c160,fP,q,x1,y1,g1,g2,g3,g4,g5,g6,-ak,-au,-aq,w,k5]
    .rw[a6 h0] at q;generalize bo st.ae=F at *;generalize bf L st=t at *;generalize st.ae.length=n at *;rcases hcd with⟨k5,rfl⟩|⟨k5,rfl⟩
     .rw[k5] at q
      cases d with
      |true=>
        have:t.aI=s:=by simpa using hd
        subst this;simp[wL,c160,fP,q,x1,y1,g1,g2,g3,g4,g5,g6,-ak,-au,-aq,f1,f2,f3,w]
      |false=>
        have hn:¬t.aI=s:=by simpa using hd
        simp[wL,c160,fP,q,x1,y1,g1,g2,g3,g4,g5,g6,-ak,-au,-aq,f1,f2,f3,w,hd,hn]
     .simp[wL,c160,fP,q,x1,y1,g1,g2,g3,g4,g5,g6,-ak,-au,-aq,f1,f2,f3,w,k5]
   obtain⟨hn1,gH⟩:=fX s st
   have KB:∀c d:Bool,(bf L st).aj=5/\c=true\/¬(bf L st).aj=5/\c=false->((bf L st).aI==s)=d->(ba s st).1=(c&&d)/\((ba s st).2.bQ:Int)=(if c&&d then (st.bQ:Int)+1 else st.bQ):=λc d hcd hd=>by
    have k1:(aP st).aj=(bf L st).aj:=by rw[tq]
    have k2:(aP st).aI=(bf L st).aI:=by rw[tq]
    unfold ba;rw[k1,k2];rcases hcd with⟨k5,rfl⟩|⟨k5,rfl⟩
    .cases d with
     |true=>rw[if_pos ⟨k5,by simpa using hd⟩];exact⟨rfl,by simp[aA]⟩
     |false=>rw[if_neg (λe=>by rw[e.2] at hd;simp at hd)];exact⟨rfl,by simp⟩
    .rw[if_neg (λe=>k5 e.1)];exact⟨rfl,by simp⟩
   obtain⟨c,NZ⟩:∃c:Bool,(bf L st).aj=5/\c=true\/¬(bf L st).aj=5/\c=false:=by
    by_cases h:(bf L st).aj=5
    .exact⟨true,.inl ⟨h,rfl⟩⟩
    .exact⟨false,.inr ⟨h,rfl⟩⟩
   obtain⟨k1,k2⟩:=key c _ NZ rfl;obtain⟨v1,v2⟩:=KB c _ NZ rfl;refine TK (n:=6) hE bA bD hn1 (λh0=>?_) (λh0=>?_) rfl rfl
   .rw[v1,v2,gH];exact k1 h0
   .rw[v1,v2,gH];exact k2 h0
  .cases hv
 .cases hv
theorem Hz(n:Nat)(s:List UInt8)(l:List (List UInt8×Int))(hl:l.length<1000000)(R:List AV):∀(post pre:List (List UInt8×Int)) (m md:Nat),l=pre++post->post.length<m->
 ∃cH,il 3 2 (bP (aC (aH (cm [Bc] []) (n+1)) (n+1) um) mQ 3 m (RZ (.ptr 0 0) (.str s) (.ptr 2 0) (.vec 1 0 l.length 2 l.length) (.int .i64 l.length) (.int .i64 pre.length)) ⟨3,[.row [.int .i64 0,.int .i64 0,.str [],.aF],.row (bo l),.row R],3,md⟩)=
   (match mz s post with
    |some k=>some (.ret,FM 52 [(4,.ptr 2 0)],⟨3,[.row [.int .i64 0,.int .i64 k,.str [],.aF],.row (bo l),.row R],2,cH⟩)
    |none=>some (.exit 0,FM 52 [(0,.ptr 0 0),(1,.str s),(4,.ptr 2 0)],⟨3,[.row [.int .i64 0,.int .i64 0,.str [],.aF],.row (bo l),.row R],2,cH⟩))
 |_,_,0,_,_,h=>by omega
 |[],pre,m+1,md,hs,_=>by rw[ag];rw[List.append_nil] at hs;subst hs;have f3:=bW l;generalize bo l=F at *;exact⟨md,by simp[um,mQ,mz,f3]⟩
 |p::r,pre,m+1,md,hs,hm=>by
   rw[ag];have AL:pre.length+r.length+1=l.length:=by rw[hs];simp;omega
   have h6:((pre.length:Int)<(l.length:Int))=True:=eq_true (by omega);have h6':(pre.length<l.length)=True:=eq_true (by omega);have h3:IntKind.i64.wrap ((pre.length:Int)+1)=(pre.length:Int)+1:=wrap_i64 (by omega) (by omega)
   have hd:(bo l).drop (pre.length*2)=.str p.1::.int .i64 p.2::bo r:=by
    have e:bo l=bo pre++bo (p::r):=by rw[hs];unfold bo;rw[List.flatMap_append]
    rw[e,<-rW pre,List.drop_left];rfl
   have DS:(pre.length*2+2<=(bo l).length)=True:=eq_true (by rw[rW];omega);have q:=Ry p.2;have f3:=bW l;obtain⟨cH,ih⟩:=Hz n s l hl R r (pre++[p]) m (min md 3) (by rw[hs];simp) (by simp at hm;omega);simp only[List.length_append,List.length_cons,List.length_nil,Nat.zero_add,Int.natCast_add,Int.natCast_one] at ih;have acx:(l=[])=False:=eq_false (λe=>by rw[e] at AL;simp at AL);unfold mz;generalize bo l=F at *;by_cases hv:p.1=s
   .rw[if_pos hv];subst hv;refine⟨min md 2,?_⟩;simp[um,mQ,h3,h6,h6',hd,DS,q,vD,f3]
   .rw[if_neg hv];have hvb:(p.1==s)=false:=by simpa using hv
    refine⟨cH,?_⟩;simp[um,mQ,h3,h6,h6',hd,DS,q,vD,f3,hv,hvb];exact ih
theorem Ty{s:List UInt8}{st:St}{k:Int}(h:mz s st.ae=some k):l6 s st=(.nl 0 k [],st):=by unfold l6;rw[h]
theorem SB{s:List UInt8}{st:St}(h:mz s st.ae=none):l6 s st=(.nl 0 st.next [],⟨st.bQ,st.ax,st.next+1,if s=[95] then st.ae else st.ae++[(s,(st.next:Int))]⟩):=by unfold l6;rw[h]
theorem nlv(k:Int):(Tm.nl 0 k []).aL=.agg [.int .i64 0,.int .i64 k,.str [],.aF]:=rfl
noncomputable def Tt:cw:=⟨159,λ
 |[.ptr 0 0,.str s],os=>(match ye os with|some R=>some ((l6 s R.st).1.aL,some (dF R.x R.y R.st.ae (l6 s R.st).2))|none=>none)
 |_,_=>none⟩
theorem OV:Tt.f=159:=(rfl)
theorem aaH{x y:AV}{T:List a7}{L:List Tok}{st:St}(hx:aZ x=some T)(hy:bE y=some L)(h:RC T L st)(s:List UInt8):Tt.S [.ptr 0 0,.str s] (dA x y st)=some ((l6 s st).1.aL,some (dF x y st.ae (l6 s st).2)):=by simp only[Tt,lR hx hy h]
theorem aaD:cB Tryz.prog bV Tt:=λaa os v r hv=>by
 unfold Tt at hv;dsimp only at hv;split at hv
 .rename_i os s;split at hv
  .rename_i R hR;cases hv;obtain⟨hx,hy,rfl,hc⟩:=kG hR;obtain⟨x,y,T,L,st⟩:=R;dsimp only at hx hy hc|-;rw[OV];have hE:cb Tryz.prog bV (cm [Bc] []):=ey (by simp[Q4.lift]) (by simp);have bA:=bM hx;have bD:=bB hy;have cY:=hc.le;have p8:=hc.lb;have CQ:=hc.nx;have qU:=hc.nm;have w:=wrap_i64 (n:=(st.next:Int)+1) (by omega) (by omega);have x1:=bA.aJ;have y1:=bD.aJ;have q:=λk=>Ry k
   by_cases h0:st.ae=[]
   .have hf:mz s st.ae=none:=by rw[h0];rfl
    rw[SB hf];by_cases hs:s=[95]
    .subst hs;refine dy (n:=6) hE bA bD h0 ?_ ?_ (Tm.bC _) rfl
     .show (if ([95]:List UInt8)=[95] then st.ae else st.ae++[([95],(st.next:Int))])=[];rw[if_pos rfl,h0]
     .rw[nlv];show (aH (cm [Bc] []) 6 159 [.ptr 0 0,.str [95]] ⟨1,[.row [x,y,.int .i64 st.bQ,.int .i64 st.next,.aF]],1,1⟩).map _=_;simp[Av,c159,mQ,um,ag,vD,q,x1,y1,w]
    .have hsb:(s==[95])=false:=by simpa using hs
     refine eB (n:=6) hE bA bD 3 (by decide) h0 ?_ ?_ (Tm.bC _) rfl
     .show (if s=[95] then st.ae else st.ae++[(s,(st.next:Int))])≠[];rw[if_neg hs,h0];simp
     .rw[nlv];show (aH (cm [Bc] []) 6 159 [.ptr 0 0,.str s] ⟨1,[.row [x,y,.int .i64 st.bQ,.int .i64 st.next,.aF]],1,1⟩).map _=_;simp only[if_neg hs,h0,List.nil_append];simp[Av,c159,mQ,um,ag,vD,q,x1,y1,w,hs,hsb,bo,aG]
   .have dI:0<st.ae.length:=List.length_pos_iff.2 h0;have f3:=bW st.ae;have fl:=rW st.ae;obtain⟨cH,lp⟩:=Hz 199998 s st.ae (by omega) [x,y,.int .i64 st.bQ,.int .i64 st.next,.vec 1 0 st.ae.length 2 st.ae.length] st.ae [] 199999 2 rfl (by omega);simp only[mQ,RZ,List.length_nil,Int.natCast_zero] at lp;have hb1:(st.ae.length+1)*24<=140737488355328:=by omega
    have hb2:st.ae.length+1<9223372036854775808:=by omega
    cases hf:mz s st.ae with
    |some k=>rw[hf] at lp;rw[Ty hf];refine di (n:=200000) hE bA bD 1 (by decide) h0 h0 ?_ (Tm.bC _) rfl;rw[nlv];show (aH (cm [Bc] []) 200000 159 [.ptr 0 0,.str s] ⟨2,[.row (bo st.ae),.row [x,y,.int .i64 st.bQ,.int .i64 st.next,.vec 1 0 st.ae.length 2 st.ae.length]],2,2⟩).map _=_;generalize bo st.ae=F at *;generalize st.ae.length=n at *;simp[Av,c159,mQ,vD,q,x1,y1,w,lp,f3]
    |none=>
      rw[hf] at lp;rw[SB hf];by_cases hs:s=[95]
      .subst hs;have hn:(if ([95]:List UInt8)=[95] then st.ae else st.ae++[([95],(st.next:Int))])=st.ae:=if_pos rfl;rw[hn];refine di (n:=200000) hE bA bD 1 (by decide) h0 h0 ?_ (Tm.bC _) rfl;rw[nlv];show (aH (cm [Bc] []) 200000 159 [.ptr 0 0,.str [95]] ⟨2,[.row (bo st.ae),.row [x,y,.int .i64 st.bQ,.int .i64 st.next,.vec 1 0 st.ae.length 2 st.ae.length]],2,2⟩).map _=some (_,some (aT.row [x,y,.int .i64 st.bQ,.int .i64 ((st.next+1:Nat):Int),.vec 1 0 st.ae.length 2 st.ae.length]),some (aT.row (bo st.ae)));generalize bo st.ae=F at *;generalize st.ae.length=n at *;simp[Av,c159,mQ,vD,q,x1,y1,w,lp,f3]
      .have hsb:(s==[95])=false:=by simpa using hs
       have hn:(if s=[95] then st.ae else st.ae++[(s,(st.next:Int))])=st.ae++[(s,(st.next:Int))]:=if_neg hs;rw[hn];refine di (n:=200000) hE bA bD 4 (by decide) h0 (by simp) ?_ (Tm.bC _) rfl;rw[nlv]
       show (aH (cm [Bc] []) 200000 159 [.ptr 0 0,.str s] ⟨2,[.row (bo st.ae),.row [x,y,.int .i64 st.bQ,.int .i64 st.next,.vec 1 0 st.ae.length 2 st.ae.length]],2,2⟩).map _=
        some (_,some (aT.row [x,y,.int .i64 st.bQ,.int .i64 ((st.next+1:Nat):Int),.vec 4 0 (st.ae++[(s,(st.next:Int))]).length 2 (st.ae++[(s,(st.next:Int))]).length]),some (aT.row (bo (st.ae++[(s,(st.next:Int))]))))
       rw[Qc,List.length_append,List.length_cons,List.length_nil];have ht:(bo st.ae).take (st.ae.length*2)=bo st.ae:=List.take_of_length_le (by omega);generalize bo st.ae=F at *;generalize st.ae.length=n at *;have hb3:(n*2<=F.length)=True:=eq_true (by omega);have hb4:((n+1)*2<=F.length)=False:=eq_false (by omega);have hb5:(n+1<=n)=False:=eq_false (by omega);simp[Av,c159,mQ,vD,q,x1,y1,w,lp,f3,hs,hsb,aG,hb1,hb2,hb3,hb4,hb5,ht]
  .cases hv
 .cases hv
def Ds(T:List a7)(t:Tok):Bool:=
 if t.aj=0\/t.aj=6 then false
 else if t.aj=5 then decide (t.aI=[40])||decide (t.aI=[91])||decide (t.aI=[123])
 else if !(decide (t.aj=1)||decide (t.aj=2))||t.js then true
 else !(aS T t.aI false).2||(aS T t.aI true).2
theorem PX{T:List a7}{L:List Tok}{st:St}(h:RC T L st):iH T st=Ds T (bf L st):=by unfold iH;rw[bz h];rfl
noncomputable def wY:cw:=⟨181,λ
 |[.ptr 0 0],os=>(match ye os with|some R=>some (.bool (iH R.T R.st),none)|none=>none)
 |_,_=>none⟩
theorem Ia:wY.f=181:=(rfl)
theorem E6{x y:AV}{T:List a7}{L:List Tok}{st:St}(hx:aZ x=some T)(hy:bE y=some L)(h:RC T L st):wY.S [.ptr 0 0] (dA x y st)=some (.bool (iH T st),none):=by simp only[wY,lR hx hy h]
noncomputable def ssB:List aW:=[rR,KQ,pW]
theorem aeO:∀s∈ssB,dU Tryz.prog bV s:=by simp[ssB,E5.lift,Gi.lift,Dy.lift]
theorem Qj{x y:AV}{T:List a7}{L:List Tok}{st:St}(hx:aZ x=some T)(hy:bE y=some L)(hc:RC T L st):
 (st.ae=[]->(aH (cm ssB [xA]) 6 181 [.ptr 0 0] ⟨1,[.row [x,y,.int .i64 st.bQ,.int .i64 st.next,.aF]],1,1⟩).map (λp=>(p.1,p.2.get 0))=some (.bool (Ds T (bf L st)),some (.row [x,y,.int .i64 st.bQ,.int .i64 st.next,.aF])))/\
 (st.ae≠[]->(aH (cm ssB [xA]) 6 181 [.ptr 0 0] ⟨2,[.row (bo st.ae),.row [x,y,.int .i64 st.bQ,.int .i64 st.next,.vec 1 0 st.ae.length 2 st.ae.length]],2,2⟩).map (λp=>(p.1,p.2.get 0,p.2.get 1))=
  some (.bool (Ds T (bf L st)),some (.row [x,y,.int .i64 st.bQ,.int .i64 st.next,.vec 1 0 st.ae.length 2 st.ae.length]),some (.row (bo st.ae)))):=by
 have bA:=bM hx;have bD:=bB hy;have q:=dK hx hy hc;rw[cq] at q;have x1:=bA.aJ;have y1:=bD.aJ;have g1:=lz bA bD;have g2:=lh bA bD;have g3:=lD bA bD;have g4:=lq bA bD;have g5:=kY bA bD;have g6:=kW bA bD;have uM:=λh=>bA.fr h 0 6
 have f1:=fh st.ae;have f2:=fi st.ae;have f3:=bW st.ae;have q1:=fV (bf L st);have q2:=BE hx (bf L st).aI (by have:=hc.tb;omega);have q3:=AA hx (bf L st).aI (by have:=hc.tb;omega);simp only[a7.aL,a7.cells] at q2 q3;unfold Ds;simp only[ssB];have main:∀(h0:List aT) (nx:Nat),True:=λ_ _=>trivial
 by_cases k0:(bf L st).aj=0
 .rw[if_pos (.inl k0)];rw[k0] at q;refine⟨λh0=>?_,λh0=>?_⟩
  .rw[bd h0] at q;simp[iK,tS,fq,hP,fQ,fP,q,x1,y1,g1,g2,g3,g4,g5,g6,-ak,-au,-aq]
  .rw[a6 h0] at q;generalize bo st.ae=F at *;generalize st.ae.length=n at *;simp[iK,tS,fq,hP,fQ,fP,q,x1,y1,g1,g2,g3,g4,g5,g6,-ak,-au,-aq,f1,f2,f3]
 by_cases k6:(bf L st).aj=6
 .rw[if_pos (.inr k6)];rw[k6] at q;refine⟨λh0=>?_,λh0=>?_⟩
  .rw[bd h0] at q;simp[iK,tS,fq,hP,fQ,fP,q,x1,y1,g1,g2,g3,g4,g5,g6,-ak,-au,-aq]
  .rw[a6 h0] at q;generalize bo st.ae=F at *;generalize st.ae.length=n at *;simp[iK,tS,fq,hP,fQ,fP,q,x1,y1,g1,g2,g3,g4,g5,g6,-ak,-au,-aq,f1,f2,f3]
 rw[if_neg (by rintro (h|h);exact k0 h;exact k6 h)];by_cases k5:(bf L st).aj=5
 .rw[if_pos k5];rw[k5] at q
  have fin:∀s,(bf L st).aI=s->∀e1 e2 e3:Bool,(s==[40])=e1->(s==[91])=e2->(s==[123])=e3->
   (st.ae=[]->(aH (cm [rR,KQ,pW] [xA]) 6 181 [.ptr 0 0] ⟨1,[.row [x,y,.int .i64 st.bQ,.int .i64 st.next,.aF]],1,1⟩).map (λp=>(p.1,p.2.get 0))=some (.bool (decide (s=[40])||decide (s=[91])||decide (s=[123])),some (.row [x,y,.int .i64 st.bQ,.int .i64 st.next,.aF])))/\
   (st.ae≠[]->(aH (cm [rR,KQ,pW] [xA]) 6 181 [.ptr 0 0] ⟨2,[.row (bo st.ae),.row [x,y,.int .i64 st.bQ,.int .i64 st.next,.vec 1 0 st.ae.length 2 st.ae.length]],2,2⟩).map (λp=>(p.1,p.2.get 0,p.2.get 1))=
    some (.bool (decide (s=[40])||decide (s=[91])||decide (s=[123])),some (.row [x,y,.int .i64 st.bQ,.int .i64 st.next,.vec 1 0 st.ae.length 2 st.ae.length]),some (.row (bo st.ae)))):=λs hs e1 e2 e3 h1 h2 h3=>by
   rw[hs] at q;clear q1 q2 q3
   cases e1 with
   |true=>
     have:s=[40]:=by simpa using h1
     subst this;refine⟨λh0=>?_,λh0=>?_⟩
     .rw[bd h0] at q;simp[iK,tS,fq,hP,fQ,fP,q,x1,y1,g1,g2,g3,g4,g5,g6,-ak,-au,-aq]
     .rw[a6 h0] at q;generalize bo st.ae=F at *;generalize st.ae.length=n at *;simp[iK,tS,fq,hP,fQ,fP,q,x1,y1,g1,g2,g3,g4,g5,g6,-ak,-au,-aq,f1,f2,f3]
   |false=>
     have n1:¬s=[40]:=by simpa using h1
     cases e2 with
     |true=>
       have:s=[91]:=by simpa using h2
       subst this;refine⟨λh0=>?_,λh0=>?_⟩
       .rw[bd h0] at q;simp[iK,tS,fq,hP,fQ,fP,q,x1,y1,g1,g2,g3,g4,g5,g6,-ak,-au,-aq]
       .rw[a6 h0] at q;generalize bo st.ae=F at *;generalize st.ae.length=n at *;simp[iK,tS,fq,hP,fQ,fP,q,x1,y1,g1,g2,g3,g4,g5,g6,-ak,-au,-aq,f1,f2,f3]
     |false=>
       have n2:¬s=[91]:=by simpa using h2
       have n3:(s==[123])=decide (s=[123]):=n9 _ _;refine⟨λh0=>?_,λh0=>?_⟩
       .rw[bd h0] at q;simp[iK,tS,fq,hP,fQ,fP,q,x1,y1,g1,g2,g3,g4,g5,g6,-ak,-au,-aq,h1,h2,n1,n2,n3]
       .rw[a6 h0] at q;generalize bo st.ae=F at *;generalize st.ae.length=n at *;simp[iK,tS,fq,hP,fQ,fP,q,x1,y1,g1,g2,g3,g4,g5,g6,-ak,-au,-aq,f1,f2,f3,h1,h2,n1,n2,n3]
  exact fin _ rfl _ _ _ rfl rfl rfl
 rw[if_neg k5];generalize bf L st=t at *;by_cases kn:(decide (t.aj=1)||decide (t.aj=2))=true
 .rw[kn] at q1|-
  cases ho:t.js with
  |true=>
    rw[ho] at q q1;refine⟨λh0=>?_,λh0=>?_⟩
    .rw[bd h0] at q;simp[iK,tS,fq,hP,fQ,fP,q,q1,x1,y1,g1,g2,g3,g4,g5,g6,-ak,-au,-aq,k0,k5,k6]
    .rw[a6 h0] at q;generalize bo st.ae=F at *;generalize st.ae.length=n at *;simp[iK,tS,fq,hP,fQ,fP,q,q1,x1,y1,g1,g2,g3,g4,g5,g6,-ak,-au,-aq,f1,f2,f3,k0,k5,k6]
  |false=>
    rw[ho] at q q1;generalize aS T t.aI false=I at *;obtain⟨⟨i1,i2,i3⟩,i4⟩:=I;generalize aS T t.aI true=J at *;obtain⟨⟨j1,j2,j3⟩,j4⟩:=J;dsimp only at q2 q3|-;refine⟨λh0=>?_,λh0=>?_⟩
    .rw[bd h0] at q;cases i4<;>simp[iK,tS,fq,hP,fQ,fP,uM,q,q1,q2,q3,x1,y1,g1,g2,g3,g4,g5,g6,-ak,-au,-aq,k0,k5,k6]
    .rw[a6 h0] at q;generalize bo st.ae=F at *;generalize st.ae.length=n at *;cases i4<;>simp[iK,tS,fq,hP,fQ,fP,uM,q,q1,q2,q3,x1,y1,g1,g2,g3,g4,g5,g6,-ak,-au,-aq,f1,f2,f3,k0,k5,k6]
 .rw[Bool.not_eq_true] at kn;rw[kn] at q1|-;refine⟨λh0=>?_,λh0=>?_⟩
  .rw[bd h0] at q;simp[iK,tS,fq,hP,fQ,fP,q,q1,x1,y1,g1,g2,g3,g4,g5,g6,-ak,-au,-aq,k0,k5,k6]
  .rw[a6 h0] at q;generalize bo st.ae=F at *;generalize st.ae.length=n at *;simp[iK,tS,fq,hP,fQ,fP,q,q1,x1,y1,g1,g2,g3,g4,g5,g6,-ak,-au,-aq,f1,f2,f3,k0,k5,k6]
theorem Pu:cB Tryz.prog bV wY:=λaa os v r hv=>by
 unfold wY at hv;dsimp only at hv;split at hv
 .rename_i os;split at hv
  .rename_i R hR;cases hv;obtain⟨hx,hy,rfl,hc⟩:=kG hR;rw[Ia,PX hc];have hE:cb Tryz.prog bV (cm ssB [xA]):=ey aeO (by simp[AI]);obtain⟨r1,r2⟩:=Qj hx hy hc;exact A0 (n:=6) hE (bM hx) (bB hy) r1 r2 rfl rfl
  .cases hv
 .cases hv
section
variable (n0:Nat)(ks aM:List Nat)(r:List AV)
theorem jP:aE n0 [] aM=aM:=by simp[aE]
theorem jN(id o l s b:Nat):aE n0 (.vec id o l s b::r) aM=if n0<=id/\aM.contains id=false then aE n0 r (aM++[id]) else aE n0 r aM:=by simp[aE,AV.top]
theorem jQ(id o:Nat):aE n0 (.ptr id o::r) aM=if n0<=id/\aM.contains id=false then aE n0 r (aM++[id]) else aE n0 r aM:=by simp[aE,AV.top]
theorem jJ(k:IntKind)(n:Int):aE n0 (.int k n::r) aM=aE n0 r aM:=by simp[aE,AV.top]
theorem gR(b:Bool):aE n0 (.bool b::r) aM=aE n0 r aM:=by simp[aE,AV.top]
theorem gQ:aE n0 (.aF::r) aM=aE n0 r aM:=by simp[aE,AV.top]
theorem iJ{x:AV}(h:Laid x):aE n0 (x::r) aM=aE n0 r aM:=by
 conv=>lhs;unfold aE
 rw[h.top]
theorem jH(id o l s b:Nat):dm n0 ks (.vec id o l s b)=.vec (oD n0 ks id) o l s b:=rfl
theorem jK(id o:Nat):dm n0 ks (.ptr id o)=.ptr (oD n0 ks id) o:=rfl
theorem jM(k:IntKind)(n:Int):dm n0 ks (.int k n)=.int k n:=rfl
theorem gS(b:Bool):dm n0 ks (.bool b)=.bool b:=rfl
theorem gT:dm n0 ks .aF=.aF:=rfl
theorem iM{x:AV}(h:Laid x):dm n0 ks x=x:=by have:=h.sg (oD n0 ks);cases x<;>exact this
end
theorem jI(n:Nat)(cs:List AV):dB n (.row cs)=decide (AV.ah cs<=n):=zI n cs
noncomputable def iU(N:Nat):cw:=⟨71,λ
 |[.ptr 0 0,.int .i64 n],os=>(match ye os with
   |some R=>if R.st.ax.length<N then some (.tuple [(ai R.T n R.st).1.1.aL,.int .i64 (ai R.T n R.st).1.2.1,.bool (ai R.T n R.st).1.2.2],some (dF R.x R.y R.st.ae (ai R.T n R.st).2)) else none
   |none=>none)
 |_,_=>none⟩
theorem eX(N:Nat):(iU N).f=71:=(rfl)
theorem dG(N:Nat){x y:AV}{T:List a7}{L:List Tok}{st:St}(hx:aZ x=some T)(hy:bE y=some L)(h:RC T L st)(n:Int)(hn:st.ax.length<N):
 (iU N).S [.ptr 0 0,.int .i64 n] (dA x y st)=some (.tuple [(ai T n st).1.1.aL,.int .i64 (ai T n st).1.2.1,.bool (ai T n st).1.2.2],some (dF x y st.ae (ai T n st).2)):=by
 simp only[iU,lR hx hy h];rw[if_pos hn]
theorem Ua(N:Nat){x y:AV}{T:List a7}{L:List Tok}{st:St}(hx:aZ x=some T)(hy:bE y=some L)(h:RC T L st)(n:Int)(hn:N<=st.ax.length):
 (iU N).S [.ptr 0 0,.int .i64 n] (dA x y st)=none:=by
 simp only[iU,lR hx hy h];rw[if_neg (by omega)]
theorem bY(T:List a7):CO (ai T):=⟨λn st=>(wC T _).lv n st,λn st h=>(wC T _).ok n st h⟩
theorem an(t:Tm):t.aL=.agg [.int .i64 t.aj,.int .i64 t.bj,.str t.az,t.bh]:=by rw[Tm.bm];rfl
theorem ef(aM:List Tm)(t:Tm):ay aM++[.int .i64 t.aj,.int .i64 t.bj,.str t.az,t.bh]=ay (aM++[t]):=by rw[me];rfl
noncomputable def y9(N:Nat):List cw:=[iU N,CN]
theorem sq{rec:Int->St->PR×St}{M:Nat}{aM:List Tm}{st:St}(h:(rec 999 st).1.2.2=false):bN rec (M+1) aM st=((aM,false),(rec 999 st).2):=by unfold bN;rw[h,if_neg (by simp)]
theorem kE{rec:Int->St->PR×St}{M:Nat}{aM:List Tm}{st:St}(h:(rec 999 st).1.2.2=true)(h2:(ba [44] (rec 999 st).2).1=false):bN rec (M+1) aM st=((aM++[(rec 999 st).1.1],true),(rec 999 st).2):=by unfold bN;rw[h,if_pos rfl,h2,if_neg (by simp)]
theorem mr{rec:Int->St->PR×St}{M:Nat}{aM:List Tm}{st:St}(h:(rec 999 st).1.2.2=true)(h2:(ba [44] (rec 999 st).2).1=true):bN rec (M+1) aM st=bN rec M (aM++[(rec 999 st).1.1]) (ba [44] (rec 999 st).2).2:=by
 conv=>lhs;unfold bN
 rw[h,if_pos rfl,h2,if_pos rfl]
theorem Ch{rec:Int->St->PR×St}(H:CO rec){M:Nat}{aM:List Tm}{st:St}(h:st.ae≠[]):(bN rec M aM st).2.ae≠[]:=(mN H M aM st).1.ae h
theorem Rr(n N w:Nat){x y:AV}{T:List a7}{L:List Tok}(hx:aZ x=some T)(hy:bE y=some L):∀(M:Nat) (aM:List Tm) (st:St) (m md:Nat),RC T L st->st.ae≠[]->aM≠[]->aM.length+st.ax.length<=200000->st.ax.length<N->st.ax.length<M->M<=m->
 ∃cH,il 1 w (bP (aC (aH (cm [] (y9 N)) (n+1)) (n+1) gU) eE 1 m (kQ (.ptr 0 0) (.vec 1 0 aM.length 4 aM.length)) ⟨3,[.row (bo st.ae),.row (ay aM),.row [x,y,.int .i64 st.bQ,.int .i64 st.next,.vec 2 0 st.ae.length 2 st.ae.length]],0,md⟩)=
   (match bN (ai T) M aM st with
    |((l,true),dH)=>some (.ret,FM 24 [(2,.vec 1 0 l.length 4 l.length),(3,.bool true)],⟨3,[.row (bo dH.ae),.row (ay l),.row [x,y,.int .i64 dH.bQ,.int .i64 dH.next,.vec 2 0 dH.ae.length 2 dH.ae.length]],0,cH⟩)
    |((_,false),dH)=>some (.ret,FM 24 [(2,.aF),(3,.bool false)],⟨2,[.row (bo dH.ae),.row [x,y,.int .i64 dH.bQ,.int .i64 dH.next,.vec 1 0 dH.ae.length 2 dH.ae.length]],0,cH⟩))
 |0,_,_,_,_,_,_,_,_,_,h,_=>by omega
 |M+1,aM,st,0,_,_,_,_,_,_,_,h=>by omega
 |M+1,aM,st,m+1,md,hc,h0,eR,hal,hN,hM,hm=>by
   have bA:=bM hx;have bD:=bB hy;have x1:=bA.aJ;have y1:=bD.aJ;have g1:=lz bA bD;have g2:=lh bA bD;have g3:=lD bA bD;have g4:=lq bA bD;have g5:=kY bA bD;have g6:=kW bA bD;have kx:=λn0 aM r=>iJ n0 aM r bA;have ky:=λn0 aM r=>iJ n0 aM r bD;have rx:=λn0 ks=>iM n0 ks bA;have ry:=λn0 ks=>iM n0 ks bD
   rw[ag];have H:=bY T;have q:=dG N hx hy hc 999 hN;have eF:=H.lv 999 st;have h1:=eF.ae h0;rw[a6 h0,dX h0 h1,an] at q;have f1:=fh st.ae;have f2:=fi st.ae;have f3:=bW st.ae;have e1:=fh (ai T 999 st).2.ae;have e2:=fi (ai T 999 st).2.ae;have e3:=bW (ai T 999 st).2.ae;have hf:=aU aM
   cases cT:(ai T 999 st).1.2.2 with
   |false=>rw[sq cT];rw[cT] at q;dsimp only;have tr:=ar (ai T 999 st).1.1;generalize (ai T 999 st).1.1=t at *;generalize (ai T 999 st).2=s1 at *;generalize bo st.ae=F at *;generalize bo s1.ae=G at *;generalize st.ae.length=fl at *;generalize s1.ae.length=gl at *;generalize ay aM=A at *;refine⟨min md 0,?_⟩;simp[gU,eE,y9,eX,gV,q,x1,y1,g1,g2,g3,g4,g5,g6,kx,ky,rx,ry,-ak,-au,-aq,-aE,-dm,jP,jN,jQ,jJ,gR,gQ,jH,jK,jM,gS,gT,jI,f1,f2,f3,e1,e2,e3,hf,tr]
   |true=>
     have ho:=H.ok 999 st cT;obtain⟨c1,l1⟩:=hc.ok ho;have lP:=ho.pos;have qt:=iZ hx hy c1 [44];have gH:=fX [44] (ai T 999 st).2;rw[a6 h1,a6 (by rw[gH.1];exact h1),gH.1,gH.2] at qt;rw[cT] at q;have ju:=aU (aM++[(ai T 999 st).1.1]);have h8:(aM.length+1)*56<=140737488355328:=by omega
     have h9:aM.length+1<9223372036854775808:=by omega
     have jZ:(ay aM).take (aM.length*4)=ay aM:=by rw[List.take_of_length_le];rw[cG];exact Nat.le_refl _
     have qT:=cG aM;have tr:=ar (ai T 999 st).1.1
     cases hb:(ba [44] (ai T 999 st).2).1 with
     |false=>have hs:=qC hb;rw[kE cT hb];rw[hb,hs] at qt;dsimp only;rw[<-ef] at ju|-;rw[List.length_append,List.length_cons,List.length_nil];generalize (ai T 999 st).1.1=t at *;generalize (ai T 999 st).2=s1 at *;generalize bo st.ae=F at *;generalize bo s1.ae=G at *;generalize st.ae.length=fl at *;generalize s1.ae.length=gl at *;generalize ay aM=A at *;refine⟨min md 0,?_⟩;simp[gU,eE,y9,eX,gV,q,qt,x1,y1,g1,g2,g3,g4,g5,g6,kx,ky,rx,ry,-ak,-au,-aq,-aE,-dm,jP,jN,jQ,jJ,gR,gQ,jH,jK,jM,gS,gT,jI,f1,f2,f3,e1,e2,e3,hf,ju,h8,h9,jZ,qT,tr,aG]
     |true=>have xx:=fU hb;obtain⟨c2,l2⟩:=c1.ok xx;have IZ:=xx.pos;rw[mr cT hb];obtain⟨cH,ih⟩:=Rr n N w hx hy M (aM++[(ai T 999 st).1.1]) (ba [44] (ai T 999 st).2).2 m 0 c2 (by rw[gH.1];exact h1) (by simp) (by simp;omega) (by omega) (by omega) (by omega);rw[hb] at qt;rw[gH.1,gH.2,<-ef,List.length_append,List.length_cons,List.length_nil] at ih;rw[<-ef] at ju;refine⟨cH,?_⟩;refine Eq.trans ?_ ih;generalize (ba [44] (ai T 999 st).2).2=s2 at *;generalize (ai T 999 st).1.1=t at *;generalize (ai T 999 st).2=s1 at *;generalize bo st.ae=F at *;generalize bo s1.ae=G at *;generalize st.ae.length=fl at *;generalize s1.ae.length=gl at *;generalize ay aM=A at *;simp[gU,eE,y9,eX,gV,q,qt,x1,y1,g1,g2,g3,g4,g5,g6,kx,ky,rx,ry,-ak,-au,-aq,-aE,-dm,jP,jN,jQ,jJ,gR,gQ,jH,jK,jM,gS,gT,jI,f1,f2,f3,e1,e2,e3,hf,ju,h8,h9,jZ,qT,tr,aG]
theorem Q2(n N w:Nat){x y:AV}{T:List a7}{L:List Tok}(hx:aZ x=some T)(hy:bE y=some L):∀(M:Nat) (aM:List Tm) (st:St) (m md:Nat),RC T L st->st.ae≠[]->aM≠[]->aM.length+st.ax.length<=200000->st.ax.length<N->st.ax.length<M->M<=m->
 ∃cH,il 2 w (bP (aC (aH (cm [] (y9 N)) (n+1)) (n+1) gU) eE 2 m (kQ (.ptr 0 0) (.vec 2 0 aM.length 4 aM.length)) ⟨4,[.row (bo st.ae),.row (ay aM),.dead,.row [x,y,.int .i64 st.bQ,.int .i64 st.next,.vec 3 0 st.ae.length 2 st.ae.length]],0,md⟩)=
   (match bN (ai T) M aM st with
    |((l,true),dH)=>some (.ret,FM 24 [(2,.vec 2 0 l.length 4 l.length),(3,.bool true)],⟨4,[.row (bo dH.ae),.row (ay l),.dead,.row [x,y,.int .i64 dH.bQ,.int .i64 dH.next,.vec 3 0 dH.ae.length 2 dH.ae.length]],0,cH⟩)
    |((_,false),dH)=>some (.ret,FM 24 [(2,.aF),(3,.bool false)],⟨3,[.row (bo dH.ae),.dead,.row [x,y,.int .i64 dH.bQ,.int .i64 dH.next,.vec 2 0 dH.ae.length 2 dH.ae.length]],0,cH⟩))
 |0,_,_,_,_,_,_,_,_,_,h,_=>by omega
 |M+1,aM,st,0,_,_,_,_,_,_,_,h=>by omega
 |M+1,aM,st,m+1,md,hc,h0,eR,hal,hN,hM,hm=>by
   have bA:=bM hx;have bD:=bB hy;have x1:=bA.aJ;have y1:=bD.aJ;have g1:=lz bA bD;have g2:=lh bA bD;have g3:=lD bA bD;have g4:=lq bA bD;have g5:=kY bA bD;have g6:=kW bA bD;have kx:=λn0 aM r=>iJ n0 aM r bA;have ky:=λn0 aM r=>iJ n0 aM r bD;have rx:=λn0 ks=>iM n0 ks bA;have ry:=λn0 ks=>iM n0 ks bD
   rw[ag];have H:=bY T;have q:=dG N hx hy hc 999 hN;have eF:=H.lv 999 st;have h1:=eF.ae h0;rw[a6 h0,dX h0 h1,an] at q;have f1:=fh st.ae;have f2:=fi st.ae;have f3:=bW st.ae;have e1:=fh (ai T 999 st).2.ae;have e2:=fi (ai T 999 st).2.ae;have e3:=bW (ai T 999 st).2.ae;have hf:=aU aM
   cases cT:(ai T 999 st).1.2.2 with
   |false=>rw[sq cT];rw[cT] at q;dsimp only;have tr:=ar (ai T 999 st).1.1;generalize (ai T 999 st).1.1=t at *;generalize (ai T 999 st).2=s1 at *;generalize bo st.ae=F at *;generalize bo s1.ae=G at *;generalize st.ae.length=fl at *;generalize s1.ae.length=gl at *;generalize ay aM=A at *;refine⟨min md 0,?_⟩;simp[gU,eE,y9,eX,gV,q,x1,y1,g1,g2,g3,g4,g5,g6,kx,ky,rx,ry,-ak,-au,-aq,-aE,-dm,jP,jN,jQ,jJ,gR,gQ,jH,jK,jM,gS,gT,jI,f1,f2,f3,e1,e2,e3,hf,tr]
   |true=>
     have ho:=H.ok 999 st cT;obtain⟨c1,l1⟩:=hc.ok ho;have lP:=ho.pos;have qt:=iZ hx hy c1 [44];have gH:=fX [44] (ai T 999 st).2;rw[a6 h1,a6 (by rw[gH.1];exact h1),gH.1,gH.2] at qt;rw[cT] at q;have ju:=aU (aM++[(ai T 999 st).1.1]);have h8:(aM.length+1)*56<=140737488355328:=by omega
     have h9:aM.length+1<9223372036854775808:=by omega
     have jZ:(ay aM).take (aM.length*4)=ay aM:=by rw[List.take_of_length_le];rw[cG];exact Nat.le_refl _
     have qT:=cG aM;have tr:=ar (ai T 999 st).1.1
     cases hb:(ba [44] (ai T 999 st).2).1 with
     |false=>have hs:=qC hb;rw[kE cT hb];rw[hb,hs] at qt;dsimp only;rw[<-ef] at ju|-;rw[List.length_append,List.length_cons,List.length_nil];generalize (ai T 999 st).1.1=t at *;generalize (ai T 999 st).2=s1 at *;generalize bo st.ae=F at *;generalize bo s1.ae=G at *;generalize st.ae.length=fl at *;generalize s1.ae.length=gl at *;generalize ay aM=A at *;refine⟨min md 0,?_⟩;simp[gU,eE,y9,eX,gV,q,qt,x1,y1,g1,g2,g3,g4,g5,g6,kx,ky,rx,ry,-ak,-au,-aq,-aE,-dm,jP,jN,jQ,jJ,gR,gQ,jH,jK,jM,gS,gT,jI,f1,f2,f3,e1,e2,e3,hf,ju,h8,h9,jZ,qT,tr,aG]
     |true=>have xx:=fU hb;obtain⟨c2,l2⟩:=c1.ok xx;have IZ:=xx.pos;rw[mr cT hb];obtain⟨cH,ih⟩:=Q2 n N w hx hy M (aM++[(ai T 999 st).1.1]) (ba [44] (ai T 999 st).2).2 m 0 c2 (by rw[gH.1];exact h1) (by simp) (by simp;omega) (by omega) (by omega) (by omega);rw[hb] at qt;rw[gH.1,gH.2,<-ef,List.length_append,List.length_cons,List.length_nil] at ih;rw[<-ef] at ju;refine⟨cH,?_⟩;refine Eq.trans ?_ ih;generalize (ba [44] (ai T 999 st).2).2=s2 at *;generalize (ai T 999 st).1.1=t at *;generalize (ai T 999 st).2=s1 at *;generalize bo st.ae=F at *;generalize bo s1.ae=G at *;generalize st.ae.length=fl at *;generalize s1.ae.length=gl at *;generalize ay aM=A at *;simp[gU,eE,y9,eX,gV,q,qt,x1,y1,g1,g2,g3,g4,g5,g6,kx,ky,rx,ry,-ak,-au,-aq,-aE,-dm,jP,jN,jQ,jJ,gR,gQ,jH,jK,jM,gS,gT,jI,f1,f2,f3,e1,e2,e3,hf,ju,h8,h9,jZ,qT,tr,aG]
end
section
def C9(x y:AV)(l:List Tm)(ok:Bool)(st:St)(md:Nat):Option (Ex×List AV×af):=
 match st.ae,ok with
 |[],true=>some (.ret,FM 24 [(2,.vec 1 0 l.length 4 l.length),(3,.bool true)],⟨2,[.row (ay l),.row [x,y,.int .i64 st.bQ,.int .i64 st.next,.aF]],1,md⟩)
 |[],false=>some (.ret,FM 24 [(2,.aF),(3,.bool false)],⟨1,[.row [x,y,.int .i64 st.bQ,.int .i64 st.next,.aF]],1,md⟩)
 |q::r,true=>some (.ret,FM 24 [(2,.vec 1 0 l.length 4 l.length),(3,.bool true)],⟨3,[.row (bo (q::r)),.row (ay l),.row [x,y,.int .i64 st.bQ,.int .i64 st.next,.vec 2 0 (q::r).length 2 (q::r).length]],0,md⟩)
 |q::r,false=>some (.ret,FM 24 [(2,.aF),(3,.bool false)],⟨2,[.row (bo (q::r)),.row [x,y,.int .i64 st.bQ,.int .i64 st.next,.vec 1 0 (q::r).length 2 (q::r).length]],0,md⟩)
theorem JF{x y:AV}{l:List Tm}{st:St}{md:Nat}(h:st.ae=[]):C9 x y l true st md=some (.ret,FM 24 [(2,.vec 1 0 l.length 4 l.length),(3,.bool true)],⟨2,[.row (ay l),.row [x,y,.int .i64 st.bQ,.int .i64 st.next,.aF]],1,md⟩):=by unfold C9;rw[h]
theorem Km{x y:AV}{l:List Tm}{st:St}{md:Nat}(h:st.ae=[]):C9 x y l false st md=some (.ret,FM 24 [(2,.aF),(3,.bool false)],⟨1,[.row [x,y,.int .i64 st.bQ,.int .i64 st.next,.aF]],1,md⟩):=by unfold C9;rw[h]
theorem Dn{x y:AV}{l:List Tm}{st:St}{md:Nat}(h:st.ae≠[]):C9 x y l true st md=some (.ret,FM 24 [(2,.vec 1 0 l.length 4 l.length),(3,.bool true)],⟨3,[.row (bo st.ae),.row (ay l),.row [x,y,.int .i64 st.bQ,.int .i64 st.next,.vec 2 0 st.ae.length 2 st.ae.length]],0,md⟩):=by
 unfold C9
 cases hn:st.ae with
 |nil=>exact absurd hn h
 |cons q r=>rfl
theorem Dj{x y:AV}{l:List Tm}{st:St}{md:Nat}(h:st.ae≠[]):C9 x y l false st md=some (.ret,FM 24 [(2,.aF),(3,.bool false)],⟨2,[.row (bo st.ae),.row [x,y,.int .i64 st.bQ,.int .i64 st.next,.vec 1 0 st.ae.length 2 st.ae.length]],0,md⟩):=by
 unfold C9
 cases hn:st.ae with
 |nil=>exact absurd hn h
 |cons q r=>rfl
theorem MN(n N w:Nat){x y:AV}{T:List a7}{L:List Tok}(hx:aZ x=some T)(hy:bE y=some L)(M:Nat)(aM:List Tm)(st:St)(m md:Nat)(hc:RC T L st)(h0:st.ae≠[])(eR:aM≠[])(h1:aM.length+st.ax.length<=200000)(h2:st.ax.length<N)(h3:st.ax.length<M)(h4:M<=m):
 ∃cH,il 1 w (bP (aC (aH (cm [] (y9 N)) (n+1)) (n+1) gU) eE 1 m (kQ (.ptr 0 0) (.vec 1 0 aM.length 4 aM.length)) ⟨3,[.row (bo st.ae),.row (ay aM),.row [x,y,.int .i64 st.bQ,.int .i64 st.next,.vec 2 0 st.ae.length 2 st.ae.length]],0,md⟩)=
   C9 x y (bN (ai T) M aM st).1.1 (bN (ai T) M aM st).1.2 (bN (ai T) M aM st).2 cH:=by
 obtain⟨cH,e⟩:=Rr n N w hx hy M aM st m md hc h0 eR h1 h2 h3 h4;have hn:=Ch (bY T) (M:=M) (aM:=aM) h0;refine⟨cH,e.trans ?_⟩;generalize bN (ai T) M aM st=I at *;obtain⟨⟨l,ok⟩,s⟩:=I
 cases ok with
 |true=>exact (Dn hn).symm
 |false=>exact (Dj hn).symm
attribute [local simp] jP jN jQ jJ gR gQ jH jK jM gS gT jI lz lh lD lq kY kW iJ iM Laid.aJ fh fi bW gU eE y9 eX gV
theorem X9(n N:Nat){x y:AV}{T:List a7}{L:List Tok}(hx:aZ x=some T)(hy:bE y=some L):∀(M:Nat) (aM:List Tm) (st:St) (m md:Nat),RC T L st->st.ae=[]->aM≠[]->aM.length+st.ax.length<=200000->st.ax.length<N->st.ax.length<M->M<=m->
 ∃cH,il 1 1 (bP (aC (aH (cm [] (y9 N)) (n+1)) (n+1) gU) eE 1 m (kQ (.ptr 0 0) (.vec 1 0 aM.length 4 aM.length)) ⟨2,[.row (ay aM),.row [x,y,.int .i64 st.bQ,.int .i64 st.next,.aF]],1,md⟩)=
   C9 x y (bN (ai T) M aM st).1.1 (bN (ai T) M aM st).1.2 (bN (ai T) M aM st).2 cH
 |0,_,_,_,_,_,_,_,_,_,h,_=>by omega
 |M+1,aM,st,0,_,_,_,_,_,_,_,h=>by omega
 |M+1,aM,st,m+1,md,hc,h0,eR,hal,hN,hM,hm=>by
   have bA:=bM hx;have bD:=bB hy;rw[ag];have H:=bY T;have q:=dG N hx hy hc 999 hN;have eF:=H.lv 999 st;rw[bd h0,h0,an] at q;have e1:=fh (ai T 999 st).2.ae;have e2:=fi (ai T 999 st).2.ae;have e3:=bW (ai T 999 st).2.ae;have hf:=aU aM
   cases cT:(ai T 999 st).1.2.2 with
   |false=>
     rw[sq cT];rw[cT] at q;dsimp only;have tr:=ar (ai T 999 st).1.1;by_cases h1:(ai T 999 st).2.ae=[]
     .rw[dh h1] at q;simp only[Km h1];generalize (ai T 999 st).1.1=t at *;generalize (ai T 999 st).2=s1 at *;generalize ay aM=A at *;exact⟨min md 0,by simp[q,-ak,-au,-aq,-aE,-dm,tr,hf,bA,bD]⟩
     .rw[cO h1] at q;simp only[Dj h1];generalize (ai T 999 st).1.1=t at *;generalize (ai T 999 st).2=s1 at *;generalize ay aM=A at *;exact⟨min md 0,by simp[q,-ak,-au,-aq,-aE,-dm,e1,e2,e3,tr,hf,bA,bD]⟩
   |true=>
     have ho:=H.ok 999 st cT;obtain⟨c1,l1⟩:=hc.ok ho;have lP:=ho.pos;have qt:=iZ hx hy c1 [44];have gH:=fX [44] (ai T 999 st).2;rw[cT] at q;have ju:=aU (aM++[(ai T 999 st).1.1]);have h8:(aM.length+1)*56<=140737488355328:=by omega
     have h9:aM.length+1<9223372036854775808:=by omega
     have jZ:(ay aM).take (aM.length*4)=ay aM:=by rw[List.take_of_length_le];rw[cG];exact Nat.le_refl _
     have qT:=cG aM;have tr:=ar (ai T 999 st).1.1;by_cases h1:(ai T 999 st).2.ae=[]
     .rw[dh h1] at q;rw[bd h1,bd (by rw[gH.1];exact h1),gH.2] at qt
      cases hb:(ba [44] (ai T 999 st).2).1 with
      |false=>have hs:=qC hb;rw[kE cT hb];rw[hb,hs] at qt;dsimp only;simp only[JF h1];rw[<-ef] at ju|-;rw[List.length_append,List.length_cons,List.length_nil];generalize (ai T 999 st).1.1=t at *;generalize (ai T 999 st).2=s1 at *;generalize ay aM=A at *;exact⟨min md 0,by simp[q,qt,-ak,-au,-aq,-aE,-dm,ju,tr,aG,hf,h8,h9,jZ,qT,bA,bD]⟩
      |true=>have xx:=fU hb;obtain⟨c2,l2⟩:=c1.ok xx;have IZ:=xx.pos;rw[mr cT hb];obtain⟨cH,ih⟩:=X9 n N hx hy M (aM++[(ai T 999 st).1.1]) (ba [44] (ai T 999 st).2).2 m 0 c2 (by rw[gH.1];exact h1) (by simp) (by simp;omega) (by omega) (by omega) (by omega);rw[hb] at qt;rw[gH.2,<-ef,List.length_append,List.length_cons,List.length_nil] at ih;rw[<-ef] at ju;refine⟨cH,?_⟩;refine Eq.trans ?_ ih;generalize (ba [44] (ai T 999 st).2).2=s2 at *;generalize (ai T 999 st).1.1=t at *;generalize (ai T 999 st).2=s1 at *;generalize ay aM=A at *;simp[q,qt,-ak,-au,-aq,-aE,-dm,ju,tr,aG,hf,h8,h9,jZ,qT,bA,bD]
     .rw[cO h1] at q;rw[a6 h1,a6 (by rw[gH.1];exact h1),gH.1,gH.2] at qt
      cases hb:(ba [44] (ai T 999 st).2).1 with
      |false=>have hs:=qC hb;rw[kE cT hb];rw[hb,hs] at qt;dsimp only;simp only[Dn h1];rw[<-ef] at ju|-;rw[List.length_append,List.length_cons,List.length_nil];generalize (ai T 999 st).1.1=t at *;generalize (ai T 999 st).2=s1 at *;generalize ay aM=A at *;exact⟨min md 0,by simp[q,qt,-ak,-au,-aq,-aE,-dm,e1,e2,e3,ju,tr,aG,hf,h8,h9,jZ,qT,bA,bD]⟩
      |true=>have xx:=fU hb;obtain⟨c2,l2⟩:=c1.ok xx;have IZ:=xx.pos;rw[mr cT hb];obtain⟨cH,ih⟩:=MN n N 1 hx hy M (aM++[(ai T 999 st).1.1]) (ba [44] (ai T 999 st).2).2 m 0 c2 (by rw[gH.1];exact h1) (by simp) (by simp;omega) (by omega) (by omega) (by omega);rw[hb] at qt;rw[gH.1,gH.2,<-ef,List.length_append,List.length_cons,List.length_nil] at ih;rw[<-ef] at ju;refine⟨cH,?_⟩;refine Eq.trans ?_ ih;generalize (ba [44] (ai T 999 st).2).2=s2 at *;generalize (ai T 999 st).1.1=t at *;generalize (ai T 999 st).2=s1 at *;generalize ay aM=A at *;simp[q,qt,-ak,-au,-aq,-aE,-dm,e1,e2,e3,ju,tr,aG,hf,h8,h9,jZ,qT,bA,bD]
theorem afX(n N:Nat){x y:AV}{T:List a7}{L:List Tok}(hx:aZ x=some T)(hy:bE y=some L):∀(M:Nat) (st:St) (m md:Nat),RC T L st->st.ae=[]->0+st.ax.length<=200000->st.ax.length<N->st.ax.length<M->M<=m->
 ∃cH,il 1 1 (bP (aC (aH (cm [] (y9 N)) (n+1)) (n+1) gU) eE 1 m (kQ (.ptr 0 0) .aF) ⟨1,[.row [x,y,.int .i64 st.bQ,.int .i64 st.next,.aF]],1,md⟩)=
   C9 x y (bN (ai T) M [] st).1.1 (bN (ai T) M [] st).1.2 (bN (ai T) M [] st).2 cH
 |0,_,_,_,_,_,_,_,h,_=>by omega
 |M+1,st,0,_,_,_,_,_,_,h=>by omega
 |M+1,st,m+1,md,hc,h0,hal,hN,hM,hm=>by
   have bA:=bM hx;have bD:=bB hy;rw[ag];have H:=bY T;have q:=dG N hx hy hc 999 hN;have eF:=H.lv 999 st;rw[bd h0,h0,an] at q;have e1:=fh (ai T 999 st).2.ae;have e2:=fi (ai T 999 st).2.ae;have e3:=bW (ai T 999 st).2.ae
   cases cT:(ai T 999 st).1.2.2 with
   |false=>
     rw[sq cT];rw[cT] at q;dsimp only;have tr:=ar (ai T 999 st).1.1;by_cases h1:(ai T 999 st).2.ae=[]
     .rw[dh h1] at q;simp only[Km h1];generalize (ai T 999 st).1.1=t at *;generalize (ai T 999 st).2=s1 at *;exact⟨min md 0,by simp[q,-ak,-au,-aq,-aE,-dm,tr,bA,bD]⟩
     .rw[cO h1] at q;simp only[Dj h1];generalize (ai T 999 st).1.1=t at *;generalize (ai T 999 st).2=s1 at *;exact⟨min md 0,by simp[q,-ak,-au,-aq,-aE,-dm,e1,e2,e3,tr,bA,bD]⟩
   |true=>
     have ho:=H.ok 999 st cT;obtain⟨c1,l1⟩:=hc.ok ho;have lP:=ho.pos;have qt:=iZ hx hy c1 [44];have gH:=fX [44] (ai T 999 st).2;rw[cT] at q;have ju:=aU ([]++[(ai T 999 st).1.1]);have tr:=ar (ai T 999 st).1.1;by_cases h1:(ai T 999 st).2.ae=[]
     .rw[dh h1] at q;rw[bd h1,bd (by rw[gH.1];exact h1),gH.2] at qt
      cases hb:(ba [44] (ai T 999 st).2).1 with
      |false=>have hs:=qC hb;rw[kE cT hb];rw[hb,hs] at qt;dsimp only;simp only[JF h1];rw[<-ef] at ju|-;rw[List.length_append,List.length_cons,List.length_nil];generalize (ai T 999 st).1.1=t at *;generalize (ai T 999 st).2=s1 at *;exact⟨min md 0,by simp[q,qt,-ak,-au,-aq,-aE,-dm,ju,tr,aG,ay,bA,bD]⟩
      |true=>have xx:=fU hb;obtain⟨c2,l2⟩:=c1.ok xx;have IZ:=xx.pos;rw[mr cT hb];obtain⟨cH,ih⟩:=X9 n N hx hy M ([]++[(ai T 999 st).1.1]) (ba [44] (ai T 999 st).2).2 m 0 c2 (by rw[gH.1];exact h1) (by simp) (by simp;omega) (by omega) (by omega) (by omega);rw[hb] at qt;rw[gH.2,<-ef,List.length_append,List.length_cons,List.length_nil] at ih;rw[<-ef] at ju;refine⟨cH,?_⟩;refine Eq.trans ?_ ih;generalize (ba [44] (ai T 999 st).2).2=s2 at *;generalize (ai T 999 st).1.1=t at *;generalize (ai T 999 st).2=s1 at *;simp[q,qt,-ak,-au,-aq,-aE,-dm,ju,tr,aG,ay,bA,bD]
     .rw[cO h1] at q;rw[a6 h1,a6 (by rw[gH.1];exact h1),gH.1,gH.2] at qt
      cases hb:(ba [44] (ai T 999 st).2).1 with
      |false=>have hs:=qC hb;rw[kE cT hb];rw[hb,hs] at qt;dsimp only;simp only[Dn h1];rw[<-ef] at ju|-;rw[List.length_append,List.length_cons,List.length_nil];generalize (ai T 999 st).1.1=t at *;generalize (ai T 999 st).2=s1 at *;exact⟨min md 0,by simp[q,qt,-ak,-au,-aq,-aE,-dm,e1,e2,e3,ju,tr,aG,ay,bA,bD]⟩
      |true=>have xx:=fU hb;obtain⟨c2,l2⟩:=c1.ok xx;have IZ:=xx.pos;rw[mr cT hb];obtain⟨cH,ih⟩:=MN n N 1 hx hy M ([]++[(ai T 999 st).1.1]) (ba [44] (ai T 999 st).2).2 m 0 c2 (by rw[gH.1];exact h1) (by simp) (by simp;omega) (by omega) (by omega) (by omega);rw[hb] at qt;rw[gH.1,gH.2,<-ef,List.length_append,List.length_cons,List.length_nil] at ih;rw[<-ef] at ju;refine⟨cH,?_⟩;refine Eq.trans ?_ ih;generalize (ba [44] (ai T 999 st).2).2=s2 at *;generalize (ai T 999 st).1.1=t at *;generalize (ai T 999 st).2=s1 at *;simp[q,qt,-ak,-au,-aq,-aE,-dm,e1,e2,e3,ju,tr,aG,ay,bA,bD]
end
section
theorem vy{rec:Int->St->PR×St}:∀(M:Nat) (aM:List Tm) (st:St),(bN rec M aM st).1.2=true->(bN rec M aM st).1.1≠[]/\(bN rec M aM st).1.1.length<=aM.length+M
 |0,aM,st,h=>by cases h
 |M+1,aM,st,h=>by
   unfold bN at h|-;by_cases d1:(rec 999 st).1.2.2=true
   .rw[if_pos d1] at h|-;by_cases d2:(ba [44] (rec 999 st).2).1=true
    .rw[if_pos d2] at h|-;have:=vy M _ _ h;simp only[List.length_append,List.length_cons,List.length_nil] at this;exact⟨this.1,by omega⟩
    .rw[if_neg d2];exact⟨by simp,by simp⟩
   .rw[if_neg d1] at h;cases h
def OI(x y:AV)(l:List Tm)(ok:Bool)(st:St)(md:Nat):Option (Ex×List AV×af):=
 if ok then some (.ret,FM 24 [(2,.vec 2 0 l.length 4 l.length),(3,.bool true)],⟨4,[.row (bo st.ae),.row (ay l),.dead,.row [x,y,.int .i64 st.bQ,.int .i64 st.next,.vec 3 0 st.ae.length 2 st.ae.length]],0,md⟩)
 else some (.ret,FM 24 [(2,.aF),(3,.bool false)],⟨3,[.row (bo st.ae),.dead,.row [x,y,.int .i64 st.bQ,.int .i64 st.next,.vec 2 0 st.ae.length 2 st.ae.length]],0,md⟩)
theorem V7(n N w:Nat){x y:AV}{T:List a7}{L:List Tok}(hx:aZ x=some T)(hy:bE y=some L)(M:Nat)(aM:List Tm)(st:St)(m md:Nat)(hc:RC T L st)(h0:st.ae≠[])(eR:aM≠[])(h1:aM.length+st.ax.length<=200000)(h2:st.ax.length<N)(h3:st.ax.length<M)(h4:M<=m):
 ∃cH,il 2 w (bP (aC (aH (cm [] (y9 N)) (n+1)) (n+1) gU) eE 2 m (kQ (.ptr 0 0) (.vec 2 0 aM.length 4 aM.length)) ⟨4,[.row (bo st.ae),.row (ay aM),.dead,.row [x,y,.int .i64 st.bQ,.int .i64 st.next,.vec 3 0 st.ae.length 2 st.ae.length]],0,md⟩)=
   OI x y (bN (ai T) M aM st).1.1 (bN (ai T) M aM st).1.2 (bN (ai T) M aM st).2 cH:=by
 obtain⟨cH,e⟩:=Q2 n N w hx hy M aM st m md hc h0 eR h1 h2 h3 h4;refine⟨cH,e.trans ?_⟩;generalize bN (ai T) M aM st=I at *;obtain⟨⟨l,ok⟩,s⟩:=I;cases ok<;>rfl
attribute [local simp] jP jN jQ jJ gR gQ jH jK jM gS gT jI lz lh lD lq kY kW iJ iM Laid.aJ fh fi bW eE y9 eX gV
theorem afu(n N:Nat){x y:AV}{T:List a7}{L:List Tok}(hx:aZ x=some T)(hy:bE y=some L)(M:Nat)(st:St)(m md:Nat)(hc:RC T L st)(h0:st.ae≠[])(hal:st.ax.length<=190000)(hN:st.ax.length<N)(hM:st.ax.length<M+1)(hm:M<=m):
 ∃cH,il 2 2 (bP (aC (aH (cm [] (y9 N)) (n+1)) (n+1) gU) eE 2 (m+1) (kQ (.ptr 0 0) .aF) ⟨2,[.row (bo st.ae),.row [x,y,.int .i64 st.bQ,.int .i64 st.next,.vec 1 0 st.ae.length 2 st.ae.length]],2,md⟩)=
   OI x y (bN (ai T) (M+1) [] st).1.1 (bN (ai T) (M+1) [] st).1.2 (bN (ai T) (M+1) [] st).2 cH:=by
 have bA:=bM hx;have bD:=bB hy;rw[ag];have H:=bY T;have q:=dG N hx hy hc 999 hN;have eF:=H.lv 999 st;have h1:=eF.ae h0;rw[a6 h0,dX h0 h1,an] at q;have e1:=fh (ai T 999 st).2.ae;have e2:=fi (ai T 999 st).2.ae;have e3:=bW (ai T 999 st).2.ae;have tr:=ar (ai T 999 st).1.1
 cases cT:(ai T 999 st).1.2.2 with
 |false=>rw[sq cT];rw[cT] at q;simp only[OI,if_false,Bool.false_eq_true];generalize (ai T 999 st).1.1=t at *;generalize (ai T 999 st).2=s1 at *;exact⟨min md 0,by simp[gU,q,-ak,-au,-aq,-aE,-dm,e1,e2,e3,tr,bA,bD]⟩
 |true=>
   have ho:=H.ok 999 st cT;obtain⟨c1,l1⟩:=hc.ok ho;have lP:=ho.pos;have qt:=iZ hx hy c1 [44];have gH:=fX [44] (ai T 999 st).2;rw[a6 h1,a6 (by rw[gH.1];exact h1),gH.1,gH.2] at qt;rw[cT] at q;have ju:=aU ([]++[(ai T 999 st).1.1])
   cases hb:(ba [44] (ai T 999 st).2).1 with
   |false=>have hs:=qC hb;rw[kE cT hb];rw[hb,hs] at qt;simp only[OI,if_true];rw[<-ef] at ju|-;rw[List.length_append,List.length_cons,List.length_nil];generalize (ai T 999 st).1.1=t at *;generalize (ai T 999 st).2=s1 at *;exact⟨min md 0,by simp[gU,q,qt,-ak,-au,-aq,-aE,-dm,e1,e2,e3,ju,tr,aG,ay,bA,bD]⟩
   |true=>have xx:=fU hb;obtain⟨c2,l2⟩:=c1.ok xx;have IZ:=xx.pos;rw[mr cT hb];obtain⟨cH,ih⟩:=V7 n N 2 hx hy M ([]++[(ai T 999 st).1.1]) (ba [44] (ai T 999 st).2).2 m 0 c2 (by rw[gH.1];exact h1) (by simp) (by simp;omega) (by omega) (by omega) (by omega);rw[hb] at qt;rw[gH.1,gH.2,<-ef,List.length_append,List.length_cons,List.length_nil] at ih;rw[<-ef] at ju;refine⟨cH,?_⟩;refine Eq.trans ?_ ih;generalize (ba [44] (ai T 999 st).2).2=s2 at *;generalize (ai T 999 st).1.1=t at *;generalize (ai T 999 st).2=s1 at *;simp[gU,q,qt,-ak,-au,-aq,-aE,-dm,e1,e2,e3,ju,tr,aG,ay,bA,bD]
def aD(T:List a7)(st:St):(List Tm×Bool)×St:=bN (ai T) (st.ax.length+1) [] st
noncomputable def pM(N:Nat):cw:=⟨163,λ
 |[.ptr 0 0],os=>(match ye os with
   |some R=>if R.st.ax.length<N then some (.tuple [Gx (if (aD R.T R.st).1.2 then (aD R.T R.st).1.1 else []),.bool (aD R.T R.st).1.2],some (dF R.x R.y R.st.ae (aD R.T R.st).2)) else none
   |none=>none)
 |_,_=>none⟩
theorem ui(N:Nat):(pM N).f=163:=(rfl)
theorem mD(N:Nat){x y:AV}{T:List a7}{L:List Tok}{st:St}(hx:aZ x=some T)(hy:bE y=some L)(h:RC T L st)(hn:st.ax.length<N):
 (pM N).S [.ptr 0 0] (dA x y st)=some (.tuple [Gx (if (aD T st).1.2 then (aD T st).1.1 else []),.bool (aD T st).1.2],some (dF x y st.ae (aD T st).2)):=by
 simp only[pM,lR hx hy h];rw[if_pos hn]
theorem Bq{l:List Tm}(h:l≠[]):Gx l=.sl (l.map Tm.aL):=by
 cases l with
 |nil=>exact absurd rfl h
 |cons a r=>rfl
theorem J0{h:af}{n0 d id:Nat}{l:List Tm}(hl:l≠[])(bX:n0<=id)(hg:h.get id=some (.row (ay l))):jL h n0 (d+2) (.vec id 0 l.length 4 l.length)=some (.sl (l.map Tm.aL),[id]):=by
 cases l with
 |nil=>exact absurd rfl hl
 |cons a r=>exact Yz a r bX hg
theorem Qy(N:Nat){x y:AV}{T:List a7}{L:List Tok}{st:St}(hx:aZ x=some T)(hy:bE y=some L)(hc:RC T L st)(hN:st.ax.length<N)(hE:cb Tryz.prog bV (cm [] (y9 N))):
 cp Tryz.prog bV 163 [.ptr 0 0] (dA x y st) (.tuple [Gx (if (aD T st).1.2 then (aD T st).1.1 else []),.bool (aD T st).1.2]) (some (dF x y st.ae (aD T st).2)):=by
 have bA:=bM hx;have bD:=bB hy;have x1:=bA.aJ;have y1:=bD.aJ;have oI:st.ax.length<=100000:=by rw[hc.ax,List.length_drop,jd];have:=hc.lb;omega
 have hv:∀(l:List Tm) (b:Bool),(AV.tuple [Gx l,.bool b]).aJ=0:=λl b=>by simp[AV.aJ,AV.ah,NC]
 have eR:=vy (rec:=ai T) (st.ax.length+1) [] st;by_cases h0:st.ae=[]
 .obtain⟨cH,lp⟩:=afX 199998 N hx hy (st.ax.length+1) st 199999 1 hc h0 (by omega) hN (by omega) (by omega);change _=C9 x y (aD T st).1.1 (aD T st).1.2 (aD T st).2 cH at lp;change (aD T st).1.2=true->(aD T st).1.1≠[]/\_ at eR;by_cases h1:(aD T st).2.ae=[]
  .cases cT:(aD T st).1.2 with
   |true=>
     have hl:=(eR cT).1;rw[cT,JF h1] at lp;rw[if_pos rfl];refine dy (n:=200000) hE bA bD h0 h1 ?_ (hv _ _) rfl;rw[Bq hl];have fk:∀(A:aT) (wl md d:Nat),jL ⟨2,[.row (ay (aD T st).1.1),A],wl,md⟩ 1 (d+2) (.vec 1 0 (aD T st).1.1.length 4 (aD T st).1.1.length)=some (.sl ((aD T st).1.1.map Tm.aL),[1]):=λA wl md d=>J0 hl (by omega) rfl
     have hr:=bw (aD T st).1.1;simp only[eE,kQ,y9] at lp;generalize (aD T st).1.1.map Tm.aL=U at *;generalize ay (aD T st).1.1=A at *;generalize (aD T st).1.1.length=k at *;generalize (aD T st).2=s1 at *;simp[wz,Js,eE,y9,eX,gV,lp,fk,x1,y1,hr,-kh]
   |false=>rw[cT,Km h1] at lp;rw[if_neg (by simp)];refine dy (n:=200000) hE bA bD h0 h1 ?_ (hv _ _) rfl;simp only[eE,kQ,y9] at lp;generalize (aD T st).2=s1 at *;simp[wz,Js,eE,y9,eX,gV,lp,x1,y1,Gx]
  .have e3:=bW (aD T st).2.ae
   cases cT:(aD T st).1.2 with
   |true=>
     have hl:=(eR cT).1;rw[cT,Dn h1] at lp;rw[if_pos rfl];refine eB (n:=200000) hE bA bD 2 (by decide) h0 h1 ?_ (hv _ _) rfl;rw[Bq hl];have fk:∀(A B:aT) (wl md d:Nat),jL ⟨3,[B,.row (ay (aD T st).1.1),A],wl,md⟩ 1 (d+2) (.vec 1 0 (aD T st).1.1.length 4 (aD T st).1.1.length)=some (.sl ((aD T st).1.1.map Tm.aL),[1]):=λA B wl md d=>J0 hl (by omega) rfl
     have hr:=bw (aD T st).1.1;simp only[eE,kQ,y9] at lp;generalize (aD T st).1.1.map Tm.aL=U at *;generalize ay (aD T st).1.1=A at *;generalize (aD T st).1.1.length=k at *;generalize (aD T st).2=s1 at *;simp[wz,Js,eE,y9,eX,gV,lp,fk,x1,y1,hr,e3,-kh]
   |false=>rw[cT,Dj h1] at lp;rw[if_neg (by simp)];refine eB (n:=200000) hE bA bD 1 (by decide) h0 h1 ?_ (hv _ _) rfl;simp only[eE,kQ,y9] at lp;generalize (aD T st).2=s1 at *;simp[wz,Js,eE,y9,eX,gV,lp,x1,y1,e3,Gx]
 .obtain⟨cH,lp⟩:=afu 199998 N hx hy st.ax.length st 199998 2 hc h0 (by omega) hN (by omega) (by omega);change _=OI x y (aD T st).1.1 (aD T st).1.2 (aD T st).2 cH at lp;change (aD T st).1.2=true->(aD T st).1.1≠[]/\_ at eR;have h1:(aD T st).2.ae≠[]:=Ch (bY T) h0;have e3:=bW (aD T st).2.ae;have f3:=bW st.ae
  cases cT:(aD T st).1.2 with
  |true=>
    have hl:=(eR cT).1;rw[cT] at lp;simp only[OI,if_true] at lp;rw[if_pos rfl];refine di (n:=200000) hE bA bD 3 (by decide) h0 h1 ?_ (hv _ _) rfl;rw[Bq hl];have fk:∀(A B C:aT) (wl md d:Nat),jL ⟨4,[B,.row (ay (aD T st).1.1),C,A],wl,md⟩ 2 (d+2) (.vec 2 0 (aD T st).1.1.length 4 (aD T st).1.1.length)=some (.sl ((aD T st).1.1.map Tm.aL),[2]):=λA B C wl md d=>J0 hl (by omega) rfl
    have hr:=bw (aD T st).1.1;simp only[eE,kQ,y9] at lp;generalize (aD T st).1.1.map Tm.aL=U at *;generalize ay (aD T st).1.1=A at *;generalize (aD T st).1.1.length=k at *;generalize (aD T st).2=s1 at *;simp[wz,Js,eE,y9,eX,gV,lp,fk,x1,y1,hr,e3,f3,-kh]
  |false=>rw[cT] at lp;simp only[OI,if_false,Bool.false_eq_true] at lp;rw[if_neg (by simp)];refine di (n:=200000) hE bA bD 2 (by decide) h0 h1 ?_ (hv _ _) rfl;simp only[eE,kQ,y9] at lp;generalize (aD T st).2=s1 at *;simp[wz,Js,eE,y9,eX,gV,lp,x1,y1,e3,f3,Gx]
theorem Cy(N:Nat)(hN:cB Tryz.prog bV (iU N)):cB Tryz.prog bV (pM N):=λaa os v r hv=>by
 unfold pM at hv;dsimp only at hv;split at hv
 .rename_i os;split at hv
  .rename_i R hR;split at hv
   .rename_i hc;cases hv;obtain⟨hx,hy,rfl,h⟩:=kG hR;rw[ui];exact Qy N hx hy h hc (ey (by simp) (by simp[y9,hN,FD]))
   .cases hv
  .cases hv
 .cases hv
end
section
def gP(T:List a7)(st:St):(Tm×Bool)×St:=my (ai T) (st.ax.length+1) st
theorem Tc{T:List a7}{st:St}(h:(aD T st).1.2=false):gP T st=((kC [91,93],false),(aD T st).2):=by unfold gP my;change (if (aD T st).1.2=true then _ else ((kC [91,93],false),(aD T st).2))=_;rw[h,if_neg (by simp)]
theorem Kg{T:List a7}{st:St}(h:(aD T st).1.2=true):gP T st=mU (ai T) (aD T st).1.1 (aD T st).2:=by unfold gP my;change (if (aD T st).1.2=true then mU (ai T) (aD T st).1.1 (aD T st).2 else _)=_;rw[h,if_pos rfl]
theorem aaT{rec:Int->St->PR×St}{l:List Tm}{st:St}(h:(ba [124] st).1=false):mU rec l st=((eW l (kC [91,93]),(ba [93] st).1),(ba [93] st).2):=by unfold mU;rw[h,if_neg (by simp)]
theorem WM{rec:Int->St->PR×St}{l:List Tm}{st:St}(h:(ba [124] st).1=true)(h2:(rec 999 (ba [124] st).2).1.2.2=false):mU rec l st=((eW l (rec 999 (ba [124] st).2).1.1,false),(rec 999 (ba [124] st).2).2):=by unfold mU;rw[h,if_pos rfl,h2,if_neg (by simp)]
theorem Vz{rec:Int->St->PR×St}{l:List Tm}{st:St}(h:(ba [124] st).1=true)(h2:(rec 999 (ba [124] st).2).1.2.2=true):mU rec l st=((eW l (rec 999 (ba [124] st).2).1.1,(ba [93] (rec 999 (ba [124] st).2).2).1),(ba [93] (rec 999 (ba [124] st).2).2).2):=by unfold mU;rw[h,if_pos rfl,h2,if_pos rfl]
theorem iD(T:List a7)(st:St):Lv st (aD T st).2/\((aD T st).1.2=true->Ok st (aD T st).2):=mN (bY T) _ [] st
noncomputable def Pn:List aW:=[Ci,Fu]
noncomputable def Pl(N:Nat):List cw:=[pM N,CN,iU N]
theorem jS(t:Tm)(b:Bool):(AV.tuple [t.aL,.bool b]).aJ=0:=by simp[AV.aJ,AV.ah,Tm.bC]
attribute [local simp] jP jN jQ jJ gR gQ jH jK jM gS gT jI lz lh lD lq kY kW iJ iM Laid.aJ fh fi bW aaC aal aw Pn Pl Ka abo ui gV eX
theorem aek(N:Nat){x y:AV}{T:List a7}{L:List Tok}{st:St}(hx:aZ x=some T)(hy:bE y=some L)(hc:RC T L st)(hN:st.ax.length<N)(hE:cb Tryz.prog bV (cm Pn (Pl N)))(cT:(aD T st).1.2=false):
 cp Tryz.prog bV 161 [.ptr 0 0] (dA x y st) (.tuple [(gP T st).1.1.aL,.bool (gP T st).1.2]) (some (dF x y st.ae (gP T st).2)):=by
 rw[Tc cT];have bA:=bM hx;have bD:=bB hy;have q1:=mD N hx hy hc hN;rw[cT,if_neg (by simp)] at q1;simp only[Gx] at q1;have qa:=pZ [91,93];have ql:Fu.S [.aF,.agg [.int .i64 2,.int .i64 0,.str [91,93],.aF]]=some (.agg [.int .i64 2,.int .i64 0,.str [91,93],.aF]):=rfl;have eF:=(iD T st).1;dsimp only;generalize (aD T st).2=s1 at *;by_cases h0:st.ae=[]
 .by_cases h1:s1.ae=[]
  .rw[bd h0,h0,dh h1] at q1;refine dy (n:=8) hE bA bD h0 h1 ?_ (jS _ _) rfl;rw[show (kC [91,93]).aL=.agg [.int .i64 2,.int .i64 0,.str [91,93],.aF] from rfl];simp[q1,qa,ql,-ak,-au,-aq,-aE,-dm,bA,bD]
  .rw[bd h0,h0,cO h1] at q1;refine eB (n:=8) hE bA bD 2 (by decide) h0 h1 ?_ (jS _ _) rfl;rw[show (kC [91,93]).aL=.agg [.int .i64 2,.int .i64 0,.str [91,93],.aF] from rfl];simp[q1,qa,ql,-ak,-au,-aq,-aE,-dm,bA,bD]
 .have h1:s1.ae≠[]:=eF.ae h0;rw[a6 h0,dX h0 h1] at q1;refine di (n:=8) hE bA bD 3 (by decide) h0 h1 ?_ (jS _ _) rfl;rw[show (kC [91,93]).aL=.agg [.int .i64 2,.int .i64 0,.str [91,93],.aF] from rfl];simp[q1,qa,ql,-ak,-au,-aq,-aE,-dm,bA,bD]
theorem agk(N:Nat){x y:AV}{T:List a7}{L:List Tok}{st:St}(hx:aZ x=some T)(hy:bE y=some L)(hc:RC T L st)(hN:st.ax.length<N)(hE:cb Tryz.prog bV (cm Pn (Pl N)))(cT:(aD T st).1.2=true)(hb:(ba [124] (aD T st).2).1=false):
 cp Tryz.prog bV 161 [.ptr 0 0] (dA x y st) (.tuple [(gP T st).1.1.aL,.bool (gP T st).1.2]) (some (dF x y st.ae (gP T st).2)):=by
 rw[Kg cT,aaT hb];have bA:=bM hx;have bD:=bB hy;have eF:=(iD T st).1;have ho:=(iD T st).2 cT;obtain⟨c1,l1⟩:=hc.ok ho;have hl:=vy (rec:=ai T) (st.ax.length+1) [] st cT;change (aD T st).1.1≠[]/\(aD T st).1.1.length<=_ at hl;have oI:st.ax.length<=100000:=by rw[hc.ax,List.length_drop,jd];have:=hc.lb;omega
 have q1:=mD N hx hy hc hN;rw[cT,if_pos rfl,Bq hl.1] at q1;have qa:=pZ [91,93];have q2:=iZ hx hy c1 [124];have akg:=ho.pos;have q4:=iZ hx hy c1 [93];have ig:=fX [93] (aD T st).2;rw[hb,qC hb] at q2;have ql:=EX (aD T st).1.1 (kC [91,93]) (by simp at hl;omega);rw[show (kC [91,93]).aL=.agg [.int .i64 2,.int .i64 0,.str [91,93],.aF] from rfl,an] at ql;have ur:=bw (aD T st).1.1;dsimp only;generalize (aD T st).2=s1 at *;generalize (aD T st).1.1=l at *;have rr:=ar (eW l (kC [91,93]));clear hl;generalize l.map Tm.aL=U at *;by_cases h0:st.ae=[]
 .by_cases h1:s1.ae=[]
  .rw[bd h0,h0,dh h1] at q1;rw[bd h1] at q2;rw[bd h1,bd (by rw[ig.1];exact h1),ig.2] at q4;refine dy (n:=8) hE bA bD h0 (by rw[ig.1];exact h1) ?_ (jS _ _) rfl;rw[an,ig.2];generalize eW l (kC [91,93])=r at *;generalize ba [93] s1=b4 at *;obtain⟨b4,s4⟩:=b4;simp[q1,q2,q4,qa,ql,rr,ur,-ak,-au,-aq,-aE,-dm,bA,bD]
  .rw[bd h0,h0,cO h1] at q1;rw[a6 h1] at q2;rw[a6 h1,a6 (by rw[ig.1];exact h1),ig.1,ig.2] at q4;refine eB (n:=8) hE bA bD 2 (by decide) h0 (by rw[ig.1];exact h1) ?_ (jS _ _) rfl;rw[an,ig.1,ig.2];generalize eW l (kC [91,93])=r at *;generalize ba [93] s1=b4 at *;obtain⟨b4,s4⟩:=b4;simp[q1,q2,q4,qa,ql,rr,ur,-ak,-au,-aq,-aE,-dm,bA,bD]
 .have h1:s1.ae≠[]:=eF.ae h0;rw[a6 h0,dX h0 h1] at q1;rw[a6 h1] at q2;rw[a6 h1,a6 (by rw[ig.1];exact h1),ig.1,ig.2] at q4;refine di (n:=8) hE bA bD 3 (by decide) h0 (by rw[ig.1];exact h1) ?_ (jS _ _) rfl;rw[an,ig.1,ig.2];generalize eW l (kC [91,93])=r at *;generalize ba [93] s1=b4 at *;obtain⟨b4,s4⟩:=b4;simp[q1,q2,q4,qa,ql,rr,ur,-ak,-au,-aq,-aE,-dm,bA,bD]
theorem aew(N:Nat){x y:AV}{T:List a7}{L:List Tok}{st:St}(hx:aZ x=some T)(hy:bE y=some L)(hc:RC T L st)(hN:st.ax.length<N)(hE:cb Tryz.prog bV (cm Pn (Pl N)))(cT:(aD T st).1.2=true)(hb:(ba [124] (aD T st).2).1=true)(hr:(ai T 999 (ba [124] (aD T st).2).2).1.2.2=false):
 cp Tryz.prog bV 161 [.ptr 0 0] (dA x y st) (.tuple [(gP T st).1.1.aL,.bool (gP T st).1.2]) (some (dF x y st.ae (gP T st).2)):=by
 rw[Kg cT,WM hb hr];have bA:=bM hx;have bD:=bB hy;have eF:=(iD T st).1;have ho:=(iD T st).2 cT;obtain⟨c1,l1⟩:=hc.ok ho;have hl:=vy (rec:=ai T) (st.ax.length+1) [] st cT;change (aD T st).1.1≠[]/\(aD T st).1.1.length<=_ at hl;have oI:st.ax.length<=100000:=by rw[hc.ax,List.length_drop,jd];have:=hc.lb;omega
 have q1:=mD N hx hy hc hN;rw[cT,if_pos rfl,Bq hl.1] at q1;have qa:=pZ [91,93];have q2:=iZ hx hy c1 [124];have akg:=ho.pos;have xx:=fU hb;obtain⟨c2,l2⟩:=c1.ok xx;have aod:=xx.pos;have gH:=fX [124] (aD T st).2;rw[hb] at q2;have q3:=dG N hx hy c2 999 (by omega);rw[hr,an] at q3;have ZT:=(bY T).lv 999 (ba [124] (aD T st).2).2;have hl3:(aD T st).2.ae≠[]->(ai T 999 (ba [124] (aD T st).2).2).2.ae≠[]:=λh=>ZT.ae (by rw[gH.1];exact h)
 have ql:=EX (aD T st).1.1 (ai T 999 (ba [124] (aD T st).2).2).1.1 (by simp at hl;omega);rw[an,an (eW _ _)] at ql;have ur:=bw (aD T st).1.1;dsimp only;clear ZT;generalize (ai T 999 (ba [124] (aD T st).2).2).2=s3 at *;generalize (ai T 999 (ba [124] (aD T st).2).2).1.1=t2 at *;generalize (ba [124] (aD T st).2).2=s2 at *;generalize (aD T st).2=s1 at *;generalize (aD T st).1.1=l at *;have tr:=ar t2;have rr:=ar (eW l t2);clear hl;generalize l.map Tm.aL=U at *;by_cases h0:st.ae=[]
 .by_cases h1:s1.ae=[]
  .by_cases h2:s3.ae=[]
   .rw[bd h0,h0,dh h1] at q1;rw[bd h1,bd (by rw[gH.1];exact h1),gH.2] at q2;rw[bd (by rw[gH.1];exact h1),gH.1,h1,dh h2,gH.2] at q3;refine dy (n:=8) hE bA bD h0 h2 ?_ (jS _ _) rfl;rw[an];generalize eW l t2=r at *;simp[q1,q2,q3,qa,ql,rr,tr,ur,-ak,-au,-aq,-aE,-dm,bA,bD]
   .rw[bd h0,h0,dh h1] at q1;rw[bd h1,bd (by rw[gH.1];exact h1),gH.2] at q2;rw[bd (by rw[gH.1];exact h1),gH.1,h1,cO h2,gH.2] at q3;refine eB (n:=8) hE bA bD 3 (by decide) h0 h2 ?_ (jS _ _) rfl;rw[an];generalize eW l t2=r at *;simp[q1,q2,q3,qa,ql,rr,tr,ur,-ak,-au,-aq,-aE,-dm,bA,bD]
  .have h2:s3.ae≠[]:=hl3 h1;rw[bd h0,h0,cO h1] at q1;rw[a6 h1,a6 (by rw[gH.1];exact h1),gH.1,gH.2] at q2;rw[a6 (by rw[gH.1];exact h1),gH.1,dX h1 h2,gH.2] at q3;refine eB (n:=8) hE bA bD 4 (by decide) h0 h2 ?_ (jS _ _) rfl;rw[an];generalize eW l t2=r at *;simp[q1,q2,q3,qa,ql,rr,tr,ur,-ak,-au,-aq,-aE,-dm,bA,bD]
 .have h1:s1.ae≠[]:=eF.ae h0;have h2:s3.ae≠[]:=hl3 h1;rw[a6 h0,dX h0 h1] at q1;rw[a6 h1,a6 (by rw[gH.1];exact h1),gH.1,gH.2] at q2;rw[a6 (by rw[gH.1];exact h1),gH.1,dX h1 h2,gH.2] at q3;refine di (n:=8) hE bA bD 5 (by decide) h0 h2 ?_ (jS _ _) rfl;rw[an];generalize eW l t2=r at *;simp[q1,q2,q3,qa,ql,rr,tr,ur,-ak,-au,-aq,-aE,-dm,bA,bD]
theorem ae3(N:Nat){x y:AV}{T:List a7}{L:List Tok}{st:St}(hx:aZ x=some T)(hy:bE y=some L)(hc:RC T L st)(hN:st.ax.length<N)(hE:cb Tryz.prog bV (cm Pn (Pl N)))(cT:(aD T st).1.2=true)(hb:(ba [124] (aD T st).2).1=true)(hr:(ai T 999 (ba [124] (aD T st).2).2).1.2.2=true):
 cp Tryz.prog bV 161 [.ptr 0 0] (dA x y st) (.tuple [(gP T st).1.1.aL,.bool (gP T st).1.2]) (some (dF x y st.ae (gP T st).2)):=by
 rw[Kg cT,Vz hb hr];have bA:=bM hx;have bD:=bB hy;have eF:=(iD T st).1;have ho:=(iD T st).2 cT;obtain⟨c1,l1⟩:=hc.ok ho;have hl:=vy (rec:=ai T) (st.ax.length+1) [] st cT;change (aD T st).1.1≠[]/\(aD T st).1.1.length<=_ at hl;have oI:st.ax.length<=100000:=by rw[hc.ax,List.length_drop,jd];have:=hc.lb;omega
 have q1:=mD N hx hy hc hN;rw[cT,if_pos rfl,Bq hl.1] at q1;have qa:=pZ [91,93];have q2:=iZ hx hy c1 [124];have akg:=ho.pos;have xx:=fU hb;obtain⟨c2,l2⟩:=c1.ok xx;have aod:=xx.pos;have gH:=fX [124] (aD T st).2;rw[hb] at q2;have q3:=dG N hx hy c2 999 (by omega);rw[hr,an] at q3;have ZT:=(bY T).lv 999 (ba [124] (aD T st).2).2;have hl3:(aD T st).2.ae≠[]->(ai T 999 (ba [124] (aD T st).2).2).2.ae≠[]:=λh=>ZT.ae (by rw[gH.1];exact h)
 have ql:=EX (aD T st).1.1 (ai T 999 (ba [124] (aD T st).2).2).1.1 (by simp at hl;omega);rw[an,an (eW _ _)] at ql;obtain⟨c3,l3⟩:=c2.ok ((bY T).ok 999 _ hr);have q4:=iZ hx hy c3 [93];have ig:=fX [93] (ai T 999 (ba [124] (aD T st).2).2).2;have ur:=bw (aD T st).1.1;dsimp only;clear ZT;generalize (ai T 999 (ba [124] (aD T st).2).2).2=s3 at *;generalize (ai T 999 (ba [124] (aD T st).2).2).1.1=t2 at *;generalize (ba [124] (aD T st).2).2=s2 at *;generalize (aD T st).2=s1 at *;generalize (aD T st).1.1=l at *;have tr:=ar t2;have rr:=ar (eW l t2);clear hl;generalize l.map Tm.aL=U at *;by_cases h0:st.ae=[]
 .by_cases h1:s1.ae=[]
  .by_cases h2:s3.ae=[]
   .rw[bd h0,h0,dh h1] at q1;rw[bd h1,bd (by rw[gH.1];exact h1),gH.2] at q2;rw[bd (by rw[gH.1];exact h1),gH.1,h1,dh h2,gH.2] at q3;rw[bd h2,bd (by rw[ig.1];exact h2),ig.2] at q4;refine dy (n:=8) hE bA bD h0 (by rw[ig.1];exact h2) ?_ (jS _ _) rfl;rw[an,ig.2];generalize eW l t2=r at *;generalize ba [93] s3=b4 at *;obtain⟨b4,s4⟩:=b4;simp[q1,q2,q3,qa,ql,rr,tr,ur,q4,-ak,-au,-aq,-aE,-dm,bA,bD]
   .rw[bd h0,h0,dh h1] at q1;rw[bd h1,bd (by rw[gH.1];exact h1),gH.2] at q2;rw[bd (by rw[gH.1];exact h1),gH.1,h1,cO h2,gH.2] at q3;rw[a6 h2,a6 (by rw[ig.1];exact h2),ig.1,ig.2] at q4;refine eB (n:=8) hE bA bD 3 (by decide) h0 (by rw[ig.1];exact h2) ?_ (jS _ _) rfl;rw[an,ig.1,ig.2];generalize eW l t2=r at *;generalize ba [93] s3=b4 at *;obtain⟨b4,s4⟩:=b4;simp[q1,q2,q3,qa,ql,rr,tr,ur,q4,-ak,-au,-aq,-aE,-dm,bA,bD]
  .have h2:s3.ae≠[]:=hl3 h1;rw[bd h0,h0,cO h1] at q1;rw[a6 h1,a6 (by rw[gH.1];exact h1),gH.1,gH.2] at q2;rw[a6 (by rw[gH.1];exact h1),gH.1,dX h1 h2,gH.2] at q3;rw[a6 h2,a6 (by rw[ig.1];exact h2),ig.1,ig.2] at q4;refine eB (n:=8) hE bA bD 4 (by decide) h0 (by rw[ig.1];exact h2) ?_ (jS _ _) rfl;rw[an,ig.1,ig.2];generalize eW l t2=r at *;generalize ba [93] s3=b4 at *;obtain⟨b4,s4⟩:=b4;simp[q1,q2,q3,qa,ql,rr,tr,ur,q4,-ak,-au,-aq,-aE,-dm,bA,bD]
 .have h1:s1.ae≠[]:=eF.ae h0;have h2:s3.ae≠[]:=hl3 h1;rw[a6 h0,dX h0 h1] at q1;rw[a6 h1,a6 (by rw[gH.1];exact h1),gH.1,gH.2] at q2;rw[a6 (by rw[gH.1];exact h1),gH.1,dX h1 h2,gH.2] at q3;rw[a6 h2,a6 (by rw[ig.1];exact h2),ig.1,ig.2] at q4;refine di (n:=8) hE bA bD 5 (by decide) h0 (by rw[ig.1];exact h2) ?_ (jS _ _) rfl;rw[an,ig.1,ig.2];generalize eW l t2=r at *;generalize ba [93] s3=b4 at *;obtain⟨b4,s4⟩:=b4;simp[q1,q2,q3,qa,ql,rr,tr,ur,q4,-ak,-au,-aq,-aE,-dm,bA,bD]
noncomputable def xh(N:Nat):cw:=⟨161,λ
 |[.ptr 0 0],os=>(match ye os with
   |some R=>if R.st.ax.length<N then some (.tuple [(gP R.T R.st).1.1.aL,.bool (gP R.T R.st).1.2],some (dF R.x R.y R.st.ae (gP R.T R.st).2)) else none
   |none=>none)
 |_,_=>none⟩
theorem Be(N:Nat):(xh N).f=161:=(rfl)
theorem Qb(N:Nat){x y:AV}{T:List a7}{L:List Tok}{st:St}(hx:aZ x=some T)(hy:bE y=some L)(h:RC T L st)(hn:st.ax.length<N):
 (xh N).S [.ptr 0 0] (dA x y st)=some (.tuple [(gP T st).1.1.aL,.bool (gP T st).1.2],some (dF x y st.ae (gP T st).2)):=by
 simp only[xh,lR hx hy h];rw[if_pos hn]
theorem P5(N:Nat)(hN:cB Tryz.prog bV (iU N)):cB Tryz.prog bV (xh N):=λaa os v r hv=>by
 unfold xh at hv;dsimp only at hv;split at hv
 .rename_i os;split at hv
  .rename_i R hR;split at hv
   .rename_i hn;cases hv;obtain⟨hx,hy,rfl,h⟩:=kG hR;rw[Be];have hE:cb Tryz.prog bV (cm Pn (Pl N)):=ey (by simp[Pn,EP.lift,Zz.lift]) (by simp[Pl,hN,FD,Cy N hN])
    cases cT:(aD R.T R.st).1.2 with
    |false=>exact aek N hx hy h hn hE cT
    |true=>
      cases hb:(ba [124] (aD R.T R.st).2).1 with
      |false=>exact agk N hx hy h hn hE cT hb
      |true=>
        cases hr:(ai R.T 999 (ba [124] (aD R.T R.st).2).2).1.2.2 with
        |false=>exact aew N hx hy h hn hE cT hb hr
        |true=>exact ae3 N hx hy h hn hE cT hb hr
   .cases hv
  .cases hv
 .cases hv
end
section
def qP(t:Tok):dc:=⟨t.aj,t.aI,t.bj,t.js,false⟩
noncomputable def Vm:List aW:=[Ci,KQ,pW,oP,rV]
noncomputable def U2(N:Nat):List cw:=[wY,iU N]
theorem bp(t:Tm)(n:Int)(b:Bool):(AV.tuple [t.aL,.int .i64 n,.bool b]).aJ=0:=by simp[AV.aJ,AV.ah,Tm.bC]
theorem j6(t:Tok)(n:Int):AV.ah [t.aL,.int .i64 n]=0:=rfl
theorem cM(t:Tm):t.bh.cells? =some [t.bh]:=by cases t<;>rfl
theorem uH(s:List UInt8)(u:Tm):(cE s [u]).aL=.agg [.int .i64 2,.int .i64 0,.str s,.sl [.agg [.int .i64 u.aj,.int .i64 u.bj,.str u.az,u.bh]]]:=by rw[<-an];rfl
theorem HN(s:List UInt8)(u v:Tm):(cE s [u,v]).aL=.agg [.int .i64 2,.int .i64 0,.str s,.sl [.agg [.int .i64 u.aj,.int .i64 u.bj,.str u.az,u.bh],.agg [.int .i64 v.aj,.int .i64 v.bj,.str v.az,v.bh]]]:=by rw[<-an,<-an];rfl
theorem km(s:List UInt8):(kC s).aL=.agg [.int .i64 2,.int .i64 0,.str s,.aF]:=rfl
attribute [local simp] jP jN jQ jJ gR gQ jH jK jM gS gT jI lz lh lD lq kY kW iJ iM Laid.aJ fh fi bW aar c164 aw Vm U2 Ka hP fQ dD qF Ia eX
theorem abz(N:Nat){x y:AV}{T:List a7}{L:List Tok}{st:St}(hx:aZ x=some T)(hy:bE y=some L)(hc:RC T L st)(hN:st.ax.length<N)(hE:cb Tryz.prog bV (cm Vm (U2 N)))(t:Tok)(n:Int)(hk:t.aj=2):
 cp Tryz.prog bV 164 [.ptr 0 0,t.aL,.int .i64 n] (dA x y st) (.tuple [(cr (ai T) T (qP t) n st).1.1.aL,.int .i64 (cr (ai T) T (qP t) n st).1.2.1,.bool (cr (ai T) T (qP t) n st).1.2.2]) (some (dF x y st.ae (cr (ai T) T (qP t) n st).2)):=by
 have e:cr (ai T) T (qP t) n st=((kC t.aI,0,true),st):=by unfold cr;exact if_pos hk
 rw[e];have bA:=bM hx;have bD:=bB hy;have uM:=λh=>bA.fr h 0 6
 have qa:=pZ t.aI;dsimp only;by_cases h0:st.ae=[]
 .refine dy (n:=8) hE bA bD h0 h0 ?_ (bp _ _ _) (j6 _ _);rw[cq];rw[km];simp[uM,qa,hk,-ak,-au,-aq,-aE,-dm,bA,bD]
 .refine di (n:=8) hE bA bD 1 (by decide) h0 h0 ?_ (bp _ _ _) (j6 _ _);rw[cq];rw[km];simp[uM,qa,hk,-ak,-au,-aq,-aE,-dm,bA,bD]
theorem aaY(N:Nat){x y:AV}{T:List a7}{L:List Tok}{st:St}(hx:aZ x=some T)(hy:bE y=some L)(hc:RC T L st)(hN:st.ax.length<N)(hE:cb Tryz.prog bV (cm Vm (U2 N)))(t:Tok)(n:Int)(hk:¬t.aj=2)(hp:((aS T t.aI true).2&&decide ((aS T t.aI true).1.l<=n)&&iH T st)=false):
 cp Tryz.prog bV 164 [.ptr 0 0,t.aL,.int .i64 n] (dA x y st) (.tuple [(cr (ai T) T (qP t) n st).1.1.aL,.int .i64 (cr (ai T) T (qP t) n st).1.2.1,.bool (cr (ai T) T (qP t) n st).1.2.2]) (some (dF x y st.ae (cr (ai T) T (qP t) n st).2)):=by
 have e:cr (ai T) T (qP t) n st=((kC t.aI,BI T t.aI,decide (BI T t.aI<=n)),st):=by unfold cr;refine (if_neg hk).trans (if_neg ?_);rw[show (qP t).aI=t.aI from rfl,hp];simp
 rw[e];have bA:=bM hx;have bD:=bB hy;have uM:=λh=>bA.fr h 0 6
 have qa:=pZ t.aI;have q1:=BE hx t.aI (by have:=hc.tb;omega);have q2:=AA hx t.aI (by have:=hc.tb;omega);have qb:=E6 hx hy hc;simp only[a7.aL,a7.cells] at q1 q2;unfold BI;dsimp only;generalize aS T t.aI false=I at *;obtain⟨⟨i1,i2,i3⟩,i4⟩:=I;generalize aS T t.aI true=P at *;obtain⟨⟨p1,p2,p3⟩,p4⟩:=P;dsimp only at q1 q2 hp|-
 have GA:(if i3<p3 then p3 else i3)=max i3 p3:=by
  by_cases h:i3<p3
  .rw[if_pos h];omega
  .rw[if_neg h];omega
 generalize iH T st=bg at *
 cases p4 with
 |false=>
   by_cases h0:st.ae=[]
   .refine dy (n:=8) hE bA bD h0 h0 ?_ (bp _ _ _) (j6 _ _);rw[cq];rw[km];simp[uM,qa,q1,q2,hk,o7,GA,-ak,-au,-aq,-aE,-dm,bA,bD]
   .refine di (n:=8) hE bA bD 1 (by decide) h0 h0 ?_ (bp _ _ _) (j6 _ _);rw[cq];rw[km];simp[uM,qa,q1,q2,hk,o7,GA,-ak,-au,-aq,-aE,-dm,bA,bD]
 |true=>
   by_cases hpn:p3<=n
   .have hbg:bg=false:=by simpa[hpn] using hp
    rw[hbg] at qb;by_cases h0:st.ae=[]
    .rw[bd h0] at qb;refine dy (n:=8) hE bA bD h0 h0 ?_ (bp _ _ _) (j6 _ _);rw[cq];rw[km];simp[uM,qa,q1,q2,qb,hk,hpn,o7,GA,-ak,-au,-aq,-aE,-dm,bA,bD]
    .rw[a6 h0] at qb;refine di (n:=8) hE bA bD 1 (by decide) h0 h0 ?_ (bp _ _ _) (j6 _ _);rw[cq];rw[km];simp[uM,qa,q1,q2,qb,hk,hpn,o7,GA,-ak,-au,-aq,-aE,-dm,bA,bD]
   .skip;by_cases h0:st.ae=[]
    .refine dy (n:=8) hE bA bD h0 h0 ?_ (bp _ _ _) (j6 _ _);rw[cq];rw[km];simp[uM,qa,q1,q2,hk,hpn,o7,GA,-ak,-au,-aq,-aE,-dm,bA,bD]
    .refine di (n:=8) hE bA bD 1 (by decide) h0 h0 ?_ (bp _ _ _) (j6 _ _);rw[cq];rw[km];simp[uM,qa,q1,q2,hk,hpn,o7,GA,-ak,-au,-aq,-aE,-dm,bA,bD]
theorem aaU(N:Nat){x y:AV}{T:List a7}{L:List Tok}{st:St}(hx:aZ x=some T)(hy:bE y=some L)(hc:RC T L st)(hN:st.ax.length<N)(hE:cb Tryz.prog bV (cm Vm (U2 N)))(t:Tok)(n:Int)(hk:¬t.aj=2)(hp:((aS T t.aI true).2&&decide ((aS T t.aI true).1.l<=n)&&iH T st)=true):
 cp Tryz.prog bV 164 [.ptr 0 0,t.aL,.int .i64 n] (dA x y st) (.tuple [(cr (ai T) T (qP t) n st).1.1.aL,.int .i64 (cr (ai T) T (qP t) n st).1.2.1,.bool (cr (ai T) T (qP t) n st).1.2.2]) (some (dF x y st.ae (cr (ai T) T (qP t) n st).2)):=by
 have e:cr (ai T) T (qP t) n st=((cE t.aI [(ai T (aB (aS T t.aI true).1).2 st).1.1],(aS T t.aI true).1.l,(ai T (aB (aS T t.aI true).1).2 st).1.2.2),(ai T (aB (aS T t.aI true).1).2 st).2):=by unfold cr;exact (if_neg hk).trans (if_pos hp)
 rw[e];have bA:=bM hx;have bD:=bB hy;have uM:=λh=>bA.fr h 0 6
 have qa:=pZ t.aI;have q1:=BE hx t.aI (by have:=hc.tb;omega);have q2:=AA hx t.aI (by have:=hc.tb;omega);have qb:=E6 hx hy hc;simp only[a7.aL,a7.cells] at q1 q2;have eF:=(bY T).lv (aB (aS T t.aI true).1).2 st;have q3:=kJ (aS T t.aI true).1 ⟨(kK T t.aI true).1,(kK T t.aI true).2⟩;have q4:=dG N hx hy hc (aB (aS T t.aI true).1).2 hN;simp only[Bool.and_eq_true,decide_eq_true_eq] at hp;obtain⟨⟨hp1,ZI⟩,hp3⟩:=hp;rw[hp3] at qb;have pg:st.ae≠[]->(ai T (aB (aS T t.aI true).1).2 st).2.ae≠[]:=eF.ae;have qc:=lK t.aI [(ai T (aB (aS T t.aI true).1).2 st).1.1] (by simp);rw[uH,List.map_cons,List.map_nil,an] at qc;rw[an] at q4;dsimp only;clear eF;generalize (ai T (aB (aS T t.aI true).1).2 st).1.2.1=lv at *;generalize (ai T (aB (aS T t.aI true).1).2 st).1.2.2=ok at *;generalize (ai T (aB (aS T t.aI true).1).2 st).1.1=u at *;generalize (ai T (aB (aS T t.aI true).1).2 st).2=s1 at *;generalize aS T t.aI true=P at *;obtain⟨⟨p1,p2,p3⟩,p4⟩:=P;dsimp only at q2 q3 q4 hp1 ZI|-;subst hp1;generalize aB ⟨p1,p2,p3⟩=sd at *;obtain⟨sd1,sd2⟩:=sd;dsimp only at q3 q4;have ur:=ar u;have uc:=cM u;by_cases h0:st.ae=[]
 .by_cases h1:s1.ae=[]
  .rw[bd h0,h0,dh h1] at q4;rw[bd h0] at qb;refine dy (n:=8) hE bA bD h0 h1 ?_ (bp _ _ _) (j6 _ _);rw[uH,cq];simp[uM,qa,q2,qb,q3,q4,qc,hk,ZI,ur,uc,aG,-ak,-au,-aq,-aE,-dm,bA,bD]
  .rw[bd h0,h0,cO h1] at q4;rw[bd h0] at qb;refine eB (n:=8) hE bA bD 4 (by decide) h0 h1 ?_ (bp _ _ _) (j6 _ _);rw[uH,cq];simp[uM,qa,q2,qb,q3,q4,qc,hk,ZI,ur,uc,aG,-ak,-au,-aq,-aE,-dm,bA,bD]
 .have h1:=pg h0;rw[a6 h0,dX h0 h1] at q4;rw[a6 h0] at qb;refine di (n:=8) hE bA bD 5 (by decide) h0 h1 ?_ (bp _ _ _) (j6 _ _);rw[uH,cq];simp[uM,qa,q2,qb,q3,q4,qc,hk,ZI,ur,uc,aG,-ak,-au,-aq,-aE,-dm,bA,bD]
noncomputable def wS(N:Nat):cw:=⟨164,λ
 |[.ptr 0 0,w,.int .i64 n],os=>(match ye os,yV w with
   |some R,some t=>if R.st.ax.length<N then some (.tuple [(cr (ai R.T) R.T (qP t) n R.st).1.1.aL,.int .i64 (cr (ai R.T) R.T (qP t) n R.st).1.2.1,.bool (cr (ai R.T) R.T (qP t) n R.st).1.2.2],some (dF R.x R.y R.st.ae (cr (ai R.T) R.T (qP t) n R.st).2)) else none
   |_,_=>none)
 |_,_=>none⟩
theorem Bo(N:Nat):(wS N).f=164:=(rfl)
theorem uw(N:Nat){x y:AV}{T:List a7}{L:List Tok}{st:St}(hx:aZ x=some T)(hy:bE y=some L)(h:RC T L st)(hn:st.ax.length<N)(t:Tok)(n:Int):
 (wS N).S [.ptr 0 0,t.aL,.int .i64 n] (dA x y st)=some (.tuple [(cr (ai T) T (qP t) n st).1.1.aL,.int .i64 (cr (ai T) T (qP t) n st).1.2.1,.bool (cr (ai T) T (qP t) n st).1.2.2],some (dF x y st.ae (cr (ai T) T (qP t) n st).2)):=by
 simp only[wS,lR hx hy h,Iy];rw[if_pos hn]
theorem OF(N:Nat)(hN:cB Tryz.prog bV (iU N)):cB Tryz.prog bV (wS N):=λaa os v r hv=>by
 unfold wS at hv;dsimp only at hv;split at hv
 .rename_i os w n;split at hv
  .rename_i R t hR ht;split at hv
   .rename_i hn;cases hv;obtain⟨hx,hy,rfl,h⟩:=kG hR;rw[Bo,zH ht];have hE:cb Tryz.prog bV (cm Vm (U2 N)):=ey (by simp[Vm,EP.lift,Gi.lift,Dy.lift,xm.lift,vz.lift]) (by simp[U2,hN,Pu]);by_cases hk:t.aj=2
    .exact abz N hx hy h hn hE t _ hk
    .cases hp:((aS R.T t.aI true).2&&decide ((aS R.T t.aI true).1.l<=_)&&iH R.T R.st) with
     |false=>exact aaY N hx hy h hn hE t _ hk hp
     |true=>exact aaU N hx hy h hn hE t _ hk hp
   .cases hv
  .cases hv
 .cases hv
end
section
theorem z8(k:Nat)(rec:Int->St->PR×St):EqR k rec rec:=λ_ _ _=>rfl
theorem Ls{T:List a7}{M:Nat}{st:St}(h:st.ax.length<M):bN (ai T) M [] st=aD T st:=z6 (bY T) (z8 (st.ax.length+1) _) M _ [] st (by omega) h (by omega)
theorem aaA{T:List a7}{M:Nat}{st:St}(h:st.ax.length<M):my (ai T) M st=gP T st:=Rp (bY T) (z8 (st.ax.length+1) _) M _ st (by omega) h (by omega)
def bu(T:List a7)(n:Int)(st:St):PR×St:=fm (ai T) T (st.ax.length+1) n st
theorem ad4{st:St}:(aA st).ax.length<st.ax.length+1:=by rw[dv];omega
theorem fo{x y:AV}{st:St}(h:st.ae=[]):dA x y (aA st)=[.row [x,y,.int .i64 ((st.bQ:Int)+1),.int .i64 st.next,.aF]]:=bd (st:=aA st) h
theorem iT{x y:AV}{st:St}(h:st.ae≠[]):dA x y (aA st)=[.row [x,y,.int .i64 ((st.bQ:Int)+1),.int .i64 st.next,.vec 1 0 st.ae.length 2 st.ae.length],.row (bo st.ae)]:=a6 (st:=aA st) h
theorem kZ(st:St):((aA st).bQ:Int)=(st.bQ:Int)+1:=rfl
theorem kX(st:St):(aA st).next=st.next:=rfl
theorem lu(st:St):(aA st).ae=st.ae:=rfl
mutual
theorem W9:∀a:AV,a.NM a=true
 |.undef=>rfl
 |.bool a=>by simp[AV.NM]
 |.int k n=>by simp[AV.NM]
 |.str a=>by simp[AV.NM]
 |.nw=>rfl
 |.ptr i o=>by simp[AV.NM]
 |.ip a=>by rw[AV.NM];exact tZ a
 |.aF=>rfl
 |.sl a=>by rw[AV.NM];exact tZ a
 |.vec i o l s b=>by simp[AV.NM]
 |.kq=>rfl
 |.map i=>by simp[AV.NM]
 |.ji=>rfl
 |.fn f a=>by simp[AV.NM,tZ a]
 |.nu=>rfl
 |.iface t a=>by simp[AV.NM,W9 a]
 |.agg a=>by rw[AV.NM];exact tZ a
 |.tuple a=>by rw[AV.NM];exact tZ a
theorem tZ:∀l:List AV,AV.BG l l=true
 |[]=>rfl
 |a::r=>by simp[AV.BG,W9 a,tZ r]
end
theorem j7(l:List AV):RL (some (.row l)) (some (.row l))=true:=tZ l
noncomputable def rz:List aW:=[QC,rR,rV]
noncomputable def qX(N:Nat):List cw:=[xA,Tt,iU N,CN,xh N,pM N,wS N]
theorem wK(n:Int):(Tm.nl 1 n []).aL=.agg [.int .i64 1,.int .i64 n,.str [],.aF]:=rfl
theorem og:Gy.aL=.agg [.int .i64 0,.int .i64 0,.str [],.aF]:=rfl
attribute [local simp] jP jN jQ jJ gR gQ jH jK jM gS gT jI lz lh lD lq kY kW iJ iM Laid.aJ fh fi bW j7 Sq WJ aw rz qX Qf fq qF fP OV eX gV Be ui Bo
theorem Xl(N:Nat){x y:AV}{T:List a7}{L:List Tok}{st:St}(hx:aZ x=some T)(hy:bE y=some L)(hc:RC T L st)(hN:st.ax.length<=N)(hE:cb Tryz.prog bV (cm rz (qX N)))(n:Int)(k4:(bf L st).aj=4):
 cp Tryz.prog bV 120 [.ptr 0 0,.int .i64 n] (dA x y st) (.tuple [(bu T n st).1.1.aL,.int .i64 (bu T n st).1.2.1,.bool (bu T n st).1.2.2]) (some (dF x y st.ae (bu T n st).2)):=by
 have ks:(aP st).aj=(bf L st).aj:=by rw[bz hc]
 have ts:(aP st).aI=(bf L st).aI:=by rw[bz hc]
 have us:(aP st).bj=(bf L st).bj:=by rw[bz hc]
 have os:(aP st).js=(bf L st).js:=by rw[bz hc]
 have e:bu T n st=((.nl 1 (bf L st).bj [],0,true),aA st):=by unfold bu fm;rw[if_pos (ks.trans k4),us]
 rw[e];have bA:=bM hx;have bD:=bB hy;have q0:=dK hx hy hc;rw[cq] at q0;have qn:=fV (bf L st);have w1:=wrap_i64 (n:=(st.bQ:Int)+1) (by omega) (by have:=hc.le;have:=hc.lb;omega);have qi:=Sp (bf L st).bj;rw[k4] at q0;dsimp only;by_cases h0:st.ae=[]
 .rw[bd h0] at q0;refine dy (n:=8) hE bA bD h0 h0 ?_ (bp _ _ _) rfl;rw[wK];simp only[kZ,kX,lu];simp[w1,q0,qi,-ak,-au,-aq,-aE,-dm,bA,bD]
 .rw[a6 h0] at q0;refine di (n:=8) hE bA bD 1 (by decide) h0 h0 ?_ (bp _ _ _) rfl;rw[wK];simp only[kZ,kX,lu];simp[w1,q0,qi,-ak,-au,-aq,-aE,-dm,bA,bD]
theorem WS(N:Nat){x y:AV}{T:List a7}{L:List Tok}{st:St}(hx:aZ x=some T)(hy:bE y=some L)(hc:RC T L st)(hN:st.ax.length<=N)(hE:cb Tryz.prog bV (cm rz (qX N)))(n:Int)(k3:(bf L st).aj=3):
 cp Tryz.prog bV 120 [.ptr 0 0,.int .i64 n] (dA x y st) (.tuple [(bu T n st).1.1.aL,.int .i64 (bu T n st).1.2.1,.bool (bu T n st).1.2.2]) (some (dF x y st.ae (bu T n st).2)):=by
 have ks:(aP st).aj=(bf L st).aj:=by rw[bz hc]
 have ts:(aP st).aI=(bf L st).aI:=by rw[bz hc]
 have us:(aP st).bj=(bf L st).bj:=by rw[bz hc]
 have os:(aP st).js=(bf L st).js:=by rw[bz hc]
 have e:bu T n st=(((l6 (bf L st).aI (aA st)).1,0,true),(l6 (bf L st).aI (aA st)).2):=by unfold bu fm;rw[if_neg (by rw[ks,k3];decide),if_pos (ks.trans k3),ts]
 rw[e];have bA:=bM hx;have bD:=bB hy;have q0:=dK hx hy hc;rw[cq] at q0;have qn:=fV (bf L st);have w1:=wrap_i64 (n:=(st.bQ:Int)+1) (by omega) (by have:=hc.le;have:=hc.lb;omega);have c1:=hc.GJ (by have:=fY hc (by rw[ks,k3];decide);omega);have qv:=aaH hx hy c1 (bf L st).aI;have eF:st.ae≠[]->(l6 (bf L st).aI (aA st)).2.ae≠[]:=(PT (bf L st).aI (aA st)).ae;rw[show (aA st).ae=st.ae from rfl,an] at qv;rw[k3] at q0;dsimp only;have ur:=ar (l6 (bf L st).aI (aA st)).1;generalize (l6 (bf L st).aI (aA st)).2=s1 at *;generalize (l6 (bf L st).aI (aA st)).1=u at *;by_cases h0:st.ae=[]
 .by_cases h1:s1.ae=[]
  .rw[bd h0] at q0;rw[fo h0,h0,dh h1] at qv;refine dy (n:=8) hE bA bD h0 h1 ?_ (bp _ _ _) rfl;rw[an];simp[w1,q0,qv,ur,-ak,-au,-aq,-aE,-dm,bA,bD]
  .rw[bd h0] at q0;rw[fo h0,h0,cO h1] at qv;refine eB (n:=8) hE bA bD 3 (by decide) h0 h1 ?_ (bp _ _ _) rfl;rw[an];simp[w1,q0,qv,ur,-ak,-au,-aq,-aE,-dm,bA,bD]
 .have h1:=eF h0;rw[a6 h0] at q0;rw[iT h0,dX h0 h1] at qv;refine di (n:=8) hE bA bD 4 (by decide) h0 h1 ?_ (bp _ _ _) rfl;rw[an];simp[w1,q0,qv,ur,-ak,-au,-aq,-aE,-dm,bA,bD]
theorem QH(N:Nat){x y:AV}{T:List a7}{L:List Tok}{st:St}(hx:aZ x=some T)(hy:bE y=some L)(hc:RC T L st)(hN:st.ax.length<=N)(hE:cb Tryz.prog bV (cm rz (qX N)))(n:Int)(k5:(bf L st).aj=5)(KH:(bf L st).aI=[40])(cT:(ai T 1200 (aA st)).1.2.2=false):
 cp Tryz.prog bV 120 [.ptr 0 0,.int .i64 n] (dA x y st) (.tuple [(bu T n st).1.1.aL,.int .i64 (bu T n st).1.2.1,.bool (bu T n st).1.2.2]) (some (dF x y st.ae (bu T n st).2)):=by
 have ks:(aP st).aj=(bf L st).aj:=by rw[bz hc]
 have ts:(aP st).aI=(bf L st).aI:=by rw[bz hc]
 have us:(aP st).bj=(bf L st).bj:=by rw[bz hc]
 have os:(aP st).js=(bf L st).js:=by rw[bz hc]
 have e:bu T n st=(((ai T 1200 (aA st)).1.1,0,false),(ai T 1200 (aA st)).2):=by unfold bu fm;rw[if_neg (by rw[ks,k5];decide),if_neg (by rw[ks,k5];decide)];rw[if_pos ⟨ks.trans k5,ts.trans KH⟩];unfold jq;rw[cT];exact if_neg (by simp)
 rw[e];have bA:=bM hx;have bD:=bB hy;have q0:=dK hx hy hc;rw[cq] at q0;have qn:=fV (bf L st);have w1:=wrap_i64 (n:=(st.bQ:Int)+1) (by omega) (by have:=hc.le;have:=hc.lb;omega);have uY:=fY hc (by rw[ks,k5];decide);have c1:=hc.GJ (by omega);have hl:=dv st;have hp:=ca (st:=st) (by rw[ks,k5];decide);have qt:=dG N hx hy c1 1200 (by omega);rw[cT,show (aA st).ae=st.ae from rfl,an] at qt;have eF:st.ae≠[]->(ai T 1200 (aA st)).2.ae≠[]:=((bY T).lv 1200 (aA st)).ae;have ur:=ar (ai T 1200 (aA st)).1.1;have uc:=cM (ai T 1200 (aA st)).1.1;rw[k5,KH] at q0;dsimp only;generalize (ai T 1200 (aA st)).2=s1 at *;generalize (ai T 1200 (aA st)).1.1=u at *;generalize (ai T 1200 (aA st)).1.2.1=lv at *;by_cases h0:st.ae=[]
 .by_cases h1:s1.ae=[]
  .rw[bd h0] at q0;rw[fo h0,h0,dh h1] at qt;refine dy (n:=8) hE bA bD h0 h1 ?_ (bp _ _ _) rfl;rw[an];simp[w1,q0,qt,ur,uc,aG,-ak,-au,-aq,-aE,-dm,bA,bD]
  .rw[bd h0] at q0;rw[fo h0,h0,cO h1] at qt;refine eB (n:=8) hE bA bD 3 (by decide) h0 h1 ?_ (bp _ _ _) rfl;rw[an];simp[w1,q0,qt,ur,uc,aG,-ak,-au,-aq,-aE,-dm,bA,bD]
 .have h1:=eF h0;rw[a6 h0] at q0;rw[iT h0,dX h0 h1] at qt;refine di (n:=8) hE bA bD 4 (by decide) h0 h1 ?_ (bp _ _ _) rfl;rw[an];simp[w1,q0,qt,ur,uc,aG,-ak,-au,-aq,-aE,-dm,bA,bD]
theorem OD(N:Nat){x y:AV}{T:List a7}{L:List Tok}{st:St}(hx:aZ x=some T)(hy:bE y=some L)(hc:RC T L st)(hN:st.ax.length<=N)(hE:cb Tryz.prog bV (cm rz (qX N)))(n:Int)(k5:(bf L st).aj=5)(KH:(bf L st).aI=[40])(cT:(ai T 1200 (aA st)).1.2.2=true):
 cp Tryz.prog bV 120 [.ptr 0 0,.int .i64 n] (dA x y st) (.tuple [(bu T n st).1.1.aL,.int .i64 (bu T n st).1.2.1,.bool (bu T n st).1.2.2]) (some (dF x y st.ae (bu T n st).2)):=by
 have ks:(aP st).aj=(bf L st).aj:=by rw[bz hc]
 have ts:(aP st).aI=(bf L st).aI:=by rw[bz hc]
 have us:(aP st).bj=(bf L st).bj:=by rw[bz hc]
 have os:(aP st).js=(bf L st).js:=by rw[bz hc]
 have e:bu T n st=(((ai T 1200 (aA st)).1.1,0,(ba [41] (ai T 1200 (aA st)).2).1),(ba [41] (ai T 1200 (aA st)).2).2):=by unfold bu fm;rw[if_neg (by rw[ks,k5];decide),if_neg (by rw[ks,k5];decide)];rw[if_pos ⟨ks.trans k5,ts.trans KH⟩];unfold jq;rw[cT];exact if_pos rfl
 rw[e];have bA:=bM hx;have bD:=bB hy;have q0:=dK hx hy hc;rw[cq] at q0;have qn:=fV (bf L st);have w1:=wrap_i64 (n:=(st.bQ:Int)+1) (by omega) (by have:=hc.le;have:=hc.lb;omega);have uY:=fY hc (by rw[ks,k5];decide);have c1:=hc.GJ (by omega);have hl:=dv st;have hp:=ca (st:=st) (by rw[ks,k5];decide);have qt:=dG N hx hy c1 1200 (by omega);rw[cT,show (aA st).ae=st.ae from rfl,an] at qt;have eF:st.ae≠[]->(ai T 1200 (aA st)).2.ae≠[]:=((bY T).lv 1200 (aA st)).ae;have ur:=ar (ai T 1200 (aA st)).1.1;have uc:=cM (ai T 1200 (aA st)).1.1;rw[k5,KH] at q0;obtain⟨c2,_⟩:=c1.ok ((bY T).ok 1200 (aA st) cT);have qk:=iZ hx hy c2 [41];have ig:=fX [41] (ai T 1200 (aA st)).2;dsimp only;generalize (ai T 1200 (aA st)).2=s1 at *;generalize (ai T 1200 (aA st)).1.1=u at *;generalize (ai T 1200 (aA st)).1.2.1=lv at *;by_cases h0:st.ae=[]
 .by_cases h1:s1.ae=[]
  .rw[bd h0] at q0;rw[fo h0,h0,dh h1] at qt;rw[bd h1,bd (by rw[ig.1];exact h1),ig.2] at qk;refine dy (n:=8) hE bA bD h0 (by rw[ig.1];exact h1) ?_ (bp _ _ _) rfl;rw[an,ig.2];generalize ba [41] s1=b4 at *;obtain⟨b4,s4⟩:=b4;simp[w1,q0,qt,ur,uc,aG,qk,-ak,-au,-aq,-aE,-dm,bA,bD]
  .rw[bd h0] at q0;rw[fo h0,h0,cO h1] at qt;rw[a6 h1,a6 (by rw[ig.1];exact h1),ig.1,ig.2] at qk;refine eB (n:=8) hE bA bD 3 (by decide) h0 (by rw[ig.1];exact h1) ?_ (bp _ _ _) rfl;rw[an,ig.1,ig.2];generalize ba [41] s1=b4 at *;obtain⟨b4,s4⟩:=b4;simp[w1,q0,qt,ur,uc,aG,qk,-ak,-au,-aq,-aE,-dm,bA,bD]
 .have h1:=eF h0;rw[a6 h0] at q0;rw[iT h0,dX h0 h1] at qt;rw[a6 h1,a6 (by rw[ig.1];exact h1),ig.1,ig.2] at qk;refine di (n:=8) hE bA bD 4 (by decide) h0 (by rw[ig.1];exact h1) ?_ (bp _ _ _) rfl;rw[an,ig.1,ig.2];generalize ba [41] s1=b4 at *;obtain⟨b4,s4⟩:=b4;simp[w1,q0,qt,ur,uc,aG,qk,-ak,-au,-aq,-aE,-dm,bA,bD]
theorem NK(N:Nat){x y:AV}{T:List a7}{L:List Tok}{st:St}(hx:aZ x=some T)(hy:bE y=some L)(hc:RC T L st)(hN:st.ax.length<=N)(hE:cb Tryz.prog bV (cm rz (qX N)))(n:Int)(k5:(bf L st).aj=5)(KH:(bf L st).aI=[123])(cT:(ai T 1200 (aA st)).1.2.2=false):
 cp Tryz.prog bV 120 [.ptr 0 0,.int .i64 n] (dA x y st) (.tuple [(bu T n st).1.1.aL,.int .i64 (bu T n st).1.2.1,.bool (bu T n st).1.2.2]) (some (dF x y st.ae (bu T n st).2)):=by
 have ks:(aP st).aj=(bf L st).aj:=by rw[bz hc]
 have ts:(aP st).aI=(bf L st).aI:=by rw[bz hc]
 have us:(aP st).bj=(bf L st).bj:=by rw[bz hc]
 have os:(aP st).js=(bf L st).js:=by rw[bz hc]
 have e:bu T n st=((cE [123,125] [(ai T 1200 (aA st)).1.1],0,false),(ai T 1200 (aA st)).2):=by unfold bu fm;rw[if_neg (by rw[ks,k5];decide),if_neg (by rw[ks,k5];decide)];rw[if_neg (λe=>by rw[ts,KH] at e;exact absurd e.2 (by decide)),if_neg (λe=>by rw[ts,KH] at e;exact absurd e.2 (by decide))];rw[if_pos ⟨ks.trans k5,ts.trans KH⟩];unfold jq;rw[cT];exact if_neg (by simp)
 rw[e];have bA:=bM hx;have bD:=bB hy;have q0:=dK hx hy hc;rw[cq] at q0;have qn:=fV (bf L st);have w1:=wrap_i64 (n:=(st.bQ:Int)+1) (by omega) (by have:=hc.le;have:=hc.lb;omega);have uY:=fY hc (by rw[ks,k5];decide);have c1:=hc.GJ (by omega);have hl:=dv st;have hp:=ca (st:=st) (by rw[ks,k5];decide);have qt:=dG N hx hy c1 1200 (by omega);rw[cT,show (aA st).ae=st.ae from rfl,an] at qt;have eF:st.ae≠[]->(ai T 1200 (aA st)).2.ae≠[]:=((bY T).lv 1200 (aA st)).ae;have ur:=ar (ai T 1200 (aA st)).1.1;have uc:=cM (ai T 1200 (aA st)).1.1;rw[k5,KH] at q0;have qc:=lK [123,125] [(ai T 1200 (aA st)).1.1] (by simp);rw[uH,List.map_cons,List.map_nil,an] at qc;dsimp only;generalize (ai T 1200 (aA st)).2=s1 at *;generalize (ai T 1200 (aA st)).1.1=u at *;generalize (ai T 1200 (aA st)).1.2.1=lv at *;by_cases h0:st.ae=[]
 .by_cases h1:s1.ae=[]
  .rw[bd h0] at q0;rw[fo h0,h0,dh h1] at qt;refine dy (n:=8) hE bA bD h0 h1 ?_ (bp _ _ _) rfl;rw[uH];simp[w1,q0,qt,ur,uc,aG,qc,-ak,-au,-aq,-aE,-dm,bA,bD]
  .rw[bd h0] at q0;rw[fo h0,h0,cO h1] at qt;refine eB (n:=8) hE bA bD 3 (by decide) h0 h1 ?_ (bp _ _ _) rfl;rw[uH];simp[w1,q0,qt,ur,uc,aG,qc,-ak,-au,-aq,-aE,-dm,bA,bD]
 .have h1:=eF h0;rw[a6 h0] at q0;rw[iT h0,dX h0 h1] at qt;refine di (n:=8) hE bA bD 4 (by decide) h0 h1 ?_ (bp _ _ _) rfl;rw[uH];simp[w1,q0,qt,ur,uc,aG,qc,-ak,-au,-aq,-aE,-dm,bA,bD]
theorem Ng(N:Nat){x y:AV}{T:List a7}{L:List Tok}{st:St}(hx:aZ x=some T)(hy:bE y=some L)(hc:RC T L st)(hN:st.ax.length<=N)(hE:cb Tryz.prog bV (cm rz (qX N)))(n:Int)(k5:(bf L st).aj=5)(KH:(bf L st).aI=[123])(cT:(ai T 1200 (aA st)).1.2.2=true):
 cp Tryz.prog bV 120 [.ptr 0 0,.int .i64 n] (dA x y st) (.tuple [(bu T n st).1.1.aL,.int .i64 (bu T n st).1.2.1,.bool (bu T n st).1.2.2]) (some (dF x y st.ae (bu T n st).2)):=by
 have ks:(aP st).aj=(bf L st).aj:=by rw[bz hc]
 have ts:(aP st).aI=(bf L st).aI:=by rw[bz hc]
 have us:(aP st).bj=(bf L st).bj:=by rw[bz hc]
 have os:(aP st).js=(bf L st).js:=by rw[bz hc]
 have e:bu T n st=((cE [123,125] [(ai T 1200 (aA st)).1.1],0,(ba [125] (ai T 1200 (aA st)).2).1),(ba [125] (ai T 1200 (aA st)).2).2):=by unfold bu fm;rw[if_neg (by rw[ks,k5];decide),if_neg (by rw[ks,k5];decide)];rw[if_neg (λe=>by rw[ts,KH] at e;exact absurd e.2 (by decide)),if_neg (λe=>by rw[ts,KH] at e;exact absurd e.2 (by decide))];rw[if_pos ⟨ks.trans k5,ts.trans KH⟩];unfold jq;rw[cT];exact if_pos rfl
 rw[e];have bA:=bM hx;have bD:=bB hy;have q0:=dK hx hy hc;rw[cq] at q0;have qn:=fV (bf L st);have w1:=wrap_i64 (n:=(st.bQ:Int)+1) (by omega) (by have:=hc.le;have:=hc.lb;omega);have uY:=fY hc (by rw[ks,k5];decide);have c1:=hc.GJ (by omega);have hl:=dv st;have hp:=ca (st:=st) (by rw[ks,k5];decide);have qt:=dG N hx hy c1 1200 (by omega);rw[cT,show (aA st).ae=st.ae from rfl,an] at qt;have eF:st.ae≠[]->(ai T 1200 (aA st)).2.ae≠[]:=((bY T).lv 1200 (aA st)).ae;have ur:=ar (ai T 1200 (aA st)).1.1;have uc:=cM (ai T 1200 (aA st)).1.1;rw[k5,KH] at q0;have qc:=lK [123,125] [(ai T 1200 (aA st)).1.1] (by simp);rw[uH,List.map_cons,List.map_nil,an] at qc;obtain⟨c2,_⟩:=c1.ok ((bY T).ok 1200 (aA st) cT);have qk:=iZ hx hy c2 [125];have ig:=fX [125] (ai T 1200 (aA st)).2;dsimp only;generalize (ai T 1200 (aA st)).2=s1 at *;generalize (ai T 1200 (aA st)).1.1=u at *;generalize (ai T 1200 (aA st)).1.2.1=lv at *;by_cases h0:st.ae=[]
 .by_cases h1:s1.ae=[]
  .rw[bd h0] at q0;rw[fo h0,h0,dh h1] at qt;rw[bd h1,bd (by rw[ig.1];exact h1),ig.2] at qk;refine dy (n:=8) hE bA bD h0 (by rw[ig.1];exact h1) ?_ (bp _ _ _) rfl;rw[uH,ig.2];generalize ba [125] s1=b4 at *;obtain⟨b4,s4⟩:=b4;simp[w1,q0,qt,ur,uc,aG,qc,qk,-ak,-au,-aq,-aE,-dm,bA,bD]
  .rw[bd h0] at q0;rw[fo h0,h0,cO h1] at qt;rw[a6 h1,a6 (by rw[ig.1];exact h1),ig.1,ig.2] at qk;refine eB (n:=8) hE bA bD 3 (by decide) h0 (by rw[ig.1];exact h1) ?_ (bp _ _ _) rfl;rw[uH,ig.1,ig.2];generalize ba [125] s1=b4 at *;obtain⟨b4,s4⟩:=b4;simp[w1,q0,qt,ur,uc,aG,qc,qk,-ak,-au,-aq,-aE,-dm,bA,bD]
 .have h1:=eF h0;rw[a6 h0] at q0;rw[iT h0,dX h0 h1] at qt;rw[a6 h1,a6 (by rw[ig.1];exact h1),ig.1,ig.2] at qk;refine di (n:=8) hE bA bD 4 (by decide) h0 (by rw[ig.1];exact h1) ?_ (bp _ _ _) rfl;rw[uH,ig.1,ig.2];generalize ba [125] s1=b4 at *;obtain⟨b4,s4⟩:=b4;simp[w1,q0,qt,ur,uc,aG,qc,qk,-ak,-au,-aq,-aE,-dm,bA,bD]
theorem Vq(N:Nat){x y:AV}{T:List a7}{L:List Tok}{st:St}(hx:aZ x=some T)(hy:bE y=some L)(hc:RC T L st)(hN:st.ax.length<=N)(hE:cb Tryz.prog bV (cm rz (qX N)))(n:Int)(k5:(bf L st).aj=5)(KH:(bf L st).aI=[91]):
 cp Tryz.prog bV 120 [.ptr 0 0,.int .i64 n] (dA x y st) (.tuple [(bu T n st).1.1.aL,.int .i64 (bu T n st).1.2.1,.bool (bu T n st).1.2.2]) (some (dF x y st.ae (bu T n st).2)):=by
 have ks:(aP st).aj=(bf L st).aj:=by rw[bz hc]
 have ts:(aP st).aI=(bf L st).aI:=by rw[bz hc]
 have us:(aP st).bj=(bf L st).bj:=by rw[bz hc]
 have os:(aP st).js=(bf L st).js:=by rw[bz hc]
 have e:bu T n st=(((gP T (aA st)).1.1,0,(gP T (aA st)).1.2),(gP T (aA st)).2):=by unfold bu fm;rw[if_neg (by rw[ks,k5];decide),if_neg (by rw[ks,k5];decide),if_neg (λe=>by rw[ts,KH] at e;exact absurd e.2 (by decide)),if_pos ⟨ks.trans k5,ts.trans KH⟩,aaA ad4]
 rw[e];have bA:=bM hx;have bD:=bB hy;have q0:=dK hx hy hc;rw[cq] at q0;have qn:=fV (bf L st);have w1:=wrap_i64 (n:=(st.bQ:Int)+1) (by omega) (by have:=hc.le;have:=hc.lb;omega);have uY:=fY hc (by rw[ks,k5];decide);have c1:=hc.GJ (by omega);have hl:=dv st;have hp:=ca (st:=st) (by rw[ks,k5];decide);have qt:=Qb N hx hy c1 (by omega);rw[show (aA st).ae=st.ae from rfl,an] at qt;have eF:st.ae≠[]->(gP T (aA st)).2.ae≠[]:=(Jp (bY T) _ (aA st)).1.ae;have ur:=ar (gP T (aA st)).1.1;rw[k5,KH] at q0;dsimp only;generalize (gP T (aA st)).2=s1 at *;generalize (gP T (aA st)).1.1=u at *;generalize (gP T (aA st)).1.2=ok at *;by_cases h0:st.ae=[]
 .by_cases h1:s1.ae=[]
  .rw[bd h0] at q0;rw[fo h0,h0,dh h1] at qt;refine dy (n:=8) hE bA bD h0 h1 ?_ (bp _ _ _) rfl;rw[an];simp[w1,q0,qt,ur,-ak,-au,-aq,-aE,-dm,bA,bD]
  .rw[bd h0] at q0;rw[fo h0,h0,cO h1] at qt;refine eB (n:=8) hE bA bD 3 (by decide) h0 h1 ?_ (bp _ _ _) rfl;rw[an];simp[w1,q0,qt,ur,-ak,-au,-aq,-aE,-dm,bA,bD]
 .have h1:=eF h0;rw[a6 h0] at q0;rw[iT h0,dX h0 h1] at qt;refine di (n:=8) hE bA bD 4 (by decide) h0 h1 ?_ (bp _ _ _) rfl;rw[an];simp[w1,q0,qt,ur,-ak,-au,-aq,-aE,-dm,bA,bD]
theorem Y5(N:Nat){x y:AV}{T:List a7}{L:List Tok}{st:St}(hx:aZ x=some T)(hy:bE y=some L)(hc:RC T L st)(hN:st.ax.length<=N)(hE:cb Tryz.prog bV (cm rz (qX N)))(n:Int)(k5:(bf L st).aj=5)(t1:¬(bf L st).aI=[40])(t2:¬(bf L st).aI=[91])(t3:¬(bf L st).aI=[123]):
 cp Tryz.prog bV 120 [.ptr 0 0,.int .i64 n] (dA x y st) (.tuple [(bu T n st).1.1.aL,.int .i64 (bu T n st).1.2.1,.bool (bu T n st).1.2.2]) (some (dF x y st.ae (bu T n st).2)):=by
 have ks:(aP st).aj=(bf L st).aj:=by rw[bz hc]
 have ts:(aP st).aI=(bf L st).aI:=by rw[bz hc]
 have us:(aP st).bj=(bf L st).bj:=by rw[bz hc]
 have os:(aP st).js=(bf L st).js:=by rw[bz hc]
 have e:bu T n st=((Gy,0,false),aA st):=by unfold bu fm;rw[if_neg (by rw[ks,k5];decide),if_neg (by rw[ks,k5];decide),if_neg (λe=>t1 (ts.symm.trans e.2)),if_neg (λe=>t2 (ts.symm.trans e.2)),if_neg (λe=>t3 (ts.symm.trans e.2)),if_pos (by unfold eC;rw[ks,k5];rfl)]
 rw[e];have bA:=bM hx;have bD:=bB hy;have q0:=dK hx hy hc;rw[cq] at q0;have qn:=fV (bf L st);have w1:=wrap_i64 (n:=(st.bQ:Int)+1) (by omega) (by have:=hc.le;have:=hc.lb;omega);have b1:((bf L st).aI==[40])=false:=by simpa using t1
 have b2:((bf L st).aI==[91])=false:=by simpa using t2
 have b3:((bf L st).aI==[123])=false:=by simpa using t3
 rw[k5] at q0 qn;dsimp only;by_cases h0:st.ae=[]
 .rw[bd h0] at q0;refine dy (n:=8) hE bA bD h0 h0 ?_ (bp _ _ _) rfl;rw[og];simp only[kZ,kX,lu];simp[w1,q0,qn,b1,b2,b3,t1,t2,t3,-ak,-au,-aq,-aE,-dm,bA,bD]
 .rw[a6 h0] at q0;refine di (n:=8) hE bA bD 1 (by decide) h0 h0 ?_ (bp _ _ _) rfl;rw[og];simp only[kZ,kX,lu];simp[w1,q0,qn,b1,b2,b3,t1,t2,t3,-ak,-au,-aq,-aE,-dm,bA,bD]
theorem Ti(N:Nat){x y:AV}{T:List a7}{L:List Tok}{st:St}(hx:aZ x=some T)(hy:bE y=some L)(hc:RC T L st)(hN:st.ax.length<=N)(hE:cb Tryz.prog bV (cm rz (qX N)))(n:Int)(k1:¬(bf L st).aj=1)(k2:¬(bf L st).aj=2)(k3:¬(bf L st).aj=3)(k4:¬(bf L st).aj=4)(k5:¬(bf L st).aj=5):
 cp Tryz.prog bV 120 [.ptr 0 0,.int .i64 n] (dA x y st) (.tuple [(bu T n st).1.1.aL,.int .i64 (bu T n st).1.2.1,.bool (bu T n st).1.2.2]) (some (dF x y st.ae (bu T n st).2)):=by
 have ks:(aP st).aj=(bf L st).aj:=by rw[bz hc]
 have ts:(aP st).aI=(bf L st).aI:=by rw[bz hc]
 have us:(aP st).bj=(bf L st).bj:=by rw[bz hc]
 have os:(aP st).js=(bf L st).js:=by rw[bz hc]
 have e:bu T n st=((Gy,0,false),aA st):=by unfold bu fm;rw[if_neg (λe=>k4 (ks.symm.trans e)),if_neg (λe=>k3 (ks.symm.trans e)),if_neg (λe=>k5 (ks.symm.trans e.1)),if_neg (λe=>k5 (ks.symm.trans e.1)),if_neg (λe=>k5 (ks.symm.trans e.1)),if_pos (by unfold eC;rw[ks,decide_eq_false k1,decide_eq_false k2];rfl)]
 rw[e];have bA:=bM hx;have bD:=bB hy;have q0:=dK hx hy hc;rw[cq] at q0;have qn:=fV (bf L st);have w1:=wrap_i64 (n:=(st.bQ:Int)+1) (by omega) (by have:=hc.le;have:=hc.lb;omega);rw[decide_eq_false k1,decide_eq_false k2] at qn;dsimp only;by_cases h0:st.ae=[]
 .rw[bd h0] at q0;refine dy (n:=8) hE bA bD h0 h0 ?_ (bp _ _ _) rfl;rw[og];simp only[kZ,kX,lu];simp[w1,q0,qn,k1,k2,k3,k4,k5,-ak,-au,-aq,-aE,-dm,bA,bD]
 .rw[a6 h0] at q0;refine di (n:=8) hE bA bD 1 (by decide) h0 h0 ?_ (bp _ _ _) rfl;rw[og];simp only[kZ,kX,lu];simp[w1,q0,qn,k1,k2,k3,k4,k5,-ak,-au,-aq,-aE,-dm,bA,bD]
end
section
theorem JG(l:List Tm):Gx l=(cE [] l).bh:=by cases l<;>rfl
theorem IP(s:List UInt8)(l:List Tm):(cE s l).aL=.agg [.int .i64 2,.int .i64 0,.str s,(cE [] l).bh]:=by cases l<;>simp[cE,Tm.aL,Tm.bh,jb]
theorem aeP{T:List a7}{L:List Tok}{st:St}(h:RC T L st)(hk:(aP st).aj≠0):0<=(bf L st).bj/\(bf L st).bj<9223372036854775808:=by
 have h1:st.ax.all yD=true:=by rw[h.ax];refine List.all_eq_true.mpr λx hx=>List.all_eq_true.mp h.tk x (List.mem_of_mem_drop hx)
 have:=Kc h1 (ca hk);rw[bz h] at this;exact this
theorem Lq{T:List a7}{L:List Tok}{st:St}(h:RC T L st):0<=(bf L st).bQ/\(bf L st).bQ<1000000:=by
 rcases Ye h with⟨h1,h2⟩|⟨_,h2⟩
 .have:=List.all_eq_true.mp h.zU _ (List.mem_of_getElem? h2);simpa using this
 .rw[h2];exact⟨by decide,by decide⟩
theorem Zl{T:List a7}{L:List Tok}{st:St}(h:RC T L st)(hl:st.bQ+1<L.length):(aP st).Z6=decide ((bf L (aA st)).bQ=(bf L st).bQ+1):=by rw[bz h];show abl (bf L st) (L.drop (st.bQ+1))=_;rw[List.drop_eq_getElem_cons hl];show decide (_=_)=decide ((L.getD (st.bQ+1) AF).bQ=_);simp[List.getD,hl]
theorem J4{x y:AV}{st:St}(h:st.ae=[]):dA x y (aA (aA st))=[.row [x,y,.int .i64 ((st.bQ:Int)+1+1),.int .i64 st.next,.aF]]:=bd (st:=aA (aA st)) h
theorem Zn{x y:AV}{st:St}(h:st.ae≠[]):dA x y (aA (aA st))=[.row [x,y,.int .i64 ((st.bQ:Int)+1+1),.int .i64 st.next,.vec 1 0 st.ae.length 2 st.ae.length],.row (bo st.ae)]:=a6 (st:=aA (aA st)) h
theorem DK{rec:Int->St->PR×St}{T:List a7}{x x':dc}(n:Int)(st:St)(h1:x.aj=x'.aj)(h2:x.aI=x'.aI):cr rec T x n st=cr rec T x' n st:=by unfold cr;rw[h1,h2]
theorem qJ{rec:Int->St->PR×St}(H:CO rec){T:List a7}{x:dc}{n:Int}{st:St}(h:st.ae≠[]):(cr rec T x n st).2.ae≠[]:=by
 unfold cr;split
 .exact h
 .split
  .exact (H.lv _ st).ae h
  .exact h
attribute [local simp] jP jN jQ jJ gR gQ jH jK jM gS gT jI lz lh lD lq kY kW iJ iM Laid.aJ fh fi bW j7 Sq WJ aw rz qX Qf fq qF fP OV eX gV Be ui Bo
theorem NQ(N:Nat){x y:AV}{T:List a7}{L:List Tok}{st:St}(hx:aZ x=some T)(hy:bE y=some L)(hc:RC T L st)(hN:st.ax.length<=N)(hE:cb Tryz.prog bV (cm rz (qX N)))(n:Int)(kn:(decide ((bf L st).aj=1)||decide ((bf L st).aj=2))=true)(ko:(bf L st).js=true)(cT:(aD T (aA (aA st))).1.2=false):
 cp Tryz.prog bV 120 [.ptr 0 0,.int .i64 n] (dA x y st) (.tuple [(bu T n st).1.1.aL,.int .i64 (bu T n st).1.2.1,.bool (bu T n st).1.2.2]) (some (dF x y st.ae (bu T n st).2)):=by
 have ks:(aP st).aj=(bf L st).aj:=by rw[bz hc]
 have ts:(aP st).aI=(bf L st).aI:=by rw[bz hc]
 have us:(aP st).bj=(bf L st).bj:=by rw[bz hc]
 have os:(aP st).js=(bf L st).js:=by rw[bz hc]
 have kc:(bf L st).aj=1\/(bf L st).aj=2:=by rw[Bool.or_eq_true,decide_eq_true_eq,decide_eq_true_eq] at kn;exact kn
 have k3:¬(bf L st).aj=3:=by omega
 have k4:¬(bf L st).aj=4:=by omega
 have k5:¬(bf L st).aj=5:=by omega
 have k0:(aP st).aj≠0:=by rw[ks];omega
 have nb:eC (aP st)=true:=by unfold eC;rw[ks];exact kn
 have e:bu T n st=((cE (bf L st).aI [],0,false),(aD T (aA (aA st))).2):=by unfold bu fm;rw[if_neg (λe=>k4 (ks.symm.trans e)),if_neg (λe=>k3 (ks.symm.trans e)),if_neg (λe=>k5 (ks.symm.trans e.1)),if_neg (λe=>k5 (ks.symm.trans e.1)),if_neg (λe=>k5 (ks.symm.trans e.1)),if_neg (by rw[nb];decide)];rw[if_pos (os.trans ko),ts];unfold pL;rw[Ls (by rw[dv,dv];omega),cT];exact if_neg (by simp)
 rw[e];have bA:=bM hx;have bD:=bB hy;have q0:=dK hx hy hc;rw[cq] at q0;have qn:=fV (bf L st);have w1:=wrap_i64 (n:=(st.bQ:Int)+1) (by omega) (by have:=hc.le;have:=hc.lb;omega);have uY:=fY hc k0;have c1:=hc.GJ (by omega);have hl:=dv st;have hp:=ca (st:=st) k0;have ZU:st.bQ+1<=L.length:=uY;have c2:=c1.GJ ZU;have qh:=dv (aA st);have w2:=wrap_i64 (n:=(st.bQ:Int)+1+1) (by omega) (by have:=hc.lb;omega);have qt:=mD N hx hy c2 (by omega);rw[cT,if_neg (by simp),show (aA (aA st)).ae=st.ae from rfl] at qt;have eF:st.ae≠[]->(aD T (aA (aA st))).2.ae≠[]:=(iD T (aA (aA st))).1.ae;rw[ko] at q0 qn;dsimp only;rw[kn] at qn;generalize (aD T (aA (aA st))).2=s1 at *;by_cases h0:st.ae=[]
 .by_cases h1:s1.ae=[]
  .rw[bd h0] at q0;rw[J4 h0,h0,dh h1] at qt;refine dy (n:=8) hE bA bD h0 h1 ?_ (bp _ _ _) rfl;rw[IP];simp only[Gx] at qt;rw[show (cE [] []).bh=.aF from rfl];simp[w1,q0,qt,qn,k3,k4,k5,w2,-ak,-au,-aq,-aE,-dm,bA,bD]
  .rw[bd h0] at q0;rw[J4 h0,h0,cO h1] at qt;refine eB (n:=8) hE bA bD 3 (by decide) h0 h1 ?_ (bp _ _ _) rfl;rw[IP];simp only[Gx] at qt;rw[show (cE [] []).bh=.aF from rfl];simp[w1,q0,qt,qn,k3,k4,k5,w2,-ak,-au,-aq,-aE,-dm,bA,bD]
 .have h1:=eF h0;rw[a6 h0] at q0;rw[Zn h0,dX h0 h1] at qt;refine di (n:=8) hE bA bD 4 (by decide) h0 h1 ?_ (bp _ _ _) rfl;rw[IP];simp only[Gx] at qt;rw[show (cE [] []).bh=.aF from rfl];simp[w1,q0,qt,qn,k3,k4,k5,w2,-ak,-au,-aq,-aE,-dm,bA,bD]
theorem MO(N:Nat){x y:AV}{T:List a7}{L:List Tok}{st:St}(hx:aZ x=some T)(hy:bE y=some L)(hc:RC T L st)(hN:st.ax.length<=N)(hE:cb Tryz.prog bV (cm rz (qX N)))(n:Int)(kn:(decide ((bf L st).aj=1)||decide ((bf L st).aj=2))=true)(ko:(bf L st).js=true)(cT:(aD T (aA (aA st))).1.2=true):
 cp Tryz.prog bV 120 [.ptr 0 0,.int .i64 n] (dA x y st) (.tuple [(bu T n st).1.1.aL,.int .i64 (bu T n st).1.2.1,.bool (bu T n st).1.2.2]) (some (dF x y st.ae (bu T n st).2)):=by
 have ks:(aP st).aj=(bf L st).aj:=by rw[bz hc]
 have ts:(aP st).aI=(bf L st).aI:=by rw[bz hc]
 have us:(aP st).bj=(bf L st).bj:=by rw[bz hc]
 have os:(aP st).js=(bf L st).js:=by rw[bz hc]
 have kc:(bf L st).aj=1\/(bf L st).aj=2:=by rw[Bool.or_eq_true,decide_eq_true_eq,decide_eq_true_eq] at kn;exact kn
 have k3:¬(bf L st).aj=3:=by omega
 have k4:¬(bf L st).aj=4:=by omega
 have k5:¬(bf L st).aj=5:=by omega
 have k0:(aP st).aj≠0:=by rw[ks];omega
 have nb:eC (aP st)=true:=by unfold eC;rw[ks];exact kn
 have e:bu T n st=((cE (bf L st).aI (aD T (aA (aA st))).1.1,0,(ba [41] (aD T (aA (aA st))).2).1),(ba [41] (aD T (aA (aA st))).2).2):=by unfold bu fm;rw[if_neg (λe=>k4 (ks.symm.trans e)),if_neg (λe=>k3 (ks.symm.trans e)),if_neg (λe=>k5 (ks.symm.trans e.1)),if_neg (λe=>k5 (ks.symm.trans e.1)),if_neg (λe=>k5 (ks.symm.trans e.1)),if_neg (by rw[nb];decide)];rw[if_pos (os.trans ko),ts];unfold pL;rw[Ls (by rw[dv,dv];omega),cT];exact if_pos rfl
 rw[e];have bA:=bM hx;have bD:=bB hy;have q0:=dK hx hy hc;rw[cq] at q0;have qn:=fV (bf L st);have w1:=wrap_i64 (n:=(st.bQ:Int)+1) (by omega) (by have:=hc.le;have:=hc.lb;omega);have uY:=fY hc k0;have c1:=hc.GJ (by omega);have hl:=dv st;have hp:=ca (st:=st) k0;have ZU:st.bQ+1<=L.length:=uY;have c2:=c1.GJ ZU;have qh:=dv (aA st);have w2:=wrap_i64 (n:=(st.bQ:Int)+1+1) (by omega) (by have:=hc.lb;omega);have qt:=mD N hx hy c2 (by omega);rw[cT,if_pos rfl,show (aA (aA st)).ae=st.ae from rfl] at qt;have eF:st.ae≠[]->(aD T (aA (aA st))).2.ae≠[]:=(iD T (aA (aA st))).1.ae;have ur:=ar (cE [] (aD T (aA (aA st))).1.1);have uc:=cM (cE [] (aD T (aA (aA st))).1.1);obtain⟨c3,_⟩:=c2.ok ((iD T (aA (aA st))).2 cT);have qk:=iZ hx hy c3 [41];have ig:=fX [41] (aD T (aA (aA st))).2;rw[ko] at q0 qn;dsimp only;rw[kn] at qn;generalize (aD T (aA (aA st))).2=s1 at *;generalize (aD T (aA (aA st))).1.1=us at *;by_cases h0:st.ae=[]
 .by_cases h1:s1.ae=[]
  .rw[bd h0] at q0;rw[J4 h0,h0,dh h1] at qt;rw[bd h1,bd (by rw[ig.1];exact h1),ig.2] at qk;refine dy (n:=8) hE bA bD h0 (by rw[ig.1];exact h1) ?_ (bp _ _ _) rfl;rw[IP,ig.2];rw[JG] at qt;generalize cE [] us=cu at *;generalize ba [41] s1=b4 at *;obtain⟨b4,s4⟩:=b4;simp[w1,q0,qt,qn,k3,k4,k5,w2,ur,uc,qk,-ak,-au,-aq,-aE,-dm,bA,bD]
  .rw[bd h0] at q0;rw[J4 h0,h0,cO h1] at qt;rw[a6 h1,a6 (by rw[ig.1];exact h1),ig.1,ig.2] at qk;refine eB (n:=8) hE bA bD 3 (by decide) h0 (by rw[ig.1];exact h1) ?_ (bp _ _ _) rfl;rw[IP,ig.1,ig.2];rw[JG] at qt;generalize cE [] us=cu at *;generalize ba [41] s1=b4 at *;obtain⟨b4,s4⟩:=b4;simp[w1,q0,qt,qn,k3,k4,k5,w2,ur,uc,qk,-ak,-au,-aq,-aE,-dm,bA,bD]
 .have h1:=eF h0;rw[a6 h0] at q0;rw[Zn h0,dX h0 h1] at qt;rw[a6 h1,a6 (by rw[ig.1];exact h1),ig.1,ig.2] at qk;refine di (n:=8) hE bA bD 4 (by decide) h0 (by rw[ig.1];exact h1) ?_ (bp _ _ _) rfl;rw[IP,ig.1,ig.2];rw[JG] at qt;generalize cE [] us=cu at *;generalize ba [41] s1=b4 at *;obtain⟨b4,s4⟩:=b4;simp[w1,q0,qt,qn,k3,k4,k5,w2,ur,uc,qk,-ak,-au,-aq,-aE,-dm,bA,bD]
theorem V3(N:Nat){x y:AV}{T:List a7}{L:List Tok}{st:St}(hx:aZ x=some T)(hy:bE y=some L)(hc:RC T L st)(hN:st.ax.length<=N)(hE:cb Tryz.prog bV (cm rz (qX N)))(n:Int)(k1:(bf L st).aj=1)(kt:(bf L st).aI=[45])(ko:(bf L st).js=false)(k4:(bf L (aA st)).aj=4)(ka:(bf L (aA st)).bQ=(bf L st).bQ+1):
 cp Tryz.prog bV 120 [.ptr 0 0,.int .i64 n] (dA x y st) (.tuple [(bu T n st).1.1.aL,.int .i64 (bu T n st).1.2.1,.bool (bu T n st).1.2.2]) (some (dF x y st.ae (bu T n st).2)):=by
 have ks:(aP st).aj=(bf L st).aj:=by rw[bz hc]
 have ts:(aP st).aI=(bf L st).aI:=by rw[bz hc]
 have us:(aP st).bj=(bf L st).bj:=by rw[bz hc]
 have os:(aP st).js=(bf L st).js:=by rw[bz hc]
 have k0:(aP st).aj≠0:=by rw[ks,k1];decide
 have uY:=fY hc k0;have c1:=hc.GJ (by omega);have hl:=dv st;have hp:=ca (st:=st) k0;have ks1:(aP (aA st)).aj=(bf L (aA st)).aj:=by rw[bz c1]
 have us1:(aP (aA st)).bj=(bf L (aA st)).bj:=by rw[bz c1]
 have k01:(aP (aA st)).aj≠0:=by rw[ks1,k4];decide
 have acZ:=fY c1 k01;have ZU:st.bQ+1<L.length:=acZ
 have e:bu T n st=((.nl 1 (-(bf L (aA st)).bj) [],0,true),aA (aA st)):=by unfold bu fm;rw[if_neg (by rw[ks,k1];decide),if_neg (by rw[ks,k1];decide),if_neg (λe=>absurd (k1.symm.trans (ks.symm.trans e.1)) (by decide)),if_neg (λe=>absurd (k1.symm.trans (ks.symm.trans e.1)) (by decide)),if_neg (λe=>absurd (k1.symm.trans (ks.symm.trans e.1)) (by decide)),if_neg (by unfold eC;rw[ks,k1];decide),if_neg (by rw[os,ko];simp),if_pos ⟨ks.trans k1,ts.trans kt,ks1.trans k4,by rw[Zl hc ZU,ka];simp⟩,us1]
 rw[e];have bA:=bM hx;have bD:=bB hy;have q0:=dK hx hy hc;rw[cq] at q0;have qn:=fV (bf L st);have w1:=wrap_i64 (n:=(st.bQ:Int)+1) (by omega) (by have:=hc.le;have:=hc.lb;omega);have w2:=wrap_i64 (n:=(st.bQ:Int)+1+1) (by omega) (by have:=hc.lb;omega);have tn:=aeP c1 k01;have w3:=wrap_i64 (n:=-(bf L (aA st)).bj) (by omega) (by omega);have ta:=Lq hc;have w4:=wrap_i64 (n:=(bf L st).bQ+1) (by omega) (by omega);have q1:=dK hx hy c1;rw[cq,k4,ka] at q1;have qi:=Sp (-(bf L (aA st)).bj);rw[k1,kt,ko] at q0 qn;dsimp only;by_cases h0:st.ae=[]
 .rw[bd h0] at q0;rw[fo h0] at q1;refine dy (n:=8) hE bA bD h0 h0 ?_ (bp _ _ _) rfl;rw[wK];simp only[kZ,kX,lu];simp[w1,q0,qi,qn,q1,w2,w3,w4,-ak,-au,-aq,-aE,-dm,bA,bD]
 .rw[a6 h0] at q0;rw[iT h0] at q1;refine di (n:=8) hE bA bD 1 (by decide) h0 h0 ?_ (bp _ _ _) rfl;rw[wK];simp only[kZ,kX,lu];simp[w1,q0,qi,qn,q1,w2,w3,w4,-ak,-au,-aq,-aE,-dm,bA,bD]
theorem LY(N:Nat){x y:AV}{T:List a7}{L:List Tok}{st:St}(hx:aZ x=some T)(hy:bE y=some L)(hc:RC T L st)(hN:st.ax.length<=N)(hE:cb Tryz.prog bV (cm rz (qX N)))(n:Int)(kn:(decide ((bf L st).aj=1)||decide ((bf L st).aj=2))=true)(ko:(bf L st).js=false)(kd:¬(bf L st).aj=1):
 cp Tryz.prog bV 120 [.ptr 0 0,.int .i64 n] (dA x y st) (.tuple [(bu T n st).1.1.aL,.int .i64 (bu T n st).1.2.1,.bool (bu T n st).1.2.2]) (some (dF x y st.ae (bu T n st).2)):=by
 have ks:(aP st).aj=(bf L st).aj:=by rw[bz hc]
 have ts:(aP st).aI=(bf L st).aI:=by rw[bz hc]
 have us:(aP st).bj=(bf L st).bj:=by rw[bz hc]
 have os:(aP st).js=(bf L st).js:=by rw[bz hc]
 have kc:(bf L st).aj=1\/(bf L st).aj=2:=by rw[Bool.or_eq_true,decide_eq_true_eq,decide_eq_true_eq] at kn;exact kn
 have k3:¬(bf L st).aj=3:=by omega
 have k4:¬(bf L st).aj=4:=by omega
 have k5:¬(bf L st).aj=5:=by omega
 have k0:(aP st).aj≠0:=by rw[ks];omega
 have nb:eC (aP st)=true:=by unfold eC;rw[ks];exact kn
 have uY:=fY hc k0;have c1:=hc.GJ (by omega);have hl:=dv st;have hp:=ca (st:=st) k0;have ks1:(aP (aA st)).aj=(bf L (aA st)).aj:=by rw[bz c1]
 have e:bu T n st=cr (ai T) T (qP (bf L st)) n (aA st):=by unfold bu fm;rw[if_neg (λe=>k4 (ks.symm.trans e)),if_neg (λe=>k3 (ks.symm.trans e)),if_neg (λe=>k5 (ks.symm.trans e.1)),if_neg (λe=>k5 (ks.symm.trans e.1)),if_neg (λe=>k5 (ks.symm.trans e.1)),if_neg (by rw[nb];decide)];rw[if_neg (by rw[os,ko];simp),if_neg (λe=>kd (ks.symm.trans e.1))];exact DK _ _ ks ts
 rw[e];have bA:=bM hx;have bD:=bB hy;have q0:=dK hx hy hc;rw[cq] at q0;have qn:=fV (bf L st);have w1:=wrap_i64 (n:=(st.bQ:Int)+1) (by omega) (by have:=hc.le;have:=hc.lb;omega);have ta:=Lq hc;have w4:=wrap_i64 (n:=(bf L st).bQ+1) (by omega) (by omega);have q1:=dK hx hy c1;rw[cq] at q1;have qt:=uw N hx hy c1 (by omega) (bf L st) n;rw[show (aA st).ae=st.ae from rfl,an,cq] at qt;have eF:st.ae≠[]->(cr (ai T) T (qP (bf L st)) n (aA st)).2.ae≠[]:=λh=>qJ (bY T) (st:=aA st) h
 have ur:=ar (cr (ai T) T (qP (bf L st)) n (aA st)).1.1;have uc:=cM (cr (ai T) T (qP (bf L st)) n (aA st)).1.1;rw[kn] at qn;rw[ko] at q0 qn qt;have k2:(bf L st).aj=2:=by omega
 rw[k2] at q0 qn qt;generalize (cr (ai T) T (qP (bf L st)) n (aA st))=r at *;obtain⟨⟨u,lv,ok⟩,s1⟩:=r;dsimp only at *;by_cases h0:st.ae=[]
 .by_cases h1:s1.ae=[]
  .rw[bd h0] at q0;rw[fo h0,h0,dh h1] at qt;rw[fo h0] at q1;refine dy (n:=8) hE bA bD h0 h1 ?_ (bp _ _ _) rfl;rw[an];simp[w1,q0,qt,qn,q1,ur,uc,k3,k4,k5,kd,-ak,-au,-aq,-aE,-dm,bA,bD]
  .rw[bd h0] at q0;rw[fo h0,h0,cO h1] at qt;rw[fo h0] at q1;refine eB (n:=8) hE bA bD 4 (by decide) h0 h1 ?_ (bp _ _ _) rfl;rw[an];simp[w1,q0,qt,qn,q1,ur,uc,k3,k4,k5,kd,-ak,-au,-aq,-aE,-dm,bA,bD]
 .have h1:=eF h0;rw[a6 h0] at q0;rw[iT h0,dX h0 h1] at qt;rw[iT h0] at q1;refine di (n:=8) hE bA bD 5 (by decide) h0 h1 ?_ (bp _ _ _) rfl;rw[an];simp[w1,q0,qt,qn,q1,ur,uc,k3,k4,k5,kd,-ak,-au,-aq,-aE,-dm,bA,bD]
theorem KU(N:Nat){x y:AV}{T:List a7}{L:List Tok}{st:St}(hx:aZ x=some T)(hy:bE y=some L)(hc:RC T L st)(hN:st.ax.length<=N)(hE:cb Tryz.prog bV (cm rz (qX N)))(n:Int)(kn:(decide ((bf L st).aj=1)||decide ((bf L st).aj=2))=true)(ko:(bf L st).js=false)(k1:(bf L st).aj=1)(kd:¬(bf L st).aI=[45]):
 cp Tryz.prog bV 120 [.ptr 0 0,.int .i64 n] (dA x y st) (.tuple [(bu T n st).1.1.aL,.int .i64 (bu T n st).1.2.1,.bool (bu T n st).1.2.2]) (some (dF x y st.ae (bu T n st).2)):=by
 have ks:(aP st).aj=(bf L st).aj:=by rw[bz hc]
 have ts:(aP st).aI=(bf L st).aI:=by rw[bz hc]
 have us:(aP st).bj=(bf L st).bj:=by rw[bz hc]
 have os:(aP st).js=(bf L st).js:=by rw[bz hc]
 have kc:(bf L st).aj=1\/(bf L st).aj=2:=by rw[Bool.or_eq_true,decide_eq_true_eq,decide_eq_true_eq] at kn;exact kn
 have k3:¬(bf L st).aj=3:=by omega
 have k4:¬(bf L st).aj=4:=by omega
 have k5:¬(bf L st).aj=5:=by omega
 have k0:(aP st).aj≠0:=by rw[ks];omega
 have nb:eC (aP st)=true:=by unfold eC;rw[ks];exact kn
 have uY:=fY hc k0;have c1:=hc.GJ (by omega);have hl:=dv st;have hp:=ca (st:=st) k0;have ks1:(aP (aA st)).aj=(bf L (aA st)).aj:=by rw[bz c1]
 have e:bu T n st=cr (ai T) T (qP (bf L st)) n (aA st):=by unfold bu fm;rw[if_neg (λe=>k4 (ks.symm.trans e)),if_neg (λe=>k3 (ks.symm.trans e)),if_neg (λe=>k5 (ks.symm.trans e.1)),if_neg (λe=>k5 (ks.symm.trans e.1)),if_neg (λe=>k5 (ks.symm.trans e.1)),if_neg (by rw[nb];decide)];rw[if_neg (by rw[os,ko];simp),if_neg (λe=>kd (ts.symm.trans e.2.1))];exact DK _ _ ks ts
 rw[e];have bA:=bM hx;have bD:=bB hy;have q0:=dK hx hy hc;rw[cq] at q0;have qn:=fV (bf L st);have w1:=wrap_i64 (n:=(st.bQ:Int)+1) (by omega) (by have:=hc.le;have:=hc.lb;omega);have ta:=Lq hc;have w4:=wrap_i64 (n:=(bf L st).bQ+1) (by omega) (by omega);have q1:=dK hx hy c1;rw[cq] at q1;have qt:=uw N hx hy c1 (by omega) (bf L st) n;rw[show (aA st).ae=st.ae from rfl,an,cq] at qt;have eF:st.ae≠[]->(cr (ai T) T (qP (bf L st)) n (aA st)).2.ae≠[]:=λh=>qJ (bY T) (st:=aA st) h
 have ur:=ar (cr (ai T) T (qP (bf L st)) n (aA st)).1.1;have uc:=cM (cr (ai T) T (qP (bf L st)) n (aA st)).1.1;have kd2:((bf L st).aI==[45])=false:=by simpa using kd
 rw[kn] at qn;rw[ko] at q0 qn qt;rw[k1] at q0 qn qt;generalize (cr (ai T) T (qP (bf L st)) n (aA st))=r at *;obtain⟨⟨u,lv,ok⟩,s1⟩:=r;dsimp only at *;by_cases h0:st.ae=[]
 .by_cases h1:s1.ae=[]
  .rw[bd h0] at q0;rw[fo h0,h0,dh h1] at qt;rw[fo h0] at q1;refine dy (n:=8) hE bA bD h0 h1 ?_ (bp _ _ _) rfl;rw[an];simp[w1,q0,qt,qn,q1,ur,uc,k3,k4,k5,k1,kd,kd2,-ak,-au,-aq,-aE,-dm,bA,bD]
  .rw[bd h0] at q0;rw[fo h0,h0,cO h1] at qt;rw[fo h0] at q1;refine eB (n:=8) hE bA bD 4 (by decide) h0 h1 ?_ (bp _ _ _) rfl;rw[an];simp[w1,q0,qt,qn,q1,ur,uc,k3,k4,k5,k1,kd,kd2,-ak,-au,-aq,-aE,-dm,bA,bD]
 .have h1:=eF h0;rw[a6 h0] at q0;rw[iT h0,dX h0 h1] at qt;rw[iT h0] at q1;refine di (n:=8) hE bA bD 5 (by decide) h0 h1 ?_ (bp _ _ _) rfl;rw[an];simp[w1,q0,qt,qn,q1,ur,uc,k3,k4,k5,k1,kd,kd2,-ak,-au,-aq,-aE,-dm,bA,bD]
theorem Nh(N:Nat){x y:AV}{T:List a7}{L:List Tok}{st:St}(hx:aZ x=some T)(hy:bE y=some L)(hc:RC T L st)(hN:st.ax.length<=N)(hE:cb Tryz.prog bV (cm rz (qX N)))(n:Int)(kn:(decide ((bf L st).aj=1)||decide ((bf L st).aj=2))=true)(ko:(bf L st).js=false)(k1:(bf L st).aj=1)(kt:(bf L st).aI=[45])(kd:¬(bf L (aA st)).aj=4):
 cp Tryz.prog bV 120 [.ptr 0 0,.int .i64 n] (dA x y st) (.tuple [(bu T n st).1.1.aL,.int .i64 (bu T n st).1.2.1,.bool (bu T n st).1.2.2]) (some (dF x y st.ae (bu T n st).2)):=by
 have ks:(aP st).aj=(bf L st).aj:=by rw[bz hc]
 have ts:(aP st).aI=(bf L st).aI:=by rw[bz hc]
 have us:(aP st).bj=(bf L st).bj:=by rw[bz hc]
 have os:(aP st).js=(bf L st).js:=by rw[bz hc]
 have kc:(bf L st).aj=1\/(bf L st).aj=2:=by rw[Bool.or_eq_true,decide_eq_true_eq,decide_eq_true_eq] at kn;exact kn
 have k3:¬(bf L st).aj=3:=by omega
 have k4:¬(bf L st).aj=4:=by omega
 have k5:¬(bf L st).aj=5:=by omega
 have k0:(aP st).aj≠0:=by rw[ks];omega
 have nb:eC (aP st)=true:=by unfold eC;rw[ks];exact kn
 have uY:=fY hc k0;have c1:=hc.GJ (by omega);have hl:=dv st;have hp:=ca (st:=st) k0;have ks1:(aP (aA st)).aj=(bf L (aA st)).aj:=by rw[bz c1]
 have e:bu T n st=cr (ai T) T (qP (bf L st)) n (aA st):=by unfold bu fm;rw[if_neg (λe=>k4 (ks.symm.trans e)),if_neg (λe=>k3 (ks.symm.trans e)),if_neg (λe=>k5 (ks.symm.trans e.1)),if_neg (λe=>k5 (ks.symm.trans e.1)),if_neg (λe=>k5 (ks.symm.trans e.1)),if_neg (by rw[nb];decide)];rw[if_neg (by rw[os,ko];simp),if_neg (λe=>kd (ks1.symm.trans e.2.2.1))];exact DK _ _ ks ts
 rw[e];have bA:=bM hx;have bD:=bB hy;have q0:=dK hx hy hc;rw[cq] at q0;have qn:=fV (bf L st);have w1:=wrap_i64 (n:=(st.bQ:Int)+1) (by omega) (by have:=hc.le;have:=hc.lb;omega);have ta:=Lq hc;have w4:=wrap_i64 (n:=(bf L st).bQ+1) (by omega) (by omega);have q1:=dK hx hy c1;rw[cq] at q1;have qt:=uw N hx hy c1 (by omega) (bf L st) n;rw[show (aA st).ae=st.ae from rfl,an,cq] at qt;have eF:st.ae≠[]->(cr (ai T) T (qP (bf L st)) n (aA st)).2.ae≠[]:=λh=>qJ (bY T) (st:=aA st) h
 have ur:=ar (cr (ai T) T (qP (bf L st)) n (aA st)).1.1;have uc:=cM (cr (ai T) T (qP (bf L st)) n (aA st)).1.1;rw[kn] at qn;rw[ko] at q0 qn qt;rw[k1] at q0 qn qt;rw[kt] at q0 qn qt;generalize (cr (ai T) T (qP (bf L st)) n (aA st))=r at *;obtain⟨⟨u,lv,ok⟩,s1⟩:=r;dsimp only at *;by_cases h0:st.ae=[]
 .by_cases h1:s1.ae=[]
  .rw[bd h0] at q0;rw[fo h0,h0,dh h1] at qt;rw[fo h0] at q1;refine dy (n:=8) hE bA bD h0 h1 ?_ (bp _ _ _) rfl;rw[an];simp[w1,q0,qt,qn,q1,ur,uc,k3,k4,k5,k1,kt,kd,-ak,-au,-aq,-aE,-dm,bA,bD]
  .rw[bd h0] at q0;rw[fo h0,h0,cO h1] at qt;rw[fo h0] at q1;refine eB (n:=8) hE bA bD 4 (by decide) h0 h1 ?_ (bp _ _ _) rfl;rw[an];simp[w1,q0,qt,qn,q1,ur,uc,k3,k4,k5,k1,kt,kd,-ak,-au,-aq,-aE,-dm,bA,bD]
 .have h1:=eF h0;rw[a6 h0] at q0;rw[iT h0,dX h0 h1] at qt;rw[iT h0] at q1;refine di (n:=8) hE bA bD 5 (by decide) h0 h1 ?_ (bp _ _ _) rfl;rw[an];simp[w1,q0,qt,qn,q1,ur,uc,k3,k4,k5,k1,kt,kd,-ak,-au,-aq,-aE,-dm,bA,bD]
theorem LP(N:Nat){x y:AV}{T:List a7}{L:List Tok}{st:St}(hx:aZ x=some T)(hy:bE y=some L)(hc:RC T L st)(hN:st.ax.length<=N)(hE:cb Tryz.prog bV (cm rz (qX N)))(n:Int)(kn:(decide ((bf L st).aj=1)||decide ((bf L st).aj=2))=true)(ko:(bf L st).js=false)(k1:(bf L st).aj=1)(kt:(bf L st).aI=[45])(k44:(bf L (aA st)).aj=4)(kd:¬(bf L (aA st)).bQ=(bf L st).bQ+1):
 cp Tryz.prog bV 120 [.ptr 0 0,.int .i64 n] (dA x y st) (.tuple [(bu T n st).1.1.aL,.int .i64 (bu T n st).1.2.1,.bool (bu T n st).1.2.2]) (some (dF x y st.ae (bu T n st).2)):=by
 have ks:(aP st).aj=(bf L st).aj:=by rw[bz hc]
 have ts:(aP st).aI=(bf L st).aI:=by rw[bz hc]
 have us:(aP st).bj=(bf L st).bj:=by rw[bz hc]
 have os:(aP st).js=(bf L st).js:=by rw[bz hc]
 have kc:(bf L st).aj=1\/(bf L st).aj=2:=by rw[Bool.or_eq_true,decide_eq_true_eq,decide_eq_true_eq] at kn;exact kn
 have k3:¬(bf L st).aj=3:=by omega
 have k4:¬(bf L st).aj=4:=by omega
 have k5:¬(bf L st).aj=5:=by omega
 have k0:(aP st).aj≠0:=by rw[ks];omega
 have nb:eC (aP st)=true:=by unfold eC;rw[ks];exact kn
 have uY:=fY hc k0;have c1:=hc.GJ (by omega);have hl:=dv st;have hp:=ca (st:=st) k0;have ks1:(aP (aA st)).aj=(bf L (aA st)).aj:=by rw[bz c1]
 have e:bu T n st=cr (ai T) T (qP (bf L st)) n (aA st):=by unfold bu fm;rw[if_neg (λe=>k4 (ks.symm.trans e)),if_neg (λe=>k3 (ks.symm.trans e)),if_neg (λe=>k5 (ks.symm.trans e.1)),if_neg (λe=>k5 (ks.symm.trans e.1)),if_neg (λe=>k5 (ks.symm.trans e.1)),if_neg (by rw[nb];decide)];rw[if_neg (by rw[os,ko];simp),if_neg (λe=>kd (of_decide_eq_true ((Zl hc (fY c1 (by rw[ks1,k44];decide))).symm.trans e.2.2.2)))];exact DK _ _ ks ts
 rw[e];have bA:=bM hx;have bD:=bB hy;have q0:=dK hx hy hc;rw[cq] at q0;have qn:=fV (bf L st);have w1:=wrap_i64 (n:=(st.bQ:Int)+1) (by omega) (by have:=hc.le;have:=hc.lb;omega);have ta:=Lq hc;have w4:=wrap_i64 (n:=(bf L st).bQ+1) (by omega) (by omega);have q1:=dK hx hy c1;rw[cq] at q1;have qt:=uw N hx hy c1 (by omega) (bf L st) n;rw[show (aA st).ae=st.ae from rfl,an,cq] at qt;have eF:st.ae≠[]->(cr (ai T) T (qP (bf L st)) n (aA st)).2.ae≠[]:=λh=>qJ (bY T) (st:=aA st) h
 have ur:=ar (cr (ai T) T (qP (bf L st)) n (aA st)).1.1;have uc:=cM (cr (ai T) T (qP (bf L st)) n (aA st)).1.1;rw[k44] at q1;rw[kn] at qn;rw[ko] at q0 qn qt;rw[k1] at q0 qn qt;rw[kt] at q0 qn qt;generalize (cr (ai T) T (qP (bf L st)) n (aA st))=r at *;obtain⟨⟨u,lv,ok⟩,s1⟩:=r;dsimp only at *;by_cases h0:st.ae=[]
 .by_cases h1:s1.ae=[]
  .rw[bd h0] at q0;rw[fo h0,h0,dh h1] at qt;rw[fo h0] at q1;refine dy (n:=8) hE bA bD h0 h1 ?_ (bp _ _ _) rfl;rw[an];simp[w1,q0,qt,qn,q1,ur,uc,k3,k4,k5,k1,kt,kd,w4,-ak,-au,-aq,-aE,-dm,bA,bD]
  .rw[bd h0] at q0;rw[fo h0,h0,cO h1] at qt;rw[fo h0] at q1;refine eB (n:=8) hE bA bD 4 (by decide) h0 h1 ?_ (bp _ _ _) rfl;rw[an];simp[w1,q0,qt,qn,q1,ur,uc,k3,k4,k5,k1,kt,kd,w4,-ak,-au,-aq,-aE,-dm,bA,bD]
 .have h1:=eF h0;rw[a6 h0] at q0;rw[iT h0,dX h0 h1] at qt;rw[iT h0] at q1;refine di (n:=8) hE bA bD 5 (by decide) h0 h1 ?_ (bp _ _ _) rfl;rw[an];simp[w1,q0,qt,qn,q1,ur,uc,k3,k4,k5,k1,kt,kd,w4,-ak,-au,-aq,-aE,-dm,bA,bD]
end
end Go.Proofs.YtjmeonoabiliiaaGreatDoor
