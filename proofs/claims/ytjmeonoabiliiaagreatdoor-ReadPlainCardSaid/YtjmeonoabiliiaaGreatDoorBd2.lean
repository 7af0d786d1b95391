import Derived.Test.YtjmeonoabiliiaaGreatDoorAt
import Derived.Test.YtjmeonoabiliiaaGreatDoorBd1
set_option linter.all false
set_option maxHeartbeats 16000000
set_option maxRecDepth 100000
namespace Go.Proofs.YtjmeonoabiliiaaGreatDoor
open Go Sz
def j9(N:Nat):aX:=⟨37,λ|[a,b]=>(match kC a,kC b with|some x,some y=>if x.size<N/\y.size<1000000000 then some (.bool (wC x y)) else none|_,_=>none)|_=>none⟩
theorem gC(N:Nat):(j9 N).f=37:=(rfl)
theorem td(N:Nat)(x y:Tm)(h:x.size<N/\y.size<1000000000):(j9 N).S [x.aV,y.aV]=some (.bool (wC x y)):=by simp only[j9,fh,if_pos h]
theorem Mi(N:Nat)(x y:Tm)(h:N<=x.size):(j9 N).S [x.aV,y.aV]=none:=by simp only[j9,fh];rw[if_neg (by omega)]
theorem JB(n N:Nat)(us ws:List Tm)(hl:us.length=ws.length)(hN:N<=1000000000)(h1:Tm.dw us<N)(h2:Tm.dw ws<1000000000)(K M K' M':Int)(s s':List UInt8):∀(post G7 pre Oo:List Tm) (k:Nat),us=pre++post->ws=Oo++G7->pre.length=Oo.length->post.length<k->
 ∃md,gu 2 0 (bL (aH (aF (cY [j9 N]) (n+1)) (n+1) AD) wN 2 k (adx (.ptr 0 0) (.ptr 1 0) (.int .i64 pre.length)) ⟨2,[.row [.int .i64 K',.int .i64 M',.str s',.sl (ws.map Tm.aV)],.row [.int .i64 K,.int .i64 M,.str s,.sl (us.map Tm.aV)]],2,0⟩)=
   some (if oz post G7 then .exit 0 else .ret,if oz post G7 then FM 53 [] else FM 53 [(4,.bool false)],⟨2,[.row [.int .i64 K',.int .i64 M',.str s',.sl (ws.map Tm.aV)],.row [.int .i64 K,.int .i64 M,.str s,.sl (us.map Tm.aV)]],0,md⟩)
 |[],[],pre,Oo,k+1,e,e2,hp,_=>by simp at e;subst e;have h5:AV.aw (us.map Tm.aV)=0:=bF _;have h6:AV.aw (ws.map Tm.aV)=0:=bF _;exact⟨0,by simp[ak,AD,h5,h6,oY]⟩
 |[],y::G7,pre,Oo,k,e,e2,hp,_=>by rw[e,e2] at hl;simp at hl;omega
 |x::post,[],pre,Oo,k+1,e,e2,hp,_=>by rw[e,e2] at hl;simp at hl;omega
 |x::post,y::G7,pre,Oo,k+1,e,e2,hp,hk=>by
   obtain⟨md,ih⟩:=JB n N us ws hl hN h1 h2 K M K' M' s s' post G7 (pre++[x]) (Oo++[y]) k (by simp[e]) (by simp[e2]) (by simp[hp]) (by rw[List.length_cons] at hk;omega);have hlu:=ft us;have g1:us[pre.length]? =some x:=by rw[e];simp
   have g2:ws[pre.length]? =some y:=by rw[e2,hp];simp
   have h5:AV.aw (us.map Tm.aV)=0:=bF _;have h5w:AV.aw (ws.map Tm.aV)=0:=bF _;have EN:pre.length<us.length:=by rw[e];simp
   have h6:((pre.length:Int)<(us.length:Int))=True:=eq_true (by omega);have h3:IntKind.i64.wrap ((pre.length:Int)+1)=(pre.length:Int)+1:=wrap_i64 (by omega) (by omega);have iI:=Tm.dj x;have fA:=Tm.dx x;have gm:=ay x;have WX:=Tm.dj y;have jX:=Tm.dx y;have SJ:=ay y;have hs:=td N x y ⟨by have:=nt (us:=us) (y:=x) (by rw[e];simp);omega,by have:=nt (us:=ws) (y:=y) (by rw[e2];simp);omega⟩;rw[iI,fA,WX,jX] at hs;simp only[List.length_append,List.length_cons,List.length_nil,Nat.zero_add] at ih;rw[show ((pre.length+1:Nat):Int)=(pre.length:Int)+1 by omega] at ih;rw[ak,ti]
   cases WZ:wC x y with
   |false=>rw[WZ] at hs;exact⟨0,by simp[AD,g1,g2,h5,h5w,h6,iI,fA,gm,WX,jX,SJ,hs,bc,gC]⟩
   |true=>rw[WZ] at hs;refine⟨md,?_⟩;simp[AD,wN,g1,g2,h3,h5,h5w,h6,iI,fA,gm,WX,jX,SJ,hs,bc,gC];exact ih
theorem HC(N:Nat)(hN:N<=1000000000)(hp:aY Tryz.prog (j9 N)):aY Tryz.prog (j9 (N+1)):=λag v hv=>by
 unfold j9 at hv;dsimp only at hv;split at hv
 .rename_i a b;split at hv
  .rename_i x y ha hb;split at hv
   .rename_i hc;rcases Nat.lt_or_ge x.size N with cR|hge
    .refine hp _ _ ?_;rw[eI ha,eI hb,td N x y ⟨cR,hc.2⟩];exact hv
    cases hv;rw[gC,eI ha,eI hb];have jm:=Mi N x y hge;have s1:=gQ x;have s2:=gQ y;refine bG (n:=x.size+5) (h':=h0) (bA (ss:=[j9 N]) (by simp[hp])) ?_ rfl (by simp[AV.aw,Tm.cm]);have iI:=Tm.dj x;have fA:=Tm.dx x;have gm:=ay x;have WX:=Tm.dj y;have jX:=Tm.dx y;have SJ:=ay y;have aN:=zt x;have aP:=zt y;rw[xR];rw[iI,fA,WX,jX] at jm|-;by_cases c1:x.au=y.au
    .rw[c1] at jm|-;by_cases c2:x.cF=y.cF
     .rw[c2] at jm|-
      cases c3:x.bH==y.bH with
      |true=>
        by_cases c4:x.ag.length=y.ag.length
        .have hls:=ft x.ag;by_cases fy:x.ag=[]
         .have hw:y.ag=[]:=List.eq_nil_of_length_eq_zero (by rw[fy] at c4;simpa using c4.symm);rw[fy,hw]
          have a1:x.ca=.aJ\/x.ca=.sl []:=by
           cases x with
           |nl k n s=>exact .inl rfl
           |mk k n s us=>simp only[Tm.ag] at fy;subst fy;exact .inr rfl
          have a2:y.ca=.aJ\/y.ca=.sl []:=by
           cases y with
           |nl k n s=>exact .inl rfl
           |mk k n s us=>simp only[Tm.ag] at hw;subst hw;exact .inr rfl
          rcases a1 with a1|a1<;>rcases a2 with a2|a2<;>rw[a1,a2] at jm|-<;>simp[EG,c37,wN,AD,ak,c1,c2,c3,jm,gC,oY,bc]
         .have a1:x.ca=.sl (x.ag.map Tm.aV):=by
           cases x with
           |nl k n s=>exact absurd rfl fy
           |mk k n s us=>rfl
          have a2:y.ca=.sl (y.ag.map Tm.aV):=by
           cases y with
           |nl k n s=>exact absurd (List.eq_nil_of_length_eq_zero (by simpa[Tm.ag] using c4)) fy
           |mk k n s us=>rfl
          have h5:=bF x.ag;have h6:=bF y.ag;have Fs:((x.ag.length:Int)=(y.ag.length:Int))=True:=eq_true (by omega);obtain⟨md,lp⟩:=JB (x.size+3) N x.ag y.ag c4 hN (by omega) (by omega) y.au y.cF y.au y.cF x.bH y.bH x.ag y.ag [] [] (x.size+4) rfl rfl rfl (by omega);simp only[List.length_nil,wN,show ((0:Nat):Int)=0 from rfl] at lp;rw[a1,a2] at jm|-
          cases WZ:oz x.ag y.ag with
          |true=>rw[WZ] at lp;simp only[if_true] at lp;simp[EG,c37,wN,c1,c2,c3,Fs,h5,h6,jm,lp,gC]
          |false=>rw[WZ] at lp;simp only[Bool.false_eq_true,if_false] at lp;simp[EG,c37,wN,c1,c2,c3,Fs,h5,h6,jm,lp,gC]
        .have Fs:((x.ag.length:Int)=(y.ag.length:Int))=False:=eq_false (by omega);simp[EG,c37,c1,c2,c3,Fs,gm,SJ,aN,aP,jm,gC,bc,GY _ _ c4]
      |false=>simp[EG,c37,c1,c2,c3,gm,SJ,jm,gC,bc]
     .simp[EG,c37,c1,c2,gm,SJ,jm,gC,bc]
    .simp[EG,c37,c1,gm,SJ,jm,gC,bc]
   .cases hv
  .cases hv
 .cases hv
theorem IM:aY Tryz.prog (j9 0):=λag v hv=>by
 unfold j9 at hv;dsimp only at hv;split at hv
 .split at hv
  .split at hv
   .rename_i hc;omega
   .cases hv
  .cases hv
 .cases hv
theorem Bi:∀N,N<=1000000001->aY Tryz.prog (j9 N)
 |0,_=>IM
 |N+1,h=>HC N (by omega) (Bi N (by omega))
mutual
def kh:Tm->Int->Int
 |.nl ..,_=>1
 |.mk _ _ _ us,m=>jk us m 1
def jk:List Tm->Int->Int->Int
 |[],_,n=>n
 |x::r,m,n=>if n<=m then jk r m (n+kh x (m-n)) else n
end
theorem Nl(t:Tm)(m:Int):kh t m=jk t.ag m 1:=by cases t<;>simp[kh,jk,Tm.ag]
mutual
theorem AO:∀(t:Tm) (m:Int),1<=kh t m/\kh t m<=t.size
 |.nl ..,m=>by simp[kh,Tm.size]
 |.mk _ _ _ us,m=>by have:=xz us m 1;simp only[kh,Tm.size];omega
theorem xz:∀(us:List Tm) (m n:Int),n<=jk us m n/\jk us m n<=n+Tm.dw us
 |[],m,n=>by simp[jk,Tm.dw]
 |x::r,m,n=>by have h1:=AO x (m-n);have h2:=xz r m (n+kh x (m-n));simp only[jk,Tm.dw];split<;>omega
end
mutual
theorem Gf:∀(t:Tm) (m:Int),0<=m->(((t.size:Int)<=m->kh t m=t.size)/\(m<t.size->m<kh t m))
 |.nl ..,m,h=>by simp[kh,Tm.size]
 |.mk _ _ _ us,m,h=>by
   have:=DZ us m 1 h (by omega);simp only[kh,Tm.size];constructor
   .intro h1;have:=this.1 (by omega);omega
   .intro h1;exact this.2 (by omega)
theorem DZ:∀(us:List Tm) (m n:Int),0<=m->1<=n->((n+Tm.dw us<=m->jk us m n=n+Tm.dw us)/\(m<n+Tm.dw us->m<jk us m n))
 |[],m,n,_,_=>by simp[jk,Tm.dw]
 |x::r,m,n,h,hn=>by
   simp only[jk,Tm.dw];have b1:=AO x (m-n);split
   .have h1:=Gf x (m-n) (by omega);have h2:=DZ r m (n+kh x (m-n)) h (by omega);have h3:=xz r m (n+kh x (m-n));constructor
    .intro g;have e:=h1.1 (by omega);have:=h2.1 (by omega);omega
    .intro g;by_cases c:(x.size:Int)<=m-n
     .have e:=h1.1 c;exact h2.2 (by omega)
     .have e:=h1.2 (by omega);omega
   .constructor<;>intro g<;>omega
end
def ke(N:Nat):aX:=⟨90,λ|[v,.int .i64 m]=>(match kC v with|some t=>if t.size<N/\0<=m/\m<=2000 then some (.int .i64 (kh t m)) else none|none=>none)|_=>none⟩
theorem oT(N:Nat):(ke N).f=90:=(rfl)
theorem xj(N:Nat)(x:Tm)(m:Int)(h:x.size<N/\0<=m/\m<=2000):(ke N).S [x.aV,.int .i64 m]=some (.int .i64 (kh x m)):=by simp only[ke,fh,if_pos h]
theorem Na(N:Nat)(x:Tm)(m:Int)(h:N<=x.size):(ke N).S [x.aV,.int .i64 m]=none:=by simp only[ke,fh];rw[if_neg (by omega)]
theorem Kk(n N:Nat)(us:List Tm)(hN:N<=1000000000)(h1:Tm.dw us<N)(m:Int)(hm:0<=m/\m<=2000)(K M:Int)(s:List UInt8):∀(post pre:List Tm) (k:Nat) (q:Int),us=pre++post->post.length<k->1<=q->q+Tm.dw post<=1000000000->
 ∃md,gu 1 0 (bL (aH (aF (cY [ke N]) (n+1)) (n+1) AW) zO 1 k (acL (.int .i64 m) (.ptr 0 0) (.int .i64 q) (.int .i64 pre.length)) ⟨1,[.row [.int .i64 K,.int .i64 M,.str s,.sl (us.map Tm.aV)]],1,0⟩)=
   some (.exit 0,FM 31 [(5,.int .i64 (jk post m q))],⟨1,[.row [.int .i64 K,.int .i64 M,.str s,.sl (us.map Tm.aV)]],0,md⟩)
 |[],pre,k+1,q,e,_,_,_=>by simp at e;subst e;have h5:AV.aw (us.map Tm.aV)=0:=bF _;exact⟨0,by simp[ak,AW,h5,jk]⟩
 |x::post,pre,k+1,q,e,hk,hq,hql=>by
   have hlu:=ft us;have g1:us[pre.length]? =some x:=by rw[e];simp
   have h5:AV.aw (us.map Tm.aV)=0:=bF _;have EN:pre.length<us.length:=by rw[e];simp
   have h6:((pre.length:Int)<(us.length:Int))=True:=eq_true (by omega);have h3:IntKind.i64.wrap ((pre.length:Int)+1)=(pre.length:Int)+1:=wrap_i64 (by omega) (by omega);have iI:=Tm.dj x;have fA:=Tm.dx x;have gm:=ay x;by_cases c:q<=m
   .have WJ:x.size<N:=by have:=nt (us:=us) (y:=x) (by rw[e];simp);omega
    have hs:=xj N x (m-q) ⟨WJ,by omega,by omega⟩;have hb:=AO x (m-q);simp only[Tm.dw] at hql;have w1:IntKind.i64.wrap (m-q)=m-q:=wrap_i64 (by omega) (by omega);have w2:IntKind.i64.wrap (q+kh x (m-q))=q+kh x (m-q):=wrap_i64 (by omega) (by omega);obtain⟨md,ih⟩:=Kk n N us hN h1 m hm K M s post (pre++[x]) k (q+kh x (m-q)) (by simp[e]) (by rw[List.length_cons] at hk;omega) (by omega) (by omega);simp only[List.length_append,List.length_cons,List.length_nil,Nat.zero_add] at ih;rw[show ((pre.length+1:Nat):Int)=(pre.length:Int)+1 by omega] at ih
    have hsd:jk (x::post) m q=jk post m (q+kh x (m-q)):=by rw[jk,if_pos c]
    rw[hsd,ak];rw[iI,fA] at hs;generalize kh x (m-q)=z at *;refine⟨md,?_⟩;simp[AW,zO,g1,h3,h5,h6,c,iI,fA,gm,hs,w1,w2,bc,oT];exact ih
   .have hsd:jk (x::post) m q=q:=by
     rw[jk,if_neg c]
    rw[hsd,ak];exact⟨0,by simp[AW,h5,h6,c]⟩
theorem HB(N:Nat)(hN:N<=1000000000)(hp:aY Tryz.prog (ke N)):aY Tryz.prog (ke (N+1)):=λag v hv=>by
 unfold ke at hv;dsimp only at hv;split at hv
 .rename_i a m;split at hv
  .rename_i x ha;split at hv
   .rename_i hc;rcases Nat.lt_or_ge x.size N with cR|hge
    .refine hp _ _ ?_;rw[eI ha,xj N x m ⟨cR,hc.2⟩];exact hv
    cases hv;rw[oT,eI ha];have jm:=Na N x m hge;have s1:=gQ x;have hla:=ft x.ag;refine bG (n:=x.size+5) (h':=h0) (bA (ss:=[ke N]) (by simp[hp])) ?_ rfl (by simp[AV.aw,AV.aK,Tm.cm]);have iI:=Tm.dj x;have fA:=Tm.dx x;rw[Nl];rw[iI,fA] at jm|-;obtain⟨md,lp⟩:=Kk (x.size+3) N x.ag hN (by omega) m hc.2 x.au x.cF x.bH x.ag [] (x.size+4) 1 rfl (by omega) (by omega) (by omega);simp only[List.length_nil,zO,show ((0:Nat):Int)=0 from rfl] at lp;have h5:=bF x.ag
    cases x with
    |nl kk nn ss=>simp only[Tm.ca,Tm.au,Tm.cF,Tm.bH,Tm.ag] at jm|-;simp[aaJ,c90,zO,AW,ak,jm,oT,jk]
    |mk kk nn ss us=>simp only[Tm.ca,Tm.au,Tm.cF,Tm.bH,Tm.ag] at jm lp h5|-;simp[aaJ,c90,zO,jm,h5,lp,oT]
   .cases hv
  .cases hv
 .cases hv
theorem Hh:aY Tryz.prog (ke 0):=λag v hv=>by
 unfold ke at hv;dsimp only at hv;split at hv
 .split at hv
  .split at hv
   .rename_i hc;omega
   .cases hv
  .cases hv
 .cases hv
theorem Bt:∀N,N<=1000000001->aY Tryz.prog (ke N)
 |0,_=>Hh
 |N+1,h=>HB N (by omega) (Bt N (by omega))
def n7(m d:Nat):List Tm->Nat
 |[]=>d
 |x::r=>n7 m (max d (min x.gz m)) r
theorem Fw(m:Nat):∀(us:List Tm) (d:Nat),d<=m->n7 m d us=min (max d (Tm.qz us)) m
 |[],d,h=>by simp[n7,Tm.qz];omega
 |x::r,d,h=>by simp only[n7,Tm.qz];rw[Fw m r _ (by omega)];omega
def iz(m:Nat):aX:=⟨91,λ|[v,.int .i64 n]=>(match kC v with|some t=>if n=m/\t.size<1000000000 then some (.int .i64 (min t.gz (m+1):Nat)) else none|none=>none)|_=>none⟩
theorem lW(m:Nat):(iz m).f=91:=(rfl)
theorem Bs(m:Nat)(t:Tm)(h:t.size<1000000000):(iz m).S [t.aV,.int .i64 (m:Nat)]=some (.int .i64 (min t.gz (m+1):Nat)):=by simp only[iz,fh];exact if_pos ⟨trivial,h⟩
theorem Je(m k:Nat)(v:AV)(h:k≠m):(iz m).S [v,.int .i64 (k:Nat)]=none:=by
 simp only[iz];split
 .rw[if_neg (by omega)]
 .rfl
theorem K4(n m:Nat)(hm:m<=100)(K M:Int)(s:List UInt8)(us:List Tm)(hs:Tm.dw us<1000000000):∀(post pre:List Tm) (k d:Nat),us=pre++post->post.length<k->d<=m+1->
 ∃md,gu 1 0 (bL (aH (aF (cY [iz m]) (n+1)) (n+1) DW) Au 1 k (abN (.int .i64 ((m:Int)+1)) (.ptr 0 0) (.int .i64 d) (.int .i64 pre.length)) ⟨1,[.row [.int .i64 K,.int .i64 M,.str s,.sl (us.map Tm.aV)]],1,0⟩)=
   some (.exit 0,FM 31 [(5,.int .i64 (n7 (m+1) d post:Nat))],⟨1,[.row [.int .i64 K,.int .i64 M,.str s,.sl (us.map Tm.aV)]],0,md⟩)
 |[],pre,k+1,d,e,_,_=>by simp at e;subst e;have h5:AV.aw (us.map Tm.aV)=0:=bF _;exact⟨0,by simp[ak,DW,h5,n7]⟩
 |x::post,pre,k+1,d,e,hk,hd=>by
   have hlu:=ft us;have h1:us[pre.length]? =some x:=by rw[e];simp
   have h5:AV.aw (us.map Tm.aV)=0:=bF _;have EN:pre.length<us.length:=by rw[e];simp
   have h6:((pre.length:Int)<(us.length:Int))=True:=eq_true (by omega);have h3:IntKind.i64.wrap ((pre.length:Int)+1)=(pre.length:Int)+1:=wrap_i64 (by omega) (by omega);have iI:=Tm.dj x;have jn:=Tm.dx x;have gm:=ay x
   have WJ:x.size<1000000000:=by have:=nt (us:=us) (y:=x) (by rw[e];simp);omega
   have w1:IntKind.i64.wrap ((m:Int)+1-1)=(m:Int):=by rw[wrap_i64 (by omega) (by omega)];omega
   have w1':IntKind.i64.wrap (m:Int)=(m:Int):=by rw[wrap_i64 (by omega) (by omega)]
   have hc:=Bs m x WJ;rw[iI,jn] at hc;obtain⟨md,ih⟩:=K4 n m hm K M s us hs post (pre++[x]) k (max d (min x.gz (m+1))) (by simp[e]) (by rw[List.length_cons] at hk;omega) (by omega);refine⟨md,?_⟩;simp only[List.length_append,List.length_cons,List.length_nil,Nat.zero_add] at ih;rw[show ((pre.length+1:Nat):Int)=(pre.length:Int)+1 by omega] at ih;rw[ak];rw[n7];generalize min x.gz (m+1)=q at hc ih|-;by_cases hq:d<q;have hq':((d:Int)<(q:Int))=True:=eq_true (by omega);rw[show max d q=q by omega] at ih|-
   rotate_left
   have hq':((d:Int)<(q:Int))=False:=eq_false (by omega);rw[show max d q=d by omega] at ih|-
   rotate_left
   all_goals
    simp[DW,Au,h1,h3,h5,h6,iI,jn,gm,w1,w1',hc,hq',bc,lW];exact ih
theorem Fc(m:Nat)(hm:m<100)(hp:aY Tryz.prog (iz m)):aY Tryz.prog (iz (m+1)):=λag v hv=>by
 unfold iz at hv;dsimp only at hv;split at hv
 .rename_i x n;split at hv
  .rename_i t ht;split at hv
   .rename_i hc;obtain⟨rfl,hs⟩:=hc;cases hv;rw[eI ht];have jm:=Je m (m+1) t.aV (by omega);refine bG (n:=t.size+5) (h':=h0) (bA (ss:=[iz m]) (by simp[hp])) ?_ rfl (by simp[AV.aw,AV.aK,Tm.cm]);rw[lW];have iI:=Tm.dj t;have jn:=Tm.dx t;have kU:=gQ t;have hla:=ft t.ag;have hde:=w9 t;have hfe:=Fw (m+1) t.ag 0 (by omega);obtain⟨md,lp⟩:=K4 (t.size+3) m (by omega) t.au t.cF t.bH t.ag (by omega) t.ag [] (t.size+4) 0 rfl (by omega) (by omega);simp only[List.length_nil,show ((0:Nat):Int)=0 from rfl,Au] at lp;have hz:((min t.gz (m+1+1):Nat):Int)=(n7 (m+1) 0 t.ag:Int)+1:=by omega
    rw[hz];have w2:IntKind.i64.wrap ((n7 (m+1) 0 t.ag:Int)+1)=(n7 (m+1) 0 t.ag:Int)+1:=wrap_i64 (by omega) (by omega);rw[iI,jn] at jm|-;have nH:((m:Int)+1<=0)=False:=eq_false (by omega);simp only[Int.natCast_add,Int.natCast_one] at jm;have h5:=bF t.ag
    cases t with
    |nl kk nn ss=>simp only[Tm.ca,Tm.au,Tm.cF,Tm.bH,Tm.ag] at jm w2|-;simp[n7] at w2;simp[T1,c91,Au,DW,ak,jm,nH,lW,n7,w2]
    |mk kk nn ss us=>simp only[Tm.ca,Tm.au,Tm.cF,Tm.bH,Tm.ag] at jm lp h5 w2|-;simp[T1,c91,Au,jm,nH,h5,lp,lW,w2]
   .cases hv
  .cases hv
 .cases hv
theorem Rc(t:Tm):1<=t.gz:=by have:=w9 t;omega
theorem E4:aY Tryz.prog (iz 0):=λag v hv=>by
 unfold iz at hv;dsimp only at hv;split at hv
 .rename_i x n;split at hv
  .rename_i t ht;split at hv
   .rename_i hc;obtain⟨rfl,hs⟩:=hc;cases hv;rw[eI ht];refine bG (n:=5) (h':=h0) (bA (ss:=[]) (by simp)) ?_ rfl (by simp[AV.aw,AV.aK,Tm.cm]);rw[lW];have iI:=Tm.dj t;have jn:=Tm.dx t;have gm:=ay t;have hd:=Rc t;rw[show min t.gz (0+1)=1 by omega];rw[iI,jn];simp[T1,c91,gm]
   .cases hv
  .cases hv
 .cases hv
theorem x6:∀m,m<=100->aY Tryz.prog (iz m)
 |0,_=>E4
 |m+1,h=>Fc m (by omega) (x6 m (by omega))
def iS(N:Nat):aX:=⟨92,λ|[v]=>(match kC v with|some t=>if t.size<N/\t.ig<1000000000 then some (.bool (t.sj og)) else none|none=>none)|_=>none⟩
theorem eE(N:Nat):(iS N).f=92:=(rfl)
theorem xm(N:Nat)(x:Tm)(h:x.size<N/\x.ig<1000000000):(iS N).S [x.aV]=some (.bool (x.sj og)):=by simp only[iS,fh,if_pos h]
theorem N1(N:Nat)(x:Tm)(h:N<=x.size):(iS N).S [x.aV]=none:=by simp only[iS,fh];rw[if_neg (by omega)]
theorem FB(C:Nat->List AV->ai->Option (AV×ai))(n:Nat)(s:List UInt8)(hs:s.length<4611686018427387904)(K M:Int)(A:AV)(hA:A.aK=0):∀post pre m,s=pre++post->post.length<m->
 gu 1 0 (bL (aH C n uz) oj 1 m (acx (.ptr 0 0) (.int .i64 pre.length)) ⟨1,[.row [.int .i64 K,.int .i64 M,.str s,A]],1,0⟩)=
  some (if mI post then .exit 1 else .ret,if mI post then FM 96 [(1,.ptr 0 0)] else FM 96 [(2,.bool false)],⟨1,[.row [.int .i64 K,.int .i64 M,.str s,A]],0,0⟩)
 |[],pre,m+1,e,_=>by simp at e;subst e;simp[ak,uz,mI,hA]
 |c::post,pre,m+1,e,hm=>by
   have ih:=FB C n s hs K M A hA post (pre++[c]) m (by simp[e]) (by rw[List.length_cons] at hm;omega);have h1:s[pre.length]? =some c:=by rw[e];simp
   have h3:IntKind.i64.wrap ((pre.length:Int)+1)=(pre.length:Int)+1:=by rw[mm (by rw[e] at hs;simp at hs;omega)];simp
   have h6:((pre.length:Int)<(s.length:Int))=True:=eq_true (by rw[e,List.length_append,List.length_cons];omega);simp only[List.length_append,List.length_cons,List.length_nil,Nat.zero_add,Int.natCast_add,Int.natCast_one] at ih;have ho:Qu c=!((decide (c.toNat<32)||decide (126<c.toNat))&&decide (c.toNat≠9)&&decide (c.toNat≠10)):=rfl;rw[ak];by_cases a3:c.toNat=9
   .have b3:((c.toNat:Int)=9)=True:=eq_true (by omega);have ho:Qu c=true:=by rw[ho];simp[a3]
    simp[uz,oj,h1,h3,h6,b3,mI,ho,hA];exact ih
   .have b3:((c.toNat:Int)=9)=False:=eq_false (by omega);by_cases a4:c.toNat=10
    .have b4:((c.toNat:Int)=10)=True:=eq_true (by omega);have ho:Qu c=true:=by rw[ho];simp[a4]
     simp[uz,oj,h1,h3,h6,b3,b4,mI,ho,hA];exact ih
    .have b4:((c.toNat:Int)=10)=False:=eq_false (by omega);by_cases a1:c.toNat<32
     .have b1:((c.toNat:Int)<32)=True:=eq_true (by omega);have ho:Qu c=false:=by rw[ho];simp[a1,a3,a4]
      simp[uz,oj,h1,h3,h6,b1,b3,b4,mI,ho,hA]
     .have b1:((c.toNat:Int)<32)=False:=eq_false (by omega);by_cases a2:126<c.toNat
      .have b2:(126<(c.toNat:Int))=True:=eq_true (by omega);have ho:Qu c=false:=by rw[ho];simp[a1,a2,a3,a4]
       simp[uz,oj,h1,h3,h6,b1,b2,b3,b4,mI,ho,hA]
      .have b2:(126<(c.toNat:Int))=False:=eq_false (by omega);have ho:Qu c=true:=by rw[ho];simp[a1,a2]
       simp[uz,oj,h1,h3,h6,b1,b2,b3,b4,mI,ho,hA];exact ih
theorem UC{us:List Tm}{y:Tm}(h:y∈us):y.ig<=Tm.hI us:=Dl us y h
theorem Gm(n N:Nat)(us:List Tm)(hN:N<=1000000000)(h1:Tm.dw us<N)(h2:Tm.hI us<1000000000)(K M:Int)(s:List UInt8):∀(post pre:List Tm) (k:Nat),us=pre++post->post.length<k->
 ∃md,gu 1 0 (bL (aH (aF (cY [iS N]) (n+1)) (n+1) xB) qB 1 k (Us (.ptr 0 0) (.int .i64 pre.length)) ⟨1,[.row [.int .i64 K,.int .i64 M,.str s,.sl (us.map Tm.aV)]],1,0⟩)=
   some (if Tm.iR og post then .exit 3 else .ret,if Tm.iR og post then FM 96 [] else FM 96 [(2,.bool false)],⟨1,[.row [.int .i64 K,.int .i64 M,.str s,.sl (us.map Tm.aV)]],0,md⟩)
 |[],pre,k+1,e,_=>by simp at e;subst e;have h5:AV.aw (us.map Tm.aV)=0:=bF _;exact⟨0,by simp[ak,xB,h5,Tm.iR]⟩
 |x::post,pre,k+1,e,hk=>by
   have hlu:=ft us;have g1:us[pre.length]? =some x:=by rw[e];simp
   have h5:AV.aw (us.map Tm.aV)=0:=bF _;have EN:pre.length<us.length:=by rw[e];simp
   have h6:((pre.length:Int)<(us.length:Int))=True:=eq_true (by omega);have h3:IntKind.i64.wrap ((pre.length:Int)+1)=(pre.length:Int)+1:=wrap_i64 (by omega) (by omega);have iI:=Tm.dj x;have fA:=Tm.dx x;have gm:=ay x;have hx:x∈us:=by rw[e];simp
   have hs:=xm N x ⟨by have:=nt hx;omega,by have:=UC hx;omega⟩;obtain⟨md,ih⟩:=Gm n N us hN h1 h2 K M s post (pre++[x]) k (by simp[e]) (by rw[List.length_cons] at hk;omega);simp only[List.length_append,List.length_cons,List.length_nil,Nat.zero_add] at ih;rw[show ((pre.length+1:Nat):Int)=(pre.length:Int)+1 by omega] at ih;rw[ak];rw[show Tm.iR og (x::post)=(x.sj og&&Tm.iR og post) by simp[Tm.iR]];rw[iI,fA] at hs
   cases ha:x.sj og with
   |false=>rw[ha] at hs;exact⟨0,by simp[xB,qB,g1,h3,h5,h6,iI,fA,gm,hs,bc,eE]⟩
   |true=>rw[ha] at hs;refine⟨md,?_⟩;simp[xB,qB,g1,h3,h5,h6,iI,fA,gm,hs,bc,eE];exact ih
theorem NC(C:Nat->List AV->ai->Option (AV×ai))(n k:Nat)(K M:Int)(s:List UInt8):gu 1 0 (bL (aH C n xB) qB 1 (k+1) (Us (.ptr 0 0) (.int .i64 0)) ⟨1,[.row [.int .i64 K,.int .i64 M,.str s,.aJ]],1,0⟩)=
 some (.exit 3,FM 96 [],⟨1,[.row [.int .i64 K,.int .i64 M,.str s,.aJ]],0,0⟩):=by
 simp[ak,xB]
theorem H0(N:Nat)(hN:N<=1000000000)(hp:aY Tryz.prog (iS N)):aY Tryz.prog (iS (N+1)):=λag v hv=>by
 unfold iS at hv;dsimp only at hv;split at hv
 .rename_i a;split at hv
  .rename_i x ha;split at hv
   .rename_i hc;rcases Nat.lt_or_ge x.size N with cR|hge
    .refine hp _ _ ?_;rw[eI ha,xm N x ⟨cR,hc.2⟩];exact hv
    cases hv;rw[eE,eI ha];have jm:=N1 N x hge;have s1:=gQ x;have b1:=AN x;have hla:=ft x.ag;refine bG (n:=x.ig+9) (h':=h0) (bA (ss:=[iS N]) (by simp[hp])) ?_ rfl (by simp[AV.aw,AV.aK,Tm.cm]);have iI:=Tm.dj x;have fA:=Tm.dx x;have hl:=zt x;have hr:=ay x;have Qh:=rk x;rw[Aq]
    have aaf:og x=if x.au=0 then decide (0<=x.cF)&&decide (x.cF<=2147483647)&&decide (x.bH=[])&&decide (x.ag.length=0)
     else if x.au=1 then decide (x.bH=[])&&decide (x.ag.length=0)
     else if x.au=2 then decide (x.cF=0)&&oe x.bH&&decide (x.ag.length<=8)
     else false:=rfl
    rw[aaf];rw[iI,fA] at jm|-;by_cases k0:x.au=0
    .rw[k0] at jm|-;by_cases c1:0<=x.cF
     .by_cases c2:x.cF<2147483648
      .have G8:(x.cF<=2147483647)=True:=eq_true (by omega)
       cases lV:x.bH with
       |nil=>
         rw[lV] at jm;by_cases c4:x.ag.length=0
         .have Fs:((x.ag.length:Int)=0)=True:=eq_true (by omega);have c5:x.ag=[]:=List.eq_nil_of_length_eq_zero c4;simp[oy,Hs,jm,c1,c2,G8,c4,Fs,c5,hl,hr,bc,eE,Tm.iR]
         .have Fs:((x.ag.length:Int)=0)=False:=eq_false (by omega);have c5:(x.ag=[])=False:=eq_false (λh=>c4 (by rw[h];rfl));simp[oy,Hs,jm,c1,c2,G8,c4,Fs,c5,hl,hr,bc,eE]
       |cons c r=>rw[lV] at jm;simp[oy,Hs,jm,c1,c2,G8,hl,hr,bc,eE]
      .have G8:(x.cF<=2147483647)=False:=eq_false (by omega);simp[oy,Hs,jm,c1,c2,G8,hl,hr,bc,eE]
     .simp[oy,Hs,jm,c1,hl,hr,bc,eE]
    .by_cases k1:x.au=1
     .rw[k1] at jm|-
      cases lV:x.bH with
      |nil=>
        rw[lV] at jm;by_cases c4:x.ag.length=0
        .have Fs:((x.ag.length:Int)=0)=True:=eq_true (by omega);have c5:x.ag=[]:=List.eq_nil_of_length_eq_zero c4;simp[oy,Hs,jm,c4,Fs,c5,hl,hr,bc,eE,Tm.iR]
        .have Fs:((x.ag.length:Int)=0)=False:=eq_false (by omega);have c5:(x.ag=[])=False:=eq_false (λh=>c4 (by rw[h];rfl));simp[oy,Hs,jm,c4,Fs,c5,hl,hr,bc,eE]
      |cons c r=>rw[lV] at jm;simp[oy,Hs,jm,hl,hr,bc,eE]
     .by_cases k2:x.au=2
      .rw[k2] at jm|-;by_cases c1:x.cF=0
       .rw[c1] at jm|-;by_cases c2:x.bH.length<=64
        .have G8:((64:Int)<(x.bH.length:Int))=False:=eq_false (by omega);by_cases c3:x.ag.length<=8
         .have c3':((8:Int)<(x.ag.length:Int))=False:=eq_false (by omega);have lp0:=FB (aF (cY [iS N]) (x.ig+8)) (x.ig+8) x.bH (by omega) 2 0 x.ca hr x.bH [] (x.ig+8) rfl (by omega);simp only[List.length_nil,oj,show ((0:Nat):Int)=0 from rfl] at lp0
          cases hao:mI x.bH with
          |false=>
            rw[hao] at lp0;simp only[Bool.false_eq_true,if_false] at lp0;have Xs:oe x.bH=false:=by simp[oe,hao]
            simp[oy,Hs,oj,jm,G8,c3',Xs,hl,hr,lp0,bc,eE]
          |true=>
            rw[hao] at lp0;simp only[if_true] at lp0;have Xs:oe x.bH=true:=by simp[oe,hao,c2]
            cases x with
            |nl kk nn ss=>simp only[Tm.ca,Tm.au,Tm.cF,Tm.bH,Tm.ag] at *;have Qj:=NC (aF (cY [iS N]) ((Tm.nl kk nn ss).ig+8)) ((Tm.nl kk nn ss).ig+8) ((Tm.nl kk nn ss).ig+7) 2 0 ss;simp only[qB] at Qj;simp[oy,Hs,oj,qB,jm,G8,Xs,lp0,Qj,eE,Tm.iR]
            |mk kk nn ss us=>
              simp only[Tm.ca,Tm.au,Tm.cF,Tm.bH,Tm.ag] at *;have h5:=bF us;obtain⟨md1,Qj⟩:=Gm ((Tm.mk kk nn ss us).ig+7) N us hN (by omega) (by omega) 2 0 ss us [] ((Tm.mk kk nn ss us).ig+8) rfl (by omega);simp only[List.length_nil,qB,show ((0:Nat):Int)=0 from rfl] at Qj
              cases LO:Tm.iR og us with
              |false=>rw[LO] at Qj;simp only[Bool.false_eq_true,if_false] at Qj;simp[oy,Hs,oj,qB,jm,G8,c3',Xs,h5,lp0,Qj,eE,c3,LO]
              |true=>rw[LO] at Qj;simp only[if_true] at Qj;simp[oy,Hs,oj,qB,jm,G8,c3',Xs,h5,lp0,Qj,eE,c3,LO]
         .have c3':((8:Int)<(x.ag.length:Int))=True:=eq_true (by omega);simp[oy,Hs,jm,G8,c3',c3,hl,hr,bc,eE]
        .have G8:((64:Int)<(x.bH.length:Int))=True:=eq_true (by omega);have Xs:oe x.bH=false:=by simp[oe,c2]
         simp[oy,Hs,jm,G8,Xs,hl,hr,bc,eE]
       .simp[oy,Hs,jm,c1,hl,hr,bc,eE]
      .simp[oy,Hs,jm,k0,k1,k2,hl,hr,bc,eE]
   .cases hv
  .cases hv
 .cases hv
theorem Hb:aY Tryz.prog (iS 0):=λag v hv=>by
 unfold iS at hv;dsimp only at hv;split at hv
 .split at hv
  .split at hv
   .rename_i hc;omega
   .cases hv
  .cases hv
 .cases hv
theorem Bj:∀N,N<=1000000001->aY Tryz.prog (iS N)
 |0,_=>Hb
 |N+1,h=>H0 N (by omega) (Bj N (by omega))
def xk:aX:=⟨52,λ|[v]=>(match kC v with|some t=>if t.ig<1000000000 then some (.bool (fH t)) else none|none=>none)|_=>none⟩
theorem DO:xk.f=52:=(rfl)
theorem vD(t:Tm)(h:t.ig<1000000000):xk.S [t.aV]=some (.bool (fH t)):=by simp only[xk,fh,if_pos h]
theorem GS:aY Tryz.prog xk:=λag v hv=>by
 unfold xk at hv|-;dsimp only at hv|-;split at hv
 .rename_i x;split at hv
  .rename_i t ht;split at hv
   .rename_i hl;cases hv;rw[eI ht];refine bG (n:=5) (h':=h0) (bA (ss:=[ke 1000000000,iz 64,iS 1000000000]) (by simp[Bt 1000000000 (by omega),x6 64 (by omega),Bj 1000000000 (by omega)])) ?_ rfl (by simp[AV.aw,Tm.cm]);have Qh:=rk t;have c1:=xj 1000000000 t 2000 ⟨by omega,by omega,by omega⟩;have c2:=Bs 64 t (by omega);have c3:=xm 1000000000 t ⟨by omega,hl⟩;have hlw:=Gf t 2000 (by omega);have iI:=Tm.dj t;have jn:=Tm.dx t;have gm:=ay t;rw[show ((64:Nat):Int)=64 from rfl] at c2;unfold fH;rw[iI,jn] at c1 c2 c3|-;by_cases d1:t.size<=2000
    .have e1:=hlw.1 (by omega);have d1':(kh t 2000<=2000)=True:=eq_true (by omega);by_cases d2:t.gz<=64;have d2':(((min t.gz (64+1):Nat):Int)<=64)=True:=eq_true (by omega)
     rotate_left
     have d2':(((min t.gz (64+1):Nat):Int)<=64)=False:=eq_false (by omega)
     rotate_left
     all_goals
      generalize kh t 2000=z at *;generalize min t.gz (64+1)=y at *;simp[aaG,c52,c1,c2,c3,gm,d1,d2,d1',d2',bc,oT,lW,eE]
    .have e1:=hlw.2 (by omega);have d1':(kh t 2000<=2000)=False:=eq_false (by omega);simp[aaG,c52,c1,c2,c3,gm,d1,d1',bc,oT,lW,eE]
   .cases hv
  .cases hv
 .cases hv
theorem Dh:∀(us:List Tm) (x t:Tm),dm (us++[x]) t=dm us (.mk 2 0 [46] [x,t])
 |[],x,t=>rfl
 |y::r,x,t=>by simp[dm,Dh r x t]
theorem FV(n:Nat)(us:List Tm)(hu:us.length<1000000000):∀(i m:Nat) (u:Tm),i<=us.length->i<m->
 ∃md,gu 2 0 (bL (aH (aF (cY [rQ,l4]) (n+1)) (n+1) yu) vT 2 m (ZC (.sl (us.map Tm.aV)) (.ptr 0 0) (.ptr 1 0) (.int .i64 ((i:Int)-1))) ⟨2,[.row zT,.row u.cells],2,0⟩)=
   some (.exit 0,FM 21 [(3,.ptr 0 0),(4,.ptr 1 0)],⟨2,[.row zT,.row (dm (us.take i) u).cells],0,md⟩)
 |0,m+1,u,_,_=>by
   have h5:=bF us;have hur:=ay u;have h1:(0<=(-1:Int))=False:=by simp
   exact⟨0,by simp[ak,yu,h5,dm,Tm.cells,hur,zT]⟩
 |i+1,m+1,u,hi,hm=>by
   have h5:=bF us;obtain⟨x,hx⟩:∃x,us[i]? =some x:=⟨us[i]'(by omega),by simp⟩
   have zh:us.take (i+1)=us.take i++[x]:=by rw[List.take_add_one,hx];rfl
   obtain⟨md,ih⟩:=FV n us hu i m (.mk 2 0 [46] [x,u]) (by omega) (by omega);refine⟨md,?_⟩;rw[zh,Dh];have ex:=x.dj;have eu:=u.dj;have r1:=ay x;have r2:=ay u;have cs:=vp [46] [x,u];have c1:=mh (nF x);have c2:=mh (nF u);have em:(Tm.mk 2 0 [46] [x,u]).aV=.agg [.int .i64 2,.int .i64 0,.str [46],.sl [x.aV,u.aV]]:=by simp[Tm.aV,Tm.uJ]
   have k1:(Tm.mk 2 0 [46] [x,u]).au=2:=rfl;have k2:(Tm.mk 2 0 [46] [x,u]).cF=0:=rfl;have k3:(Tm.mk 2 0 [46] [x,u]).bH=[46]:=rfl;have k4:(Tm.mk 2 0 [46] [x,u]).ca=.sl [x.aV,u.aV]:=rfl;rw[em] at cs;simp only[List.map_cons,List.map_nil,ex,eu,Tm.cells] at cs;have f1:=λ(h:ai) (n0 d:Nat)=>bc h n0 d x
   have f2:=λ(h:ai) (n0 d:Nat)=>bc h n0 d u
   have t1:(0<=(i:Int))=True:=eq_true (by omega);have w1:IntKind.i64.wrap ((i:Int)-1)=(i:Int)-1:=wrap_i64 (by omega) (by omega);have e2:((i+1:Nat):Int)-1=(i:Int):=by omega
   rw[e2,ak];simp only[Tm.cells,k1,k2,k3,k4,ex,eu] at ih;simp[yu,vT,nS,tY,hx,h5,t1,w1,ex,eu,r1,r2,f1,f2,Tm.cells,cs,c1,c2,AV.cells,k1,k2,k3,k4];exact ih
def AG:aX:=⟨178,λ
 |[.aJ,v]=>(match kC v with|some t=>some t.aV|none=>none)
 |[.sl xs,v]=>(match lX xs,kC v with|some us,some t=>if us.length<1000000000 then some (dm us t).aV else none|_,_=>none)
 |_=>none⟩
theorem UI:AG.f=178:=(rfl)
theorem vF(us:List Tm)(t:Tm)(h:us.length<1000000000):AG.S [.sl (us.map Tm.aV),t.aV]=some (dm us t).aV:=by unfold AG;dsimp only;rw[<-kF,nz,fh];exact if_pos h
theorem Q7:aY Tryz.prog AG:=λag v hv=>by
 unfold AG at hv|-;dsimp only at hv|-;split at hv
 .split at hv
  .rename_i t ht;cases hv;rw[eI ht];refine bG (n:=5) (h':=h0) (bA (ss:=[rQ,l4]) (by simp[vV,o3])) ?_ (Tm.cm _) (by simp[AV.aw,AV.aK,Tm.cm]);have iI:=Tm.dj t;have jn:=Tm.dx t;have gm:=ay t;have w1:IntKind.i64.wrap (-1)=-1:=rfl;have w2:IntKind.i64.wrap (0-1)=-1:=rfl;rw[iI,jn];simp[Ul,VA,vT,yu,ak,gm,w1,w2,nS,tY,bc]
  .cases hv
 .split at hv
  .rename_i us t hu ht;split at hv
   .rename_i hl;cases hv;rw[eI ht,rA hu];refine bG (n:=us.length+5) (h':=h0) (bA (ss:=[rQ,l4]) (by simp[vV,o3])) ?_ (Tm.cm _) (by simp[AV.aw,AV.aK,Tm.cm,bF]);have iI:=Tm.dj t;have jn:=Tm.dx t;have gm:=ay t;have h5:=bF us;have w1:IntKind.i64.wrap ((us.length:Int)-1)=(us.length:Int)-1:=wrap_i64 (by omega) (by omega);obtain⟨md,lp⟩:=FV (us.length+3) us hl us.length (us.length+4) t (Nat.le_refl _) (by omega);rw[List.take_length] at lp;have zo:(dm us t).aV=.agg (dm us t).cells:=Tm.dj _;have hrr:=ay (dm us t);rw[zo];simp only[vT,zT,jn,Tm.cells] at lp;generalize dm us t=z at lp hrr|-;rw[iI,jn];simp[Ul,VA,vT,gm,h5,w1,lp,hrr,nS,tY,bc,Tm.cells]
   .cases hv
  .cases hv
 .cases hv
def X3(k n:Int)(s:List UInt8):List Tm->Tm
 |[]=>.nl k n s
 |x::r=>.mk k n s (x::r)
mutual
def fB:Tm->Tm
 |.nl k n s=>.nl k n s
 |.mk k n s us=>X3 k n s (XZ us)
def XZ:List Tm->List Tm
 |[]=>[]
 |t::r=>fB t::XZ r
end
theorem JC:∀us:List Tm,XZ us=us.map fB
 |[]=>rfl
 |x::r=>by simp[XZ,JC r]
theorem yn(t:Tm):fB t=X3 t.au t.cF t.bH (t.ag.map fB):=by
 cases t with
 |nl k n s=>rfl
 |mk k n s us=>rw[fB,JC];rfl
theorem yF(k n:Int)(s:List UInt8)(us:List Tm):(X3 k n s us).au=k/\(X3 k n s us).cF=n/\(X3 k n s us).bH=s/\(X3 k n s us).ag=us:=by cases us<;>exact⟨rfl,rfl,rfl,rfl⟩
theorem Uf(t:Tm):(fB t).au=t.au:=by rw[yn];exact (yF _ _ _ _).1
theorem Xw(t:Tm):(fB t).cF=t.cF:=by rw[yn];exact (yF _ _ _ _).2.1
theorem S2(t:Tm):(fB t).bH=t.bH:=by rw[yn];exact (yF _ _ _ _).2.2.1
theorem I9(t:Tm):(fB t).ag=t.ag.map fB:=by rw[yn];exact (yF _ _ _ _).2.2.2
mutual
theorem CX:∀t:Tm,(fB t).size=t.size
 |.nl ..=>rfl
 |.mk k n s us=>by rw[gQ (fB _),I9,Tm.ag,Ge us,Tm.size]
theorem Ge:∀l:List Tm,Tm.dw (l.map fB)=Tm.dw l
 |[]=>rfl
 |t::r=>by simp only[List.map_cons,Tm.dw,CX t,Ge r]
end
theorem yE(n:Nat):∀l:List UInt8,decide (0<=oi n l)=l.any λd=>decide (d.toNat=n)
 |[]=>rfl
 |d::r=>by
   unfold oi;rw[List.any_cons];by_cases h:d.toNat=n
   .have:Nat.beq d.toNat n=true:=by rw[h];exact Nat.beq_refl n
    rw[this,if_pos rfl,decide_eq_true h];rfl
   .have:Nat.beq d.toNat n=false:=by
     cases hb:Nat.beq d.toNat n with
     |false=>rfl
     |true=>exact absurd (Nat.eq_of_beq_eq_true hb) h
    rw[this,if_neg (by simp),decide_eq_false h,Bool.false_or,<-yE n r]
    cases oi n r with
    |ofNat k=>simp;omega
    |negSucc k=>simp
def MX(f:Nat)(p:UInt8->Bool):aX:=⟨f,λ|[.int .u8 n]=>if 0<=n/\n<256 then some (.bool (p (UInt8.ofNat n.toNat))) else none|_=>none⟩
theorem lZ(f:Nat)(p:UInt8->Bool)(c:UInt8):(MX f p).S [.int .u8 c.toNat]=some (.bool (p c)):=by
 have h:=c.toNat_lt;have e:UInt8.ofNat (c.toNat:Int).toNat=c:=by simp
 simp only[MX,e];rw[if_pos (by omega)]
theorem pk{f:Nat}{p:UInt8->Bool}(h:∀c:UInt8,SY Tryz.prog f [.int .u8 c.toNat] (.bool (p c))):aY Tryz.prog (MX f p):=λag v hv=>by
 unfold MX at hv;dsimp only at hv;split at hv
 .rename_i n;split at hv
  .rename_i hc;cases hv;have e:n=((UInt8.ofNat n.toNat).toNat:Int):=by rw[UInt8.toNat_ofNat'];omega
   have:=h (UInt8.ofNat n.toNat);rw[<-e] at this;exact this
  .cases hv
 .cases hv
def uv:aX:=MX 75 mG
theorem Gk:aY Tryz.prog uv:=pk λc=>by
 refine bG (n:=4) (h':=h0) (bA (ss:=[]) (by simp)) ?_ rfl rfl;unfold mG;have e97:((97:Int)<=(c.toNat:Int))=(97<=c.toNat):=propext ⟨λh=>by omega,λh=>by omega⟩;have W5:((c.toNat:Int)<=122)=(c.toNat<=122):=propext ⟨λh=>by omega,λh=>by omega⟩;by_cases h1:97<=c.toNat
 .by_cases h2:c.toNat<=122
  all_goals simp[aaT,c75,e97,W5,h1,h2]
 .simp[aaT,c75,e97,W5,h1]
def tV:aX:=MX 78 eA
theorem Et:aY Tryz.prog tV:=pk λc=>by
 refine bG (n:=4) (h':=h0) (bA (ss:=[]) (by simp)) ?_ rfl rfl;unfold eA;have e48:((48:Int)<=(c.toNat:Int))=(48<=c.toNat):=propext ⟨λh=>by omega,λh=>by omega⟩;have e57:((c.toNat:Int)<=57)=(c.toNat<=57):=propext ⟨λh=>by omega,λh=>by omega⟩;by_cases h1:48<=c.toNat
 .by_cases h2:c.toNat<=57
  all_goals simp[aaE,c78,e48,e57,h1,h2]
 .simp[aaE,c78,e48,e57,h1]
def uf:aX:=MX 77 l5
theorem FK:aY Tryz.prog uf:=pk λc=>by
 refine bG (n:=4) (h':=h0) (bA (ss:=[]) (by simp)) ?_ rfl rfl;unfold l5;have e65:((65:Int)<=(c.toNat:Int))=(65<=c.toNat):=propext ⟨λh=>by omega,λh=>by omega⟩;have e90:((c.toNat:Int)<=90)=(c.toNat<=90):=propext ⟨λh=>by omega,λh=>by omega⟩;have e:((c.toNat:Int)=95)=(c.toNat=95):=propext ⟨λh=>by omega,λh=>by omega⟩;by_cases h1:65<=c.toNat
 .by_cases h2:c.toNat<=90
  .simp[Vp,c77,e65,e90,h1,h2]
  .by_cases h3:c.toNat=95
   all_goals simp[Vp,c77,e65,e90,h1,h2,h3,e]
 .by_cases h3:c.toNat=95
  all_goals simp[Vp,c77,e65,e90,h1,h3,e]
def Jl:aX:=MX 76 jG
theorem Un:aY Tryz.prog Jl:=pk λc=>by
 refine bG (n:=4) (h':=h0) (bA (ss:=[uv,uf,tV]) (by simp[Gk,FK,Et])) ?_ rfl rfl;have c1:uv.S [.int .u8 c.toNat]=_:=lZ _ _ c;have c2:uf.S [.int .u8 c.toNat]=_:=lZ _ _ c;have c3:tV.S [.int .u8 c.toNat]=_:=lZ _ _ c;have f1:uv.f=75:=(rfl)
 have f2:uf.f=77:=(rfl)
 have f3:tV.f=78:=(rfl)
 unfold jG;cases h1:mG c<;>cases h2:l5 c<;>cases h3:eA c<;>rw[h1] at c1<;>rw[h2] at c2<;>rw[h3] at c3<;>simp[afw,c76,c1,c2,c3,f1,f2,f3]
def nlS:aX:=MX 74 gU
theorem ab9:aY Tryz.prog nlS:=pk λc=>by
 refine bG (n:=4) (h':=h0) (bA (ss:=[]) (by simp)) ?_ rfl rfl;unfold gU;have e:((c.toNat:Int)=10)=(c.toNat=10):=propext ⟨λh=>by omega,λh=>by omega⟩;by_cases h3:c.toNat=10
 all_goals simp[afb,c74,h3,e]
def Rr:aX:=MX 82 wP
theorem OT:aY Tryz.prog Rr:=pk λc=>by refine bG (n:=4) (h':=h0) (bA (ss:=[jC]) (by simp[qp])) ?_ rfl rfl;have c1:=gO Fj c;have e:wP c=decide (0<=oi c.toNat Fj):=(yE _ _).symm;rw[e];generalize oi c.toNat Fj=x at *;simp only[Fj] at c1;simp[aeV,c82,c1,a7]
theorem Ji(C:Nat->List AV->ai->Option (AV×ai))(n g:Nat)(p:UInt8->Bool)(hC:∀(c:UInt8) (h:ai),C g [.int .u8 c.toNat] h=some (.bool (p c),h))(s:List UInt8)(hl:s.length<1000000000)(i0:Int):
 ∀(post pre:List UInt8) (m:Nat) (md:Nat),s=pre++post->post.length<m->
 ∃cq,gu 1 1 (bL (aH C n D6) xa 1 m (ab8 (.ptr 0 0) (.fn g []) (.int .i64 i0)) ⟨1,[.row [.str s,.int .i64 pre.length]],1,md⟩)=
   some (.exit 0,FM 50 [(0,.ptr 0 0),(5,.int .i64 i0)],⟨1,[.row [.str s,.int .i64 (pre.length+runN p post:Nat)]],1,cq⟩)
 |[],pre,m+1,md,e,_=>by simp at e;subst e;rw[ak];exact⟨md,by simp[D6,xa,runN]⟩
 |c::post,pre,m+1,md,e,hm=>by
   have h1:s[pre.length]? =some c:=by rw[e];simp
   have EN:pre.length<s.length:=by rw[e];simp
   have h3:IntKind.i64.wrap ((pre.length:Int)+1)=(pre.length:Int)+1:=wrap_i64 (by omega) (by omega);have h6:((pre.length:Int)<(s.length:Int))=True:=eq_true (by omega);rw[ak];unfold runN
   cases hp:p c with
   |false=>exact⟨md,by simp[D6,xa,h1,h6,hC,hp]⟩
   |true=>obtain⟨cq,ih⟩:=Ji C n g p hC s hl i0 post (pre++[c]) m 0 (by simp[e]) (by rw[List.length_cons] at hm;omega);refine⟨cq,?_⟩;simp only[List.length_append,List.length_cons,List.length_nil,Nat.zero_add,Int.natCast_add,Int.natCast_one] at ih;simp only[if_true];rw[show pre.length+(runN p post+1)=pre.length+1+runN p post by omega];simp[D6,xa,h1,h3,h6,hC,hp];exact ih
theorem u6{s:List UInt8}{k q:Nat}(h:k+q<=s.length):sliceB s.length (some (.int .i64 k)) (some (.int .i64 (k+q:Nat)))=some (k,k+q)/\(s.take (k+q)).drop k=(s.drop k).take q:=by
 refine⟨?_,by rw[List.drop_take,Nat.add_sub_cancel_left]⟩;have a1:(0:Int)<=((k+q:Nat):Int)/\((k+q:Nat):Int)<=(s.length:Int):=by omega
 have a2:(k:Int)<=((k+q:Nat):Int):=by omega
 have a3:((k+q:Nat):Int).toNat=k+q:=by omega
 have a4:(k:Int)<=(k:Int)+(q:Int):=by omega
 generalize ((k+q:Nat):Int)=Q at *;simp[sliceB,a1,a2,a3,a4]
def wX(g:Nat):Option (UInt8->Bool):=if g=76 then some jG else if g=78 then some eA else if g=74 then some gU else none
def runM:cr:=⟨73,λ
 |[.ptr 0 0,.fn g []],[.row [.str s,.int .i64 i]]=>(match wX g with
   |some p=>if s.length<1000000000/\0<=i/\i<=s.length then some (.str ((s.drop i.toNat).take (runN p (s.drop i.toNat))),some [.row [.str s,.int .i64 (i.toNat+runN p (s.drop i.toNat):Nat)]]) else none
   |none=>none)
 |_,_=>none⟩
theorem jy:runM.f=73:=(rfl)
theorem Ik(g:Nat)(p:UInt8->Bool)(hp:wX g=some p)(s:List UInt8)(k:Nat)(hl:s.length<1000000000)(hk:k<=s.length):
 runM.S [.ptr 0 0,.fn g []] [.row [.str s,.int .i64 k]]=some (.str ((s.drop k).take (runN p (s.drop k))),some [.row [.str s,.int .i64 (k+runN p (s.drop k):Nat)]]):=by
 simp only[runM,hp];rw[if_pos ⟨hl,by omega,by omega⟩,Int.toNat_natCast]
theorem X6:Jl.f=76:=(rfl)
theorem j7:tV.f=78:=(rfl)
theorem afG:nlS.f=74:=(rfl)
def Xg:List aX:=[Jl,tV,nlS]
theorem abk:∀s∈Xg,aY Tryz.prog s:=by simp[Xg,Un,Et,ab9]
theorem afz(n g:Nat)(p:UInt8->Bool)(hp:wX g=some p)(c:UInt8)(h:ai):aF (b9 Xg []) (n+1) g [.int .u8 c.toNat] h=some (.bool (p c),h):=by
 have f1:Jl.f=76:=(rfl)
 have f2:tV.f=78:=(rfl)
 have f3:nlS.f=74:=(rfl)
 unfold wX at hp;split at hp
 .rename_i e;subst e;cases hp;have c1:Jl.S [.int .u8 c.toNat]=_:=lZ _ _ c;simp[Xg,f1,f2,f3,c1]
 .split at hp
  .rename_i e;subst e;cases hp;have c1:tV.S [.int .u8 c.toNat]=_:=lZ _ _ c;simp[Xg,f1,f2,f3,c1]
  .split at hp
   .rename_i e;subst e;cases hp;have c1:nlS.S [.int .u8 c.toNat]=_:=lZ _ _ c;simp[Xg,f1,f2,f3,c1]
   .cases hp
theorem Pc:nK Tryz.prog runM:=λag os v r hv=>by
 unfold runM at hv;dsimp only at hv;split at hv
 .rename_i g s i;split at hv
  .rename_i p hp;split at hv
   .rename_i hc;cases hv;obtain⟨k,rfl⟩:∃k:Nat,i=(k:Int):=⟨i.toNat,by omega⟩
    rw[Int.toNat_natCast,jy];have hk:k<=s.length:=by omega
    have hse:s=s.take k++s.drop k:=(List.take_append_drop k s).symm;have cR:(s.take k).length=k:=by rw[List.length_take];omega
    obtain⟨cq,lp⟩:=Ji (aF (b9 Xg []) (s.length+4)) (s.length+4) g p (λc h=>afz (s.length+3) g p hp c h) s hc.1 k (s.drop k) (s.take k) (s.length+4) 1 hse (by rw[List.length_drop];omega);rw[cR] at lp;have qm:=kS p (s.drop k);rw[List.length_drop] at qm;obtain⟨EP,htd⟩:=u6 (s:=s) (k:=k) (q:=runN p (s.drop k)) (by omega);refine yR (n:=s.length+5) (h1:=⟨1,[.row [.str s,.int .i64 (k+runN p (s.drop k):Nat)]],1,min 1 cq⟩) (yv (ss:=Xg) (ms:=[]) abk (by simp)) ?_ rfl rfl rfl rfl;rw[vB];simp only[xa,Xg] at lp;generalize (s.drop k).take (runN p (s.drop k))=res at *;generalize k+runN p (s.drop k)=q at *;simp[Xg,ac2,c73,xa,lp,EP,htd,X6,j7,afG];omega
   .cases hv
  .cases hv
 .cases hv
theorem FP(c:UInt8):([32,9,10,13]:List UInt8).any (λd=>decide (d.toNat=c.toNat))=kB c:=by
 simp only[List.any_cons,List.any_nil,Bool.or_false,kB]
 have e:∀n:Nat,decide (n=c.toNat)=decide (c.toNat=n):=λn=>by
  by_cases h:c.toNat=n
  .rw[decide_eq_true h,decide_eq_true h.symm]
  .rw[decide_eq_false h,decide_eq_false (Ne.symm h)]
 rw[show (32:UInt8).toNat=32 from rfl,show (9:UInt8).toNat=9 from rfl,show (10:UInt8).toNat=10 from rfl,show (13:UInt8).toNat=13 from rfl,e,e,e,e];simp[Bool.or_assoc]
def nA:List aX:=[jC]
theorem Mn:∀s∈nA,aY Tryz.prog s:=by simp[nA,qp]
def SM:List cr:=[runM]
theorem adb:∀m∈SM,nK Tryz.prog m:=by simp[SM,Pc]
theorem CH(n:Nat)(s:List UInt8)(hl:s.length<1000000000):∀(f k m md:Nat),k<=s.length->s.length-k<f->f<=m->
 ∃ex cq,(ex=.exit 0\/ex=.ret)/\gu 1 1 (bL (aH (aF (b9 nA SM) (n+1)) (n+1) zM) tf 1 m (adP (.ptr 0 0)) ⟨1,[.row [.str s,.int .i64 k]],1,md⟩)=
   some (ex,FM 44 [],⟨1,[.row [.str s,.int .i64 (k+dE f (s.drop k):Nat)]],1,cq⟩)
 |0,k,m,md,_,h,_=>by omega
 |f+1,k,0,md,_,_,h=>by omega
 |f+1,k,m+1,md,hk,hf,hm=>by
   rw[ak];by_cases he:k=s.length
   .subst he;refine⟨.exit 0,md,.inl rfl,?_⟩;have:s.drop s.length=[]:=List.drop_length;rw[this];simp[zM,tf,dE]
   .have hks:k<s.length:=by omega
    obtain⟨c,hc⟩:∃c,s[k]? =some c:=⟨s[k],List.getElem?_eq_getElem hks⟩
    have hd:s.drop k=c::s.drop (k+1):=by rw[List.drop_eq_getElem_cons hks];congr 1;rw[List.getElem?_eq_getElem hks] at hc;exact Option.some.inj hc
    have h6:((k:Int)<(s.length:Int))=True:=eq_true (by omega);have h3:IntKind.i64.wrap ((k:Int)+1)=(k:Int)+1:=wrap_i64 (by omega) (by omega);have c1:=gO [32,9,10,13] c;have e1:=yE c.toNat [32,9,10,13];rw[FP] at e1;generalize oi c.toNat [32,9,10,13]=x at c1 e1;rw[hd];unfold dE
    cases hb:kB c with
    |true=>rw[hb] at e1;have e2:(0<=x)=True:=eq_true (of_decide_eq_true e1);obtain⟨ex,cq,hex,ih⟩:=CH n s hl f (k+1) m 0 (by omega) (by omega) (by omega);refine⟨ex,cq,hex,?_⟩;simp only[if_true];rw[show k+(dE f (s.drop (k+1))+1)=k+1+dE f (s.drop (k+1)) by omega];simp only[nA,SM,Int.natCast_add,Int.natCast_one] at ih;simp[nA,SM,zM,tf,hc,h6,h3,c1,e2,a7,jy];exact ih
    |false=>
      rw[hb] at e1;have e2:(0<=x)=False:=eq_false (of_decide_eq_false e1);simp only[Bool.false_eq_true,if_false];by_cases Qk:c.toNat=37
      .have e3:((c.toNat:Int)=37)=True:=eq_true (by omega);rw[if_pos Qk];have hr:=Ik 74 gU (by simp[wX]) s k hl hk;rw[hd] at hr
       have hrn:runN gU (c::s.drop (k+1))<=s.length-k:=by have:=kS gU (c::s.drop (k+1));rw[<-hd,List.length_drop] at this;rw[hd] at this;exact this
       have mw:1<=runN gU (c::s.drop (k+1)):=by
        unfold runN;have:gU c=true:=by unfold gU;rw[decide_eq_false (by omega)];rfl
        rw[this];simp
       obtain⟨ex,cq,hex,ih⟩:=CH n s hl f (k+runN gU (c::s.drop (k+1))) m 0 (by omega) (by omega) (by omega);refine⟨ex,cq,hex,?_⟩;have hdd:(c::s.drop (k+1)).drop (runN gU (c::s.drop (k+1)))=s.drop (k+runN gU (c::s.drop (k+1))):=by rw[<-hd,List.drop_drop]
       rw[hdd];generalize hq:runN gU (c::s.drop (k+1))=q at *;rw[<-Nat.add_assoc];simp only[nA,SM,Int.natCast_add,Int.natCast_one] at ih;simp[nA,SM,zM,tf,hc,h6,h3,c1,e2,e3,hr,a7,jy];exact ih
      .have e3:((c.toNat:Int)=37)=False:=eq_false (by omega);rw[if_neg Qk];refine⟨.ret,md,.inr rfl,?_⟩;simp[nA,SM,zM,tf,hc,h6,h3,c1,e2,e3,a7,jy]
theorem uF:∀(f:Nat) (l:List UInt8),dE f l<=l.length
 |0,l=>by simp[dE]
 |f+1,[]=>by simp[dE]
 |f+1,c::r=>by
   unfold dE;split
   .have:=uF f r;simp;omega
   .split
    .have h1:=uF f ((c::r).drop (runN gU (c::r)));have h2:=kS gU (c::r);rw[List.length_drop] at h1;omega
    .simp
def DM:cr:=⟨44,λ
 |[.ptr 0 0],[.row [.str s,.int .i64 i]]=>if s.length<1000000000/\0<=i/\i<=s.length then some (.tuple [],some [.row [.str s,.int .i64 (i.toNat+dE (s.length+1) (s.drop i.toNat):Nat)]]) else none
 |_,_=>none⟩
theorem dG:DM.f=44:=(rfl)
theorem Ct(s:List UInt8)(k:Nat)(hl:s.length<1000000000)(hk:k<=s.length):
 DM.S [.ptr 0 0] [.row [.str s,.int .i64 k]]=some (.tuple [],some [.row [.str s,.int .i64 (k+dE (s.length+1) (s.drop k):Nat)]]):=by
 simp only[DM];rw[if_pos ⟨hl,by omega,by omega⟩,Int.toNat_natCast]
theorem UR:nK Tryz.prog DM:=λag os v r hv=>by
 unfold DM at hv;dsimp only at hv;split at hv
 .rename_i s i;split at hv
  .rename_i hc;cases hv;obtain⟨k,rfl⟩:∃k:Nat,i=(k:Int):=⟨i.toNat,by omega⟩
   rw[Int.toNat_natCast,dG];obtain⟨ex,cq,hex,lp⟩:=CH (s.length+4) s hc.1 (s.length+1) k (s.length+5) 1 (by omega) (by omega) (by omega);refine yR (n:=s.length+6) (h1:=⟨1,[.row [.str s,.int .i64 (k+dE (s.length+1) (s.drop k):Nat)]],1,min 1 cq⟩) (yv (ss:=nA) (ms:=SM) Mn adb) ?_ rfl rfl rfl rfl;rw[vB];simp only[tf,nA,SM] at lp;generalize k+dE (s.length+1) (s.drop k)=q at *;rcases hex with rfl|rfl
   .simp[nA,SM,Vr,c44,tf,lp,a7,jy];omega
   .simp[nA,SM,Vr,c44,tf,lp,a7,jy];omega
  .cases hv
 .cases hv
theorem gp{s:List UInt8}{k:Nat}(h:k<s.length):∃c,s[k]? =some c/\s.drop k=c::s.drop (k+1):=⟨s[k],List.getElem?_eq_getElem h,by rw[List.drop_eq_getElem_cons h]⟩
theorem zu(c:UInt8):ox [c]=decide (c.toNat=46):=by simp[ox]
theorem AP(c d:UInt8)(r:List UInt8):ox (c::d::r)=(decide (c.toNat=46)&&(kB d||decide (d.toNat=37))):=rfl
theorem FO{c:UInt8}{r:List UInt8}(h:¬c.toNat=46):ox (c::r)=false:=by
 cases r with
 |nil=>rw[zu];exact decide_eq_false h
 |cons d r=>rw[AP,decide_eq_false h];rfl
def Cr:cr:=⟨81,λ
 |[.ptr 0 0],[.row [.str s,.int .i64 i]]=>if s.length<1000000000/\0<=i/\i<s.length then some (.bool (ox (s.drop i.toNat)),none) else none
 |_,_=>none⟩
theorem ie:Cr.f=81:=(rfl)
theorem KR(s:List UInt8)(k:Nat)(hl:s.length<1000000000)(hk:k<s.length):
 Cr.S [.ptr 0 0] [.row [.str s,.int .i64 k]]=some (.bool (ox (s.drop k)),none):=by
 simp only[Cr];rw[if_pos ⟨hl,by omega,by omega⟩,Int.toNat_natCast]
theorem MP(c:UInt8):([32,9,10,13,37]:List UInt8).any (λd=>decide (d.toNat=c.toNat))=(kB c||decide (c.toNat=37)):=by
 have:=FP c;simp only[List.any_cons,List.any_nil,Bool.or_false] at this|-;rw[<-this]
 have e:decide ((37:UInt8).toNat=c.toNat)=decide (c.toNat=37):=by
  by_cases h:c.toNat=37
  .rw[decide_eq_true h,decide_eq_true (show (37:UInt8).toNat=c.toNat from h.symm)]
  .rw[decide_eq_false h,decide_eq_false (show ¬(37:UInt8).toNat=c.toNat from λe=>h e.symm)]
 rw[e];simp[Bool.or_assoc]
theorem KY:nK Tryz.prog Cr:=λag os v r hv=>by
 unfold Cr at hv;dsimp only at hv;split at hv
 .rename_i s i;split at hv
  .rename_i hc;cases hv;obtain⟨k,rfl⟩:∃k:Nat,i=(k:Int):=⟨i.toNat,by omega⟩
   rw[Int.toNat_natCast,ie];obtain⟨c,h1,hd⟩:=gp (s:=s) (k:=k) (by omega);have h3:IntKind.i64.wrap ((k:Int)+1)=(k:Int)+1:=wrap_i64 (by omega) (by omega);refine Ar (n:=6) (h1:=⟨1,[.row [.str s,.int .i64 k]],1,1⟩) (yv (ss:=nA) (ms:=[]) Mn (by simp)) ?_ rfl rfl rfl rfl;rw[vB,hd];by_cases h46:c.toNat=46
   .have e1:((c.toNat:Int)=46)=True:=eq_true (by omega);by_cases W6:k+1=s.length
    .have hn:s.drop (k+1)=[]:=by rw[W6];exact List.drop_length
     have e2:((k:Int)+1=(s.length:Int))=True:=eq_true (by omega);rw[hn,zu,decide_eq_true h46];simp[nA,NW,c81,h1,h3,e1,e2,a7]
    .obtain⟨d,h2,WT⟩:=gp (s:=s) (k:=k+1) (by omega);have e2:((k:Int)+1=(s.length:Int))=False:=eq_false (by omega);have c1:=gO [32,9,10,13,37] d;have e3:=yE d.toNat [32,9,10,13,37];rw[MP] at e3;generalize oi d.toNat [32,9,10,13,37]=x at c1 e3;have Qi:((k:Int)+1).toNat=k+1:=by omega
     have aai:((0:Int)<=(k:Int)+1)=True:=eq_true (by omega);rw[WT,AP,decide_eq_true h46,<-e3];simp[nA,NW,c81,h1,h2,Qi,aai,h3,e1,e2,c1,a7]
   .have e1:((c.toNat:Int)=46)=False:=eq_false (by omega);rw[FO h46];simp[nA,NW,c81,h1,h3,e1,a7]
  .cases hv
 .cases hv
def Xo:List aX:=[Rr]
theorem adQ:∀s∈Xo,aY Tryz.prog s:=by simp[Xo,OT]
def Xp:List cr:=[Cr]
theorem abR:∀m∈Xp,nK Tryz.prog m:=by simp[Xp,KY]
theorem ku:Rr.f=82:=(rfl)
theorem PH(c:UInt8):Rr.S [.int .u8 c.toNat]=some (.bool (wP c)):=lZ _ _ c
theorem Oz:∀l,mL l<=l.length
 |[]=>Nat.le_refl _
 |c::r=>by
   unfold mL;split
   .have:=Oz r;simp;omega
   .simp
theorem Jv(n:Nat)(s:List UInt8)(hl:s.length<1000000000)(i0:Int):∀(post pre:List UInt8) (m:Nat) (md:Nat),s=pre++post->post.length<m->
 ∃cq,gu 1 1 (bL (aH (aF (b9 Xo Xp) (n+1)) (n+1) zG) ua 1 m (aby (.ptr 0 0) (.int .i64 i0)) ⟨1,[.row [.str s,.int .i64 pre.length]],1,md⟩)=
   some (.exit 0,FM 52 [(0,.ptr 0 0),(3,.int .i64 i0)],⟨1,[.row [.str s,.int .i64 (pre.length+mL post:Nat)]],1,cq⟩)
 |[],pre,m+1,md,e,_=>by simp at e;subst e;rw[ak];exact⟨md,by simp[zG,ua,mL]⟩
 |c::post,pre,m+1,md,e,hm=>by
   have h1:s[pre.length]? =some c:=by rw[e];simp
   have EN:pre.length<s.length:=by rw[e];simp
   have hdp:s.drop pre.length=c::post:=by rw[e];simp
   have h3:IntKind.i64.wrap ((pre.length:Int)+1)=(pre.length:Int)+1:=wrap_i64 (by omega) (by omega);have h6:((pre.length:Int)<(s.length:Int))=True:=eq_true (by omega);have c1:=PH c;have c2:=KR s pre.length hl EN;rw[hdp] at c2;rw[ak];unfold mL
   cases hp:wP c with
   |false=>rw[hp] at c1;exact⟨md,by simp[Xo,Xp,zG,ua,h1,h6,c1,ku,ie]⟩
   |true=>
     rw[hp] at c1
     cases hq:ox (c::post) with
     |true=>rw[hq] at c2;exact⟨md,by simp[Xo,Xp,zG,ua,h1,h6,c1,c2,ku,ie]⟩
     |false=>rw[hq] at c2;obtain⟨cq,ih⟩:=Jv n s hl i0 post (pre++[c]) m 0 (by simp[e]) (by rw[List.length_cons] at hm;omega);refine⟨cq,?_⟩;simp only[List.length_append,List.length_cons,List.length_nil,Nat.zero_add,Xo,Xp,Int.natCast_add,Int.natCast_one] at ih;simp only[Bool.not_false,Bool.and_self,if_true];rw[show pre.length+(mL post+1)=pre.length+1+mL post by omega];simp[Xo,Xp,zG,ua,h1,h3,h6,c1,c2,ku,ie];exact ih
def G0:cr:=⟨83,λ
 |[.ptr 0 0],[.row [.str s,.int .i64 i]]=>if s.length<1000000000/\0<=i/\i<=s.length then some (.str ((s.drop i.toNat).take (mL (s.drop i.toNat))),some [.row [.str s,.int .i64 (i.toNat+mL (s.drop i.toNat):Nat)]]) else none
 |_,_=>none⟩
theorem jY:G0.f=83:=(rfl)
theorem TJ(s:List UInt8)(k:Nat)(hl:s.length<1000000000)(hk:k<=s.length):
 G0.S [.ptr 0 0] [.row [.str s,.int .i64 k]]=some (.str ((s.drop k).take (mL (s.drop k))),some [.row [.str s,.int .i64 (k+mL (s.drop k):Nat)]]):=by
 simp only[G0];rw[if_pos ⟨hl,by omega,by omega⟩,Int.toNat_natCast]
theorem VH:nK Tryz.prog G0:=λag os v r hv=>by
 unfold G0 at hv;dsimp only at hv;split at hv
 .rename_i s i;split at hv
  .rename_i hc;cases hv;obtain⟨k,rfl⟩:∃k:Nat,i=(k:Int):=⟨i.toNat,by omega⟩
   rw[Int.toNat_natCast,jY];have hk:k<=s.length:=by omega
   have hse:s=s.take k++s.drop k:=(List.take_append_drop k s).symm;have cR:(s.take k).length=k:=by rw[List.length_take];omega
   obtain⟨cq,lp⟩:=Jv (s.length+4) s hc.1 k (s.drop k) (s.take k) (s.length+5) 1 hse (by rw[List.length_drop];omega);rw[cR] at lp;have qm:=Oz (s.drop k);rw[List.length_drop] at qm;obtain⟨EP,htd⟩:=u6 (s:=s) (k:=k) (q:=mL (s.drop k)) (by omega);refine yR (n:=s.length+6) (h1:=⟨1,[.row [.str s,.int .i64 (k+mL (s.drop k):Nat)]],1,min 1 cq⟩) (yv (ss:=Xo) (ms:=Xp) adQ abR) ?_ rfl rfl rfl rfl;rw[vB];simp only[ua,Xo,Xp] at lp;generalize (s.drop k).take (mL (s.drop k))=res at *;generalize k+mL (s.drop k)=q at *;simp[Xo,Xp,aci,c83,ua,lp,EP,htd,ku,ie];omega
  .cases hv
 .cases hv
def jV(l:List UInt8):List AV:=l.map λc=>.int .u8 c.toNat
theorem Mk(l:List UInt8):(jV l).length=l.length:=by simp[jV]
theorem nQ(l:List UInt8)(c:UInt8):jV (l++[c])=jV l++[.int .u8 c.toNat]:=by simp[jV]
theorem uk:∀l:List UInt8,AV.aw (jV l)=0
 |[]=>rfl
 |c::r=>by have:=uk r;unfold jV at this|-;simp[AV.aw,AV.aK,this]
theorem GX:∀l:List UInt8,bytesOf (jV l)=some l
 |[]=>rfl
 |c::r=>by have:=GX r;unfold jV at this|-;simp[bytesOf,this]
theorem P9(d:UInt8):(∀b,wS d=some b->∃i:Nat,oi d.toNat [110,116,92,39]=(i:Int)/\([10,9,92,39]:List UInt8)[i]? =some b)/\(wS d=none->oi d.toNat [110,116,92,39]=-1):=by
 have nb:∀a:Nat,a≠d.toNat->Nat.beq a d.toNat=false:=λa h=>by
  cases hb:Nat.beq a d.toNat with
  |false=>rfl
  |true=>exact absurd (Nat.eq_of_beq_eq_true hb) h
 have yb:∀a:Nat,a=d.toNat->Nat.beq a d.toNat=true:=λa h=>by rw[h];exact Nat.beq_refl _
 have t1:(110:UInt8).toNat=110:=rfl;have t2:(116:UInt8).toNat=116:=rfl;have t3:(92:UInt8).toNat=92:=rfl;have t4:(39:UInt8).toNat=39:=rfl;unfold wS;by_cases h1:d.toNat=110
 .rw[if_pos h1];refine⟨λb e=>⟨0,?_,by cases e;rfl⟩,λe=>by cases e⟩;simp[oi,t1,yb 110 h1.symm]
 rw[if_neg h1];by_cases h2:d.toNat=116
 .rw[if_pos h2];refine⟨λb e=>⟨1,?_,by cases e;rfl⟩,λe=>by cases e⟩;simp[oi,t1,t2,nb 110 (Ne.symm h1),yb 116 h2.symm]
 rw[if_neg h2];by_cases h3:d.toNat=92
 .rw[if_pos h3];refine⟨λb e=>⟨2,?_,by cases e;rfl⟩,λe=>by cases e⟩;simp[oi,t1,t2,t3,nb 110 (Ne.symm h1),nb 116 (Ne.symm h2),yb 92 h3.symm]
 rw[if_neg h3];by_cases h4:d.toNat=39
 .rw[if_pos h4];refine⟨λb e=>⟨3,?_,by cases e;rfl⟩,λe=>by cases e⟩;simp[oi,t1,t2,t3,t4,nb 110 (Ne.symm h1),nb 116 (Ne.symm h2),nb 92 (Ne.symm h3),yb 39 h4.symm]
 rw[if_neg h4];refine⟨λb e=>(by cases e),λ_=>?_⟩;simp[oi,t1,t2,t3,t4,nb 110 (Ne.symm h1),nb 116 (Ne.symm h2),nb 92 (Ne.symm h3),nb 39 (Ne.symm h4)];rfl
theorem K6:oi 0 [110,116,92,39]=-1:=by decide
def cK(k:Int)(t:List UInt8)(n:Int):List AV:=[.int .i64 k,.str t,.int .i64 n,.bool false,.int .i64 0]
def af7(q:Option (List UInt8)×Nat)(q0:Nat)(s:List UInt8)(R:Option (Ex×List AV×ai)):Prop:=
 ∃cq,(∃t,q.1=some t/\R=some (.ret,FM 119 [(2,.ptr 1 0),(3,.int .i64 0)],⟨2,[.row (cK 2 t 0),.row [.str s,.int .i64 (q0+q.2:Nat)]],1,cq⟩))\/
   (q.1=none/\R=some (.ret,FM 119 [(2,.ptr 1 0),(3,.int .i64 2)],⟨2,[.row (cK 0 [] 0),.row [.str s,.int .i64 (q0+q.2:Nat)]],1,cq⟩))\/
   (q.1=none/\R=some (.exit 0,FM 119 [(2,.ptr 1 0)],⟨2,[.row (cK 0 [] 0),.row [.str s,.int .i64 (q0+q.2:Nat)]],1,cq⟩))
theorem nO(n:Nat)(s:List UInt8)(hl:s.length<1000000000)(q0:Nat):∀(f:Nat) (aB:List UInt8) (j m md:Nat),aB≠[]->aB.length<=j->q0+j<=s.length->s.length-(q0+j)<f->f<=m->
 af7 (iJ f (s.drop (q0+j)) aB j) q0 s (gu 2 1 (bL (aH (aF (b9 nA []) (n+1)) (n+1) fC) fo 2 m (TQ (.ptr 0 0) (.ptr 1 0) (.vec 2 0 aB.length 1 aB.length)) ⟨3,[.row (jV aB),.row (cK 0 [] 0),.row [.str s,.int .i64 (q0+j:Nat)]],2,md⟩))
 |0,aB,j,m,md,fy,haj,hk,h,_=>by omega
 |f+1,aB,j,0,md,fy,haj,_,_,h=>by omega
 |f+1,aB,j,m+1,md,fy,haj,hk,hf0,hm=>by
   rw[ak];have hf:=uk aB;have hb:=GX aB;have fZ:=Mk aB;have h8:aB.length+1<=140737488355328:=by omega
   have h9:aB.length+1<9223372036854775808:=by omega
   have gG:(jV aB).take aB.length=jV aB:=by rw[List.take_of_length_le];omega
   have gr:∀b:UInt8,AV.aw (jV aB++[.int .u8 b.toNat])=0:=λb=>by rw[<-nQ];exact uk _
   have BS:AV.aw (jV aB++[.int .u8 39])=0:=gr 39;by_cases he:q0+j=s.length
   .have hd:s.drop (q0+j)=[]:=by rw[he];exact List.drop_length
    have h6:((q0:Int)+(j:Int)<(s.length:Int))=False:=eq_false (by omega);rw[hd,Cg];refine⟨md,.inr (.inr ⟨rfl,?_⟩)⟩;simp[nA,fC,fo,h6,hf]
   .obtain⟨c,h1,hd⟩:=gp (s:=s) (k:=q0+j) (by omega);have h6:((q0:Int)+(j:Int)<(s.length:Int))=True:=eq_true (by omega);have h3:IntKind.i64.wrap ((q0:Int)+(j:Int)+1)=(q0:Int)+(j:Int)+1:=wrap_i64 (by omega) (by omega);have tH:IntKind.i64.wrap ((q0:Int)+(j:Int)+1+1)=(q0:Int)+(j:Int)+1+1:=wrap_i64 (by omega) (by omega);have n0:(0<=(q0:Int)+(j:Int))=True:=eq_true (by omega);have n1:(0<=(q0:Int)+(j:Int)+1)=True:=eq_true (by omega);have n2:((q0:Int)+(j:Int)).toNat=q0+j:=by omega
    have n3:((q0:Int)+(j:Int)+1).toNat=q0+j+1:=by omega
    rw[hd]
    have ni:(s.drop (q0+j+1)=[]/\((q0:Int)+(j:Int)+1<(s.length:Int))=False)\/∃d,s[q0+j+1]? =some d/\s.drop (q0+j+1)=d::s.drop (q0+j+2)/\((q0:Int)+(j:Int)+1<(s.length:Int))=True:=by
     by_cases hx:q0+j+1<s.length
     .obtain⟨d,a1,a2⟩:=gp (s:=s) (k:=q0+j+1) hx;exact .inr ⟨d,a1,a2,eq_true (by omega)⟩
     .exact .inl ⟨List.drop_eq_nil_of_le (by omega),eq_false (by omega)⟩
    by_cases k1:c.toNat=39
    .have tI:((c.toNat:Int)=39)=True:=eq_true (by omega);rcases ni with⟨x1,x2⟩|⟨d,x0,x1,x2⟩
     .rw[x1,He k1];refine⟨0,.inl ⟨aB,rfl,?_⟩⟩;simp[nA,fC,fo,cK,h1,h6,h3,tH,n0,n1,n2,n3,a7,hf,gr,BS,hb,fZ,h8,h9,gG,aT,tI,x2];omega
     .rw[x1];by_cases k2:d.toNat=39
      .have IX:((d.toNat:Int)=39)=True:=eq_true (by omega);have x3:=(List.getElem?_eq_some_iff.1 x0).1;rw[Iy k1 k2];obtain rfl:c=39:=UInt8.toNat_inj.1 k1;have ih:=nO n s hl q0 f (aB++[39]) (j+2) m 0 (by simp) (by simp;omega) (by omega) (by omega) (by omega);rw[show q0+(j+2)=q0+j+2 by omega] at ih;simp only[List.length_append,List.length_cons,List.length_nil,Nat.zero_add,Int.natCast_add,Int.natCast_one,nA,cK,nQ] at ih;simp[nA,fC,fo,cK,h1,h6,h3,tH,n0,n1,n2,n3,a7,hf,gr,BS,hb,fZ,h8,h9,gG,aT,IX,x0,x2];exact ih
      .have IX:((d.toNat:Int)=39)=False:=eq_false (by omega);rw[Ic k1 k2];refine⟨0,.inl ⟨aB,rfl,?_⟩⟩;simp[nA,fC,fo,cK,h1,h6,h3,tH,n0,n1,n2,n3,a7,hf,gr,BS,hb,fZ,h8,h9,gG,aT,tI,IX,x0,x2];omega
    have tI:((c.toNat:Int)=39)=False:=eq_false (by omega);by_cases k2:c.toNat<32\/126<c.toNat
    .rw[B7 k1 k2];have hx:∃e:Int,(if (q0:Int)+(j:Int)+1<(s.length:Int) then True else True):=⟨0,by split<;>trivial⟩
     by_cases k3:c.toNat<32
     .have kj:((c.toNat:Int)<32)=True:=eq_true (by omega);rcases ni with⟨x1,x2⟩|⟨d,x0,x1,x2⟩
      .refine⟨min md 1,.inr (.inl ⟨rfl,?_⟩)⟩;simp[nA,fC,fo,cK,h1,h6,h3,tH,n0,n1,n2,n3,a7,hf,gr,BS,hb,fZ,h8,h9,gG,aT,tI,kj,x2]
      .refine⟨min md 1,.inr (.inl ⟨rfl,?_⟩)⟩;simp[nA,fC,fo,cK,h1,h6,h3,tH,n0,n1,n2,n3,a7,hf,gr,BS,hb,fZ,h8,h9,gG,aT,tI,kj,x0,x2]
     .have kj:((c.toNat:Int)<32)=False:=eq_false (by omega);have gT:(126<(c.toNat:Int))=True:=eq_true (by omega);rcases ni with⟨x1,x2⟩|⟨d,x0,x1,x2⟩
      .refine⟨min md 1,.inr (.inl ⟨rfl,?_⟩)⟩;simp[nA,fC,fo,cK,h1,h6,h3,tH,n0,n1,n2,n3,a7,hf,gr,BS,hb,fZ,h8,h9,gG,aT,tI,kj,gT,x2]
      .refine⟨min md 1,.inr (.inl ⟨rfl,?_⟩)⟩;simp[nA,fC,fo,cK,h1,h6,h3,tH,n0,n1,n2,n3,a7,hf,gr,BS,hb,fZ,h8,h9,gG,aT,tI,kj,gT,x0,x2]
    have kj:((c.toNat:Int)<32)=False:=eq_false (by omega);have gT:(126<(c.toNat:Int))=False:=eq_false (by omega);by_cases k5:c.toNat=92
    .have LP:((c.toNat:Int)=92)=True:=eq_true (by omega);rcases ni with⟨x1,x2⟩|⟨d,x0,x1,x2⟩
     .rw[x1,HD k5];have z:=gO [110,116,92,39] 0;rw[show (0:UInt8).toNat=0 from rfl,K6] at z;simp only[show ((0:Nat):Int)=0 from rfl] at z;refine⟨min md 1,.inr (.inl ⟨rfl,?_⟩)⟩;simp[nA,fC,fo,cK,h1,h6,h3,tH,n0,n1,n2,n3,a7,hf,gr,BS,hb,fZ,h8,h9,gG,aT,tI,kj,gT,LP,x2,z]
     .rw[x1];have z:=gO [110,116,92,39] d;obtain⟨z1,z2⟩:=P9 d
      cases IY:wS d with
      |none=>rw[Ib k5 IY];rw[z2 IY] at z;refine⟨min md 1,.inr (.inl ⟨rfl,?_⟩)⟩;simp[nA,fC,fo,cK,h1,h6,h3,tH,n0,n1,n2,n3,a7,hf,gr,BS,hb,fZ,h8,h9,gG,aT,tI,kj,gT,LP,x0,x2,z]
      |some b=>rw[Iz k5 IY];obtain⟨i,y1,y2⟩:=z1 b IY;have x3:=(List.getElem?_eq_some_iff.1 x0).1;rw[y1] at z;have y3:((i:Int)<0)=False:=eq_false (by omega);have y4:(0<=(i:Int))=True:=eq_true (by omega);have ih:=nO n s hl q0 f (aB++[b]) (j+2) m 0 (by simp) (by simp;omega) (by omega) (by omega) (by omega);rw[show q0+(j+2)=q0+j+2 by omega] at ih;simp only[List.length_append,List.length_cons,List.length_nil,Nat.zero_add,Int.natCast_add,Int.natCast_one,nA,cK,nQ] at ih;simp[nA,fC,fo,cK,h1,h6,h3,tH,n0,n1,n2,n3,a7,hf,gr,BS,hb,fZ,h8,h9,gG,aT,tI,kj,gT,LP,x0,x2,z,y2,y3,y4];exact ih
    .have LP:((c.toNat:Int)=92)=False:=eq_false (by omega);rw[Px k1 k2 k5];rcases ni with⟨x1,x2⟩|⟨d,x0,x1,x2⟩
     .have ih:=nO n s hl q0 f (aB++[c]) (j+1) m 0 (by simp) (by simp;omega) (by omega) (by omega) (by omega);rw[show q0+(j+1)=q0+j+1 by omega] at ih;simp only[List.length_append,List.length_cons,List.length_nil,Nat.zero_add,Int.natCast_add,Int.natCast_one,nA,cK,nQ] at ih;simp[nA,fC,fo,cK,h1,h6,h3,tH,n0,n1,n2,n3,a7,hf,gr,BS,hb,fZ,h8,h9,gG,aT,tI,kj,gT,LP,x2];exact ih
     .have ih:=nO n s hl q0 f (aB++[c]) (j+1) m 0 (by simp) (by simp;omega) (by omega) (by omega) (by omega);rw[show q0+(j+1)=q0+j+1 by omega] at ih;simp only[List.length_append,List.length_cons,List.length_nil,Nat.zero_add,Int.natCast_add,Int.natCast_one,nA,cK,nQ] at ih;simp[nA,fC,fo,cK,h1,h6,h3,tH,n0,n1,n2,n3,a7,hf,gr,BS,hb,fZ,h8,h9,gG,aT,tI,kj,gT,LP,x0,x2];exact ih
theorem Sm(n:Nat)(s:List UInt8)(hl:s.length<1000000000)(q0:Nat):∀(f j m md:Nat),q0+j<=s.length->s.length-(q0+j)<f->f<=m->
 af7 (iJ f (s.drop (q0+j)) [] j) q0 s (gu 2 1 (bL (aH (aF (b9 nA []) (n+1)) (n+1) fC) fo 2 m (TQ (.ptr 0 0) (.ptr 1 0) .aJ) ⟨2,[.row (cK 0 [] 0),.row [.str s,.int .i64 (q0+j:Nat)]],2,md⟩))
 |0,j,m,md,hk,h,_=>by omega
 |f+1,j,0,md,_,_,h=>by omega
 |f+1,j,m+1,md,hk,hf0,hm=>by
   rw[ak];have SQ:bytesOf []=some []:=rfl;by_cases he:q0+j=s.length
   .have hd:s.drop (q0+j)=[]:=by rw[he];exact List.drop_length
    have h6:((q0:Int)+(j:Int)<(s.length:Int))=False:=eq_false (by omega);rw[hd,Cg];refine⟨md,.inr (.inr ⟨rfl,?_⟩)⟩;simp[nA,fC,fo,h6]
   .obtain⟨c,h1,hd⟩:=gp (s:=s) (k:=q0+j) (by omega);have h6:((q0:Int)+(j:Int)<(s.length:Int))=True:=eq_true (by omega);have h3:IntKind.i64.wrap ((q0:Int)+(j:Int)+1)=(q0:Int)+(j:Int)+1:=wrap_i64 (by omega) (by omega);have tH:IntKind.i64.wrap ((q0:Int)+(j:Int)+1+1)=(q0:Int)+(j:Int)+1+1:=wrap_i64 (by omega) (by omega);have n0:(0<=(q0:Int)+(j:Int))=True:=eq_true (by omega);have n1:(0<=(q0:Int)+(j:Int)+1)=True:=eq_true (by omega);have n2:((q0:Int)+(j:Int)).toNat=q0+j:=by omega
    have n3:((q0:Int)+(j:Int)+1).toNat=q0+j+1:=by omega
    rw[hd]
    have ni:(s.drop (q0+j+1)=[]/\((q0:Int)+(j:Int)+1<(s.length:Int))=False)\/∃d,s[q0+j+1]? =some d/\s.drop (q0+j+1)=d::s.drop (q0+j+2)/\((q0:Int)+(j:Int)+1<(s.length:Int))=True:=by
     by_cases hx:q0+j+1<s.length
     .obtain⟨d,a1,a2⟩:=gp (s:=s) (k:=q0+j+1) hx;exact .inr ⟨d,a1,a2,eq_true (by omega)⟩
     .exact .inl ⟨List.drop_eq_nil_of_le (by omega),eq_false (by omega)⟩
    by_cases k1:c.toNat=39
    .have tI:((c.toNat:Int)=39)=True:=eq_true (by omega);rcases ni with⟨x1,x2⟩|⟨d,x0,x1,x2⟩
     .rw[x1,He k1];refine⟨0,.inl ⟨[],rfl,?_⟩⟩;simp[nA,fC,fo,cK,h1,h6,h3,tH,n0,n1,n2,n3,a7,SQ,aT,tI,x2];omega
     .rw[x1];by_cases k2:d.toNat=39
      .have IX:((d.toNat:Int)=39)=True:=eq_true (by omega);have x3:=(List.getElem?_eq_some_iff.1 x0).1;rw[Iy k1 k2];obtain rfl:c=39:=UInt8.toNat_inj.1 k1;have ih:=nO n s hl q0 f [39] (j+2) m 0 (by simp) (by simp) (by omega) (by omega) (by omega);rw[show q0+(j+2)=q0+j+2 by omega] at ih;simp only[List.length_cons,List.length_nil,Nat.zero_add,Int.natCast_add,Int.natCast_one,nA,cK,jV,List.map_cons,List.map_nil] at ih;simp[nA,fC,fo,cK,h1,h6,h3,tH,n0,n1,n2,n3,a7,SQ,aT,IX,x0,x2];exact ih
      .have IX:((d.toNat:Int)=39)=False:=eq_false (by omega);rw[Ic k1 k2];refine⟨0,.inl ⟨[],rfl,?_⟩⟩;simp[nA,fC,fo,cK,h1,h6,h3,tH,n0,n1,n2,n3,a7,SQ,aT,tI,IX,x0,x2];omega
    have tI:((c.toNat:Int)=39)=False:=eq_false (by omega);by_cases k2:c.toNat<32\/126<c.toNat
    .rw[B7 k1 k2];have hx:∃e:Int,(if (q0:Int)+(j:Int)+1<(s.length:Int) then True else True):=⟨0,by split<;>trivial⟩
     by_cases k3:c.toNat<32
     .have kj:((c.toNat:Int)<32)=True:=eq_true (by omega);rcases ni with⟨x1,x2⟩|⟨d,x0,x1,x2⟩
      .refine⟨min md 1,.inr (.inl ⟨rfl,?_⟩)⟩;simp[nA,fC,fo,cK,h1,h6,h3,tH,n0,n1,n2,n3,a7,SQ,aT,tI,kj,x2]
      .refine⟨min md 1,.inr (.inl ⟨rfl,?_⟩)⟩;simp[nA,fC,fo,cK,h1,h6,h3,tH,n0,n1,n2,n3,a7,SQ,aT,tI,kj,x0,x2]
     .have kj:((c.toNat:Int)<32)=False:=eq_false (by omega);have gT:(126<(c.toNat:Int))=True:=eq_true (by omega);rcases ni with⟨x1,x2⟩|⟨d,x0,x1,x2⟩
      .refine⟨min md 1,.inr (.inl ⟨rfl,?_⟩)⟩;simp[nA,fC,fo,cK,h1,h6,h3,tH,n0,n1,n2,n3,a7,SQ,aT,tI,kj,gT,x2]
      .refine⟨min md 1,.inr (.inl ⟨rfl,?_⟩)⟩;simp[nA,fC,fo,cK,h1,h6,h3,tH,n0,n1,n2,n3,a7,SQ,aT,tI,kj,gT,x0,x2]
    have kj:((c.toNat:Int)<32)=False:=eq_false (by omega);have gT:(126<(c.toNat:Int))=False:=eq_false (by omega);by_cases k5:c.toNat=92
    .have LP:((c.toNat:Int)=92)=True:=eq_true (by omega);rcases ni with⟨x1,x2⟩|⟨d,x0,x1,x2⟩
     .rw[x1,HD k5];have z:=gO [110,116,92,39] 0;rw[show (0:UInt8).toNat=0 from rfl,K6] at z;simp only[show ((0:Nat):Int)=0 from rfl] at z;refine⟨min md 1,.inr (.inl ⟨rfl,?_⟩)⟩;simp[nA,fC,fo,cK,h1,h6,h3,tH,n0,n1,n2,n3,a7,SQ,aT,tI,kj,gT,LP,x2,z]
     .rw[x1];have z:=gO [110,116,92,39] d;obtain⟨z1,z2⟩:=P9 d
      cases IY:wS d with
      |none=>rw[Ib k5 IY];rw[z2 IY] at z;refine⟨min md 1,.inr (.inl ⟨rfl,?_⟩)⟩;simp[nA,fC,fo,cK,h1,h6,h3,tH,n0,n1,n2,n3,a7,SQ,aT,tI,kj,gT,LP,x0,x2,z]
      |some b=>rw[Iz k5 IY];obtain⟨i,y1,y2⟩:=z1 b IY;have x3:=(List.getElem?_eq_some_iff.1 x0).1;rw[y1] at z;have y3:((i:Int)<0)=False:=eq_false (by omega);have y4:(0<=(i:Int))=True:=eq_true (by omega);have ih:=nO n s hl q0 f [b] (j+2) m 0 (by simp) (by simp) (by omega) (by omega) (by omega);rw[show q0+(j+2)=q0+j+2 by omega] at ih;simp only[List.length_cons,List.length_nil,Nat.zero_add,Int.natCast_add,Int.natCast_one,nA,cK,jV,List.map_cons,List.map_nil] at ih;simp[nA,fC,fo,cK,h1,h6,h3,tH,n0,n1,n2,n3,a7,SQ,aT,tI,kj,gT,LP,x0,x2,z,y2,y3,y4];exact ih
    .have LP:((c.toNat:Int)=92)=False:=eq_false (by omega);rw[Px k1 k2 k5];rcases ni with⟨x1,x2⟩|⟨d,x0,x1,x2⟩
     .have ih:=nO n s hl q0 f [c] (j+1) m 0 (by simp) (by simp) (by omega) (by omega) (by omega);rw[show q0+(j+1)=q0+j+1 by omega] at ih;simp only[List.length_cons,List.length_nil,Nat.zero_add,Int.natCast_add,Int.natCast_one,nA,cK,jV,List.map_cons,List.map_nil] at ih;simp[nA,fC,fo,cK,h1,h6,h3,tH,n0,n1,n2,n3,a7,SQ,aT,tI,kj,gT,LP,x2];exact ih
     .have ih:=nO n s hl q0 f [c] (j+1) m 0 (by simp) (by simp) (by omega) (by omega) (by omega);rw[show q0+(j+1)=q0+j+1 by omega] at ih;simp only[List.length_cons,List.length_nil,Nat.zero_add,Int.natCast_add,Int.natCast_one,nA,cK,jV,List.map_cons,List.map_nil] at ih;simp[nA,fC,fo,cK,h1,h6,h3,tH,n0,n1,n2,n3,a7,SQ,aT,tI,kj,gT,LP,x0,x2];exact ih
theorem oW{X:World->Prop}{P:Program}{E:Env}(hE:cT P X E){n f:Nat}{aC cs jt:List AV}{v:AV}(he:(aF E n f (.ptr 0 0::aC) (Cs [.row cs])).map (λp=>(p.1,p.2.get 0))=some (v,some (.row jt)))
 (hv:v.aK=0) (hr:AV.aw aC=0) (hc:AV.aw jt=0):dA P X f (.ptr 0 0::aC) [.row cs] v (some [.row jt]):=by
 obtain⟨⟨v1,h1⟩,e1,e2⟩:=Option.map_eq_some_iff.1 he;simp only[Prod.mk.injEq] at e2;obtain⟨rfl,e3⟩:=e2;exact yR hE e1 e3 hv hr hc
def Sq(q:Option (List UInt8)×Nat):AV:=match q.1 with|some t=>.tuple [.agg (cK 2 t 0),.int .i64 0]|none=>.tuple [.agg (cK 0 [] 0),.int .i64 2]
def QV:cr:=⟨80,λ
 |[.ptr 0 0],[.row [.str s,.int .i64 i]]=>if s.length<1000000000/\0<=i/\i<s.length then
  some (Sq (iJ ((s.drop (i.toNat+1)).length+1) (s.drop (i.toNat+1)) [] 1),some [.row [.str s,.int .i64 (i.toNat+(iJ ((s.drop (i.toNat+1)).length+1) (s.drop (i.toNat+1)) [] 1).2:Nat)]]) else none
 |_,_=>none⟩
theorem mF:QV.f=80:=(rfl)
theorem XQ(s:List UInt8)(k:Nat)(hl:s.length<1000000000)(hk:k<s.length):
 QV.S [.ptr 0 0] [.row [.str s,.int .i64 k]]=some (Sq (iJ ((s.drop (k+1)).length+1) (s.drop (k+1)) [] 1),some [.row [.str s,.int .i64 (k+(iJ ((s.drop (k+1)).length+1) (s.drop (k+1)) [] 1).2:Nat)]]):=by
 simp only[QV];rw[if_pos ⟨hl,by omega,by omega⟩,Int.toNat_natCast]
theorem Yi:nK Tryz.prog QV:=λag os v r hv=>by
 unfold QV at hv;dsimp only at hv;split at hv
 .rename_i s i;split at hv
  .rename_i hc;cases hv;obtain⟨k,rfl⟩:∃k:Nat,i=(k:Int):=⟨i.toNat,by omega⟩
   rw[Int.toNat_natCast,mF];have h3:IntKind.i64.wrap ((k:Int)+1)=(k:Int)+1:=wrap_i64 (by omega) (by omega);have lp:=Sm (s.length+4) s hc.1 k ((s.drop (k+1)).length+1) 1 (s.length+5) 0 (by omega) (by rw[List.length_drop];omega) (by rw[List.length_drop];omega);generalize iJ ((s.drop (k+1)).length+1) (s.drop (k+1)) [] 1=q at *;refine oW (n:=s.length+6) (yv (ss:=nA) (ms:=[]) Mn (by simp)) ?_ (by unfold Sq;split<;>rfl) rfl rfl;rw[vB];obtain⟨cq,lp⟩:=lp;simp only[fo,nA,cK,Int.natCast_add,Int.natCast_one] at lp;rcases lp with⟨t,e1,lp⟩|⟨e1,lp⟩|⟨e1,lp⟩
   all_goals
    unfold Sq;rw[e1];simp[nA,adX,c80,fo,cK,h3,lp,a7]
  .cases hv
 .cases hv
theorem ji:uv.f=75:=(rfl)
theorem QG(c:UInt8):uv.S [.int .u8 c.toNat]=some (.bool (mG c)):=lZ _ _ c
theorem iW:uf.f=77:=(rfl)
theorem R1(c:UInt8):uf.S [.int .u8 c.toNat]=some (.bool (l5 c)):=lZ _ _ c
theorem UH(c:UInt8):tV.S [.int .u8 c.toNat]=some (.bool (eA c)):=lZ _ _ c
def JQ:List aX:=[uv,uf,tV,Rr,ve,kl,jC]
theorem ab4:∀s∈JQ,fi Tryz.prog cX s:=by simp[JQ,Gk.lift,FK.lift,Et.lift,OT.lift,Ny,Fe.lift,qp.lift]
def J1:List cr:=[runM,QV,Cr,G0]
theorem abi:∀m∈J1,cC Tryz.prog cX m:=by simp[J1,Pc.lift,Yi.lift,KY.lift,VH.lift]
theorem L8{s:List UInt8}{k:Nat}(h:k<=s.length):sliceB s.length (some (.int .i64 k)) none=some (k,s.length):=by
 have a1:(0:Int)<=(k:Int)/\(k:Int)<=(s.length:Int):=by omega
 simp[sliceB,a1]
theorem Sf(c:UInt8):decide (0<=oi c.toNat uu)=jD c:=yE _ _
theorem Hz(c d a b:UInt8)(r:List UInt8):Lib.hasPrefix (c::d::r) [a,b]=(decide (c.toNat=a.toNat)&&decide (d.toNat=b.toNat)):=by
 have e:∀x y:UInt8,(x==y)=decide (y.toNat=x.toNat):=λx y=>by
  by_cases h:x=y
  .subst h;simp
  .have:¬y.toNat=x.toNat:=λe=>h (UInt8.toNat_inj.1 e.symm)
   rw[decide_eq_false this];simpa using h
 simp[Lib.hasPrefix,List.isPrefixOf,e]
theorem PX(c a b:UInt8):Lib.hasPrefix [c] [a,b]=false:=by simp[Lib.hasPrefix,List.isPrefixOf]
def cL(t:Tok):AV:=.agg [.int .i64 t.au,.str t.aD,.int .i64 t.cF,.bool t.jq,.int .i64 t.aZ]
def So:cr:=⟨45,λ
 |[.ptr 0 0],[.row [.str s,.int .i64 i]]=>if s.length<1000000000/\0<=i/\i<s.length then
  some (.tuple [cL (jg (s.drop i.toNat)).1,.int .i64 (jg (s.drop i.toNat)).2.2],some [.row [.str s,.int .i64 (i.toNat+(jg (s.drop i.toNat)).2.1:Nat)]]) else none
 |_,_=>none⟩
theorem eW:So.f=45:=(rfl)
theorem PS(s:List UInt8)(k:Nat)(hl:s.length<1000000000)(hk:k<s.length):
 So.S [.ptr 0 0] [.row [.str s,.int .i64 k]]=some (.tuple [cL (jg (s.drop k)).1,.int .i64 (jg (s.drop k)).2.2],some [.row [.str s,.int .i64 (k+(jg (s.drop k)).2.1:Nat)]]):=by
 simp only[So];rw[if_pos ⟨hl,by omega,by omega⟩,Int.toNat_natCast]
theorem Wd(s:List UInt8)(k:Nat)(hl:s.length<1000000000)(hk:k<s.length)(n:Nat):
 (aF (b9 JQ J1) (n+2) 45 [.ptr 0 0] (Cs [.row [.str s,.int .i64 k]])).map (λp=>(p.1,p.2.get 0))=
  some (.tuple [cL (jg (s.drop k)).1,.int .i64 (jg (s.drop k)).2.2],some (.row [.str s,.int .i64 (k+(jg (s.drop k)).2.1:Nat)])):=by
 obtain⟨c,h1,hd⟩:=gp (s:=s) (k:=k) hk;rw[vB];have q1:=QG c;have q2:=R1 c;have q3:=UH c;have q4:=PH c;have r1:=Ik 76 jG (by simp[wX]) s k hl (by omega);have r2:=Ik 78 eA (by simp[wX]) s k hl (by omega);have r3:=XQ s k hl hk;have r4:=KR s k hl hk;have r5:=TJ s k hl (by omega);have h3:IntKind.i64.wrap ((k:Int)+1)=(k:Int)+1:=wrap_i64 (by omega) (by omega);have tH:IntKind.i64.wrap ((k:Int)+2)=(k:Int)+2:=wrap_i64 (by omega) (by omega);have h3c:IntKind.i64.wrap (k:Int)=(k:Int):=wrap_i64 (by omega) (by omega);have sf:=L8 (s:=s) (k:=k) (by omega);have tk:(s.take s.length).drop k=s.drop k:=by rw[List.take_length]
 have hb:=c.toNat_lt;have rn1:=kS eA (s.drop k);have F:uv.f=75/\uf.f=77/\tV.f=78/\Rr.f=82/\ve.f=79/\kl.f=84/\jC.f=65:=⟨rfl,rfl,rfl,rfl,rfl,rfl,rfl⟩
 rw[hd] at r1 r2 r4 r5 rn1|-;unfold jg;dsimp only
 cases k1:mG c with
 |true=>rw[k1] at q1;simp only[if_true];generalize runN jG (c::s.drop (k+1))=q at *;simp only[Int.natCast_add] at r1;simp[JQ,J1,nB,LW,h1,q1,r1,cL,ji,iW,j7,ku,gS,eY,a7,jy,mF,ie,jY]
 |false=>
 rw[k1] at q1;simp only[Bool.false_eq_true,if_false]
 cases k2:l5 c with
 |true=>rw[k2] at q2;simp only[if_true];generalize runN jG (c::s.drop (k+1))=q at *;simp only[Int.natCast_add] at r1;simp[JQ,J1,nB,LW,h1,q1,q2,r1,cL,ji,iW,j7,ku,gS,eY,a7,jy,mF,ie,jY]
 |false=>
 rw[k2] at q2;simp only[Bool.false_eq_true,if_false]
 cases k3:eA c with
 |true=>rw[k3] at q3;simp only[if_true];have q5:=M4 ((c::s.drop (k+1)).take (runN eA (c::s.drop (k+1)))) (by rw[List.length_take];simp;omega);generalize (c::s.drop (k+1)).take (runN eA (c::s.drop (k+1)))=D at *;generalize runN eA (c::s.drop (k+1))=q at *;generalize jf D=P at *;obtain⟨v,e⟩:=P;dsimp only at q5|-;simp only[Int.natCast_add] at r2;simp[JQ,J1,nB,LW,h1,q1,q2,q3,q5,r2,cL,ji,iW,j7,ku,gS,eY,a7,jy,mF,ie,jY]
 |false=>
 rw[k3] at q3;simp only[Bool.false_eq_true,if_false];by_cases k4:c.toNat=39
 .have gT:((c.toNat:Int)=39)=True:=eq_true (by omega);rw[if_pos k4];generalize iJ ((s.drop (k+1)).length+1) (s.drop (k+1)) [] 1=Q at *;obtain⟨a,q⟩:=Q;simp only[Int.natCast_add] at r3
  cases a with
  |none=>simp only[Sq,cK] at r3;simp[JQ,J1,nB,LW,h1,q1,q2,q3,gT,r3,cL,kO,ji,iW,j7,ku,gS,eY,a7,jy,mF,ie,jY]
  |some t=>simp only[Sq,cK] at r3;simp[JQ,J1,nB,LW,h1,q1,q2,q3,gT,r3,cL,kO,ji,iW,j7,ku,gS,eY,a7,jy,mF,ie,jY]
 have gT:((c.toNat:Int)=39)=False:=eq_false (by omega);rw[if_neg k4]
 cases k5:ox (c::s.drop (k+1)) with
 |true=>rw[k5] at r4;simp only[if_true];simp[JQ,J1,nB,LW,h1,h3,q1,q2,q3,gT,r4,cL,ji,iW,j7,ku,gS,eY,a7,jy,mF,ie,jY]
 |false=>
 rw[k5] at r4;simp only[Bool.false_eq_true,if_false]
 cases k6:wP c with
 |true=>rw[k6] at q4;simp only[if_true];generalize mL (c::s.drop (k+1))=q at *;simp only[Int.natCast_add] at r5;simp[JQ,J1,nB,LW,h1,q1,q2,q3,q4,gT,r4,r5,cL,ji,iW,j7,ku,gS,eY,a7,jy,mF,ie,jY]
 |false=>
 rw[k6] at q4;simp only[Bool.false_eq_true,if_false];have nn:((c.toNat:Int)).toNat=c.toNat:=by omega
 have cc:UInt8.ofNat c.toNat=c:=by simp
 by_cases k7:c.toNat=59\/c.toNat=33
 .rw[if_pos k7];have HI:((c.toNat:Int)<128)=True:=eq_true (by omega);by_cases k8:c.toNat=59
  .have BE:((c.toNat:Int)=59)=True:=eq_true (by omega);simp[JQ,J1,nB,LW,h1,h3,q1,q2,q3,q4,gT,BE,r4,HI,nn,cc,cL,ji,iW,j7,ku,gS,eY,a7,jy,mF,ie,jY]
  .have BE:((c.toNat:Int)=59)=False:=eq_false (by omega);have E0:((c.toNat:Int)=33)=True:=eq_true (by omega);simp[JQ,J1,nB,LW,h1,h3,q1,q2,q3,q4,gT,BE,E0,r4,HI,nn,cc,cL,ji,iW,j7,ku,gS,eY,a7,jy,mF,ie,jY]
 rw[if_neg k7];have BE:((c.toNat:Int)=59)=False:=eq_false (by omega);have E0:((c.toNat:Int)=33)=False:=eq_false (by omega);have p1:kl.S [.str (s.drop k),.str [91,93]]=some (.bool (Lib.hasPrefix (c::s.drop (k+1)) [91,93])):=by rw[<-hd];exact wF _ _
 have p2:kl.S [.str (s.drop k),.str [123,125]]=some (.bool (Lib.hasPrefix (c::s.drop (k+1)) [123,125])):=by rw[<-hd];exact wF _ _
 have p3:=gO uu c;have p4:=Sf c;generalize oi c.toNat uu=x at *;simp only[uu] at p3
 have aet:jD c=true->c.toNat<128:=λh=>by unfold jD at h;rw[List.any_eq_true] at h;obtain⟨d,hd1,WT⟩:=h;have e:=of_decide_eq_true WT;simp only[uu,List.mem_cons,List.not_mem_nil,or_false] at hd1;rcases hd1 with rfl|rfl|rfl|rfl|rfl|rfl|rfl|rfl<;>rw[<-e]<;>decide
 have fin:∀(R:Bool),R=jD c->Lib.hasPrefix (c::s.drop (k+1)) [91,93]=false->Lib.hasPrefix (c::s.drop (k+1)) [123,125]=false->
  (aF (b9 JQ J1) (n+2) 45 [.ptr 0 0] ⟨1,[.row [.str s,.int .i64 k]],1,1⟩).map (λp=>(p.1,p.2.get 0))=
   some (if R then .tuple [cL ⟨5,[c],0,false,0⟩,.int .i64 0] else .tuple [cL kO,.int .i64 2],some (.row [.str s,.int .i64 (k+(if R then 1 else 0):Nat)])):=λR hR w1 w2=>by
  rw[w1] at p1;rw[w2] at p2;rw[<-hR] at p4
  cases R with
  |true=>have HI:((c.toNat:Int)<128)=True:=eq_true (by have:=aet hR.symm;omega);have p5:(0<=x)=True:=eq_true (of_decide_eq_true p4);simp[JQ,J1,nB,LW,h1,h3,q1,q2,q3,q4,gT,BE,E0,r4,HI,nn,cc,sf,tk,p1,p2,p3,p5,cL,ji,iW,j7,ku,gS,eY,a7,jy,mF,ie,jY]
  |false=>have p5:(0<=x)=False:=eq_false (of_decide_eq_false p4);simp[JQ,J1,nB,LW,h1,h3,q1,q2,q3,q4,gT,BE,E0,r4,nn,cc,sf,tk,p1,p2,p3,p5,cL,kO,ji,iW,j7,ku,gS,eY,a7,jy,mF,ie,jY]
 cases hr:s.drop (k+1) with
 |nil=>rw[hr] at fin;have:=fin (jD c) rfl (PX _ _ _) (PX _ _ _);rw[this];cases jD c<;>rfl
 |cons d r=>
   rw[hr] at fin;dsimp only;by_cases kk:(c.toNat=91/\d.toNat=93)\/(c.toNat=123/\d.toNat=125)
   .rw[if_pos kk]
    have hkl:k+2<=s.length:=by have:=congrArg List.length hr;rw[List.length_drop] at this;simp at this;omega
    obtain⟨s1,s2⟩:=u6 (s:=s) (k:=k) (q:=2) hkl;have s3:(s.drop k).take 2=[c,d]:=by rw[hd,hr];rfl
    rw[s3] at s2;simp only[Int.natCast_add,show ((2:Nat):Int)=2 from rfl] at s1;rw[hr,Hz] at p1 p2;rw[show (91:UInt8).toNat=91 from rfl,show (93:UInt8).toNat=93 from rfl] at p1;rw[show (123:UInt8).toNat=123 from rfl,show (125:UInt8).toNat=125 from rfl] at p2;rcases kk with⟨a1,a2⟩|⟨a1,a2⟩
    .rw[decide_eq_true a1,decide_eq_true a2] at p1;simp[JQ,J1,nB,LW,h1,tH,h3c,q1,q2,q3,q4,gT,BE,E0,r4,nn,cc,sf,tk,p1,p2,s1,s2,cL,ji,iW,j7,ku,gS,eY,a7,jy,mF,ie,jY]
    .rw[decide_eq_false (show ¬c.toNat=91 by omega)] at p1;rw[decide_eq_true a1,decide_eq_true a2] at p2;simp[JQ,J1,nB,LW,h1,tH,h3c,q1,q2,q3,q4,gT,BE,E0,r4,nn,cc,sf,tk,p1,p2,s1,s2,cL,ji,iW,j7,ku,gS,eY,a7,jy,mF,ie,jY]
   .rw[if_neg kk]
    have:=fin (jD c) rfl (by
     rw[Hz,show (91:UInt8).toNat=91 from rfl,show (93:UInt8).toNat=93 from rfl];by_cases a:c.toNat=91
     .rw[decide_eq_true a,decide_eq_false (λb=>kk (.inl ⟨a,b⟩))];rfl
     .rw[decide_eq_false a];rfl) (by
     rw[Hz,show (123:UInt8).toNat=123 from rfl,show (125:UInt8).toNat=125 from rfl];by_cases a:c.toNat=123
     .rw[decide_eq_true a,decide_eq_false (λb=>kk (.inr ⟨a,b⟩))];rfl
     .rw[decide_eq_false a];rfl)
    rw[this];cases jD c<;>rfl
theorem YP:cC Tryz.prog cX So:=λag os v r hv=>by
 unfold So at hv;dsimp only at hv;split at hv
 .rename_i s i;split at hv
  .rename_i hc;cases hv;obtain⟨k,rfl⟩:∃k:Nat,i=(k:Int):=⟨i.toNat,by omega⟩
   rw[Int.toNat_natCast,eW];exact oW (n:=5) (dK ab4 abi) (Wd s k hc.1 (by omega) 3) (by simp[AV.aK,AV.aw,cL]) rfl rfl
  .cases hv
 .cases hv
def dO(l:List Tok):List AV:=l.flatMap Tok.cells
theorem zq(l:List Tok):∀x∈l.map Tok.aV,Fl 5 x:=by intro x hx;obtain⟨o,_,rfl⟩:=List.mem_map.1 hx;exact⟨rfl,rfl,(λh=>by cases h),λ_=>rfl,rfl⟩
theorem Cw(l:List Tok):(l.map Tok.aV).flatMap AV.cells=dO l:=by
 induction l with
 |nil=>rfl
 |cons t r ih=>unfold dO at ih|-;rw[List.map_cons,List.flatMap_cons,List.flatMap_cons,ih];rfl
theorem o4(l:List Tok):(dO l).length=l.length*5:=by rw[<-Cw,xT (zq l),List.length_map]
theorem nC(l:List Tok):AV.aw (dO l)=0:=by rw[<-Cw];exact nU (xU (zq l))
theorem sR(l:List Tok)(t:Tok):dO (l++[t])=dO l++t.cells:=by simp[dO]
theorem Gj(l:List Tok):AV.aw (l.map Tok.aV)=0:=by
 induction l with
 |nil=>rfl
 |cons t r ih=>simp[AV.aw,ih,Tok.aV,Tok.cells,AV.aK]
theorem aaL{h:ai}{n0 d id:Nat}(x:Tok)(r:List Tok)(cG:n0<=id)(hg:h.get id=some (.row (dO (x::r)))):
 jF h n0 (d+2) (.vec id 0 (r.length+1) 5 (r.length+1))=some (.sl ((x::r).map Tok.aV),[id]):=
 yj cG hg (by omega) (zq (x::r)) (by simp) (by rw[o4];simp) (by rw[Cw,List.take_of_length_le];rw[o4];simp)
def vK(id:Nat):List Tok->AV
 |[]=>.aJ
 |x::r=>.vec id 0 (r.length+1) 5 (r.length+1)
def hK(us:List Tok)(B:List bp):List bp:=match us with
 |[]=>B
 |x::r=>.row (dO (x::r))::B
theorem aaI{id:Nat}{l:List Tok}(h:l≠[]):vK id l=.vec id 0 l.length 5 l.length:=by
 cases l with
 |nil=>exact absurd rfl h
 |cons x r=>rfl
theorem aaw{l:List Tok}{B:List bp}(h:l≠[]):hK l B=.row (dO l)::B:=by
 cases l with
 |nil=>exact absurd rfl h
 |cons x r=>rfl
def mC:List aX:=[]
def mE:List cr:=[So,DM]
theorem acI:∀m∈mE,cC Tryz.prog cX m:=by simp[mE,YP,UR.lift]
def X0(r:List Tok×Int×Int)(s:List UInt8)(R:Option (Ex×List AV×ai)):Prop:=
 ∃cq,(r.2.2=0/\r.2.1=s.length/\R=some (.exit 0,FM 89 [(0,.str s),(6,vK 1 r.1)],⟨(hK r.1 [.row [.str s,.int .i64 s.length]]).length,hK r.1 [.row [.str s,.int .i64 s.length]],0,cq⟩))\/
   (r.2.2≠0/\r.1=[]/\∃x,R=some (.ret,FM 89 [(2,.aJ),(3,.int .i64 r.2.1),(4,.int .i64 r.2.2)],⟨1,[.row [.str s,.int .i64 x]],0,cq⟩))
theorem JW(n:Nat)(s:List UInt8)(hl:s.length<=4096):∀(f:Nat) (aB:List Tok) (j m md:Nat),aB≠[]->aB.length<=1024->j<=s.length->s.length-j<f->f<=m->
 X0 (qK f s j aB) s (gu 1 0 (bL (aH (aF (b9 mC mE) (n+1)) (n+1) eU) ey 1 m (DN (.str s) (.ptr 0 0) (.vec 1 0 aB.length 5 aB.length)) ⟨2,[.row (dO aB),.row [.str s,.int .i64 j]],1,md⟩))
 |0,aB,j,m,md,fy,hac,hk,h,_=>by omega
 |f+1,aB,j,0,md,fy,hac,_,_,h=>by omega
 |f+1,aB,j,m+1,md,fy,hac,hk,hf0,hm=>by
   rw[ak];have hf:=nC aB;have h8:(aB.length+1)*48<=140737488355328:=by omega
   have h9:aB.length+1<9223372036854775808:=by omega
   have gG:(dO aB).take (aB.length*5)=dO aB:=by rw[List.take_of_length_le];rw[o4];exact Nat.le_refl _
   have iH:=o4 aB;unfold qK;by_cases he:j=s.length
   .have h6:((j:Int)<(s.length:Int))=False:=eq_false (by omega);rw[if_pos (by omega)];refine⟨md,.inl ⟨rfl,rfl,?_⟩⟩;rw[aaI fy,aaw fy];simp[mC,mE,eU,ey,eW,dG,cL,hf,h8,h9,gG,iH,aT,h6,he]
   .have G3:j<s.length:=by omega
    have h6:((j:Int)<(s.length:Int))=True:=eq_true (by omega);rw[if_neg (by omega)];have q1:=PS s j (by omega) G3;obtain⟨b1,b2⟩:=rJ (s.drop j);rw[List.length_drop] at b1;generalize jg (s.drop j)=O at *;obtain⟨⟨kd,tx,nm,op,a0⟩,k,e⟩:=O;dsimp only at q1 b1 b2|-;simp only[Int.natCast_add,cL] at q1;by_cases e0:e=0
    .subst e0;rw[if_neg (by simp)];have hk1:=b2 rfl;by_cases W7:((kd=1\/kd=2)/\64<tx.length)\/(aB:List Tok).length=1024
     .rw[if_pos W7];refine⟨0,.inr ⟨by simp,rfl,(j+k:Nat),?_⟩⟩;by_cases k1:kd=1
      .by_cases k3:64<tx.length
       .have kj:((64:Int)<(tx.length:Int))=True:=eq_true (by omega);simp[mC,mE,eU,ey,eW,dG,cL,hf,h8,h9,gG,iH,aT,h6,q1,k1,kj]
       .have kj:((64:Int)<(tx.length:Int))=False:=eq_false (by omega);have k4:(aB:List Tok).length=1024:=by omega
        have gT:((aB.length:Int)=1024)=True:=eq_true (by omega);simp[mC,mE,eU,ey,eW,dG,cL,hf,h8,h9,gG,iH,aT,h6,q1,k1,kj,gT]
      .by_cases k2:kd=2
       .by_cases k3:64<tx.length
        .have kj:((64:Int)<(tx.length:Int))=True:=eq_true (by omega);simp[mC,mE,eU,ey,eW,dG,cL,hf,h8,h9,gG,iH,aT,h6,q1,k2,kj]
        .have kj:((64:Int)<(tx.length:Int))=False:=eq_false (by omega);have k4:(aB:List Tok).length=1024:=by omega
         have gT:((aB.length:Int)=1024)=True:=eq_true (by omega);simp[mC,mE,eU,ey,eW,dG,cL,hf,h8,h9,gG,iH,aT,h6,q1,k2,kj,gT]
       .have k4:(aB:List Tok).length=1024:=by omega
        have gT:((aB.length:Int)=1024)=True:=eq_true (by omega);simp[mC,mE,eU,ey,eW,dG,cL,hf,h8,h9,gG,iH,aT,h6,q1,k1,k2,gT]
     .rw[if_neg W7];have hsk:=uF (s.length+1) (s.drop (j+k));rw[List.length_drop] at hsk;have q2:=Ct s (j+k) (by omega) (by omega);simp only[Int.natCast_add] at q2;have n0:(0<=(j:Int)+(k:Int))=True:=eq_true (by omega);have n2:((j:Int)+(k:Int)).toNat=j+k:=by omega
      have Oq:(s[j+k]? =none/\((j:Int)+(k:Int)<(s.length:Int))=False)\/∃d,s[j+k]? =some d/\((j:Int)+(k:Int)<(s.length:Int))=True:=by
       by_cases hx:j+k<s.length
       .exact .inr ⟨s[j+k],List.getElem?_eq_getElem hx,eq_true (by omega)⟩
       .exact .inl ⟨List.getElem?_eq_none (by omega),eq_false (by omega)⟩
      have gT:((aB.length:Int)=1024)=False:=eq_false (by omega)
      have key:∀(b:Bool),decide ((s[j+k]?.map UInt8.toNat)=some 40)=b->(∀(R:Option (Ex×List AV×ai)),R=gu 1 0 (bL (aH (aF (b9 mC mE) (n+1)) (n+1) eU) ey 1 m (DN (.str s) (.ptr 0 0) (.vec 1 0 (aB++[(⟨kd,tx,nm,b,j⟩:Tok)]).length 5 (aB++[(⟨kd,tx,nm,b,j⟩:Tok)]).length)) ⟨2,[.row (dO (aB++[(⟨kd,tx,nm,b,j⟩:Tok)])),.row [.str s,.int .i64 (j+k+dE (s.length+1) (s.drop (j+k)):Nat)]],1,0⟩)->
       X0 (qK f s (j+k+dE (s.length+1) (s.drop (j+k))) (aB++[(⟨kd,tx,nm,decide ((s[j+k]?.map UInt8.toNat)=some 40),j⟩:Tok)])) s R):=λb hb R hR=>by
       rw[hR,hb];exact JW n s hl f (aB++[⟨kd,tx,nm,b,j⟩]) (j+k+dE (s.length+1) (s.drop (j+k))) m 0 (by simp) (by simp<;>omega) (by omega) (by omega) (by omega)
      generalize dE (s.length+1) (s.drop (j+k))=sk at *;have xI:∀b:Bool,dO (aB++[(⟨kd,tx,nm,b,j⟩:Tok)])=dO aB++[.int .i64 kd,.str tx,.int .i64 nm,.bool b,.int .i64 j]:=λb=>sR _ _
      have gr:∀b:Bool,AV.aw (dO aB++[.int .i64 kd,.str tx,.int .i64 nm,.bool b,.int .i64 j])=0:=λb=>by rw[<-xI];exact nC _
      rcases Oq with⟨x1,x2⟩|⟨d,x1,x2⟩
      .by_cases k1:kd=1
       .obtain rfl:=k1;have kj:((64:Int)<(tx.length:Int))=False:=eq_false (by omega);refine key false (by simp[x1]) _ ?_;simp only[xI,List.length_append,List.length_cons,List.length_nil,Nat.zero_add,Int.natCast_add,mC,mE];simp[mC,mE,eU,ey,eW,dG,cL,hf,h8,h9,gG,iH,aT,h6,q1,q2,n0,n2,gT,gr,x2,kj]
       .by_cases k2:kd=2
        .obtain rfl:=k2;have kj:((64:Int)<(tx.length:Int))=False:=eq_false (by omega);refine key false (by simp[x1]) _ ?_;simp only[xI,List.length_append,List.length_cons,List.length_nil,Nat.zero_add,Int.natCast_add,mC,mE];simp[mC,mE,eU,ey,eW,dG,cL,hf,h8,h9,gG,iH,aT,h6,q1,q2,n0,n2,gT,gr,x2,kj]
        .refine key false (by simp[x1]) _ ?_;simp only[xI,List.length_append,List.length_cons,List.length_nil,Nat.zero_add,Int.natCast_add,mC,mE];simp[mC,mE,eU,ey,eW,dG,cL,hf,h8,h9,gG,iH,aT,h6,q1,q2,n0,n2,gT,gr,x2,k1,k2]
      .by_cases IZ:d.toNat=40
       .have pH:((d.toNat:Int)=40)=True:=eq_true (by omega);by_cases k1:kd=1
        .obtain rfl:=k1;have kj:((64:Int)<(tx.length:Int))=False:=eq_false (by omega);refine key true (by simp[x1,IZ]) _ ?_;simp only[xI,List.length_append,List.length_cons,List.length_nil,Nat.zero_add,Int.natCast_add,mC,mE];simp[mC,mE,eU,ey,eW,dG,cL,hf,h8,h9,gG,iH,aT,h6,q1,q2,n0,n2,gT,gr,x1,x2,pH,kj]
        .by_cases k2:kd=2
         .obtain rfl:=k2;have kj:((64:Int)<(tx.length:Int))=False:=eq_false (by omega);refine key true (by simp[x1,IZ]) _ ?_;simp only[xI,List.length_append,List.length_cons,List.length_nil,Nat.zero_add,Int.natCast_add,mC,mE];simp[mC,mE,eU,ey,eW,dG,cL,hf,h8,h9,gG,iH,aT,h6,q1,q2,n0,n2,gT,gr,x1,x2,pH,kj]
         .refine key true (by simp[x1,IZ]) _ ?_;simp only[xI,List.length_append,List.length_cons,List.length_nil,Nat.zero_add,Int.natCast_add,mC,mE];simp[mC,mE,eU,ey,eW,dG,cL,hf,h8,h9,gG,iH,aT,h6,q1,q2,n0,n2,gT,gr,x1,x2,pH,k1,k2]
       .have pH:((d.toNat:Int)=40)=False:=eq_false (by omega);by_cases k1:kd=1
        .obtain rfl:=k1;have kj:((64:Int)<(tx.length:Int))=False:=eq_false (by omega);refine key false (by simp[x1,IZ]) _ ?_;simp only[xI,List.length_append,List.length_cons,List.length_nil,Nat.zero_add,Int.natCast_add,mC,mE];simp[mC,mE,eU,ey,eW,dG,cL,hf,h8,h9,gG,iH,aT,h6,q1,q2,n0,n2,gT,gr,x1,x2,pH,kj]
        .by_cases k2:kd=2
         .obtain rfl:=k2;have kj:((64:Int)<(tx.length:Int))=False:=eq_false (by omega);refine key false (by simp[x1,IZ]) _ ?_;simp only[xI,List.length_append,List.length_cons,List.length_nil,Nat.zero_add,Int.natCast_add,mC,mE];simp[mC,mE,eU,ey,eW,dG,cL,hf,h8,h9,gG,iH,aT,h6,q1,q2,n0,n2,gT,gr,x1,x2,pH,kj]
         .refine key false (by simp[x1,IZ]) _ ?_;simp only[xI,List.length_append,List.length_cons,List.length_nil,Nat.zero_add,Int.natCast_add,mC,mE];simp[mC,mE,eU,ey,eW,dG,cL,hf,h8,h9,gG,iH,aT,h6,q1,q2,n0,n2,gT,gr,x1,x2,pH,k1,k2]
    .rw[if_pos e0];refine⟨0,.inr ⟨e0,rfl,(j+k:Nat),?_⟩⟩;simp[mC,mE,eU,ey,eW,dG,cL,hf,h8,h9,gG,iH,aT,h6,q1,e0]
theorem R4(n:Nat)(s:List UInt8)(hl:s.length<=4096):∀(f j m md:Nat),j<=s.length->s.length-j<f->f<=m->
 X0 (qK f s j []) s (gu 1 0 (bL (aH (aF (b9 mC mE) (n+1)) (n+1) eU) ey 1 m (DN (.str s) (.ptr 0 0) .aJ) ⟨1,[.row [.str s,.int .i64 j]],1,md⟩))
 |0,j,m,md,hk,h,_=>by omega
 |f+1,j,0,md,_,_,h=>by omega
 |f+1,j,m+1,md,hk,hf0,hm=>by
   rw[ak];unfold qK;by_cases he:j=s.length
   .have h6:((j:Int)<(s.length:Int))=False:=eq_false (by omega);rw[if_pos (by omega)];refine⟨md,.inl ⟨rfl,rfl,?_⟩⟩;unfold vK hK;simp[mC,mE,eU,ey,eW,dG,cL,aT,h6,he]
   .have G3:j<s.length:=by omega
    have h6:((j:Int)<(s.length:Int))=True:=eq_true (by omega);rw[if_neg (by omega)];have q1:=PS s j (by omega) G3;obtain⟨b1,b2⟩:=rJ (s.drop j);rw[List.length_drop] at b1;generalize jg (s.drop j)=O at *;obtain⟨⟨kd,tx,nm,op,a0⟩,k,e⟩:=O;dsimp only at q1 b1 b2|-;simp only[Int.natCast_add,cL] at q1;by_cases e0:e=0
    .subst e0;rw[if_neg (by simp)];have hk1:=b2 rfl;by_cases W7:((kd=1\/kd=2)/\64<tx.length)\/([]:List Tok).length=1024
     .rw[if_pos W7];refine⟨0,.inr ⟨by simp,rfl,(j+k:Nat),?_⟩⟩;by_cases k1:kd=1
      .by_cases k3:64<tx.length
       .have kj:((64:Int)<(tx.length:Int))=True:=eq_true (by omega);simp[mC,mE,eU,ey,eW,dG,cL,aT,h6,q1,k1,kj]
       .have kj:((64:Int)<(tx.length:Int))=False:=eq_false (by omega);have k4:([]:List Tok).length=1024:=by omega
        exact absurd k4 (by simp)
      .by_cases k2:kd=2
       .by_cases k3:64<tx.length
        .have kj:((64:Int)<(tx.length:Int))=True:=eq_true (by omega);simp[mC,mE,eU,ey,eW,dG,cL,aT,h6,q1,k2,kj]
        .have kj:((64:Int)<(tx.length:Int))=False:=eq_false (by omega);have k4:([]:List Tok).length=1024:=by omega
         exact absurd k4 (by simp)
       .have k4:([]:List Tok).length=1024:=by omega
        exact absurd k4 (by simp)
     .rw[if_neg W7];have hsk:=uF (s.length+1) (s.drop (j+k));rw[List.length_drop] at hsk;have q2:=Ct s (j+k) (by omega) (by omega);simp only[Int.natCast_add] at q2;have n0:(0<=(j:Int)+(k:Int))=True:=eq_true (by omega);have n2:((j:Int)+(k:Int)).toNat=j+k:=by omega
      have Oq:(s[j+k]? =none/\((j:Int)+(k:Int)<(s.length:Int))=False)\/∃d,s[j+k]? =some d/\((j:Int)+(k:Int)<(s.length:Int))=True:=by
       by_cases hx:j+k<s.length
       .exact .inr ⟨s[j+k],List.getElem?_eq_getElem hx,eq_true (by omega)⟩
       .exact .inl ⟨List.getElem?_eq_none (by omega),eq_false (by omega)⟩
      have gT:((0:Int)=1024)=False:=by simp
      have key:∀(b:Bool),decide ((s[j+k]?.map UInt8.toNat)=some 40)=b->(∀(R:Option (Ex×List AV×ai)),R=gu 1 0 (bL (aH (aF (b9 mC mE) (n+1)) (n+1) eU) ey 1 m (DN (.str s) (.ptr 0 0) (.vec 1 0 ([]++[(⟨kd,tx,nm,b,j⟩:Tok)]).length 5 ([]++[(⟨kd,tx,nm,b,j⟩:Tok)]).length)) ⟨2,[.row (dO ([]++[(⟨kd,tx,nm,b,j⟩:Tok)])),.row [.str s,.int .i64 (j+k+dE (s.length+1) (s.drop (j+k)):Nat)]],1,0⟩)->
       X0 (qK f s (j+k+dE (s.length+1) (s.drop (j+k))) ([]++[(⟨kd,tx,nm,decide ((s[j+k]?.map UInt8.toNat)=some 40),j⟩:Tok)])) s R):=λb hb R hR=>by
       rw[hR,hb];exact JW n s hl f ([]++[⟨kd,tx,nm,b,j⟩]) (j+k+dE (s.length+1) (s.drop (j+k))) m 0 (by simp) (by simp<;>omega) (by omega) (by omega) (by omega)
      generalize dE (s.length+1) (s.drop (j+k))=sk at *;have xI:∀b:Bool,dO ([]++[(⟨kd,tx,nm,b,j⟩:Tok)])=dO []++[.int .i64 kd,.str tx,.int .i64 nm,.bool b,.int .i64 j]:=λb=>sR _ _
      have gr:∀b:Bool,AV.aw (dO []++[.int .i64 kd,.str tx,.int .i64 nm,.bool b,.int .i64 j])=0:=λb=>by rw[<-xI];exact nC _
      rcases Oq with⟨x1,x2⟩|⟨d,x1,x2⟩
      .by_cases k1:kd=1
       .obtain rfl:=k1;have kj:((64:Int)<(tx.length:Int))=False:=eq_false (by omega);refine key false (by simp[x1]) _ ?_;simp only[xI,List.length_append,List.length_cons,List.length_nil,Nat.zero_add,Int.natCast_add,dO,List.flatMap_nil,List.flatMap_cons,List.append_nil,Tok.cells,List.nil_append,mC,mE];simp[mC,mE,eU,ey,eW,dG,cL,aT,h6,q1,q2,n0,n2,gT,x2,kj]
       .by_cases k2:kd=2
        .obtain rfl:=k2;have kj:((64:Int)<(tx.length:Int))=False:=eq_false (by omega);refine key false (by simp[x1]) _ ?_;simp only[xI,List.length_append,List.length_cons,List.length_nil,Nat.zero_add,Int.natCast_add,dO,List.flatMap_nil,List.flatMap_cons,List.append_nil,Tok.cells,List.nil_append,mC,mE];simp[mC,mE,eU,ey,eW,dG,cL,aT,h6,q1,q2,n0,n2,gT,x2,kj]
        .refine key false (by simp[x1]) _ ?_;simp only[xI,List.length_append,List.length_cons,List.length_nil,Nat.zero_add,Int.natCast_add,dO,List.flatMap_nil,List.flatMap_cons,List.append_nil,Tok.cells,List.nil_append,mC,mE];simp[mC,mE,eU,ey,eW,dG,cL,aT,h6,q1,q2,n0,n2,gT,x2,k1,k2]
      .by_cases IZ:d.toNat=40
       .have pH:((d.toNat:Int)=40)=True:=eq_true (by omega);by_cases k1:kd=1
        .obtain rfl:=k1;have kj:((64:Int)<(tx.length:Int))=False:=eq_false (by omega);refine key true (by simp[x1,IZ]) _ ?_;simp only[xI,List.length_append,List.length_cons,List.length_nil,Nat.zero_add,Int.natCast_add,dO,List.flatMap_nil,List.flatMap_cons,List.append_nil,Tok.cells,List.nil_append,mC,mE];simp[mC,mE,eU,ey,eW,dG,cL,aT,h6,q1,q2,n0,n2,gT,x1,x2,pH,kj]
        .by_cases k2:kd=2
         .obtain rfl:=k2;have kj:((64:Int)<(tx.length:Int))=False:=eq_false (by omega);refine key true (by simp[x1,IZ]) _ ?_;simp only[xI,List.length_append,List.length_cons,List.length_nil,Nat.zero_add,Int.natCast_add,dO,List.flatMap_nil,List.flatMap_cons,List.append_nil,Tok.cells,List.nil_append,mC,mE];simp[mC,mE,eU,ey,eW,dG,cL,aT,h6,q1,q2,n0,n2,gT,x1,x2,pH,kj]
         .refine key true (by simp[x1,IZ]) _ ?_;simp only[xI,List.length_append,List.length_cons,List.length_nil,Nat.zero_add,Int.natCast_add,dO,List.flatMap_nil,List.flatMap_cons,List.append_nil,Tok.cells,List.nil_append,mC,mE];simp[mC,mE,eU,ey,eW,dG,cL,aT,h6,q1,q2,n0,n2,gT,x1,x2,pH,k1,k2]
       .have pH:((d.toNat:Int)=40)=False:=eq_false (by omega);by_cases k1:kd=1
        .obtain rfl:=k1;have kj:((64:Int)<(tx.length:Int))=False:=eq_false (by omega);refine key false (by simp[x1,IZ]) _ ?_;simp only[xI,List.length_append,List.length_cons,List.length_nil,Nat.zero_add,Int.natCast_add,dO,List.flatMap_nil,List.flatMap_cons,List.append_nil,Tok.cells,List.nil_append,mC,mE];simp[mC,mE,eU,ey,eW,dG,cL,aT,h6,q1,q2,n0,n2,gT,x1,x2,pH,kj]
        .by_cases k2:kd=2
         .obtain rfl:=k2;have kj:((64:Int)<(tx.length:Int))=False:=eq_false (by omega);refine key false (by simp[x1,IZ]) _ ?_;simp only[xI,List.length_append,List.length_cons,List.length_nil,Nat.zero_add,Int.natCast_add,dO,List.flatMap_nil,List.flatMap_cons,List.append_nil,Tok.cells,List.nil_append,mC,mE];simp[mC,mE,eU,ey,eW,dG,cL,aT,h6,q1,q2,n0,n2,gT,x1,x2,pH,kj]
         .refine key false (by simp[x1,IZ]) _ ?_;simp only[xI,List.length_append,List.length_cons,List.length_nil,Nat.zero_add,Int.natCast_add,dO,List.flatMap_nil,List.flatMap_cons,List.append_nil,Tok.cells,List.nil_append,mC,mE];simp[mC,mE,eU,ey,eW,dG,cL,aT,h6,q1,q2,n0,n2,gT,x1,x2,pH,k1,k2]
    .rw[if_pos e0];refine⟨0,.inr ⟨e0,rfl,(j+k:Nat),?_⟩⟩;simp[mC,mE,eU,ey,eW,dG,cL,aT,h6,q1,e0]
def j5(l:List Tok):AV:=match l with
 |[]=>.aJ
 |_=>.sl (l.map Tok.aV)
def oF(r:List Tok×Int×Int):AV:=.tuple [j5 r.1,.int .i64 r.2.1,.int .i64 r.2.2]
theorem Dg(l:List Tok):(j5 l).aK=0:=by
 cases l with
 |nil=>rfl
 |cons x r=>rfl
theorem Za(s:List UInt8):∃h',aF (b9 mC mE) (s.length+4) 15 [.str s] h0=some (oF (a8 s),h')/\(oF (a8 s)).aK=0:=by
 have hrefs:∀r:List Tok×Int×Int,(oF r).aK=0:=λr=>by simp[oF,AV.aK,AV.aw,Dg]
 refine Exists.elim ?_ λh' hh=>⟨h',hh,hrefs _⟩
 unfold a8;by_cases hl:4096<s.length
 .have h1:((4096:Int)<(s.length:Int))=True:=eq_true (by omega);rw[if_pos hl];exact⟨_,by simp[mC,mE,Hl,c15,h1,oF,j5,eW,dG];rfl⟩
 have h1:((4096:Int)<(s.length:Int))=False:=eq_false (by omega);rw[if_neg hl];have q2:=Ct s 0 (by omega) (by omega);have hsk:=uF (s.length+1) s;simp only[List.drop_zero,Nat.zero_add] at q2;have q2':DM.S [.ptr 0 0] [.row [.str s,.int .i64 0]]=some (.tuple [],some [.row [.str s,.int .i64 (dE (s.length+1) s:Nat)]]):=q2;have lp:=R4 (s.length+2) s (by omega) (s.length+1) (dE (s.length+1) s) (s.length+3) 0 hsk (by omega) (by omega);generalize qK (s.length+1) s (dE (s.length+1) s) []=R at *;obtain⟨l,aZ,e⟩:=R;simp only[mC,mE,ey,DN] at lp;obtain⟨md,⟨e1,e2,e3⟩|⟨e1,e2,x,e3⟩⟩:=lp
 .dsimp only at e1 e2 e3;subst e1 e2
  cases l with
  |nil=>simp only[vK,hK] at e3;exact⟨_,by simp[mC,mE,Hl,c15,ey,h1,oF,j5,q2',eW,dG,e3];with_reducible rfl⟩
  |cons t r=>
    simp only[vK,hK] at e3;have fk:∀d,jF ⟨2,[.row (dO (t::r)),.row [.str s,.int .i64 s.length]],0,md⟩ 0 (d+2) (.vec 1 0 (r.length+1) 5 (r.length+1))=some (.sl ((t::r).map Tok.aV),[1]):=λd=>aaL t r (Nat.zero_le 1) rfl
    have rf:=Gj (t::r);rw[List.map_cons,AV.aw] at rf;exact⟨_,by simp[mC,mE,Hl,c15,ey,h1,oF,j5,q2',eW,dG,e3,fk,rf,-iA];with_reducible rfl⟩
 .dsimp only at e1 e2 e3;subst e2;exact⟨_,by simp[mC,mE,Hl,c15,ey,h1,oF,j5,q2',eW,dG,e3];with_reducible rfl⟩
noncomputable def Q5:aX:=⟨15,λ
 |[.str s]=>some (oF (a8 s))
 |_=>none⟩
theorem Mq:Q5.f=15:=(rfl)
theorem O0(s:List UInt8):Q5.S [.str s]=some (oF (a8 s)):=(rfl)
theorem OI:fi Tryz.prog cX Q5:=λag v hv=>by
 unfold Q5 at hv|-;dsimp only at hv|-;split at hv
 .rename_i s;cases hv;obtain⟨h',e,hr⟩:=Za s;exact bG (dK (ss:=mC) (by simp[mC]) acI) e hr (by simp[AV.aK,AV.aw])
 .cases hv
def Fa(t:Tm):Bool:=decide (-9223372036854775808<=t.cF)&&decide (t.cF<9223372036854775808)
def OkW(t:Tm):Prop:=fH t=true/\t.ig<1000000000/\t.sj Fa=true
def EqR(k:Nat)(rec A4:Int->St->PR×St):Prop:=∀n st,st.aC.length<k->rec n st=A4 n st
section
variable {k:Nat}{rec A4:Int->St->PR×St}(H:uV rec)(E:EqR k rec A4)
include H E
theorem yC:∀(M M':Nat) (aB:List Tm) (st:St),st.aC.length<k->st.aC.length<M->st.aC.length<M'->bQ rec M aB st=bQ A4 M' aB st
 |0,_,_,_,_,h,_=>by omega
 |_+1,0,_,_,_,_,h=>by omega
 |M+1,M'+1,aB,st,h1,h2,h3=>by
   unfold bQ;rw[E 999 st h1] at *;by_cases c1:(A4 999 st).1.2.2=true
   .rw[if_pos c1,if_pos c1];by_cases c2:(ax [44] (A4 999 st).2).1=true
    .rw[if_pos c2,if_pos c2]
     have p1:(A4 999 st).2.aC.length<st.aC.length:=by have:=(H.ok 999 st (by rw[E 999 st h1];exact c1)).pos;rw[E 999 st h1] at this;exact this
     have p2:=(dQ c2).pos;exact yC M M' _ _ (by omega) (by omega) (by omega)
    .rw[if_neg c2,if_neg c2]
   .rw[if_neg c1,if_neg c1]
theorem YZ(l:List Tm)(st:St)(h:st.aC.length<k):nR rec l st=nR A4 l st:=by unfold nR;have p:=(pI [124] st).len;rw[E 999 (ax [124] st).2 (by omega)]
theorem O6(M M':Nat)(st:St)(h1:st.aC.length<k)(h2:st.aC.length<M)(h3:st.aC.length<M'):nc rec M st=nc A4 M' st:=by have p:=(mA H M [] st).1.len;unfold nc;rw[yC H E M M' [] st h1 h2 h3] at *;rw[YZ H E _ _ (by omega)]
theorem Lh(c:List UInt8)(f:Tm->Tm)(st:St)(h:st.aC.length<k):hO rec c f st=hO A4 c f st:=by unfold hO;rw[E 1200 st h]
theorem Zo(M M':Nat)(s:List UInt8)(st:St)(h1:st.aC.length<k)(h2:st.aC.length<M)(h3:st.aC.length<M'):pb rec M s st=pb A4 M' s st:=by unfold pb;rw[yC H E M M' [] st h1 h2 h3]
theorem Pp(T:List bj)(M M':Nat)(n:Int)(st:St)(h1:st.aC.length<=k)(h2:st.aC.length<M)(h3:st.aC.length<M'):gI rec T M n st=gI A4 T M' n st:=by
 have hl:=ct st;have n6:=ct (aq st);unfold gI;by_cases k4:(aL st).au=4
 .rw[if_pos k4,if_pos k4]
 rw[if_neg k4,if_neg k4];by_cases k3:(aL st).au=3
 .rw[if_pos k3,if_pos k3]
 rw[if_neg k3,if_neg k3];by_cases c1:(aL st).au=5/\(aL st).aD=[40]
 .have:=bN (st:=st) (by omega);rw[if_pos c1,if_pos c1,Lh H E _ _ _ (by omega)]
 rw[if_neg c1,if_neg c1];by_cases c2:(aL st).au=5/\(aL st).aD=[91]
 .have:=bN (st:=st) (by omega);rw[if_pos c2,if_pos c2,O6 H E M M' _ (by omega) (by omega) (by omega)]
 rw[if_neg c2,if_neg c2];by_cases c3:(aL st).au=5/\(aL st).aD=[123]
 .have:=bN (st:=st) (by omega);rw[if_pos c3,if_pos c3,Lh H E _ _ _ (by omega)]
 rw[if_neg c3,if_neg c3];by_cases c4:(!fE (aL st))=true
 .rw[if_pos c4,if_pos c4]
 rw[if_neg c4,if_neg c4];have hk:(aL st).au≠0:=λh=>c4 (by unfold fE;rw[h];rfl)
 have:=bN hk;by_cases c5:(aL st).jq=true
 .rw[if_pos c5,if_pos c5,Zo H E M M' _ _ (by omega) (by omega) (by omega)]
 rw[if_neg c5,if_neg c5];unfold dt;rw[E _ (aq st) (by omega)]
theorem Ih(T:List bj):∀(M M':Nat) (n:Int) (r:PR) (st:St),st.aC.length<=k->st.aC.length<M->st.aC.length<M'->dZ rec T M n r st=dZ A4 T M' n r st
 |0,_,_,_,_,_,h,_=>by omega
 |_+1,0,_,_,_,_,_,h=>by omega
 |M+1,M'+1,n,r,st,h1,h2,h3=>by
   have hl:=ct st;unfold dZ;by_cases h0:(!r.2.2)=true
   .rw[if_pos h0,if_pos h0]
   rw[if_neg h0,if_neg h0];by_cases hb:(!(dM T (aL st)).2||decide (n<(dM T (aL st)).1.l)||decide ((aA (dM T (aL st)).1).1<r.2.1))=true
   .rw[if_pos hb,if_pos hb]
   rw[if_neg hb,if_neg hb]
   have hk:(aL st).au≠0:=λh=>hb (by
    have:(dM T (aL st)).2=false:=by unfold dM fE;rw[h];rfl
    rw[this];rfl)
   have hp:=bN hk;have p:=(H.lv (aA (dM T (aL st)).1).2 (aq st)).len;rw[E _ (aq st) (by omega)] at *;exact Ih T M M' n _ _ (by omega) (by omega) (by omega)
end
theorem O2(T:List bj):∀(N M:Nat) (n:Int) (st:St),st.aC.length<N->st.aC.length<M->l8 T N n st=l8 T M n st
 |0,_,_,_,h,_=>by omega
 |_+1,0,_,_,_,h=>by omega
 |N+1,M+1,n,st,h1,h2=>by
   have H:=vd T N;have E:EqR (min N M) (l8 T N) (l8 T M):=λn st h=>O2 T N M n st (by omega) (by omega)
   have p:=(rT H T (N+1) n st).1.len;unfold l8;rw[Pp H E T (N+1) (M+1) n st (by omega) (by omega) (by omega)] at *;exact Ih H E T (N+1) (M+1) n _ _ (by omega) (by omega) (by omega)
def ae(T:List bj)(n:Int)(st:St):PR×St:=l8 T (st.aC.length+1) n st
theorem Yv(T:List bj){N:Nat}{st:St}(h:st.aC.length<N)(n:Int):l8 T N n st=ae T n st:=O2 T N _ n st h (Nat.lt_succ_self _)
def O1(b:Nat)(t:Tm):Prop:=t.ig<=70*b/\t.sj Fa=true
def ae8(b:Nat)(l:List Tm):Prop:=Tm.hI l+70*l.length<=70*b/\Tm.iR Fa l=true
structure BM(st:St):Prop where
 tk:st.aC.all wg=true
 rg:∀p∈st.aa,0<=p.2/\p.2<st.next
 le:st.next+st.aC.length<=1000000
theorem Ok.tM{a b:St}(h:Ok a b)(p:BM a):BM b:=⟨h.lv.all wg p.tk,h.lv.rg p.rg,by have:=h.nxr;have:=p.le;omega⟩
structure agC(rec:Int->St->PR×St):Prop where
 b:∀n st,BM st->(rec n st).1.2.2=true->O1 (st.aC.length-(rec n st).2.aC.length) (rec n st).1.1
theorem Pb{s:List UInt8}{n:Int}:∀{l:List (List UInt8×Int)},mK s l=some n->∃p∈l,p.2=n
 |[],h=>by cases h
 |p::r,h=>by
   unfold mK at h;split at h
   .cases h;exact⟨p,by simp,rfl⟩
   .obtain⟨q,h1,h2⟩:=Pb h;exact⟨q,List.mem_cons_of_mem _ h1,h2⟩
theorem UY{s:St}(h1:s.aC.all wg=true)(h2:0<s.aC.length):wg (aL s)=true:=by
 unfold aL
 cases hr:s.aC with
 |nil=>rw[hr] at h2;simp at h2
 |cons x r=>rw[hr,List.all_cons,Bool.and_eq_true] at h1;exact h1.1
theorem Cd{s:St}(h1:s.aC.all wg=true)(h2:0<s.aC.length):0<=(aL s).cF/\(aL s).cF<9223372036854775808:=by have h:=UY h1 h2;unfold wg at h;simp only[Bool.and_eq_true,decide_eq_true_eq] at h;exact h.2
theorem Kj{s:St}(h1:s.aC.all wg=true)(h3:fE (aL s)=true):(aL s).aD.length<=64:=by
 by_cases h2:0<s.aC.length
 .have h:=UY h1 h2;unfold wg at h;rw[h3] at h;simp only[Bool.not_true,Bool.or_false,Bool.and_eq_true,decide_eq_true_eq] at h;exact h.1
 .rw[Ja (List.length_eq_zero_iff.1 (by omega))];decide
theorem KN(p:Tm->Bool):∀a b:List Tm,Tm.iR p (a++b)=(Tm.iR p a&&Tm.iR p b)
 |[],b=>rfl
 |t::r,b=>by simp[Tm.iR,KN p r b,Bool.and_assoc]
theorem B5{b:Nat}{s:List UInt8}{us:List Tm}(hs:s.length<=64)(h1:Tm.hI us<=70*b)(h2:Tm.iR Fa us=true):O1 (b+1) (bM s us):=by
 cases us with
 |nil=>exact⟨by simp[bM,Tm.ig];omega,rfl⟩
 |cons t r=>exact⟨by simp only[bM,Tm.ig];omega,by simp only[bM,Tm.sj,h2];rfl⟩
theorem Pk{b c:Nat}{t:Tm}(ht:O1 c t):∀{l:List Tm},ae8 b l->O1 (b+c) (dm l t)
 |[],h=>⟨by have:=ht.1;simp only[dm];omega,ht.2⟩
 |x::r,h=>by
   obtain⟨h1,h2⟩:=h;simp only[Tm.hI,List.length_cons,Tm.iR,Bool.and_eq_true] at h1 h2
   have key:∀l:List Tm,Tm.iR Fa l=true->(dm l t).ig<=Tm.hI l+2*l.length+t.ig/\(dm l t).sj Fa=true:=λl=>by
    induction l with
    |nil=>intro _;exact⟨by simp[dm,Tm.hI],ht.2⟩
    |cons y q ih=>
      intro h;simp only[Tm.iR,Bool.and_eq_true] at h;obtain⟨i1,i2⟩:=ih h.2;refine⟨?_,?_⟩
      .simp only[dm,Tm.ig,Tm.hI,List.length_cons,List.length_nil];omega
      .simp only[dm,Tm.sj,Tm.iR,h.1,i2];rfl
   obtain⟨k1,k2⟩:=key (x::r) (by simp only[Tm.iR,h2.1,h2.2];rfl);refine⟨?_,k2⟩;simp only[Tm.hI,List.length_cons] at k1;have:=ht.1;omega
section
variable {rec:Int->St->PR×St}(H:uV rec)(B:agC rec)
include H B
theorem Pf:∀(M:Nat) (aB:List Tm) (st:St),BM st->Tm.iR Fa aB=true->(bQ rec M aB st).1.2=true->
 Tm.hI (bQ rec M aB st).1.1+70*(bQ rec M aB st).1.1.length<=Tm.hI aB+70*aB.length+70*(st.aC.length-(bQ rec M aB st).2.aC.length)+70/\Tm.iR Fa (bQ rec M aB st).1.1=true
 |0,aB,st,_,_,h=>by cases h
 |M+1,aB,st,ha,hr,h=>by
   unfold bQ at h|-;by_cases c1:(rec 999 st).1.2.2=true
   .rw[if_pos c1] at h|-;obtain⟨b1,b2⟩:=B.b 999 st ha c1;have o1:=H.ok 999 st c1;have p:=o1.pos
    have Of:Tm.iR Fa (aB++[(rec 999 st).1.1])=true:=by rw[KN,hr];simp[Tm.iR,b2]
    have BQ:Tm.hI (aB++[(rec 999 st).1.1])=Tm.hI aB+(rec 999 st).1.1.ig:=by rw[Fv];simp[Tm.hI]
    by_cases c2:(ax [44] (rec 999 st).2).1=true
    .rw[if_pos c2] at h|-;have o2:=dQ c2;have p2:=o2.pos;obtain⟨i1,i2⟩:=Pf M _ _ ((o1.trans o2).tM ha) Of h;refine⟨?_,i2⟩;have l2:=(mA H M (aB++[(rec 999 st).1.1]) (ax [44] (rec 999 st).2).2).1.len;rw[BQ] at i1;simp only[List.length_append,List.length_cons,List.length_nil] at i1;omega
    .rw[if_neg c2] at h|-;refine⟨?_,Of⟩;dsimp only;rw[BQ];simp only[List.length_append,List.length_cons,List.length_nil];omega
   .rw[if_neg c1] at h;cases h
theorem Lk(M:Nat)(st:St)(ha:BM st)(h:(bQ rec M [] st).1.2=true):ae8 (st.aC.length-(bQ rec M [] st).2.aC.length+1) (bQ rec M [] st).1.1:=by obtain⟨i1,i2⟩:=Pf H B M [] st ha rfl h;simp only[Tm.hI,List.length_nil] at i1;exact⟨by omega,i2⟩
theorem acr(M:Nat)(st:St)(ha:BM st)(h:(nc rec M st).1.2=true):O1 (st.aC.length-(nc rec M st).2.aC.length+1) (nc rec M st).1.1:=by
 unfold nc at h|-;by_cases c1:(bQ rec M [] st).1.2=true
 .rw[if_pos c1] at h|-;have hB:=Lk H B M st ha c1;have hl:=(mA H M [] st).2 c1;have p:=hl.pos;have SK:=hl.tM ha;generalize bQ rec M [] st=I at *;obtain⟨⟨l,ok⟩,st1⟩:=I;dsimp only at *;unfold nR at h|-;by_cases c2:(ax [124] st1).1=true
  .rw[if_pos c2] at h|-;have p2:=dQ c2;have p3:=p2.pos;by_cases c3:(rec 999 (ax [124] st1).2).1.2.2=true
   .rw[if_pos c3] at h|-;have p4:=(dQ h).pos;have p5:=(H.ok _ _ c3).pos;obtain⟨t1,t2⟩:=B.b 999 _ (p2.tM SK) c3;have:=Pk (c:=(ax [124] st1).2.aC.length-(rec 999 (ax [124] st1).2).2.aC.length) ⟨t1,t2⟩ hB;refine⟨Nat.le_trans this.1 ?_,this.2⟩;dsimp only;omega
   .rw[if_neg c3] at h;cases h
  .rw[if_neg c2] at h|-;have p4:=(dQ h).pos;have:=Pk (c:=1) (t:=gk [91,93]) ⟨by decide,rfl⟩ hB;refine⟨Nat.le_trans this.1 ?_,this.2⟩;dsimp only;omega
 .rw[if_neg c1] at h;cases h
theorem PV(c:List UInt8)(f:Tm->Tm)(hf:∀b t,O1 b t->O1 (b+1) (f t))(st:St)(ha:BM st)(h:(hO rec c f st).1.2.2=true):O1 (st.aC.length-(hO rec c f st).2.aC.length+1) (hO rec c f st).1.1:=by
 unfold hO at h|-;by_cases c1:(rec 1200 st).1.2.2=true
 .rw[if_pos c1] at h|-;have p:=(H.ok _ _ c1).pos;have p4:=(dQ h).pos;have:=hf _ _ (B.b 1200 st ha c1);refine⟨Nat.le_trans this.1 ?_,this.2⟩;dsimp only;omega
 .rw[if_neg c1] at h;cases h
theorem acT(M:Nat)(s:List UInt8)(hs:s.length<=64)(st:St)(ha:BM st)(h:(pb rec M s st).1.2.2=true):O1 (st.aC.length-(pb rec M s st).2.aC.length+1) (pb rec M s st).1.1:=by
 unfold pb at h|-;by_cases c1:(bQ rec M [] st).1.2=true
 .rw[if_pos c1] at h|-;have hB:=Lk H B M st ha c1;have p:=((mA H M [] st).2 c1).pos;have p4:=(dQ h).pos
  have fy:1<=(bQ rec M [] st).1.1.length:=by
   have:∀(M:Nat) (aB:List Tm) (st:St),(bQ rec M aB st).1.2=true->aB.length+1<=(bQ rec M aB st).1.1.length:=λM=>by
    induction M with
    |zero=>intro aB st h;cases h
    |succ M ih=>
      intro aB st h;unfold bQ at h|-;by_cases d1:(rec 999 st).1.2.2=true
      .rw[if_pos d1] at h|-;by_cases d2:(ax [44] (rec 999 st).2).1=true
       .rw[if_pos d2] at h|-;have:=ih _ _ h;simp only[List.length_append,List.length_cons,List.length_nil] at this;omega
       .rw[if_neg d2];simp
      .rw[if_neg d1] at h;cases h
   have:=this M [] st c1;simpa using this
  have:=B5 (b:=st.aC.length-(bQ rec M [] st).2.aC.length) (s:=s) (us:=(bQ rec M [] st).1.1) hs (by have:=hB.1;omega) hB.2;refine⟨Nat.le_trans this.1 ?_,this.2⟩;dsimp only;omega
 .rw[if_neg c1] at h;cases h
theorem acb(T:List bj)(M:Nat)(n:Int)(st:St)(ha:BM st)(h:(gI rec T M n st).1.2.2=true):O1 (st.aC.length-(gI rec T M n st).2.aC.length) (gI rec T M n st).1.1:=by
 have hl:=ct st;have n6:=ct (aq st);have SK:(aL st).au≠0->BM (aq st):=λhk=>(my (bN hk)).tM ha
 unfold gI at h|-;by_cases k4:(aL st).au=4
 .rw[if_pos k4];have hp:=bN (st:=st) (by omega);have hx:=Cd ha.tk hp;refine⟨by simp only[Tm.ig,List.length_nil];omega,?_⟩;show (decide (-9223372036854775808<=(aL st).cF)&&decide ((aL st).cF<9223372036854775808))=true;simp only[Bool.and_eq_true,decide_eq_true_eq];omega
 rw[if_neg k4] at h|-;by_cases k3:(aL st).au=3
 .rw[if_pos k3];have hp:=bN (st:=st) (by omega);have:=(Ti (s:=(aL st).aD) hp).pos;have hn:st.next<=1000000:=by have:=ha.le;omega
  dsimp only
  suffices hh:O1 1 (jJ (aL st).aD (aq st)).1 from⟨Nat.le_trans hh.1 (by omega),hh.2⟩
  unfold jJ;split
  .rename_i k hk;obtain⟨p,h1,h2⟩:=Pb hk;have:=ha.rg p h1;refine⟨by simp[Tm.ig],?_⟩;show (decide (-9223372036854775808<=k)&&decide (k<9223372036854775808))=true;simp only[Bool.and_eq_true,decide_eq_true_eq];omega
  .refine⟨by simp[Tm.ig],?_⟩;have e:(aq st).next=st.next:=rfl
   show (decide (-9223372036854775808<=((aq st).next:Int))&&decide (((aq st).next:Int)<9223372036854775808))=true;simp only[Bool.and_eq_true,decide_eq_true_eq];omega
 rw[if_neg k3] at h|-;by_cases c1:(aL st).au=5/\(aL st).aD=[40]
 .rw[if_pos c1] at h|-;have hp:=bN (st:=st) (by omega);have b:=PV H B [41] (λt=>t) (λb t hb=>⟨Nat.le_trans hb.1 (by omega),hb.2⟩) _ (SK (by omega)) h;have hle:=(qN H [41] (λt=>t) (aq st)).1.len;exact⟨Nat.le_trans b.1 (by omega),b.2⟩
 rw[if_neg c1] at h|-;by_cases c2:(aL st).au=5/\(aL st).aD=[91]
 .rw[if_pos c2] at h|-;have hp:=bN (st:=st) (by omega);have b:=acr H B M _ (SK (by omega)) h;have hle:=(B6 H M (aq st)).1.len;exact⟨Nat.le_trans b.1 (by dsimp only;omega),b.2⟩
 rw[if_neg c2] at h|-;by_cases c3:(aL st).au=5/\(aL st).aD=[123]
 .rw[if_pos c3] at h|-;have hp:=bN (st:=st) (by omega);have b:=PV H B [125] (λt=>bM [123,125] [t]) (λb t hb=>B5 (by decide) (by have:=hb.1;simp only[Tm.hI];omega) (by simp[Tm.iR,hb.2])) _ (SK (by omega)) h;have hle:=(qN H [125] (λt=>bM [123,125] [t]) (aq st)).1.len;exact⟨Nat.le_trans b.1 (by omega),b.2⟩
 rw[if_neg c3] at h|-;by_cases c4:(!fE (aL st))=true
 .rw[if_pos c4] at h;cases h
 rw[if_neg c4] at h|-;have hk:(aL st).au≠0:=λh=>c4 (by unfold fE;rw[h];rfl)
 have hp:=bN hk;have lV:(aL st).aD.length<=64:=Kj ha.tk (by simpa using c4);by_cases c5:(aL st).jq=true
 .rw[if_pos c5] at h|-;have o:=(P1 H M (aL st).aD (aq (aq st))).2 h;have hle:=o.lv.len;have Oc:0<(aq st).aC.length:=by have:=o.pos;omega
  have b:=acT H B M (aL st).aD lV _ ((my Oc).tM (SK hk)) h;exact⟨Nat.le_trans b.1 (by omega),b.2⟩
 rw[if_neg c5] at h|-;by_cases c6:(aL st).au=1/\(aL st).aD=[45]/\(aL (aq st)).au=4/\(aL st).adj=true
 .rw[if_pos c6];have Oc:=bN (st:=aq st) (by omega);have hx:=Cd (SK hk).tk Oc;refine⟨by simp only[Tm.ig,List.length_nil];omega,?_⟩;show (decide (-9223372036854775808<=(-(aL (aq st)).cF))&&decide ((-(aL (aq st)).cF)<9223372036854775808))=true;simp only[Bool.and_eq_true,decide_eq_true_eq];omega
 rw[if_neg c6] at h|-;unfold dt at h|-;have mQ:O1 1 (gk (aL st).aD):=⟨by simp only[gk,Tm.ig];omega,rfl⟩
 by_cases d1:(aL st).au=2
 .rw[if_pos d1];exact⟨Nat.le_trans mQ.1 (by dsimp only;omega),mQ.2⟩
 rw[if_neg d1] at h|-;by_cases d2:((bd T (aL st).aD true).2&&decide ((bd T (aL st).aD true).1.l<=n)&&iB T (aq st))=true
 .rw[if_pos d2] at h|-;have b:=B.b _ _ (SK hk) h;have p:=(H.ok _ _ h).pos;have:=B5 (b:=(aq st).aC.length-(rec (aA (bd T (aL st).aD true).1).2 (aq st)).2.aC.length) (s:=(aL st).aD) (us:=[(rec (aA (bd T (aL st).aD true).1).2 (aq st)).1.1]) lV (by have:=b.1;simp only[Tm.hI];omega) (by simp[Tm.iR,b.2]);exact⟨Nat.le_trans this.1 (by dsimp only;omega),this.2⟩
 .rw[if_neg d2];exact⟨Nat.le_trans mQ.1 (by dsimp only;omega),mQ.2⟩
theorem T6(T:List bj):∀(M:Nat) (n:Int) (r:PR) (st:St) (b:Nat),BM st->O1 b r.1->(dZ rec T M n r st).1.2.2=true->O1 (b+(st.aC.length-(dZ rec T M n r st).2.aC.length)) (dZ rec T M n r st).1.1
 |0,n,r,st,b,_,hb,_=>⟨Nat.le_trans hb.1 (by omega),hb.2⟩
 |M+1,n,r,st,b,ha,hb,h=>by
   unfold dZ at h|-;by_cases h0:(!r.2.2)=true
   .rw[if_pos h0];exact⟨Nat.le_trans hb.1 (by omega),hb.2⟩
   rw[if_neg h0] at h|-;by_cases h1:(!(dM T (aL st)).2||decide (n<(dM T (aL st)).1.l)||decide ((aA (dM T (aL st)).1).1<r.2.1))=true
   .rw[if_pos h1];exact⟨Nat.le_trans hb.1 (by omega),hb.2⟩
   rw[if_neg h1] at h|-;have hl:=ct st
   have hkx:(aL st).au≠0/\(aL st).aD.length<=64:=by
    by_cases hn:fE (aL st)=true
    .refine⟨λh=>?_,Kj ha.tk hn⟩;unfold fE at hn;rw[h] at hn;cases hn
    .by_cases h5:(aL st).au=5/\(aL st).aD=[44]
     .exact⟨by omega,by rw[h5.2];decide⟩
     .refine absurd ?_ h1
      have:(dM T (aL st)).2=false:=by
       unfold dM;rw[if_pos];rw[Bool.not_eq_true] at hn;rw[hn];simp only[Bool.not_false,Bool.true_and,Bool.or_eq_true,Bool.not_eq_true',decide_eq_false_iff_not];by_cases g:(aL st).au=5
       .exact .inr λg2=>h5 ⟨g,g2⟩
       .exact .inl g
      rw[this];rfl
   have hp:=bN hkx.1;have oa:=my hp;have tv:=((mO H T M n _ _).2 h).1;have oq:=H.ok _ _ tv;have bq:=B.b _ _ (oa.tM ha) tv;have pq:=oq.pos;have hle:=(mO H T M n (bM (aL st).aD [r.1,(rec (aA (dM T (aL st)).1).2 (aq st)).1.1],(dM T (aL st)).1.l,(rec (aA (dM T (aL st)).1).2 (aq st)).1.2.2) (rec (aA (dM T (aL st)).1).2 (aq st)).2).1.len
   have hc:=B5 (b:=b+((aq st).aC.length-(rec (aA (dM T (aL st)).1).2 (aq st)).2.aC.length)) (s:=(aL st).aD) (us:=[r.1,(rec (aA (dM T (aL st)).1).2 (aq st)).1.1]) hkx.2
    (by have:=bq.1;have:=hb.1;simp only[Tm.hI];omega) (by simp[Tm.iR,bq.2,hb.2])
   have i:=T6 T M n _ _ _ ((oa.trans oq).tM ha) hc h;exact⟨Nat.le_trans i.1 (by omega),i.2⟩
end
theorem wI(T:List bj):∀N,agC (l8 T N)
 |0=>⟨λn st _ h=>by cases h⟩
 |N+1=>⟨λn st ha h=>by have H:=vd T N;have B:=wI T N;unfold l8 at h|-;have h1:=((mO H T (N+1) n _ _).2 h).1;have o:=(rT H T (N+1) n st).2 h1;have b:=acb H B T (N+1) n st ha h1;have hle:=(mO H T (N+1) n (gI (l8 T N) T (N+1) n st).1 (gI (l8 T N) T (N+1) n st).2).1.len;have i:=T6 H B T (N+1) n _ _ _ (o.tM ha) b h;have:=o.pos;exact⟨Nat.le_trans i.1 (by omega),i.2⟩⟩
end Go.Proofs.YtjmeonoabiliiaaGreatDoor
namespace Sz
theorem YR(o:bp):gB (λi=>i) o=o:=by
 cases o with
 |dead=>rfl
 |row cs=>
   simp only[gB];congr 1;conv=>rhs;rw[<-List.map_id cs]
   exact List.map_congr_left λv _=>Dt
 |map es=>
   simp only[gB];congr 1;conv=>rhs;rw[<-List.map_id es]
   exact List.map_congr_left λe _=>by rw[Dt,Dt];rfl
theorem DK{P:Go.Program}{X:Go.World->Prop}{E:Env}(hE:cT P X E){n f:Nat}{aC:List AV}{os:List bp}{v:AV}{h1:ai}(he:aF E n f (.ptr 0 0::aC) (Cs os)=some (v,h1))(hg:∀i,i<os.length->h1.get i=os[i]?)
 (hv:v.aK=0) (hr:AV.aw aC=0) (h0:0<os.length) (hc:∀o∈os,BN os.length o=true):dA P X f (.ptr 0 0::aC) os v none:=
 B8 (qs:=[]) hE he hv (λa ha=>by
  rcases List.mem_cons.1 ha with rfl|ha
  .exact decide_eq_true h0
  .exact kG _ (by have:=AV.dk ha;omega)) (Nat.le_refl _) (yY (by simp) (by simp) (by simp) λi o ho _=>by
   simp only[Option.getD] at ho;obtain⟨hi,rfl⟩:=List.getElem?_eq_some_iff.1 ho;have hl:=hc _ (List.getElem_mem hi);refine⟨?_,hl⟩
   have e:gB (qH os.length []) os[i]=os[i]:=by rw[Ly (g':=λi=>i) (λj hj=>by unfold qH;rw[if_pos hj]) hl,YR]
   rw[e];have e2:qH os.length [] i=i:=by unfold qH;rw[if_pos hi]
   rw[e2,hg i hi];exact List.getElem?_eq_getElem hi)
end Sz
namespace Go.Proofs.YtjmeonoabiliiaaGreatDoor
open Go Sz
def B1(ps:List (Int×Int)):Bool:=ps.all λp=>decide (0<=p.2)&&decide (p.2<1000000000)
structure Wr where
 T:List bj
 b:Bool
 ps:List (Int×Int)
theorem O9(a b:List UInt8):(a==b)=decide (a=b):=by
 by_cases h:a=b
 .subst h;simp
 .rw[decide_eq_false h];simpa using h
end Go.Proofs.YtjmeonoabiliiaaGreatDoor
namespace Sz
theorem se{P:Go.Program}{X:Go.World->Prop}{E:Env}(hE:cT P X E){n f:Nat}{aC:List AV}{os ng:List bp}{v:AV}{h1:ai}{qs:List Nat}(he:aF E n f (.ptr 0 0::aC) (Cs os)=some (v,h1))(hv:v.aK=0)
 (hr:AV.aw aC=0) (h0:0<os.length) (hle:os.length<=ng.length) (hs:Fi h1 (qH os.length qs) ng):dA P X f (.ptr 0 0::aC) os v (some ng):=
 B8 hE he hv (λa ha=>by
  rcases List.mem_cons.1 ha with rfl|ha
  .exact decide_eq_true h0
  .exact kG _ (by have:=AV.dk ha;omega)) hle hs
end Sz
namespace Go.Proofs.YtjmeonoabiliiaaGreatDoor
open Go Sz
section
def aQ(l:List (List UInt8×Int)):List AV:=l.flatMap λp=>[.str p.1,.int .i64 p.2]
theorem nu(l:List (List UInt8×Int)):(aQ l).length=l.length*2:=by
 induction l with
 |nil=>rfl
 |cons p r ih=>simp[aQ] at ih|-;omega
theorem bf(l:List (List UInt8×Int)):AV.aw (aQ l)=0:=by
 induction l with
 |nil=>rfl
 |cons p r ih=>have e:aQ (p::r)=.str p.1::.int .i64 p.2::aQ r:=rfl;rw[e];simp only[AV.aw,ih,AV.aK];rfl
theorem Er(l:List (List UInt8×Int))(p:List UInt8×Int):aQ (l++[p])=aQ l++[.str p.1,.int .i64 p.2]:=by simp[aQ]
def Br:List AV->Option (List (List UInt8×Int))
 |[]=>some []
 |.str s::.int .i64 n::r=>(Br r).map ((s,n)::·)
 |_=>none
theorem Ku:∀l,Br (aQ l)=some l
 |[]=>rfl
 |p::r=>by have e:aQ (p::r)=.str p.1::.int .i64 p.2::aQ r:=rfl;rw[e,Br,Ku r];rfl
theorem GP:∀{xs:List AV} {l:List (List UInt8×Int)},Br xs=some l->xs=aQ l
 |[],l,h=>by simp[Br] at h;subst h;rfl
 |x::r,l,h=>by
   unfold Br at h;split at h
   .rename_i he;cases he
   .rename_i s n q he;cases he;simp only[Option.map_eq_some_iff] at h;obtain⟨a,h1,rfl⟩:=h;rw[GP h1];rfl
   .cases h
def iL(k:Nat)(l:List (List UInt8×Int)):AV:=match l with
 |[]=>.aJ
 |_::_=>.vec k 0 l.length 2 l.length
def o9(l:List (List UInt8×Int)):List bp:=match l with
 |[]=>[]
 |_::_=>[.row (aQ l)]
def WA:AV->List bp->Option (List (List UInt8×Int))
 |.aJ,[]=>some []
 |.vec 1 0 n 2 m,[.row F]=>(match Br F with
   |some l=>if l≠[]/\n=l.length/\m=l.length then some l else none
   |none=>none)
 |_,_=>none
theorem OJ(l:List (List UInt8×Int)):WA (iL 1 l) (o9 l)=some l:=by
 cases l with
 |nil=>rfl
 |cons p r=>show (match Br (aQ (p::r)) with|some l=>if l≠[]/\(p::r).length=l.length/\(p::r).length=l.length then some l else none|none=>none)=_;rw[Ku];exact if_pos ⟨by simp,rfl,rfl⟩
theorem JL{v:AV}{os:List bp}{l:List (List UInt8×Int)}(h:WA v os=some l):v=iL 1 l/\os=o9 l:=by
 unfold WA at h;split at h
 .cases h;exact⟨rfl,rfl⟩
 .split at h
  .rename_i l' hl;split at h
   .rename_i hc;cases h;obtain⟨h1,rfl,rfl⟩:=hc;rw[GP hl]
    cases l with
    |nil=>exact absurd rfl h1
    |cons p r=>exact⟨rfl,rfl⟩
   .cases h
  .cases h
 .cases h
def tA:AV->Option Tok
 |.agg [.int .i64 k,.str t,.int .i64 n,.bool o,.int .i64 a]=>some ⟨k,t,n,o,a⟩
 |_=>none
theorem AL(t:Tok):tA t.aV=some t:=rfl
theorem qP{v:AV}{t:Tok}(h:tA v=some t):v=t.aV:=by
 unfold tA at h;split at h
 .cases h;rfl
 .cases h
def AR:List AV->Option (List Tok)
 |[]=>some []
 |v::r=>match tA v,AR r with
   |some t,some l=>some (t::l)
   |_,_=>none
theorem C1:∀l:List Tok,AR (l.map Tok.aV)=some l
 |[]=>rfl
 |t::r=>by show (match tA t.aV,AR (r.map Tok.aV) with|some t,some l=>some (t::l)|_,_=>none)=_;rw[AL,C1 r]
theorem GA:∀{xs:List AV} {l:List Tok},AR xs=some l->xs=l.map Tok.aV
 |[],l,h=>by cases h;rfl
 |v::r,l,h=>by
   unfold AR at h;split at h
   .rename_i o os h1 h2;cases h;rw[qP h1,GA h2];rfl
   .cases h
def bx:AV->Option (List Tok)
 |.aJ=>some []
 |.sl xs=>AR xs
 |_=>none
theorem pJ{y:AV}{l:List Tok}(h:bx y=some l):(y=.aJ/\l=[])\/y=.sl (l.map Tok.aV):=by
 cases y<;>simp[bx] at h
 .exact .inl ⟨rfl,h⟩
 .exact .inr (by rw[GA h])
theorem vy(l:List Tok):bx (j5 l)=some l:=by
 cases l with
 |nil=>rfl
 |cons t r=>exact C1 (t::r)
structure Laid(x:AV):Prop where
 aK:x.aK=0
 top:x.top=none
 ok:∀τ,okV τ x=true
 sg:∀g,sig g x=x
 fr:∀h n d,jF h n (d+1) x=some (x,[])
 cl:x.cells=[x]
 Fh:x.cells? =some [x]
theorem Fy:Laid .aJ:=⟨rfl,rfl,λ_=>rfl,λ_=>rfl,λ_ _ _=>rfl,rfl,rfl⟩
theorem PA(xs:List AV):Laid (.sl xs):=⟨rfl,rfl,λ_=>rfl,λ_=>rfl,λ_ _ _=>rfl,rfl,rfl⟩
theorem aR{x:AV}{T:List bj}(h:ba x=some T):Laid x:=by
 rcases gH h with⟨rfl,_⟩|rfl
 .exact Fy
 .exact PA _
theorem aI{y:AV}{L:List Tok}(h:bx y=some L):Laid y:=by
 rcases pJ h with⟨rfl,_⟩|rfl
 .exact Fy
 .exact PA _
theorem Tf(l:List (List UInt8×Int))(τ:List Nat):(aQ l).all (okV τ)=true:=by rw[List.all_eq_true];intro v hv;obtain⟨p,_,hp⟩:=List.mem_flatMap.1 hv;simp only[List.mem_cons,List.not_mem_nil,or_false] at hp;rcases hp with rfl|rfl<;>rfl
theorem SX(l:List (List UInt8×Int))(g:Nat->Nat):(aQ l).map (sig g)=aQ l:=by
 conv=>rhs;rw[<-List.map_id (aQ l)]
 refine List.map_congr_left λv hv=>?_
 obtain⟨p,_,hp⟩:=List.mem_flatMap.1 hv;simp only[List.mem_cons,List.not_mem_nil,or_false] at hp;rcases hp with rfl|rfl<;>rfl
structure RC(T:List bj)(L:List Tok)(st:St):Prop where
 aC:st.aC=(mT L).drop st.aZ
 le:st.aZ<=L.length+1
 nx:st.next<=st.aZ
 nm:st.aa.length<=st.next
 lb:L.length<=100000
 tb:T.length<1000000
 tk:(mT L).all wg=true
 rg:∀p∈st.aa,0<=p.2/\p.2<st.next
 Mh:zY st.aa=true
 I3:(L.all λt=>decide (0<=t.aZ)&&decide (t.aZ<1000000))=true
structure Rd where
 x:AV
 y:AV
 T:List bj
 L:List Tok
 st:St
noncomputable def wU:List bp->Option Rd
 |.row [x,y,.int .i64 a,.int .i64 b,v]::os=>(match ba x,bx y,WA v os with
   |some T,some L,some l=>open Classical in if 0<=a/\0<=b/\RC T L ⟨a.toNat,(mT L).drop a.toNat,b.toNat,l⟩ then some ⟨x,y,T,L,⟨a.toNat,(mT L).drop a.toNat,b.toNat,l⟩⟩ else none
   |_,_,_=>none)
 |_=>none
def fq(x y:AV)(st:St):List bp:=.row [x,y,.int .i64 st.aZ,.int .i64 st.next,iL 1 st.aa]::o9 st.aa
theorem lU{x y:AV}{T:List bj}{L:List Tok}{st:St}(hx:ba x=some T)(hy:bx y=some L)(h:RC T L st):wU (fq x y st)=some ⟨x,y,T,L,st⟩:=by
 have e:(⟨(st.aZ:Int).toNat,(mT L).drop (st.aZ:Int).toNat,(st.next:Int).toNat,st.aa⟩:St)=st:=by rw[Int.toNat_natCast,Int.toNat_natCast,<-h.aC]
 unfold fq wU;simp only[hx,hy,OJ];rw[e];exact if_pos ⟨by omega,by omega,h⟩
theorem kM{os:List bp}{R:Rd}(h:wU os=some R):ba R.x=some R.T/\bx R.y=some R.L/\os=fq R.x R.y R.st/\RC R.T R.L R.st:=by
 unfold wU at h;split at h
 .rename_i x y a b v os;split at h
  .rename_i T L l h1 h2 h3;split at h
   .rename_i hc;cases h;obtain⟨rfl,rfl⟩:=JL h3;refine⟨h1,h2,?_,hc.2.2⟩;unfold fq;dsimp only;rw[Int.toNat_of_nonneg hc.1,Int.toNat_of_nonneg hc.2.1]
   .cases h
  .cases h
 .cases h
def gF(x y:AV)(l:List (List UInt8×Int))(dn:St):List bp:=match l with
 |[]=>fq x y dn
 |_::_=>[.row [x,y,.int .i64 dn.aZ,.int .i64 dn.next,iL 2 dn.aa],.dead,.row (aQ dn.aa)]
theorem vm{x y:AV}(hx:Laid x)(hy:Laid y)(g:Nat->Nat)(a b:Int)(v:AV):gB g (.row [x,y,.int .i64 a,.int .i64 b,v])=.row [x,y,.int .i64 a,.int .i64 b,sig g v]:=by show bp.row [sig g x,sig g y,.int .i64 a,.int .i64 b,sig g v]=_;rw[hx.sg,hy.sg]
theorem yz{x y:AV}(hx:Laid x)(hy:Laid y){n:Nat}(a b:Int){v:AV}(hv:qu n v=true):BN n (.row [x,y,.int .i64 a,.int .i64 b,v])=true:=by simp only[BN,List.all_cons,List.all_nil,Bool.and_true,kG n hx.aK,kG n hy.aK,hv];rfl
theorem lg{x y:AV}(hx:Laid x)(hy:Laid y)(a b:Int):fJ [x,y,.int .i64 a,.int .i64 b,.aJ] [0]=[0]:=by simp only[fJ,hx.top,hy.top];rfl
theorem kZ{x y:AV}(hx:Laid x)(hy:Laid y)(a b:Int)(k l:Nat)(hk:(0=k)=False):fJ [x,y,.int .i64 a,.int .i64 b,.vec k 0 l 2 l] [0]=[0,k]:=by simp only[fJ,hx.top,hy.top];show (if o5 [0] k then ([0]:List Nat) else [0,k])=_;simp only[o5,hk,if_false];rfl
theorem lr{x y:AV}(hx:Laid x)(hy:Laid y)(τ:List Nat)(a b:Int):okO τ (.row [x,y,.int .i64 a,.int .i64 b,.aJ])=true:=by simp only[okO,List.all_cons,List.all_nil,hx.ok,hy.ok];rfl
theorem k9{x y:AV}(hx:Laid x)(hy:Laid y)(τ:List Nat)(a b:Int)(k l:Nat):okO τ (.row [x,y,.int .i64 a,.int .i64 b,.vec k 0 l 2 l])=o5 τ k:=by simp only[okO,List.all_cons,List.all_nil,hx.ok,hy.ok];show (true&&(true&&(true&&(true&&(o5 τ k&&true)))))=_;simp
theorem kX{x y:AV}(hx:Laid x)(hy:Laid y)(g:Nat->Nat)(a b:Int):gB g (.row [x,y,.int .i64 a,.int .i64 b,.aJ])=.row [x,y,.int .i64 a,.int .i64 b,.aJ]:=vm hx hy g a b .aJ
theorem kW{x y:AV}(hx:Laid x)(hy:Laid y)(g:Nat->Nat)(a b:Int)(k l:Nat):gB g (.row [x,y,.int .i64 a,.int .i64 b,.vec k 0 l 2 l])=.row [x,y,.int .i64 a,.int .i64 b,.vec (g k) 0 l 2 l]:=vm hx hy g a b _
theorem db(l:List (List UInt8×Int))(τ:List Nat):okO τ (.row (aQ l))=true:=Tf l τ
theorem dc(l:List (List UInt8×Int))(g:Nat->Nat):gB g (.row (aQ l))=.row (aQ l):=congrArg bp.row (SX l g)
section
variable {X:World->Prop}{P:Program}{E:Env}(hE:cT P X E){n f:Nat}{aC:List AV}{x y v:AV}{st dn:St}(hx:Laid x)(hy:Laid y)
include hE hx hy
theorem dP(h0:st.aa=[])(h1:dn.aa=[])(he:(aF E n f (.ptr 0 0::aC) ⟨1,[.row [x,y,.int .i64 st.aZ,.int .i64 st.next,.aJ]],1,1⟩).map (λp=>(p.1,p.2.get 0))=some (v,some (.row [x,y,.int .i64 dn.aZ,.int .i64 dn.next,.aJ])))
 (hv:v.aK=0) (hr:AV.aw aC=0):dA P X f (.ptr 0 0::aC) (fq x y st) v (some (gF x y st.aa dn)):=by
 have e1:fq x y st=[.row [x,y,.int .i64 st.aZ,.int .i64 st.next,.aJ]]:=by unfold fq;rw[h0];rfl
 have e2:gF x y st.aa dn=[.row [x,y,.int .i64 dn.aZ,.int .i64 dn.next,.aJ]]:=by unfold gF;rw[h0];unfold fq;rw[h1];rfl
 rw[e1,e2];exact oW hE he hv hr (by simp[AV.aw,hx.aK,hy.aK,AV.aK])
theorem eJ(k:Nat)(hk:1<=k)(h0:st.aa=[])(h1:dn.aa≠[])(he:(aF E n f (.ptr 0 0::aC) ⟨1,[.row [x,y,.int .i64 st.aZ,.int .i64 st.next,.aJ]],1,1⟩).map (λp=>(p.1,p.2.get 0,p.2.get k))=
 some (v,some (.row [x,y,.int .i64 dn.aZ,.int .i64 dn.next,.vec k 0 dn.aa.length 2 dn.aa.length]),some (.row (aQ dn.aa))))
 (hv:v.aK=0) (hr:AV.aw aC=0):dA P X f (.ptr 0 0::aC) (fq x y st) v (some (gF x y st.aa dn)):=by
 have e1:fq x y st=[.row [x,y,.int .i64 st.aZ,.int .i64 st.next,.aJ]]:=by unfold fq;rw[h0];rfl
 have e2:gF x y st.aa dn=[.row [x,y,.int .i64 dn.aZ,.int .i64 dn.next,.vec 1 0 dn.aa.length 2 dn.aa.length],.row (aQ dn.aa)]:=by
  unfold gF;rw[h0];unfold fq iL o9
  cases hn:dn.aa with
  |nil=>exact absurd hn h1
  |cons p r=>rfl
 rw[e1,e2];obtain⟨⟨v1,h⟩,g1,g2⟩:=Option.map_eq_some_iff.1 he;simp only[Prod.mk.injEq] at g2;obtain⟨rfl,g3,g4⟩:=g2;refine se (qs:=[k]) hE g1 hv hr (by simp) (by simp) ⟨λi o ho _=>?_,λi j o o' hi hj _ _ e=>?_⟩
 .match i,ho with
  |0,ho=>simp only[List.getElem?_cons_zero,Option.some.injEq] at ho;subst ho;rw[vm hx hy];exact⟨g3,yz hx hy _ _ (by rfl)⟩
  |1,ho=>simp only[List.getElem?_cons_succ,List.getElem?_cons_zero,Option.some.injEq] at ho;subst ho;rw[ma _ (bf _)];exact⟨g4,jS _ (bf _)⟩
  |i+2,ho=>simp at ho
 .have jE:=(List.getElem?_eq_some_iff.1 hi).1;have kP:=(List.getElem?_eq_some_iff.1 hj).1;simp only[List.length_cons,List.length_nil] at jE kP
  have r0:∀i,i<2->qH 1 [k] i=if i=0 then 0 else k:=λi hi=>by
   match i,hi with
   |0,_=>rfl
   |1,_=>rfl
  rw[List.length_cons,List.length_nil,r0 i jE,r0 j kP] at e;split at e<;>split at e<;>omega
theorem dB(k:Nat)(hk:1<=k)(h0:st.aa≠[])(h1:dn.aa≠[])(he:(aF E n f (.ptr 0 0::aC) ⟨2,[.row (aQ st.aa),.row [x,y,.int .i64 st.aZ,.int .i64 st.next,.vec 1 0 st.aa.length 2 st.aa.length]],2,2⟩).map (λp=>(p.1,p.2.get 0,p.2.get k))=
 some (v,some (.row [x,y,.int .i64 dn.aZ,.int .i64 dn.next,.vec k 0 dn.aa.length 2 dn.aa.length]),some (.row (aQ dn.aa))))
 (hv:v.aK=0) (hr:AV.aw aC=0):dA P X f (.ptr 0 0::aC) (fq x y st) v (some (gF x y st.aa dn)):=by
 have e1:fq x y st=[.row [x,y,.int .i64 st.aZ,.int .i64 st.next,.vec 1 0 st.aa.length 2 st.aa.length],.row (aQ st.aa)]:=by
  unfold fq iL o9
  cases hn:st.aa with
  |nil=>exact absurd hn h0
  |cons p r=>rfl
 have e2:gF x y st.aa dn=[.row [x,y,.int .i64 dn.aZ,.int .i64 dn.next,.vec 2 0 dn.aa.length 2 dn.aa.length],.dead,.row (aQ dn.aa)]:=by
  unfold gF
  cases hn:st.aa with
  |nil=>exact absurd hn h0
  |cons p r=>
    dsimp only;unfold iL
    cases hm:dn.aa with
    |nil=>exact absurd hm h1
    |cons q s=>rfl
 rw[e1,e2];obtain⟨⟨v1,h⟩,g1,g2⟩:=Option.map_eq_some_iff.1 he;simp only[Prod.mk.injEq] at g2;obtain⟨rfl,g3,g4⟩:=g2;refine se (qs:=[k]) hE g1 hv hr (by simp) (by simp) ⟨λi o ho hd=>?_,λi j o o' hi hj E1 hdj e=>?_⟩
 .match i,ho with
  |0,ho=>simp only[List.getElem?_cons_zero,Option.some.injEq] at ho;subst ho;rw[vm hx hy];exact⟨g3,yz hx hy _ _ (by rfl)⟩
  |1,ho=>simp only[List.getElem?_cons_succ,List.getElem?_cons_zero,Option.some.injEq] at ho;exact absurd ho.symm hd
  |2,ho=>simp only[List.getElem?_cons_succ,List.getElem?_cons_zero,Option.some.injEq] at ho;subst ho;rw[ma _ (bf _)];exact⟨g4,jS _ (bf _)⟩
  |i+3,ho=>simp at ho
 .have pick:∀(i:Nat) (o:bp),([.row [x,y,.int .i64 dn.aZ,.int .i64 dn.next,.vec 2 0 dn.aa.length 2 dn.aa.length],.dead,.row (aQ dn.aa)]:List bp)[i]? =some o->(∀_:o=.dead,False)->(i=0/\qH 2 [k] i=0)\/(i=2/\qH 2 [k] i=k):=λi o ho hd=>by
   match i,ho with
   |0,_=>exact .inl ⟨rfl,rfl⟩
   |1,ho=>simp only[List.getElem?_cons_succ,List.getElem?_cons_zero,Option.some.injEq] at ho;exact absurd ho.symm hd
   |2,_=>exact .inr ⟨rfl,rfl⟩
   |i+3,ho=>simp at ho
  simp only[List.length_cons,List.length_nil,Nat.zero_add] at e;rcases pick i o hi E1 with⟨a1,a2⟩|⟨a1,a2⟩<;>rcases pick j o' hj hdj with⟨b1,b2⟩|⟨b1,b2⟩<;>rw[a2,b2] at e<;>omega
end
end
section
theorem jR{y:AV}{L:List Tok}(hy:bx y=some L):∀(fr:List AV) (h:ai) (o:dU),o.ev fr=y->cf fr h (.xX o)=some (.int .i64 L.length,h):=λfr h o ho=>by
 rw[gn,ho];rcases pJ hy with⟨rfl,rfl⟩|rfl
 .rfl
 .simp
def aM(L:List Tok)(st:St):Tok:=L.getD st.aZ kO
section
variable {T:List bj}{L:List Tok}{st:St}(h:RC T L st)
include h
theorem bm:aL st=⟨(aM L st).au,(aM L st).aD,(aM L st).cF,(aM L st).jq,YQ (aM L st) (L.drop (st.aZ+1))⟩:=by
 unfold aL aM;rw[h.aC,Gn];by_cases hl:st.aZ<L.length
 .rw[List.drop_eq_getElem_cons hl];simp[mT,List.getD,hl]
 .rw[List.drop_of_length_le (by omega),List.drop_of_length_le (by omega)];simp[mT,List.getD,show L.length<=st.aZ by omega,VD,kO,YQ]
theorem Ks:(st.aZ<L.length/\L[st.aZ]? =some (aM L st))\/(L.length<=st.aZ/\aM L st=kO):=by
 unfold aM;by_cases hl:st.aZ<L.length
 .exact .inl ⟨hl,by simp[List.getD,hl]⟩
 .exact .inr ⟨by omega,by simp[List.getD,show L.length<=st.aZ by omega]⟩
theorem de(hk:(aL st).au≠0):st.aZ<L.length:=by
 rw[bm h] at hk;rcases Ks h with⟨h1,_⟩|⟨_,h2⟩
 .exact h1
 .rw[h2] at hk;exact absurd rfl hk
theorem adr(hl:st.aZ<=L.length):st.aZ+st.aC.length=L.length:=by rw[h.aC,List.length_drop,eZ];omega
end
theorem RC.rG{T:List bj}{L:List Tok}{st:St}(h:RC T L st)(hl:st.aZ<=L.length):RC T L (aq st):=by
 refine⟨?_,?_,?_,h.nm,h.lb,h.tb,h.tk,h.rg,h.Mh,h.I3⟩
 .show st.aC.tail=(mT L).drop (st.aZ+1);rw[h.aC,List.tail_drop]
 .show st.aZ+1<=_;omega
 .show st.next<=st.aZ+1
  have:=h.nx;omega
theorem RC.ok{T:List bj}{L:List Tok}{st dn:St}(h:RC T L st)(g:Ok st dn):RC T L dn/\dn.aZ<=L.length:=by
 have hl:st.aZ<=L.length:=by have hp:=g.pos;rw[h.aC,List.length_drop,eZ] at hp;omega
 have t1:=adr h hl;have t2:=g.tot;obtain⟨k,hk⟩:=g.lv.suf;have fZ:dn.aC.length=st.aC.length-k:=by rw[hk,List.length_drop]
 have nH:=g.pos;have:=g.nxr;have:=g.lv.nm;have:=g.lv.nx;have h1:=h.nx;have h2:=h.nm;have pC:k<=st.aC.length\/st.aC.length<k:=by omega
 refine⟨⟨?_,by omega,by omega,by omega,h.lb,h.tb,h.tk,g.lv.rg h.rg,g.lv.Mh h.Mh,h.I3⟩,by omega⟩;rw[hk,h.aC,List.drop_drop];rcases pC with pC|pC
 .congr 1;omega
 .have e1:(mT L).length=L.length:=eZ L;rw[List.drop_of_length_le (by rw[e1];omega),List.drop_of_length_le (by rw[e1];omega)]
section
variable {X:World->Prop}{P:Program}{E:Env}(hE:cT P X E){n f:Nat}{aC:List AV}{x y v:AV}{st dn:St}(hx:Laid x)(hy:Laid y)
include hE hx hy
theorem zr(h1:st.aa=[]->(aF E n f (.ptr 0 0::aC) ⟨1,[.row [x,y,.int .i64 st.aZ,.int .i64 st.next,.aJ]],1,1⟩).map (λp=>(p.1,p.2.get 0))=some (v,some (.row [x,y,.int .i64 st.aZ,.int .i64 st.next,.aJ])))
 (h2:st.aa≠[]->(aF E n f (.ptr 0 0::aC) ⟨2,[.row (aQ st.aa),.row [x,y,.int .i64 st.aZ,.int .i64 st.next,.vec 1 0 st.aa.length 2 st.aa.length]],2,2⟩).map (λp=>(p.1,p.2.get 0,p.2.get 1))=
  some (v,some (.row [x,y,.int .i64 st.aZ,.int .i64 st.next,.vec 1 0 st.aa.length 2 st.aa.length]),some (.row (aQ st.aa))))
 (hv:v.aK=0) (hr:AV.aw aC=0):dA P X f (.ptr 0 0::aC) (fq x y st) v none:=by
 by_cases h0:st.aa=[]
 .have e1:fq x y st=[.row [x,y,.int .i64 st.aZ,.int .i64 st.next,.aJ]]:=by unfold fq;rw[h0];rfl
  rw[e1];obtain⟨⟨v1,h⟩,g1,g2⟩:=Option.map_eq_some_iff.1 (h1 h0);simp only[Prod.mk.injEq] at g2;obtain⟨rfl,g3⟩:=g2;exact Ar hE g1 g3 hv hr (by simp[AV.aw,hx.aK,hy.aK,AV.aK])
 .have e1:fq x y st=[.row [x,y,.int .i64 st.aZ,.int .i64 st.next,.vec 1 0 st.aa.length 2 st.aa.length],.row (aQ st.aa)]:=by
   unfold fq iL o9
   cases hn:st.aa with
   |nil=>exact absurd hn h0
   |cons p r=>rfl
  rw[e1];obtain⟨⟨v1,h⟩,g1,g2⟩:=Option.map_eq_some_iff.1 (h2 h0);simp only[Prod.mk.injEq] at g2;obtain⟨rfl,g3,g4⟩:=g2;refine DK hE g1 (λi hi=>?_) hv hr (by simp) (λo ho=>?_)
  .match i,hi with
   |0,_=>exact g3
   |1,_=>exact g4
   |i+2,hi=>simp only[List.length_cons,List.length_nil] at hi;omega
  .simp only[List.mem_cons,List.not_mem_nil,or_false] at ho;rcases ho with rfl|rfl
   .exact yz hx hy _ _ (by rfl)
   .exact jS _ (bf _)
theorem Q3(lV:dn.aa=st.aa)(h1:st.aa=[]->(aF E n f (.ptr 0 0::aC) ⟨1,[.row [x,y,.int .i64 st.aZ,.int .i64 st.next,.aJ]],1,1⟩).map (λp=>(p.1,p.2.get 0))=some (v,some (.row [x,y,.int .i64 dn.aZ,.int .i64 dn.next,.aJ])))
 (h2:st.aa≠[]->(aF E n f (.ptr 0 0::aC) ⟨2,[.row (aQ st.aa),.row [x,y,.int .i64 st.aZ,.int .i64 st.next,.vec 1 0 st.aa.length 2 st.aa.length]],2,2⟩).map (λp=>(p.1,p.2.get 0,p.2.get 1))=
  some (v,some (.row [x,y,.int .i64 dn.aZ,.int .i64 dn.next,.vec 1 0 st.aa.length 2 st.aa.length]),some (.row (aQ st.aa))))
 (hv:v.aK=0) (hr:AV.aw aC=0):dA P X f (.ptr 0 0::aC) (fq x y st) v (some (fq x y dn)):=by
 by_cases h0:st.aa=[]
 .have e1:fq x y st=[.row [x,y,.int .i64 st.aZ,.int .i64 st.next,.aJ]]:=by unfold fq;rw[h0];rfl
  have e2:fq x y dn=[.row [x,y,.int .i64 dn.aZ,.int .i64 dn.next,.aJ]]:=by unfold fq;rw[lV,h0];rfl
  rw[e1,e2];exact oW hE (h1 h0) hv hr (by simp[AV.aw,hx.aK,hy.aK,AV.aK])
 .have e1:∀s:St,s.aa=st.aa->fq x y s=[.row [x,y,.int .i64 s.aZ,.int .i64 s.next,.vec 1 0 st.aa.length 2 st.aa.length],.row (aQ st.aa)]:=λs hs=>by
   unfold fq iL o9;rw[hs]
   cases hn:st.aa with
   |nil=>exact absurd hn h0
   |cons p r=>rfl
  rw[e1 st rfl,e1 dn lV];obtain⟨⟨v1,h⟩,g1,g2⟩:=Option.map_eq_some_iff.1 (h2 h0);simp only[Prod.mk.injEq] at g2;obtain⟨rfl,g3,g4⟩:=g2;refine se (qs:=[]) hE g1 hv hr (by simp) (by simp) (yY (by simp) (by simp) (by simp) λi o ho _=>?_)
  match i,ho with
  |0,ho=>simp only[List.getElem?_cons_zero,Option.some.injEq] at ho;subst ho;rw[vm hx hy];exact⟨g3,yz hx hy _ _ (by rfl)⟩
  |1,ho=>simp only[List.getElem?_cons_succ,List.getElem?_cons_zero,Option.some.injEq] at ho;subst ho;rw[ma _ (bf _)];exact⟨g4,jS _ (bf _)⟩
  |i+2,ho=>simp at ho
end
noncomputable def wc:cr:=⟨72,λ
 |[.ptr 0 0],os=>(match wU os with|some R=>some ((aM R.L R.st).aV,none)|none=>none)
 |_,_=>none⟩
theorem fV:wc.f=72:=(rfl)
theorem dY{x y:AV}{T:List bj}{L:List Tok}{st:St}(hx:ba x=some T)(hy:bx y=some L)(h:RC T L st):wc.S [.ptr 0 0] (fq x y st)=some ((aM L st).aV,none):=by simp only[wc,lU hx hy h]
theorem Ph(v:AV)(hv:v=.aJ\/∃k l,v=.vec k 0 l 2 l)(x y:AV)(T:List bj)(L:List Tok)(st:St)(hx:ba x=some T)(hy:bx y=some L)(h:RC T L st):
 (aF (b9 [] []) 4 72 [.ptr 0 0] ⟨1,[.row [x,y,.int .i64 st.aZ,.int .i64 st.next,v]],1,1⟩=some ((aM L st).aV,⟨1,[.row [x,y,.int .i64 st.aZ,.int .i64 st.next,v]],1,1⟩))/\
 ∀F,(aF (b9 [] []) 4 72 [.ptr 0 0] ⟨2,[.row F,.row [x,y,.int .i64 st.aZ,.int .i64 st.next,v]],2,2⟩=some ((aM L st).aV,⟨2,[.row F,.row [x,y,.int .i64 st.aZ,.int .i64 st.next,v]],2,2⟩)):=by
 have aP:=jR hy;have xH:=h.lb;have W8:(aM L st).aV=.agg [.int .i64 (aM L st).au,.str (aM L st).aD,.int .i64 (aM L st).cF,.bool (aM L st).jq,.int .i64 (aM L st).aZ]:=rfl;rcases Ks h with⟨h1,h2⟩|⟨h1,h2⟩
 .have h3:((L.length:Int)<=(st.aZ:Int))=False:=eq_false (by omega)
  have hyl:y=.sl (L.map Tok.aV):=by
   rcases pJ hy with⟨rfl,rfl⟩|rfl
   .simp at h1
   .rfl
  subst hyl;have hc:(L.map Tok.aV)[st.aZ]? =some (.agg [.int .i64 (aM L st).au,.str (aM L st).aD,.int .i64 (aM L st).cF,.bool (aM L st).jq,.int .i64 (aM L st).aZ]):=by rw[List.getElem?_map,h2];rfl
  have hUl:(L.map Tok.aV).length=L.length:=List.length_map _;have b0:(0:Int)<=(st.aZ:Int):=by omega
  rw[W8];generalize aM L st=t at *;have G4:(L.length<=st.aZ)=False:=eq_false (by omega);generalize L.map Tok.aV=U at *;refine⟨?_,λF=>?_⟩
  .simp[Hi,c72,hUl,h3,G4,hc,b0]
  .simp[Hi,c72,hUl,h3,G4,hc,b0]
 .have h3:((L.length:Int)<=(st.aZ:Int))=True:=eq_true (by omega);rw[W8,h2];refine⟨?_,λF=>?_⟩
  .simp[Hi,c72,aP,h3,kO,h1]
  .simp[Hi,c72,aP,h3,kO,h1]
theorem y8:cC Tryz.prog cX wc:=λag os v r hv=>by
 unfold wc at hv;dsimp only at hv;split at hv
 .rename_i os;split at hv
  .rename_i R hR;cases hv;obtain⟨hx,hy,rfl,hc⟩:=kM hR;rw[fV];have hE:cT Tryz.prog cX (b9 [] []):=dK (by simp) (by simp);refine zr (n:=4) hE (aR hx) (aI hy) (λ_=>?_) (λ_=>?_) (by simp[Tok.aV,Tok.cells,AV.aK,AV.aw]) rfl
   .rw[(Ph .aJ (.inl rfl) _ _ _ _ _ hx hy hc).1];rfl
   .rw[(Ph (.vec 1 0 _ 2 _) (.inr ⟨1,_,rfl⟩) _ _ _ _ _ hx hy hc).2];rfl
  .cases hv
 .cases hv
def qM:aX:=⟨162,λ|[v]=>(tA v).map λt=>.bool (decide (t.au=1)||decide (t.au=2))|_=>none⟩
theorem fv:qM.f=162:=(rfl)
theorem gi(t:Tok):qM.S [.agg [.int .i64 t.au,.str t.aD,.int .i64 t.cF,.bool t.jq,.int .i64 t.aZ]]=some (.bool (decide (t.au=1)||decide (t.au=2))):=(rfl)
theorem Dv:aY Tryz.prog qM:=λag v hv=>by
 unfold qM at hv|-;dsimp only at hv|-;split at hv
 .obtain⟨t,ht,rfl⟩:=Option.map_eq_some_iff.1 hv;rw[qP ht];refine bG (n:=4) (h':=h0) (bA (ss:=[]) (by simp)) ?_ rfl (by simp[Tok.aV,Tok.cells,AV.aK,AV.aw]);have W8:t.aV=.agg [.int .i64 t.au,.str t.aD,.int .i64 t.cF,.bool t.jq,.int .i64 t.aZ]:=rfl;rw[W8];by_cases h1:t.au=1
  .simp[Nq,c162,h1]
  .by_cases h2:t.au=2
   .simp[Nq,c162,h2]
   .simp[Nq,c162,h1,h2]
 .cases hv
def bZ(T:List bj)(t:Tok):bj×Bool:=dM T ⟨t.au,t.aD,t.cF,t.jq,false⟩
theorem jH{T:List bj}{L:List Tok}{st:St}(h:RC T L st):dM T (aL st)=bZ T (aM L st):=by rw[bm h];rfl
noncomputable def F8:cr:=⟨121,λ
 |[.ptr 0 0,w],os=>(match wU os,tA w with|some R,some t=>some (.tuple [(bZ R.T t).1.aV,.bool (bZ R.T t).2],none)|_,_=>none)
 |_,_=>none⟩
theorem Hw:F8.f=121:=(rfl)
theorem rn{x y:AV}{T:List bj}{L:List Tok}{st:St}(hx:ba x=some T)(hy:bx y=some L)(h:RC T L st)(t:Tok):
 F8.S [.ptr 0 0,.agg [.int .i64 t.au,.str t.aD,.int .i64 t.cF,.bool t.jq,.int .i64 t.aZ]] (fq x y st)=some (.tuple [(bZ T t).1.aV,.bool (bZ T t).2],none):=by
 have e:tA (.agg [.int .i64 t.au,.str t.aD,.int .i64 t.cF,.bool t.jq,.int .i64 t.aZ])=some t:=rfl;simp only[F8,lU hx hy h,e]
theorem KK(x:AV)(T:List bj)(hx:ba x=some T)(hT:T.length<1000000)(t:Tok)(y a b v:AV):
 (aF (b9 [qM,Ox] []) 6 121 [.ptr 0 0,t.aV] ⟨1,[.row [x,y,a,b,v]],1,1⟩=some (.tuple [(bZ T t).1.aV,.bool (bZ T t).2],⟨1,[.row [x,y,a,b,v]],1,1⟩))/\
 ∀F,(aF (b9 [qM,Ox] []) 6 121 [.ptr 0 0,t.aV] ⟨2,[.row F,.row [x,y,a,b,v]],2,2⟩=some (.tuple [(bZ T t).1.aV,.bool (bZ T t).2],⟨2,[.row F,.row [x,y,a,b,v]],2,2⟩)):=by
 have hl:=aR hx;have W8:t.aV=.agg [.int .i64 t.au,.str t.aD,.int .i64 t.cF,.bool t.jq,.int .i64 t.aZ]:=rfl;have q1:=gi t;have q2:=H9 hx t.aD (by omega);have fx:=λh=>hl.fr h 0 6
 have gm:=hl.aK;rw[W8];unfold bZ dM fE;simp only[bj.aV,bj.cells] at q2|-
 have fin:∀s:List UInt8,t.aD=s->∀e:Bool,(s==[44])=e->∀F:List AV,
  (aF (b9 [qM,Ox] []) 6 121 [.ptr 0 0,.agg [.int .i64 t.au,.str s,.int .i64 t.cF,.bool t.jq,.int .i64 t.aZ]] ⟨1,[.row [x,y,a,b,v]],1,1⟩=some (.tuple [.agg [.str (if !(decide (t.au=1)||decide (t.au=2))&&(!decide (t.au=5)||!decide (s=[44])) then (gX,false) else bd T s false).1.n,.str (if !(decide (t.au=1)||decide (t.au=2))&&(!decide (t.au=5)||!decide (s=[44])) then (gX,false) else bd T s false).1.k,.int .i64 (if !(decide (t.au=1)||decide (t.au=2))&&(!decide (t.au=5)||!decide (s=[44])) then (gX,false) else bd T s false).1.l],.bool (if !(decide (t.au=1)||decide (t.au=2))&&(!decide (t.au=5)||!decide (s=[44])) then (gX,false) else bd T s false).2],⟨1,[.row [x,y,a,b,v]],1,1⟩))/\
  (aF (b9 [qM,Ox] []) 6 121 [.ptr 0 0,.agg [.int .i64 t.au,.str s,.int .i64 t.cF,.bool t.jq,.int .i64 t.aZ]] ⟨2,[.row F,.row [x,y,a,b,v]],2,2⟩=some (.tuple [.agg [.str (if !(decide (t.au=1)||decide (t.au=2))&&(!decide (t.au=5)||!decide (s=[44])) then (gX,false) else bd T s false).1.n,.str (if !(decide (t.au=1)||decide (t.au=2))&&(!decide (t.au=5)||!decide (s=[44])) then (gX,false) else bd T s false).1.k,.int .i64 (if !(decide (t.au=1)||decide (t.au=2))&&(!decide (t.au=5)||!decide (s=[44])) then (gX,false) else bd T s false).1.l],.bool (if !(decide (t.au=1)||decide (t.au=2))&&(!decide (t.au=5)||!decide (s=[44])) then (gX,false) else bd T s false).2],⟨2,[.row F,.row [x,y,a,b,v]],2,2⟩)):=λs hs e he F=>by
  rw[hs] at q1 q2;by_cases k1:t.au=1
  .simp[vX,HO,fv,kH,fx,gm,k1] at q1|-;simp[vX,HO,fv,kH,fx,gm,k1,q1,q2]
  by_cases k2:t.au=2
  .simp[k1,k2] at q1|-;simp[vX,HO,fv,kH,fx,gm,k1,k2,q1,q2]
  by_cases k5:t.au=5
  .rw[k5] at q1|-
   cases e with
   |true=>
     have he':s=[44]:=by simpa using he
     subst he';simp at q1|-;simp[vX,HO,fv,kH,fx,gm,q1,q2]
   |false=>
     have he':¬s=[44]:=by simpa using he
     simp[he'] at q1|-;simp[vX,HO,fv,kH,fx,gm,q1,q2,he,he',gX]
  .simp[k1,k2,k5] at q1|-;simp[vX,HO,fv,kH,fx,gm,k1,k2,k5,q1,q2,gX]
 exact⟨(fin t.aD rfl _ rfl []).1,λF=>(fin t.aD rfl _ rfl F).2⟩
theorem UT:cC Tryz.prog cX F8:=λag os v r hv=>by
 unfold F8 at hv;dsimp only at hv;split at hv
 .rename_i w os;split at hv
  .rename_i R t hR ht;cases hv;obtain⟨hx,hy,rfl,hc⟩:=kM hR;rw[Hw,qP ht];have hE:cT Tryz.prog cX (b9 [qM,Ox] []):=dK (by simp[Dv.lift,N8.lift]) (by simp);refine zr (n:=6) hE (aR hx) (aI hy) (λ_=>?_) (λ_=>?_) (by simp[bj.aV,bj.cells,AV.aK,AV.aw]) (by simp[Tok.aV,Tok.cells,AV.aK,AV.aw])
   .rw[(KK _ _ hx hc.tb t _ _ _ _).1];rfl
   .rw[(KK _ _ hx hc.tb t _ _ _ _).2];rfl
  .cases hv
 .cases hv
theorem bz{x y:AV}{st:St}(h:st.aa=[]):fq x y st=[.row [x,y,.int .i64 st.aZ,.int .i64 st.next,.aJ]]:=by unfold fq;rw[h];rfl
theorem bw{x y:AV}{st:St}(h:st.aa≠[]):fq x y st=[.row [x,y,.int .i64 st.aZ,.int .i64 st.next,.vec 1 0 st.aa.length 2 st.aa.length],.row (aQ st.aa)]:=by
 unfold fq iL o9
 cases hn:st.aa with
 |nil=>exact absurd hn h
 |cons p r=>rfl
theorem cW{x y:AV}{dn:St}(h:dn.aa=[]):gF x y [] dn=[.row [x,y,.int .i64 dn.aZ,.int .i64 dn.next,.aJ]]:=bz h
theorem cH{x y:AV}{dn:St}(h:dn.aa≠[]):gF x y [] dn=[.row [x,y,.int .i64 dn.aZ,.int .i64 dn.next,.vec 1 0 dn.aa.length 2 dn.aa.length],.row (aQ dn.aa)]:=bw h
theorem dW{x y:AV}{l:List (List UInt8×Int)}{dn:St}(h0:l≠[])(h:dn.aa≠[]):gF x y l dn=[.row [x,y,.int .i64 dn.aZ,.int .i64 dn.next,.vec 2 0 dn.aa.length 2 dn.aa.length],.dead,.row (aQ dn.aa)]:=by
 unfold gF
 cases l with
 |nil=>exact absurd rfl h0
 |cons p r=>
   dsimp only;unfold iL
   cases hm:dn.aa with
   |nil=>exact absurd hm h
   |cons q s=>rfl
theorem Lv.aa{st dn:St}(h:Lv st dn)(h0:st.aa≠[]):dn.aa≠[]:=by obtain⟨q,hq⟩:=h.pre;rw[hq];intro e;exact h0 (List.append_eq_nil_iff.1 e).1
theorem bK(t:Tok):t.aV=.agg [.int .i64 t.au,.str t.aD,.int .i64 t.cF,.bool t.jq,.int .i64 t.aZ]:=rfl
noncomputable def BB:cr:=⟨160,λ
 |[.ptr 0 0,.str s],os=>(match wU os with|some R=>some (.bool (ax s R.st).1,some (fq R.x R.y (ax s R.st).2))|none=>none)
 |_,_=>none⟩
theorem ic:BB.f=160:=(rfl)
theorem jh{x y:AV}{T:List bj}{L:List Tok}{st:St}(hx:ba x=some T)(hy:bx y=some L)(h:RC T L st)(s:List UInt8):BB.S [.ptr 0 0,.str s] (fq x y st)=some (.bool (ax s st).1,some (fq x y (ax s st).2)):=by simp only[BB,lU hx hy h]
theorem b8(s:List UInt8)(st:St):(ax s st).2.aa=st.aa/\(ax s st).2.next=st.next:=by unfold ax;split<;>exact⟨rfl,rfl⟩
theorem Ed:cC Tryz.prog cX BB:=λag os v r hv=>by
 unfold BB at hv;dsimp only at hv;split at hv
 .rename_i os s;split at hv
  .rename_i R hR;cases hv;obtain⟨hx,hy,rfl,hc⟩:=kM hR;obtain⟨x,y,T,L,st⟩:=R;dsimp only at hx hy hc|-;rw[ic];have hE:cT Tryz.prog cX (b9 [] [wc]):=dK (by simp) (by simp[y8]);have aN:=aR hx;have aP:=aI hy;have q:=dY hx hy hc;rw[bK] at q;have W9:=bm hc;have cR:=hc.le;have xH:=hc.lb;have w:=wrap_i64 (n:=(st.aZ:Int)+1) (by omega) (by omega);have x1:=aN.aK;have y1:=aP.aK;have g1:=lg aN aP;have g2:=kZ aN aP;have g3:=lr aN aP;have g4:=k9 aN aP;have g5:=kX aN aP;have g6:=kW aN aP
   have key:∀c d:Bool,(aM L st).au=5/\c=true\/¬(aM L st).au=5/\c=false->((aM L st).aD==s)=d->
    (st.aa=[]->(aF (b9 [] [wc]) 6 160 [.ptr 0 0,.str s] ⟨1,[.row [x,y,.int .i64 st.aZ,.int .i64 st.next,.aJ]],1,1⟩).map (λp=>(p.1,p.2.get 0))=some (.bool (c&&d),some (.row [x,y,.int .i64 (if c&&d then (st.aZ:Int)+1 else st.aZ),.int .i64 st.next,.aJ])))/\
    (st.aa≠[]->(aF (b9 [] [wc]) 6 160 [.ptr 0 0,.str s] ⟨2,[.row (aQ st.aa),.row [x,y,.int .i64 st.aZ,.int .i64 st.next,.vec 1 0 st.aa.length 2 st.aa.length]],2,2⟩).map (λp=>(p.1,p.2.get 0,p.2.get 1))=
     some (.bool (c&&d),some (.row [x,y,.int .i64 (if c&&d then (st.aZ:Int)+1 else st.aZ),.int .i64 st.next,.vec 1 0 st.aa.length 2 st.aa.length]),some (.row (aQ st.aa)))):=λc d hcd hd=>by
    have f1:=db st.aa;have f2:=dc st.aa;have f3:=bf st.aa;refine⟨λh0=>?_,λh0=>?_⟩
    .rw[bz h0] at q;generalize aM L st=t at *;rcases hcd with⟨k5,rfl⟩|⟨k5,rfl⟩
     .rw[k5] at q
      cases d with
      |true=>
        have:t.aD=s:=by simpa using hd
        subst this;simp[vl,c160,fV,q,x1,y1,g1,g2,g3,g4,g5,g6,-af,-aj,-ah,w]
      |false=>
        have hn:¬t.aD=s:=by simpa using hd
        simp[vl,c160,fV,q,x1,y1,g1,g2,g3,g4,g5,g6,-af,-aj,-ah,w,hd,hn]
     .simp[vl,c160,fV,q,x1,y1,g1,g2,g3,g4,g5,g6,-af,-aj,-ah,w,k5]
    .rw[bw h0] at q;generalize aQ st.aa=F at *;generalize aM L st=t at *;generalize st.aa.length=n at *;rcases hcd with⟨k5,rfl⟩|⟨k5,rfl⟩
     .rw[k5] at q
      cases d with
      |true=>
        have:t.aD=s:=by simpa using hd
        subst this;simp[vl,c160,fV,q,x1,y1,g1,g2,g3,g4,g5,g6,-af,-aj,-ah,f1,f2,f3,w]
      |false=>
        have hn:¬t.aD=s:=by simpa using hd
        simp[vl,c160,fV,q,x1,y1,g1,g2,g3,g4,g5,g6,-af,-aj,-ah,f1,f2,f3,w,hd,hn]
     .simp[vl,c160,fV,q,x1,y1,g1,g2,g3,g4,g5,g6,-af,-aj,-ah,f1,f2,f3,w,k5]
   obtain⟨hn1,cO⟩:=b8 s st
   have IS:∀c d:Bool,(aM L st).au=5/\c=true\/¬(aM L st).au=5/\c=false->((aM L st).aD==s)=d->(ax s st).1=(c&&d)/\((ax s st).2.aZ:Int)=(if c&&d then (st.aZ:Int)+1 else st.aZ):=λc d hcd hd=>by
    have k1:(aL st).au=(aM L st).au:=by rw[W9]
    have k2:(aL st).aD=(aM L st).aD:=by rw[W9]
    unfold ax;rw[k1,k2];rcases hcd with⟨k5,rfl⟩|⟨k5,rfl⟩
    .cases d with
     |true=>rw[if_pos ⟨k5,by simpa using hd⟩];exact⟨rfl,by simp[aq]⟩
     |false=>rw[if_neg (λe=>by rw[e.2] at hd;simp at hd)];exact⟨rfl,by simp⟩
    .rw[if_neg (λe=>k5 e.1)];exact⟨rfl,by simp⟩
   obtain⟨c,pE⟩:∃c:Bool,(aM L st).au=5/\c=true\/¬(aM L st).au=5/\c=false:=by
    by_cases h:(aM L st).au=5
    .exact⟨true,.inl ⟨h,rfl⟩⟩
    .exact⟨false,.inr ⟨h,rfl⟩⟩
   obtain⟨k1,k2⟩:=key c _ pE rfl;obtain⟨v1,v2⟩:=IS c _ pE rfl;refine Q3 (n:=6) hE aN aP hn1 (λh0=>?_) (λh0=>?_) rfl rfl
   .rw[v1,v2,cO];exact k1 h0
   .rw[v1,v2,cO];exact k2 h0
  .cases hv
 .cases hv
theorem F4(n:Nat)(s:List UInt8)(l:List (List UInt8×Int))(hl:l.length<1000000)(R:List AV):∀(post pre:List (List UInt8×Int)) (m md:Nat),l=pre++post->post.length<m->
 ∃cq,gu 3 2 (bL (aH (aF (b9 [C7] []) (n+1)) (n+1) sW) mB 3 m (PJ (.ptr 0 0) (.str s) (.ptr 2 0) (.vec 1 0 l.length 2 l.length) (.int .i64 l.length) (.int .i64 pre.length)) ⟨3,[.row [.int .i64 0,.int .i64 0,.str [],.aJ],.row (aQ l),.row R],3,md⟩)=
   (match mK s post with
    |some k=>some (.ret,FM 52 [(4,.ptr 2 0)],⟨3,[.row [.int .i64 0,.int .i64 k,.str [],.aJ],.row (aQ l),.row R],2,cq⟩)
    |none=>some (.exit 0,FM 52 [(0,.ptr 0 0),(1,.str s),(4,.ptr 2 0)],⟨3,[.row [.int .i64 0,.int .i64 0,.str [],.aJ],.row (aQ l),.row R],2,cq⟩))
 |_,_,0,_,_,h=>by omega
 |[],pre,m+1,md,hs,_=>by rw[ak];rw[List.append_nil] at hs;subst hs;have f3:=bf l;generalize aQ l=F at *;exact⟨md,by simp[sW,mB,mK,f3]⟩
 |p::r,pre,m+1,md,hs,hm=>by
   rw[ak];have zd:pre.length+r.length+1=l.length:=by rw[hs];simp;omega
   have h6:((pre.length:Int)<(l.length:Int))=True:=eq_true (by omega);have h6':(pre.length<l.length)=True:=eq_true (by omega);have h3:IntKind.i64.wrap ((pre.length:Int)+1)=(pre.length:Int)+1:=wrap_i64 (by omega) (by omega)
   have hd:(aQ l).drop (pre.length*2)=.str p.1::.int .i64 p.2::aQ r:=by
    have e:aQ l=aQ pre++aQ (p::r):=by rw[hs];unfold aQ;rw[List.flatMap_append]
    rw[e,<-nu pre,List.drop_left];rfl
   have LY:(pre.length*2+2<=(aQ l).length)=True:=eq_true (by rw[nu];omega);have q:=Pg p.2;have f3:=bf l;obtain⟨cq,ih⟩:=F4 n s l hl R r (pre++[p]) m (min md 3) (by rw[hs];simp) (by simp at hm;omega);simp only[List.length_append,List.length_cons,List.length_nil,Nat.zero_add,Int.natCast_add,Int.natCast_one] at ih;have ag5:(l=[])=False:=eq_false (λe=>by rw[e] at zd;simp at zd);unfold mK;generalize aQ l=F at *;by_cases hv:p.1=s
   .rw[if_pos hv];subst hv;refine⟨min md 2,?_⟩;simp[sW,mB,h3,h6,h6',hd,LY,q,wZ,f3]
   .rw[if_neg hv];have hvb:(p.1==s)=false:=by simpa using hv
    refine⟨cq,?_⟩;simp[sW,mB,h3,h6,h6',hd,LY,q,wZ,f3,hv,hvb];exact ih
theorem F1{s:List UInt8}{st:St}{k:Int}(h:mK s st.aa=some k):jJ s st=(.nl 0 k [],st):=by unfold jJ;rw[h]
theorem yV{s:List UInt8}{st:St}(h:mK s st.aa=none):jJ s st=(.nl 0 st.next [],⟨st.aZ,st.aC,st.next+1,if s=[95] then st.aa else st.aa++[(s,(st.next:Int))]⟩):=by unfold jJ;rw[h]
theorem Xk(k:Int):(Tm.nl 0 k []).aV=.agg [.int .i64 0,.int .i64 k,.str [],.aJ]:=rfl
noncomputable def QQ:cr:=⟨159,λ
 |[.ptr 0 0,.str s],os=>(match wU os with|some R=>some ((jJ s R.st).1.aV,some (gF R.x R.y R.st.aa (jJ s R.st).2))|none=>none)
 |_,_=>none⟩
theorem ME:QQ.f=159:=(rfl)
theorem X1{x y:AV}{T:List bj}{L:List Tok}{st:St}(hx:ba x=some T)(hy:bx y=some L)(h:RC T L st)(s:List UInt8):QQ.S [.ptr 0 0,.str s] (fq x y st)=some ((jJ s st).1.aV,some (gF x y st.aa (jJ s st).2)):=by simp only[QQ,lU hx hy h]
theorem XV:cC Tryz.prog cX QQ:=λag os v r hv=>by
 unfold QQ at hv;dsimp only at hv;split at hv
 .rename_i os s;split at hv
  .rename_i R hR;cases hv;obtain⟨hx,hy,rfl,hc⟩:=kM hR;obtain⟨x,y,T,L,st⟩:=R;dsimp only at hx hy hc|-;rw[ME];have hE:cT Tryz.prog cX (b9 [C7] []):=dK (by simp[Xx.lift]) (by simp);have aN:=aR hx;have aP:=aI hy;have cR:=hc.le;have xH:=hc.lb;have BR:=hc.nx;have lV:=hc.nm;have w:=wrap_i64 (n:=(st.next:Int)+1) (by omega) (by omega);have x1:=aN.aK;have y1:=aP.aK;have q:=λk=>Pg k
   by_cases h0:st.aa=[]
   .have hf:mK s st.aa=none:=by rw[h0];rfl
    rw[yV hf];by_cases hs:s=[95]
    .subst hs;refine dP (n:=6) hE aN aP h0 ?_ ?_ (Tm.cm _) rfl
     .show (if ([95]:List UInt8)=[95] then st.aa else st.aa++[([95],(st.next:Int))])=[];rw[if_pos rfl,h0]
     .rw[Xk];show (aF (b9 [C7] []) 6 159 [.ptr 0 0,.str [95]] ⟨1,[.row [x,y,.int .i64 st.aZ,.int .i64 st.next,.aJ]],1,1⟩).map _=_;simp[yU,c159,mB,sW,ak,wZ,q,x1,y1,w]
    .have Qh:(s==[95])=false:=by simpa using hs
     refine eJ (n:=6) hE aN aP 3 (by decide) h0 ?_ ?_ (Tm.cm _) rfl
     .show (if s=[95] then st.aa else st.aa++[(s,(st.next:Int))])≠[];rw[if_neg hs,h0];simp
     .rw[Xk];show (aF (b9 [C7] []) 6 159 [.ptr 0 0,.str s] ⟨1,[.row [x,y,.int .i64 st.aZ,.int .i64 st.next,.aJ]],1,1⟩).map _=_;simp only[if_neg hs,h0,List.nil_append];simp[yU,c159,mB,sW,ak,wZ,q,x1,y1,w,hs,Qh,aQ,aT]
   .have fZ:0<st.aa.length:=List.length_pos_iff.2 h0;have f3:=bf st.aa;have fl:=nu st.aa;obtain⟨cq,lp⟩:=F4 199998 s st.aa (by omega) [x,y,.int .i64 st.aZ,.int .i64 st.next,.vec 1 0 st.aa.length 2 st.aa.length] st.aa [] 199999 2 rfl (by omega);simp only[mB,PJ,List.length_nil,Int.natCast_zero] at lp;have hb1:(st.aa.length+1)*24<=140737488355328:=by omega
    have A3:st.aa.length+1<9223372036854775808:=by omega
    cases hf:mK s st.aa with
    |some k=>rw[hf] at lp;rw[F1 hf];refine dB (n:=200000) hE aN aP 1 (by decide) h0 h0 ?_ (Tm.cm _) rfl;rw[Xk];show (aF (b9 [C7] []) 200000 159 [.ptr 0 0,.str s] ⟨2,[.row (aQ st.aa),.row [x,y,.int .i64 st.aZ,.int .i64 st.next,.vec 1 0 st.aa.length 2 st.aa.length]],2,2⟩).map _=_;generalize aQ st.aa=F at *;generalize st.aa.length=n at *;simp[yU,c159,mB,wZ,q,x1,y1,w,lp,f3]
    |none=>
      rw[hf] at lp;rw[yV hf];by_cases hs:s=[95]
      .subst hs;have hn:(if ([95]:List UInt8)=[95] then st.aa else st.aa++[([95],(st.next:Int))])=st.aa:=if_pos rfl;rw[hn];refine dB (n:=200000) hE aN aP 1 (by decide) h0 h0 ?_ (Tm.cm _) rfl;rw[Xk];show (aF (b9 [C7] []) 200000 159 [.ptr 0 0,.str [95]] ⟨2,[.row (aQ st.aa),.row [x,y,.int .i64 st.aZ,.int .i64 st.next,.vec 1 0 st.aa.length 2 st.aa.length]],2,2⟩).map _=some (_,some (bp.row [x,y,.int .i64 st.aZ,.int .i64 ((st.next+1:Nat):Int),.vec 1 0 st.aa.length 2 st.aa.length]),some (bp.row (aQ st.aa)));generalize aQ st.aa=F at *;generalize st.aa.length=n at *;simp[yU,c159,mB,wZ,q,x1,y1,w,lp,f3]
      .have Qh:(s==[95])=false:=by simpa using hs
       have hn:(if s=[95] then st.aa else st.aa++[(s,(st.next:Int))])=st.aa++[(s,(st.next:Int))]:=if_neg hs;rw[hn];refine dB (n:=200000) hE aN aP 4 (by decide) h0 (by simp) ?_ (Tm.cm _) rfl;rw[Xk]
       show (aF (b9 [C7] []) 200000 159 [.ptr 0 0,.str s] ⟨2,[.row (aQ st.aa),.row [x,y,.int .i64 st.aZ,.int .i64 st.next,.vec 1 0 st.aa.length 2 st.aa.length]],2,2⟩).map _=
        some (_,some (bp.row [x,y,.int .i64 st.aZ,.int .i64 ((st.next+1:Nat):Int),.vec 4 0 (st.aa++[(s,(st.next:Int))]).length 2 (st.aa++[(s,(st.next:Int))]).length]),some (bp.row (aQ (st.aa++[(s,(st.next:Int))]))))
       rw[Er,List.length_append,List.length_cons,List.length_nil];have ht:(aQ st.aa).take (st.aa.length*2)=aQ st.aa:=List.take_of_length_le (by omega);generalize aQ st.aa=F at *;generalize st.aa.length=n at *;have hb3:(n*2<=F.length)=True:=eq_true (by omega);have hb4:((n+1)*2<=F.length)=False:=eq_false (by omega);have hb5:(n+1<=n)=False:=eq_false (by omega);simp[yU,c159,mB,wZ,q,x1,y1,w,lp,f3,hs,Qh,aT,hb1,A3,hb3,hb4,hb5,ht]
  .cases hv
 .cases hv
end
end Go.Proofs.YtjmeonoabiliiaaGreatDoor
