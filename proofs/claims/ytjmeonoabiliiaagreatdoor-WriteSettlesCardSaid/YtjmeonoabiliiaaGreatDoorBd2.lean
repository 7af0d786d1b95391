import Derived.Test.YtjmeonoabiliiaaGreatDoorBd1
import Derived.Test.YtjmeonoabiliiaaGreatDoorArg
import Derived.Test.YtjmeonoabiliiaaGreatDoorAt
set_option linter.all false
set_option maxHeartbeats 16000000
set_option maxRecDepth 100000
namespace Go.Proofs.YtjmeonoabiliiaaGreatDoor
open Go Sz
section
structure cB where
 ah:Int
 ay:List UInt8
 bx:Int
 iT:Bool
 TM:Bool
def WJ:cB:=⟨0,[],0,false,false⟩
def Zq(t:Tok):List Tok->Bool
 |[]=>false
 |u::_=>decide (u.bM=t.bM+1)
def kB:List Tok->List cB
 |[]=>[]
 |t::r=>⟨t.ah,t.ay,t.bx,t.iT,Zq t r⟩::kB r
theorem gG:∀l,(kB l).length=l.length
 |[]=>rfl
 |t::r=>by simp[kB,gG r]
theorem GN:∀(l:List Tok) (k:Nat),(kB l).drop k=kB (l.drop k)
 |[],k=>by simp[kB]
 |t::r,0=>rfl
 |t::r,k+1=>by show (kB r).drop k=kB (r.drop k);exact GN r k
structure St where
 bM:Nat
 ak:List cB
 next:Nat
 ae:List (List UInt8×Int)
def aB(st:St):cB:=st.ak.headD WJ
def aq(st:St):St:=⟨st.bM+1,st.ak.tail,st.next,st.ae⟩
def dQ(x:cB):Bool:=decide (x.ah=1)||decide (x.ah=2)
def cC(T:List aY)(x:cB):aY×Bool:=if !dQ x&&(!decide (x.ah=5)||!decide (x.ay=[44])) then (fF,false) else aM T x.ay false
abbrev PR:=Tm×Int×Bool
def CR:Tm:=.nl 0 0 []
def aW(s:List UInt8):Tm:=.nl 2 0 s
def ba(s:List UInt8)(st:St):Bool×St:=if (aB st).ah=5/\(aB st).ay=s then (true,aq st) else (false,st)
def l6(s:List UInt8):List (List UInt8×Int)->Option Int
 |[]=>none
 |p::r=>if p.1=s then some p.2 else l6 s r
def k9(s:List UInt8)(st:St):Tm×St:=match l6 s st.ae with
 |some n=>(.nl 0 n [],st)
 |none=>(.nl 0 st.next [],⟨st.bM,st.ak,st.next+1,if s=[95] then st.ae else st.ae++[(s,(st.next:Int))]⟩)
def hO(T:List aY)(st:St):Bool:=
 if (aB st).ah=0\/(aB st).ah=6 then false
 else if (aB st).ah=5 then decide ((aB st).ay=[40])||decide ((aB st).ay=[91])||decide ((aB st).ay=[123])
 else if !dQ (aB st)||(aB st).iT then true
 else !(aM T (aB st).ay false).2||(aM T (aB st).ay true).2
section
variable (rec:Int->St->PR×St)
def bp:Nat->List Tm->St->(List Tm×Bool)×St
 |0,aJ,st=>((aJ,false),st)
 |M+1,aJ,st=>
   if (rec 999 st).1.2.2 then
    (if (ba [44] (rec 999 st).2).1 then bp M (aJ++[(rec 999 st).1.1]) (ba [44] (rec 999 st).2).2
     else ((aJ++[(rec 999 st).1.1],true),(rec 999 st).2))
   else ((aJ,false),(rec 999 st).2)
def lY(l:List Tm)(st:St):(Tm×Bool)×St:=
 if (ba [124] st).1 then
  (if (rec 999 (ba [124] st).2).1.2.2 then ((bL l (rec 999 (ba [124] st).2).1.1,(ba [93] (rec 999 (ba [124] st).2).2).1),(ba [93] (rec 999 (ba [124] st).2).2).2)
   else ((bL l (rec 999 (ba [124] st).2).1.1,false),(rec 999 (ba [124] st).2).2))
 else ((bL l (aW [91,93]),(ba [93] st).1),(ba [93] st).2)
def iL(M:Nat)(st:St):(Tm×Bool)×St:=
 if (bp rec M [] st).1.2 then lY rec (bp rec M [] st).1.1 (bp rec M [] st).2
 else ((aW [91,93],false),(bp rec M [] st).2)
def u7(T:List aY)(s:List UInt8):Int:=max (aM T s false).1.l (aM T s true).1.l
def cn(T:List aY)(x:cB)(n:Int)(st:St):PR×St:=
 if x.ah=2 then ((aW x.ay,0,true),st)
 else if (aM T x.ay true).2&&decide ((aM T x.ay true).1.l<=n)&&hO T st then
  ((ct x.ay [(rec (ax (aM T x.ay true).1).2 st).1.1],(aM T x.ay true).1.l,(rec (ax (aM T x.ay true).1).2 st).1.2.2),(rec (ax (aM T x.ay true).1).2 st).2)
 else ((aW x.ay,u7 T x.ay,decide (u7 T x.ay<=n)),st)
def fT(c:List UInt8)(f:Tm->Tm)(st:St):PR×St:=
 if (rec 1200 st).1.2.2 then ((f (rec 1200 st).1.1,0,(ba c (rec 1200 st).2).1),(ba c (rec 1200 st).2).2)
 else ((f (rec 1200 st).1.1,0,false),(rec 1200 st).2)
def kH(M:Nat)(s:List UInt8)(st:St):PR×St:=
 if (bp rec M [] st).1.2 then ((ct s (bp rec M [] st).1.1,0,(ba [41] (bp rec M [] st).2).1),(ba [41] (bp rec M [] st).2).2)
 else ((ct s [],0,false),(bp rec M [] st).2)
def eH(T:List aY)(M:Nat)(n:Int)(st:St):PR×St:=
 if (aB st).ah=4 then ((.nl 1 (aB st).bx [],0,true),aq st)
 else if (aB st).ah=3 then (((k9 (aB st).ay (aq st)).1,0,true),(k9 (aB st).ay (aq st)).2)
 else if (aB st).ah=5/\(aB st).ay=[40] then fT rec [41] (λt=>t) (aq st)
 else if (aB st).ah=5/\(aB st).ay=[91] then (((iL rec M (aq st)).1.1,0,(iL rec M (aq st)).1.2),(iL rec M (aq st)).2)
 else if (aB st).ah=5/\(aB st).ay=[123] then fT rec [125] (λt=>ct [123,125] [t]) (aq st)
 else if !dQ (aB st) then ((CR,0,false),aq st)
 else if (aB st).iT then kH rec M (aB st).ay (aq (aq st))
 else if (aB st).ah=1/\(aB st).ay=[45]/\(aB (aq st)).ah=4/\(aB st).TM=true then ((.nl 1 (-(aB (aq st)).bx) [],0,true),aq (aq st))
 else cn rec T (aB st) n (aq st)
def fC(T:List aY):Nat->Int->PR->St->PR×St
 |0,_,r,st=>(r,st)
 |M+1,n,r,st=>
   if !r.2.2 then (r,st)
   else if !(cC T (aB st)).2||decide (n<(cC T (aB st)).1.l)||decide ((ax (cC T (aB st)).1).1<r.2.1) then (r,st)
   else fC T M n (ct (aB st).ay [r.1,(rec (ax (cC T (aB st)).1).2 (aq st)).1.1],(cC T (aB st)).1.l,(rec (ax (cC T (aB st)).1).2 (aq st)).1.2.2) (rec (ax (cC T (aB st)).1).2 (aq st)).2
end
def kG(T:List aY):Nat->Int->St->PR×St
 |0,_,st=>((CR,0,false),st)
 |N+1,n,st=>fC (kG T N) T (N+1) n (eH (kG T N) T (N+1) n st).1 (eH (kG T N) T (N+1) n st).2
theorem JE{st:St}(h:st.ak=[]):aB st=WJ:=by simp[aB,h]
theorem dj(st:St):(aq st).ak.length=st.ak.length-1:=by simp[aq]
theorem bF{st:St}(h:(aB st).ah≠0):0<st.ak.length:=by
 cases hr:st.ak with
 |nil=>exact absurd (by rw[JE hr];rfl) h
 |cons x r=>simp
def xS(x:cB):Bool:=(decide (x.ay.length<=64)||!dQ x)&&(decide (0<=x.bx)&&decide (x.bx<9223372036854775808))
def Ig(l:List (List UInt8×Int)):Bool:=l.all λp=>!decide (p.1=[95])
structure Lv(st dv:St):Prop where
 suf:∃k,dv.ak=st.ak.drop k
 nx:st.next<=dv.next
 nm:dv.ae.length+st.next<=st.ae.length+dv.next
 pre:∃q,dv.ae=st.ae++q
 Q9:Ig st.ae=true->Ig dv.ae=true
 rg:(∀p∈st.ae,0<=p.2/\p.2<st.next)->∀p∈dv.ae,0<=p.2/\p.2<dv.next
structure Ok(st dv:St):Prop where
 lv:Lv st dv
 pos:dv.ak.length<st.ak.length
 tot:dv.bM+dv.ak.length=st.bM+st.ak.length
 nxr:dv.next+dv.ak.length<=st.next+st.ak.length
theorem Lv.refl(st:St):Lv st st:=⟨⟨0,rfl⟩,Nat.le_refl _,Nat.le_refl _,⟨[],by simp⟩,id,id⟩
theorem Lv.trans{a b c:St}(h:Lv a b)(g:Lv b c):Lv a c:=by obtain⟨k,hk⟩:=h.suf;obtain⟨j,hj⟩:=g.suf;obtain⟨p,hp⟩:=h.pre;obtain⟨q,hq⟩:=g.pre;have:=h.nx;have:=g.nx;have:=h.nm;have:=g.nm;exact⟨⟨k+j,by rw[hj,hk,List.drop_drop]⟩,by omega,by omega,⟨p++q,by rw[hq,hp,List.append_assoc]⟩,λe=>g.Q9 (h.Q9 e),λe=>g.rg (h.rg e)⟩
theorem Lv.len{a b:St}(h:Lv a b):b.ak.length<=a.ak.length:=by obtain⟨k,hk⟩:=h.suf;rw[hk,List.length_drop];omega
theorem Lv.all{a b:St}(h:Lv a b)(p:cB->Bool)(ha:a.ak.all p=true):b.ak.all p=true:=by obtain⟨k,hk⟩:=h.suf;rw[hk,List.all_eq_true];exact λx hx=>List.all_eq_true.1 ha x (List.mem_of_mem_drop hx)
theorem jO(st:St):Lv st (aq st):=⟨⟨1,by simp[aq]⟩,Nat.le_refl _,Nat.le_refl _,⟨[],by simp[aq]⟩,id,id⟩
theorem jS{st:St}(h:0<st.ak.length):Ok st (aq st):=by
 have:=dj st;refine⟨jO st,by omega,?_,?_⟩
 .show st.bM+1+_=_;omega
 .show st.next+_<=_
  omega
theorem Ok.trans{a b c:St}(h:Ok a b)(g:Ok b c):Ok a c:=by have:=h.pos;have:=g.pos;have:=h.tot;have:=g.tot;have:=h.nxr;have:=g.nxr;exact⟨h.lv.trans g.lv,by omega,by omega,by omega⟩
theorem pF(s:List UInt8)(st:St):Lv st (ba s st).2:=by
 unfold ba;split
 .exact jO st
 .exact Lv.refl st
theorem fo{s:List UInt8}{st:St}(h:(ba s st).1=true):Ok st (ba s st).2:=by
 unfold ba at h|-;split
 .rename_i hc;exact jS (bF (by rw[hc.1];decide))
 .rename_i hc;rw[if_neg hc] at h;cases h
theorem pO{s:List UInt8}{st:St}(h:(ba s st).1=false):(ba s st).2=st:=by
 unfold ba at h|-;split
 .rename_i hc;rw[if_pos hc] at h;cases h
 .rfl
theorem N9(s:List UInt8)(st:St):Lv st (k9 s st).2:=by
 unfold k9;split
 .exact Lv.refl st
 .refine⟨⟨0,rfl⟩,Nat.le_succ _,?_,?_,λh=>?_,λh p hp=>?_⟩
  .dsimp only;split<;>simp<;>omega
  .dsimp only;split
   .exact⟨[],by simp⟩
   .exact⟨_,rfl⟩
  .dsimp only;split
   .exact h
   .rename_i hs;unfold Ig at h|-;rw[List.all_append,h];simp[hs]
  .dsimp only at hp|-;split at hp
   .have:=h p hp;omega
   .rcases List.mem_append.1 hp with hp|hp
    .have:=h p hp;omega
    .simp only[List.mem_singleton] at hp;subst hp;dsimp only;omega
theorem Ui{s:List UInt8}{st:St}(h:0<st.ak.length):Ok st (k9 s (aq st)).2:=by
 have h1:=dj st;have hv:=N9 s (aq st)
 have hr:(k9 s (aq st)).2.ak=(aq st).ak/\(k9 s (aq st)).2.bM=(aq st).bM/\(k9 s (aq st)).2.next<=(aq st).next+1:=by
  unfold k9;split
  .exact⟨rfl,rfl,Nat.le_succ _⟩
  .exact⟨rfl,rfl,Nat.le_refl _⟩
 refine⟨(jO st).trans hv,by rw[hr.1];omega,?_,?_⟩
 .rw[hr.1,hr.2.1];show st.bM+1+_=_;omega
 .rw[hr.1];have:(aq st).next=st.next:=rfl
  omega
structure Af(rec:Int->St->PR×St):Prop where
 lv:∀n st,Lv st (rec n st).2
 ok:∀n st,(rec n st).1.2.2=true->Ok st (rec n st).2
section
variable {rec:Int->St->PR×St}(H:Af rec)
include H
theorem kW:∀(M:Nat) (aJ:List Tm) (st:St),Lv st (bp rec M aJ st).2/\((bp rec M aJ st).1.2=true->Ok st (bp rec M aJ st).2)
 |0,aJ,st=>⟨Lv.refl st,λh=>by cases h⟩
 |M+1,aJ,st=>by
   unfold bp;by_cases h1:(rec 999 st).1.2.2=true
   .rw[if_pos h1];by_cases h2:(ba [44] (rec 999 st).2).1=true
    .rw[if_pos h2];obtain⟨i1,i2⟩:=kW M (aJ++[(rec 999 st).1.1]) (ba [44] (rec 999 st).2).2;exact⟨((H.lv 999 st).trans (pF _ _)).trans i1,λh=>((H.ok 999 st h1).trans (fo h2)).trans (i2 h)⟩
    .rw[if_neg h2];exact⟨H.lv 999 st,λ_=>H.ok 999 st h1⟩
   .rw[if_neg h1];exact⟨H.lv 999 st,λh=>by cases h⟩
theorem Zl(l:List Tm)(st:St):Lv st (lY rec l st).2/\((lY rec l st).1.2=true->Ok st (lY rec l st).2):=by
 unfold lY;by_cases h1:(ba [124] st).1=true
 .rw[if_pos h1];by_cases h2:(rec 999 (ba [124] st).2).1.2.2=true
  .rw[if_pos h2];exact⟨((pF _ _).trans (H.lv _ _)).trans (pF _ _),λh=>((fo h1).trans (H.ok _ _ h2)).trans (fo h)⟩
  .rw[if_neg h2];exact⟨(pF _ _).trans (H.lv _ _),λh=>by cases h⟩
 .rw[if_neg h1];exact⟨pF _ _,λh=>fo h⟩
theorem H9(M:Nat)(st:St):Lv st (iL rec M st).2/\((iL rec M st).1.2=true->Ok st (iL rec M st).2):=by
 obtain⟨i1,i2⟩:=kW H M [] st;unfold iL;by_cases h1:(bp rec M [] st).1.2=true
 .rw[if_pos h1];obtain⟨j1,j2⟩:=Zl H (bp rec M [] st).1.1 (bp rec M [] st).2;exact⟨i1.trans j1,λh=>(i2 h1).trans (j2 h)⟩
 .rw[if_neg h1];exact⟨i1,λh=>by cases h⟩
theorem yV(c:List UInt8)(f:Tm->Tm)(st:St):Lv st (fT rec c f st).2/\((fT rec c f st).1.2.2=true->Ok st (fT rec c f st).2):=by
 unfold fT;by_cases h1:(rec 1200 st).1.2.2=true
 .rw[if_pos h1];exact⟨(H.lv _ _).trans (pF _ _),λh=>(H.ok _ _ h1).trans (fo h)⟩
 .rw[if_neg h1];exact⟨H.lv _ _,λh=>by cases h⟩
theorem I5(M:Nat)(s:List UInt8)(st:St):Lv st (kH rec M s st).2/\((kH rec M s st).1.2.2=true->Ok st (kH rec M s st).2):=by
 obtain⟨i1,i2⟩:=kW H M [] st;unfold kH;by_cases h1:(bp rec M [] st).1.2=true
 .rw[if_pos h1];exact⟨i1.trans (pF _ _),λh=>(i2 h1).trans (fo h)⟩
 .rw[if_neg h1];exact⟨i1,λh=>by cases h⟩
theorem sj(T:List aY)(M:Nat)(n:Int)(st:St):Lv st (eH rec T M n st).2/\((eH rec T M n st).1.2.2=true->Ok st (eH rec T M n st).2):=by
 unfold eH;by_cases k4:(aB st).ah=4
 .rw[if_pos k4];exact⟨jO st,λ_=>jS (bF (by omega))⟩
 rw[if_neg k4];by_cases k3:(aB st).ah=3
 .rw[if_pos k3];exact⟨(jO st).trans (N9 _ _),λ_=>Ui (bF (by omega))⟩
 rw[if_neg k3];by_cases c1:(aB st).ah=5/\(aB st).ay=[40]
 .rw[if_pos c1];obtain⟨i1,i2⟩:=yV H [41] (λt=>t) (aq st);exact⟨(jO st).trans i1,λh=>(jS (bF (by omega))).trans (i2 h)⟩
 rw[if_neg c1];by_cases c2:(aB st).ah=5/\(aB st).ay=[91]
 .rw[if_pos c2];obtain⟨i1,i2⟩:=H9 H M (aq st);exact⟨(jO st).trans i1,λh=>(jS (bF (by omega))).trans (i2 h)⟩
 rw[if_neg c2];by_cases c3:(aB st).ah=5/\(aB st).ay=[123]
 .rw[if_pos c3];obtain⟨i1,i2⟩:=yV H [125] (λt=>ct [123,125] [t]) (aq st);exact⟨(jO st).trans i1,λh=>(jS (bF (by omega))).trans (i2 h)⟩
 rw[if_neg c3];by_cases c4:(!dQ (aB st))=true
 .rw[if_pos c4];exact⟨jO st,λh=>by cases h⟩
 rw[if_neg c4];have hk:(aB st).ah≠0:=λh=>c4 (by unfold dQ;rw[h];rfl)
 by_cases c5:(aB st).iT=true
 .rw[if_pos c5];obtain⟨i1,i2⟩:=I5 H M (aB st).ay (aq (aq st));refine⟨((jO st).trans (jO _)).trans i1,λh=>?_⟩;have j:=i2 h;have hp:=jS (bF hk)
  have:0<(aq st).ak.length:=by have h1:=dj (aq st);have h2:=j.pos;omega
  exact (hp.trans (jS this)).trans j
 rw[if_neg c5];by_cases c6:(aB st).ah=1/\(aB st).ay=[45]/\(aB (aq st)).ah=4/\(aB st).TM=true
 .rw[if_pos c6];exact⟨(jO st).trans (jO _),λ_=>(jS (bF hk)).trans (jS (bF (by omega)))⟩
 rw[if_neg c6];have ha:=jS (bF hk);unfold cn;by_cases d1:(aB st).ah=2
 .rw[if_pos d1];exact⟨jO st,λ_=>ha⟩
 rw[if_neg d1];by_cases d2:((aM T (aB st).ay true).2&&decide ((aM T (aB st).ay true).1.l<=n)&&hO T (aq st))=true
 .rw[if_pos d2];exact⟨(jO st).trans (H.lv _ _),λh=>ha.trans (H.ok _ _ h)⟩
 .rw[if_neg d2];exact⟨jO st,λ_=>ha⟩
theorem mG(T:List aY):∀(M:Nat) (n:Int) (r:PR) (st:St),Lv st (fC rec T M n r st).2/\((fC rec T M n r st).1.2.2=true->r.2.2=true/\(st=(fC rec T M n r st).2\/Ok st (fC rec T M n r st).2))
 |0,n,r,st=>⟨Lv.refl st,λh=>⟨h,.inl rfl⟩⟩
 |M+1,n,r,st=>by
   unfold fC;by_cases h0:(!r.2.2)=true
   .rw[if_pos h0];exact⟨Lv.refl st,λh=>⟨h,.inl rfl⟩⟩
   rw[if_neg h0];by_cases h1:(!(cC T (aB st)).2||decide (n<(cC T (aB st)).1.l)||decide ((ax (cC T (aB st)).1).1<r.2.1))=true
   .rw[if_pos h1];exact⟨Lv.refl st,λh=>⟨h,.inl rfl⟩⟩
   rw[if_neg h1];obtain⟨i1,i2⟩:=mG T M n (ct (aB st).ay [r.1,(rec (ax (cC T (aB st)).1).2 (aq st)).1.1],(cC T (aB st)).1.l,(rec (ax (cC T (aB st)).1).2 (aq st)).1.2.2) (rec (ax (cC T (aB st)).1).2 (aq st)).2;refine⟨((jO st).trans (H.lv _ _)).trans i1,λh=>⟨by simpa using h0,.inr ?_⟩⟩;obtain⟨j1,j2⟩:=i2 h
   have hk:(aB st).ah≠0:=λh=>h1 (by
    have:(cC T (aB st)).2=false:=by unfold cC dQ;rw[h];rfl
    rw[this];rfl)
   have a:=(jS (bF hk)).trans (H.ok _ _ j1);rcases j2 with j2|j2
   .rw[<-j2];exact a
   .exact a.trans j2
end
theorem pI(T:List aY):∀N,Af (kG T N)
 |0=>⟨λn st=>Lv.refl st,λn st h=>by cases h⟩
 |N+1=>by
   have H:=pI T N;refine⟨λn st=>?_,λn st h=>?_⟩
   .unfold kG;exact (sj H T (N+1) n st).1.trans (mG H T (N+1) n _ _).1
   .unfold kG at h|-;obtain⟨j1,j2⟩:=(mG H T (N+1) n _ _).2 h;have a:=(sj H T (N+1) n st).2 j1;rcases j2 with j2|j2
    .rw[<-j2];exact a
    .exact a.trans j2
end
section
open Go.RowKit
def tg:List AV->Option (List (List UInt8))
 |[]=>some []
 |.str s::r=>(tg r).map (s::·)
 |_=>none
def zB:AV->Option (List (List UInt8))
 |.aD=>some []
 |.sl xs=>tg xs
 |_=>none
theorem BN:∀l:List (List UInt8),tg (l.map .str)=some l
 |[]=>rfl
 |s::r=>by simp[tg,BN r]
theorem Bt:∀(xs:List AV) (l:List (List UInt8)),tg xs=some l->xs=l.map .str
 |[],l,h=>by simp[tg] at h;subst h;rfl
 |x::r,l,h=>by cases x<;>simp[tg] at h;obtain⟨t,h1,rfl⟩:=h;simp[Bt r t h1]
theorem OV(l:List (List UInt8)):zB (.sl (l.map .str))=some l:=BN l
theorem Lk{v:AV}{l:List (List UInt8)}(h:zB v=some l):v=.sl (l.map .str)\/(v=.aD/\l=[]):=by
 cases v<;>simp[zB] at h
 .exact .inr ⟨rfl,h⟩
 .exact .inl (by rw[Bt _ _ h])
theorem km(l:List (List UInt8)):AV.aj (l.map .str)=0:=by
 induction l with
 |nil=>rfl
 |cons s r ih=>simp[AV.aj,AV.aK,ih]
def Hp:aZ:=⟨176,λ|[x,.str p]=>(match zB x with|some l=>if (Lib.join l p).length<=140737488355328/\l.length<=140737488355328 then some (.str (Lib.join l p)) else none|none=>none)|_=>none⟩
theorem r7:Hp.f=176:=(rfl)
theorem EF(x:AV)(l:List (List UInt8))(p:List UInt8)(hx:zB x=some l)(h:(Lib.join l p).length<=140737488355328/\l.length<=140737488355328):Hp.S [x,.str p]=some (.str (Lib.join l p)):=by unfold Hp;dsimp only;rw[hx];exact if_pos h
theorem UR:bB Tryz.prog Hp:=λaa v hv=>by
 unfold Hp at hv|-;dsimp only at hv|-;split at hv
 .rename_i x p;split at hv
  .rename_i l hx;split at hv
   .rename_i hl;cases hv
    obtain⟨k1,k2⟩:=SR (P:=Tryz.prog) (f:=176) (xs:=l) (p:=p) (r:=Lib.join l p) (enters 176 Tryz.func176 rfl rfl) (λhe a c w=>by
     subst he;exact (Tryz.strings_Join_none a c ⟨p.toArray⟩ w).mono λe w' ⟨h1,h2⟩=>⟨h1,zu h2⟩)
     (λbk o c w hc hb kh=>by
      have e1:(l.map λx=>(⟨x.toArray⟩:ByteArray)).map (λx=>x.data.toList)=l:=by rw[List.map_map];exact (List.map_congr_left λx _=>by simp).trans (List.map_id l)
      have:=Tryz.strings_Join bk o c (l.map λx=>⟨x.toArray⟩) ⟨p.toArray⟩ w hc hb (by simpa using hl.2) (by simpa using kh) (by rw[e1];exact hl.1);rw[e1,List.length_map] at this;exact this)
    rcases Lk hx with rfl|⟨rfl,rfl⟩
    .exact k1
    .exact k2 rfl
   .cases hv
  .cases hv
 .cases hv
end
section
def FI:List Tm->AV
 |[]=>.aD
 |x::r=>.sl ((x::r).map Tm.aR)
theorem py(us:List Tm)(x:Tm):aw (us++[x])=aw us++x.cells:=by simp[aw]
theorem JN(C:Nat->List AV->af->Option (AV×af))(n:Nat):∀(k:Nat) (t:Tm) (aJ:List Tm) (m:Nat),t.size<=k->aJ≠[]->aJ.length+t.size<=1000000000->k<m->
 ∃md,iV 2 0 (cb (aF C n jX) iH 2 m (WH (.ptr 0 0) (.vec 2 0 aJ.length 4 aJ.length) (.ptr 1 0)) ⟨3,[.row (aw aJ),.row zT,.row t.cells],2,0⟩)=
   some (.exit 0,FM 35 [(1,.ptr 0 0),(2,.vec 2 0 (aJ++(aX t).1).length 4 (aJ++(aX t).1).length),(3,.ptr 1 0)],⟨3,[.row (aw (aJ++(aX t).1)),.row zT,.row (aX t).2.cells],0,md⟩)
 |0,t,aJ,m,h,_,_,_=>by have:=bP t;omega
 |k+1,t,aJ,m+1,h,fB,hs,hm=>by
   have hf:=aT aJ;rw[ai]
   cases hd:gj t with
   |false=>
     rw[nc hd]
     cases t with
     |nl kk nn ss=>
       have hc:(Tm.nl kk nn ss).cells=[.int .i64 kk,.int .i64 nn,.str ss,.aD]:=rfl;by_cases h1:kk=2
       .subst h1
        cases h2:(ss==[46]) with
        |false=>exact⟨0,by simp[jX,iH,hc,h2,hf]⟩
        |true=>exact⟨0,by simp[jX,iH,hc,h2,hf]⟩
       .exact⟨0,by simp[jX,iH,hc,h1,hf]⟩
     |mk kk nn ss us=>
       have hc:(Tm.mk kk nn ss us).cells=[.int .i64 kk,.int .i64 nn,.str ss,.sl (us.map Tm.aR)]:=rfl;have hr:=cE us;by_cases h1:kk=2
       .subst h1
        cases h2:(ss==[46]) with
        |false=>exact⟨0,by simp[jX,iH,hc,h2,hf,hr]⟩
        |true=>
          have h3:((us.length:Int)=2)=False:=eq_false λe=>by have Ft:=eq_of_beq h2;simp[gj,Tm.ah,Tm.aC,Tm.aa,Ft] at hd;exact of_decide_eq_false hd (by omega)
          exact⟨0,by simp[jX,iH,hc,h2,h3,hf,hr]⟩
       .exact⟨0,by simp[jX,iH,hc,h1,hf,hr]⟩
   |true=>
     obtain⟨x,r,ha,e⟩:=jR hd;have iz:=bP t;rw[ha] at iz;simp only[Tm.bE] at iz
     cases t with
     |nl kk nn ss=>cases ha
     |mk kk nn ss us=>
       simp only[Tm.aa] at ha;subst ha;simp only[gj,Bool.and_eq_true] at hd;obtain⟨⟨hd1,hd2⟩,_⟩:=hd;obtain rfl:kk=2:=of_decide_eq_true hd1;obtain rfl:ss=[46]:=of_decide_eq_true hd2;obtain⟨md,ih⟩:=JN C n k r (aJ++[x]) m (by omega) (by simp) (by simp;omega) (by omega);refine⟨md,?_⟩;rw[e];have hc:(Tm.mk 2 nn [46] [x,r]).cells=[.int .i64 2,.int .i64 nn,.str [46],.sl [x.aR,r.aR]]:=rfl;have fp:=Tm.bJ x;have gv:=Tm.bG x;have di:=ar x;have yd:=Tm.bJ r;have Fu:=Tm.bG r;have hrr:=ar r;have jc:AV.aj (aw aJ++x.cells)=0:=by rw[<-py];exact aT _
       rw[gv] at jc;have h8:(aJ.length+1)*56<=140737488355328:=by omega
       have h9:aJ.length+1<9223372036854775808:=by omega
       have kj:(aw aJ).take (aJ.length*4)=aw aJ:=by rw[List.take_of_length_le];rw[cL];exact Nat.le_refl _
       have pE:=cL aJ;simp only[py,List.length_append,List.length_cons,List.length_nil,Nat.zero_add,Fu,gv] at ih;simp[jX,iH,hc,fp,gv,di,yd,Fu,hrr,hf,jc,h8,h9,kj,pE,aI];refine Eq.trans ih ?_;simp[aw,gv,Nat.add_comm,Nat.add_left_comm,Nat.add_assoc]
def vT(id:Nat):List Tm->AV
 |[]=>.aD
 |x::r=>.vec id 0 (r.length+1) 4 (r.length+1)
def hT(us:List Tm)(B:List aS):List aS:=match us with
 |[]=>B
 |x::r=>.row (aw (x::r))::B
theorem Wu{h:af}{n0 d id:Nat}(x:Tm)(r:List Tm)(bZ:n0<=id)(hg:h.get id=some (.row (aw (x::r)))):
 jH h n0 (d+2) (.vec id 0 (r.length+1) 4 (r.length+1))=some (.sl ((x::r).map Tm.aR),[id]):=
 vN bZ hg (by omega) (rL (x::r)) (by simp) (by rw[cL];simp) (by rw[uQ,List.take_of_length_le];rw[cL];simp)
theorem Tu(C:Nat->List AV->af->Option (AV×af))(n:Nat)(t:Tm)(m:Nat)(hs:t.size<=999999999)(hm:t.size<m):
 ∃md,iV 2 0 (cb (aF C n jX) iH 2 m (WH (.ptr 0 0) .aD (.ptr 1 0)) ⟨2,[.row zT,.row t.cells],2,0⟩)=
   some (.exit 0,FM 35 [(1,.ptr 0 0),(2,vT 2 (aX t).1),(3,.ptr 1 0)],⟨(hT (aX t).1 [.row zT,.row (aX t).2.cells]).length,hT (aX t).1 [.row zT,.row (aX t).2.cells],0,md⟩):=by
 cases m with
 |zero=>omega
 |succ m=>
   rw[ai]
   cases hd:gj t with
   |false=>
     rw[nc hd]
     cases t with
     |nl kk nn ss=>
       have hc:(Tm.nl kk nn ss).cells=[.int .i64 kk,.int .i64 nn,.str ss,.aD]:=rfl;by_cases h1:kk=2
       .subst h1
        cases h2:(ss==[46]) with
        |false=>exact⟨0,by simp[jX,iH,hc,h2,vT,hT]⟩
        |true=>exact⟨0,by simp[jX,iH,hc,h2,vT,hT]⟩
       .exact⟨0,by simp[jX,iH,hc,h1,vT,hT]⟩
     |mk kk nn ss us=>
       have hc:(Tm.mk kk nn ss us).cells=[.int .i64 kk,.int .i64 nn,.str ss,.sl (us.map Tm.aR)]:=rfl;have hr:=cE us;by_cases h1:kk=2
       .subst h1
        cases h2:(ss==[46]) with
        |false=>exact⟨0,by simp[jX,iH,hc,h2,hr,vT,hT]⟩
        |true=>
          have h3:((us.length:Int)=2)=False:=eq_false λe=>by have Ft:=eq_of_beq h2;simp[gj,Tm.ah,Tm.aC,Tm.aa,Ft] at hd;exact of_decide_eq_false hd (by omega)
          exact⟨0,by simp[jX,iH,hc,h2,h3,hr,vT,hT]⟩
       .exact⟨0,by simp[jX,iH,hc,h1,hr,vT,hT]⟩
   |true=>
     obtain⟨x,r,ha,e⟩:=jR hd;have iz:=bP t;rw[ha] at iz;simp only[Tm.bE] at iz
     cases t with
     |nl kk nn ss=>cases ha
     |mk kk nn ss us=>simp only[Tm.aa] at ha;subst ha;simp only[gj,Bool.and_eq_true] at hd;obtain⟨⟨hd1,hd2⟩,_⟩:=hd;obtain rfl:kk=2:=of_decide_eq_true hd1;obtain rfl:ss=[46]:=of_decide_eq_true hd2;obtain⟨md,ih⟩:=JN C n r.size r [x] m (Nat.le_refl _) (by simp) (by simp;omega) (by omega);refine⟨md,?_⟩;rw[e];have hc:(Tm.mk 2 nn [46] [x,r]).cells=[.int .i64 2,.int .i64 nn,.str [46],.sl [x.aR,r.aR]]:=rfl;have fp:=Tm.bJ x;have gv:=Tm.bG x;have di:=ar x;have yd:=Tm.bJ r;have Fu:=Tm.bG r;have hrr:=ar r;simp only[aw,List.flatMap_cons,List.flatMap_nil,List.append_nil,List.length_append,List.length_cons,List.length_nil,Nat.zero_add,Fu,gv] at ih;simp[jX,iH,hc,fp,gv,di,yd,Fu,hrr,aI];refine Eq.trans ih ?_;simp[vT,hT,aw,gv,Nat.add_comm,Nat.add_left_comm,Nat.add_assoc]
def vm(t:Tm):List Tm×Tm:=if dt t then aX t else ([],t)
def qG:aZ:=⟨34,λ|[v]=>(match il v with|some t=>if t.gr<1000000000 then some (.tuple [FI (vm t).1,(vm t).2.aR]) else none|none=>none)|_=>none⟩
theorem fb:qG.f=34:=(rfl)
theorem Gl(t:Tm)(h:t.gr<1000000000):qG.S [t.aR]=some (.tuple [FI (vm t).1,(vm t).2.aR]):=by simp only[qG,ew,if_pos h]
theorem L4(us:List Tm):(FI us).aK=0:=by cases us<;>simp[FI,AV.aK]
theorem GK:bB Tryz.prog qG:=λaa v hv=>by
 unfold qG at hv|-;dsimp only at hv|-;split at hv
 .rename_i x;split at hv
  .rename_i t ht;split at hv
   .rename_i hl;cases hv;rw[dY ht];refine cf (n:=t.size+5) (h':=h0) (ch (ss:=[eE]) (by simp[oM])) ?_ (by simp[AV.aK,AV.aj,L4,Tm.cm]) (by simp[AV.aj,Tm.cm]);have hsb:=oU t;have c1:=kE t (by omega);have fp:=Tm.bJ t;have eR:=Tm.bG t;have di:=ar t;obtain⟨md,eq⟩:=Tu (aH (cV [eE]) (t.size+4)) (t.size+4) t (t.size+4) (by omega) (by omega);unfold vm
    cases hg:dt t with
    |false=>rw[hg] at c1;rw[fp,eR] at c1|-;simp[T7,c34,c1,di,aE,aV,FI];rw[fp,eR]
    |true=>
      rw[hg] at c1;generalize aX t=p at eq;obtain⟨us,tl⟩:=p;dsimp only at eq|-;simp only[if_true];rw[fp,eR] at c1|-;rw[eR] at eq;simp only[iH,zT] at eq;have htl:=Tm.bJ tl;have htc:=Tm.bG tl;have htr:=ar tl;rw[htl,htc];rw[htc] at eq
      cases us with
      |nil=>simp only[vT,hT,zT,List.length_cons,List.length_nil] at eq;simp[T7,c34,iH,c1,di,htr,aE,aV,FI,eq]
      |cons y r=>
        simp only[vT,hT,zT,List.length_cons,List.length_nil] at eq;have jc:=aT (y::r);have hf:∀(A B:aS) (wl md d:Nat),jH ⟨3,[.row (aw (y::r)),A,B],wl,md⟩ 0 (d+2) (.vec 2 0 (r.length+1) 4 (r.length+1))=some (.sl ((y::r).map Tm.aR),[2]):=λA B wl md d=>Wu y r (by omega) rfl
        simp only[List.map_cons] at hf;simp[T7,c34,iH,c1,di,htr,jc,aE,aV,FI,eq,hf]
   .cases hv
  .cases hv
 .cases hv
def vB:aZ:=⟨79,λ|[.str s]=>if s.length<281474976710656 then some (.tuple [.int .i64 (fw s).1,.int .i64 (fw s).2]) else none|_=>none⟩
theorem gz:vB.f=79:=(rfl)
theorem NN(s:List UInt8)(h:s.length<281474976710656):vB.S [.str s]=some (.tuple [.int .i64 (fw s).1,.int .i64 (fw s).2]):=if_pos h
theorem Kj(s:List UInt8)(hd:Lib.trimPrefix s [45]≠[])(ha:cD (Lib.trimPrefix s [45])=true):(∃v,Lib.parseIntB 64 s=.ok v)\/Lib.parseIntB 64 s=.range:=by
 have pu:∀(M:Nat) (l:List UInt8) (aJ:Nat),cD l=true->(∃u,Lib.parseUintM M aJ l=.ok u)\/Lib.parseUintM M aJ l=.range:=by
  intro M l
  induction l with
  |nil=>intro aJ _;exact .inl ⟨aJ,rfl⟩
  |cons c r ih=>
    intro aJ h;simp only[cD,dd,Bool.and_eq_true,decide_eq_true_eq] at h;unfold Lib.parseUintM;rw[if_pos h.1];split
    .exact .inr rfl
    .split
     .exact .inr rfl
     .exact ih _ h.2
 cases s with
 |nil=>exact absurd VH hd
 |cons c r=>
   by_cases hc:c=45
   .subst hc;rw[E5] at hd ha;unfold Lib.parseIntB Lib.parseUintB;simp only[show (45:UInt8).toNat=45 from rfl,or_true,if_true,hd,if_false];rcases pu (2^64-1) r 0 ha with⟨u,e⟩|e
    .rw[e];simp only[not_true,false_and,if_false,true_and];split
     .exact .inr rfl
     .exact .inl ⟨_,rfl⟩
    .rw[e];exact .inr rfl
   .rw[sn c r hc] at ha;have h:=afv hc
    have hg:48<=c.toNat/\c.toNat<=57:=by simp only[cD,dd,Bool.and_eq_true,decide_eq_true_eq] at ha;exact ha.1
    unfold Lib.parseIntB Lib.parseUintB;simp only[show (c.toNat=43)=False from eq_false (by omega),show (c.toNat=45)=False from eq_false h,or_false,if_false,reduceCtorEq];rcases pu (2^64-1) (c::r) 0 ha with⟨u,e⟩|e
    .rw[e];simp only[not_false_iff,true_and,false_and,if_false];split
     .exact .inr rfl
     .exact .inl ⟨_,rfl⟩
    .rw[e];exact .inr rfl
theorem Ol:dX Tryz.prog bV vB:=λaa v hv=>by
 unfold vB at hv|-;dsimp only at hv|-;split at hv
 .rename_i s;split at hv
  .rename_i hl;cases hv;refine cf (n:=5) (h':=h0) (kz (ss:=[nJ,trimS,EE]) (by simp[Du.lift,Xw.lift,Tt])) ?_ (by simp[AV.aK,AV.aj]) (by simp[AV.aK,AV.aj]);have c1:=DN s [45];have Ym:(Lib.trimPrefix s [45]).length<=s.length:=by unfold Lib.trimPrefix;split<;>simp
   have c2:=UQ (Lib.trimPrefix s [45]) (by omega);unfold digits at c2;have c3:=RE s hl;unfold fw;dsimp only;have hb:∀l:List UInt8,(l==[])=decide (l=[]):=λl=>by cases l<;>rfl
   by_cases hd:Lib.trimPrefix s [45]=[]
   .rw[if_pos hd];rw[hd] at c1;simp[Un,c79,c1,qF,Jf,Dg]
   .rw[if_neg hd];have e1:(Lib.trimPrefix s [45]==[])=false:=by rw[hb];simpa using hd
    cases ha:cD (Lib.trimPrefix s [45]) with
    |false=>
      have e2:(He (Lib.trimPrefix s [45])==[])=false:=by rw[hb];simp only[decide_eq_false_iff_not];intro h;rw[Hk,ha] at h;cases h
      simp[Un,c79,c1,c2,e1,e2,qF,Jf,Dg]
    |true=>
      have e2:He (Lib.trimPrefix s [45])=[]:=(Hk _).2 ha;rw[e2] at c2;unfold H8 at c3;rcases Kj s hd ha with⟨u,e⟩|e
      all_goals
       rw[e] at c3|-;dsimp only at c3;simp[Un,c79,c1,c2,c3,e1,qF,Jf,Dg]
  .cases hv
 .cases hv
def Bv:aZ:=⟨135,λ|[.int .i64 n]=>if -9223372036854775808<=n/\n<9223372036854775808 then some (.str (bz n)) else none|_=>none⟩
theorem ja:Bv.f=135:=(rfl)
theorem KH(n:Int)(h:-9223372036854775808<=n/\n<9223372036854775808):Bv.S [.int .i64 n]=some (.str (bz n)):=if_pos h
theorem WD:dX Tryz.prog bV Bv:=λaa v hv=>by
 unfold Bv at hv|-;dsimp only at hv|-;split at hv
 .rename_i n;split at hv
  .rename_i hl;cases hv;refine cf (n:=5) (h':=h0) (kz (ss:=[zx]) (by simp[Oa])) ?_ (by simp[AV.aK]) (by simp[AV.aj,AV.aK]);have c1:=M0 n hl;simp[ada,Zr,c1,RO]
  .cases hv
 .cases hv
def Ps(k n:Int)(s:List UInt8):List Tm->Tm
 |[]=>.nl k n s
 |x::r=>.mk k n s (x::r)
mutual
theorem Ee:∀t:Tm,nL t t=true
 |.nl k n s=>by simp[nL,Tm.ah,Tm.bx,Tm.aC,Tm.aa]
 |.mk k n s us=>by simp[nL,Tm.ah,Tm.bx,Tm.aC,Tm.aa,DV us]
theorem DV:∀l:List Tm,jf l l=true
 |[]=>by simp[jf]
 |t::r=>by simp[jf,Ee t,DV r]
end
theorem Wh(k n:Int)(s:List UInt8)(us:List Tm):(Ps k n s us).ah=k/\(Ps k n s us).bx=n/\(Ps k n s us).aC=s/\(Ps k n s us).aa=us:=by cases us<;>exact⟨rfl,rfl,rfl,rfl⟩
theorem zA(n:Nat):∀l:List UInt8,decide (0<=kV n l)=l.any λd=>decide (d.toNat=n)
 |[]=>rfl
 |d::r=>by
   unfold kV;rw[List.any_cons];by_cases h:d.toNat=n
   .have:Nat.beq d.toNat n=true:=by rw[h];exact Nat.beq_refl n
    rw[this,if_pos rfl,decide_eq_true h];rfl
   .have:Nat.beq d.toNat n=false:=by
     cases hb:Nat.beq d.toNat n with
     |false=>rfl
     |true=>exact absurd (Nat.eq_of_beq_eq_true hb) h
    rw[this,if_neg (by simp),decide_eq_false h,Bool.false_or,<-zA n r]
    cases kV n r with
    |ofNat k=>simp;omega
    |negSucc k=>simp
def Yc(f:Nat)(p:UInt8->Bool):aZ:=⟨f,λ|[.int .u8 n]=>if 0<=n/\n<256 then some (.bool (p (UInt8.ofNat n.toNat))) else none|_=>none⟩
theorem qI(f:Nat)(p:UInt8->Bool)(c:UInt8):(Yc f p).S [.int .u8 c.toNat]=some (.bool (p c)):=by
 have h:=c.toNat_lt;have e:UInt8.ofNat (c.toNat:Int).toNat=c:=by simp
 simp only[Yc,e];rw[if_pos (by omega)]
theorem A1{f:Nat}{p:UInt8->Bool}(h:∀c:UInt8,TW Tryz.prog f [.int .u8 c.toNat] (.bool (p c))):bB Tryz.prog (Yc f p):=λaa v hv=>by
 unfold Yc at hv;dsimp only at hv;split at hv
 .rename_i n;split at hv
  .rename_i hc;cases hv;have e:n=((UInt8.ofNat n.toNat).toNat:Int):=by rw[UInt8.toNat_ofNat'];omega
   have:=h (UInt8.ofNat n.toNat);rw[<-e] at this;exact this
  .cases hv
 .cases hv
def uP:aZ:=Yc 75 jv
theorem GI:bB Tryz.prog uP:=A1 λc=>by
 refine cf (n:=4) (h':=h0) (ch (ss:=[]) (by simp)) ?_ rfl rfl;unfold jv;have e97:((97:Int)<=(c.toNat:Int))=(97<=c.toNat):=propext ⟨λh=>by omega,λh=>by omega⟩;have ahU:((c.toNat:Int)<=122)=(c.toNat<=122):=propext ⟨λh=>by omega,λh=>by omega⟩;by_cases h1:97<=c.toNat
 .by_cases h2:c.toNat<=122
  all_goals simp[abe,c75,e97,ahU,h1,h2]
 .simp[abe,c75,e97,ahU,h1]
def uD:aZ:=Yc 78 dd
theorem ET:bB Tryz.prog uD:=A1 λc=>by
 refine cf (n:=4) (h':=h0) (ch (ss:=[]) (by simp)) ?_ rfl rfl;unfold dd;have e48:((48:Int)<=(c.toNat:Int))=(48<=c.toNat):=propext ⟨λh=>by omega,λh=>by omega⟩;have e57:((c.toNat:Int)<=57)=(c.toNat<=57):=propext ⟨λh=>by omega,λh=>by omega⟩;by_cases h1:48<=c.toNat
 .by_cases h2:c.toNat<=57
  all_goals simp[aa7,c78,e48,e57,h1,h2]
 .simp[aa7,c78,e48,e57,h1]
def uK:aZ:=Yc 77 jy
theorem Gf:bB Tryz.prog uK:=A1 λc=>by
 refine cf (n:=4) (h':=h0) (ch (ss:=[]) (by simp)) ?_ rfl rfl;unfold jy;have e65:((65:Int)<=(c.toNat:Int))=(65<=c.toNat):=propext ⟨λh=>by omega,λh=>by omega⟩;have e90:((c.toNat:Int)<=90)=(c.toNat<=90):=propext ⟨λh=>by omega,λh=>by omega⟩;have e:((c.toNat:Int)=95)=(c.toNat=95):=propext ⟨λh=>by omega,λh=>by omega⟩;by_cases h1:65<=c.toNat
 .by_cases h2:c.toNat<=90
  .simp[Wt,c77,e65,e90,h1,h2]
  .by_cases h3:c.toNat=95
   all_goals simp[Wt,c77,e65,e90,h1,h2,h3,e]
 .by_cases h3:c.toNat=95
  all_goals simp[Wt,c77,e65,e90,h1,h3,e]
def JU:aZ:=Yc 76 lR
theorem Vt:bB Tryz.prog JU:=A1 λc=>by
 refine cf (n:=4) (h':=h0) (ch (ss:=[uP,uK,uD]) (by simp[GI,Gf,ET])) ?_ rfl rfl;have c1:uP.S [.int .u8 c.toNat]=_:=qI _ _ c;have c2:uK.S [.int .u8 c.toNat]=_:=qI _ _ c;have c3:uD.S [.int .u8 c.toNat]=_:=qI _ _ c;have f1:uP.f=75:=(rfl)
 have f2:uK.f=77:=(rfl)
 have f3:uD.f=78:=(rfl)
 unfold lR;cases h1:jv c<;>cases h2:jy c<;>cases h3:dd c<;>rw[h1] at c1<;>rw[h2] at c2<;>rw[h3] at c3<;>simp[afY,c76,c1,c2,c3,f1,f2,f3]
def nlS:aZ:=Yc 74 lD
theorem acw:bB Tryz.prog nlS:=A1 λc=>by
 refine cf (n:=4) (h':=h0) (ch (ss:=[]) (by simp)) ?_ rfl rfl;unfold lD;have e:((c.toNat:Int)=10)=(c.toNat=10):=propext ⟨λh=>by omega,λh=>by omega⟩;by_cases h3:c.toNat=10
 all_goals simp[afF,c74,h3,e]
def R8:aZ:=Yc 82 qA
theorem Pp:bB Tryz.prog R8:=A1 λc=>by refine cf (n:=4) (h':=h0) (ch (ss:=[ig]) (by simp[nw])) ?_ rfl rfl;have c1:=fq S3 c;have e:qA c=decide (0<=kV c.toNat S3):=(zA _ _).symm;rw[e];generalize kV c.toNat S3=x at *;simp only[S3] at c1;simp[afp,c82,c1,aG]
theorem JS(C:Nat->List AV->af->Option (AV×af))(n g:Nat)(p:UInt8->Bool)(hC:∀(c:UInt8) (h:af),C g [.int .u8 c.toNat] h=some (.bool (p c),h))(s:List UInt8)(hl:s.length<1000000000)(i0:Int):
 ∀(post pre:List UInt8) (m:Nat) (md:Nat),s=pre++post->post.length<m->
 ∃cS,iV 1 1 (cb (aF C n ED) xL 1 m (acu (.ptr 0 0) (.fn g []) (.int .i64 i0)) ⟨1,[.row [.str s,.int .i64 pre.length]],1,md⟩)=
   some (.exit 0,FM 50 [(0,.ptr 0 0),(5,.int .i64 i0)],⟨1,[.row [.str s,.int .i64 (pre.length+runN p post:Nat)]],1,cS⟩)
 |[],pre,m+1,md,e,_=>by simp at e;subst e;rw[ai];exact⟨md,by simp[ED,xL,runN]⟩
 |c::post,pre,m+1,md,e,hm=>by
   have h1:s[pre.length]? =some c:=by rw[e];simp
   have Mp:pre.length<s.length:=by rw[e];simp
   have h3:IntKind.i64.wrap ((pre.length:Int)+1)=(pre.length:Int)+1:=wrap_i64 (by omega) (by omega);have h6:((pre.length:Int)<(s.length:Int))=True:=eq_true (by omega);rw[ai];unfold runN
   cases hp:p c with
   |false=>exact⟨md,by simp[ED,xL,h1,h6,hC,hp]⟩
   |true=>obtain⟨cS,ih⟩:=JS C n g p hC s hl i0 post (pre++[c]) m 0 (by simp[e]) (by rw[List.length_cons] at hm;omega);refine⟨cS,?_⟩;simp only[List.length_append,List.length_cons,List.length_nil,Nat.zero_add,Int.natCast_add,Int.natCast_one] at ih;simp only[if_true];rw[show pre.length+(runN p post+1)=pre.length+1+runN p post by omega];simp[ED,xL,h1,h3,h6,hC,hp];exact ih
theorem Av{s:List UInt8}{k q:Nat}(h:k+q<=s.length):sliceB s.length (some (.int .i64 k)) (some (.int .i64 (k+q:Nat)))=some (k,k+q)/\(s.take (k+q)).drop k=(s.drop k).take q:=by
 refine⟨?_,by rw[List.drop_take,Nat.add_sub_cancel_left]⟩;have a1:(0:Int)<=((k+q:Nat):Int)/\((k+q:Nat):Int)<=(s.length:Int):=by omega
 have a2:(k:Int)<=((k+q:Nat):Int):=by omega
 have a3:((k+q:Nat):Int).toNat=k+q:=by omega
 have a4:(k:Int)<=(k:Int)+(q:Int):=by omega
 generalize ((k+q:Nat):Int)=Q at *;simp[sliceB,a1,a2,a3,a4]
def xE(g:Nat):Option (UInt8->Bool):=if g=76 then some lR else if g=78 then some dd else if g=74 then some lD else none
def runM:cq:=⟨73,λ
 |[.ptr 0 0,.fn g []],[.row [.str s,.int .i64 i]]=>(match xE g with
   |some p=>if s.length<1000000000/\0<=i/\i<=s.length then some (.str ((s.drop i.toNat).take (runN p (s.drop i.toNat))),some [.row [.str s,.int .i64 (i.toNat+runN p (s.drop i.toNat):Nat)]]) else none
   |none=>none)
 |_,_=>none⟩
theorem iY:runM.f=73:=(rfl)
theorem IN(g:Nat)(p:UInt8->Bool)(hp:xE g=some p)(s:List UInt8)(k:Nat)(hl:s.length<1000000000)(hk:k<=s.length):
 runM.S [.ptr 0 0,.fn g []] [.row [.str s,.int .i64 k]]=some (.str ((s.drop k).take (runN p (s.drop k))),some [.row [.str s,.int .i64 (k+runN p (s.drop k):Nat)]]):=by
 simp only[runM,hp];rw[if_pos ⟨hl,by omega,by omega⟩,Int.toNat_natCast]
theorem YU:JU.f=76:=(rfl)
theorem jF:uD.f=78:=(rfl)
theorem af8:nlS.f=74:=(rfl)
def Ya:List aZ:=[JU,uD,nlS]
theorem abG:∀s∈Ya,bB Tryz.prog s:=by simp[Ya,Vt,ET,acw]
theorem af1(n g:Nat)(p:UInt8->Bool)(hp:xE g=some p)(c:UInt8)(h:af):aH (cg Ya []) (n+1) g [.int .u8 c.toNat] h=some (.bool (p c),h):=by
 have f1:JU.f=76:=(rfl)
 have f2:uD.f=78:=(rfl)
 have f3:nlS.f=74:=(rfl)
 unfold xE at hp;split at hp
 .rename_i e;subst e;cases hp;have c1:JU.S [.int .u8 c.toNat]=_:=qI _ _ c;simp[Ya,f1,f2,f3,c1]
 .split at hp
  .rename_i e;subst e;cases hp;have c1:uD.S [.int .u8 c.toNat]=_:=qI _ _ c;simp[Ya,f1,f2,f3,c1]
  .split at hp
   .rename_i e;subst e;cases hp;have c1:nlS.S [.int .u8 c.toNat]=_:=qI _ _ c;simp[Ya,f1,f2,f3,c1]
   .cases hp
theorem PK:ml Tryz.prog runM:=λaa os v r hv=>by
 unfold runM at hv;dsimp only at hv;split at hv
 .rename_i g s i;split at hv
  .rename_i p hp;split at hv
   .rename_i hc;cases hv;obtain⟨k,rfl⟩:∃k:Nat,i=(k:Int):=⟨i.toNat,by omega⟩
    rw[Int.toNat_natCast,iY];have hk:k<=s.length:=by omega
    have hse:s=s.take k++s.drop k:=(List.take_append_drop k s).symm;have de:(s.take k).length=k:=by rw[List.length_take];omega
    obtain⟨cS,lp⟩:=JS (aH (cg Ya []) (s.length+4)) (s.length+4) g p (λc h=>af1 (s.length+3) g p hp c h) s hc.1 k (s.drop k) (s.take k) (s.length+4) 1 hse (by rw[List.length_drop];omega);rw[de] at lp;have nV:=oE p (s.drop k);rw[List.length_drop] at nV;obtain⟨nD,htd⟩:=Av (s:=s) (k:=k) (q:=runN p (s.drop k)) (by omega);refine zU (n:=s.length+5) (h1:=⟨1,[.row [.str s,.int .i64 (k+runN p (s.drop k):Nat)]],1,min 1 cS⟩) (vS (ss:=Ya) (ms:=[]) abG (by simp)) ?_ rfl rfl rfl rfl;rw[vP];simp only[xL,Ya] at lp;generalize (s.drop k).take (runN p (s.drop k))=res at *;generalize k+runN p (s.drop k)=q at *;simp[Ya,adm,c73,xL,lp,nD,htd,YU,jF,af8];omega
   .cases hv
  .cases hv
 .cases hv
theorem Gg(c:UInt8):([32,9,10,13]:List UInt8).any (λd=>decide (d.toNat=c.toNat))=iG c:=by
 simp only[List.any_cons,List.any_nil,Bool.or_false,iG]
 have e:∀n:Nat,decide (n=c.toNat)=decide (c.toNat=n):=λn=>by
  by_cases h:c.toNat=n
  .rw[decide_eq_true h,decide_eq_true h.symm]
  .rw[decide_eq_false h,decide_eq_false (Ne.symm h)]
 rw[show (32:UInt8).toNat=32 from rfl,show (9:UInt8).toNat=9 from rfl,show (10:UInt8).toNat=10 from rfl,show (13:UInt8).toNat=13 from rfl,e,e,e,e];simp[Bool.or_assoc]
def ng:List aZ:=[ig]
theorem M7:∀s∈ng,bB Tryz.prog s:=by simp[ng,nw]
def TO:List cq:=[runM]
theorem adu:∀m∈TO,ml Tryz.prog m:=by simp[TO,PK]
theorem Dp(n:Nat)(s:List UInt8)(hl:s.length<1000000000):∀(f k m md:Nat),k<=s.length->s.length-k<f->f<=m->
 ∃ex cS,(ex=.exit 0\/ex=.ret)/\iV 1 1 (cb (aF (aH (cg ng TO) (n+1)) (n+1) AF) tB 1 m (adZ (.ptr 0 0)) ⟨1,[.row [.str s,.int .i64 k]],1,md⟩)=
   some (ex,FM 44 [],⟨1,[.row [.str s,.int .i64 (k+dG f (s.drop k):Nat)]],1,cS⟩)
 |0,k,m,md,_,h,_=>by omega
 |f+1,k,0,md,_,_,h=>by omega
 |f+1,k,m+1,md,hk,hf,hm=>by
   rw[ai];by_cases he:k=s.length
   .subst he;refine⟨.exit 0,md,.inl rfl,?_⟩;have:s.drop s.length=[]:=List.drop_length;rw[this];simp[AF,tB,dG]
   .have hks:k<s.length:=by omega
    obtain⟨c,hc⟩:∃c,s[k]? =some c:=⟨s[k],List.getElem?_eq_getElem hks⟩
    have hd:s.drop k=c::s.drop (k+1):=by rw[List.drop_eq_getElem_cons hks];congr 1;rw[List.getElem?_eq_getElem hks] at hc;exact Option.some.inj hc
    have h6:((k:Int)<(s.length:Int))=True:=eq_true (by omega);have h3:IntKind.i64.wrap ((k:Int)+1)=(k:Int)+1:=wrap_i64 (by omega) (by omega);have c1:=fq [32,9,10,13] c;have e1:=zA c.toNat [32,9,10,13];rw[Gg] at e1;generalize kV c.toNat [32,9,10,13]=x at c1 e1;rw[hd];unfold dG
    cases hb:iG c with
    |true=>rw[hb] at e1;have e2:(0<=x)=True:=eq_true (of_decide_eq_true e1);obtain⟨ex,cS,hex,ih⟩:=Dp n s hl f (k+1) m 0 (by omega) (by omega) (by omega);refine⟨ex,cS,hex,?_⟩;simp only[if_true];rw[show k+(dG f (s.drop (k+1))+1)=k+1+dG f (s.drop (k+1)) by omega];simp only[ng,TO,Int.natCast_add,Int.natCast_one] at ih;simp[ng,TO,AF,tB,hc,h6,h3,c1,e2,aG,iY];exact ih
    |false=>
      rw[hb] at e1;have e2:(0<=x)=False:=eq_false (of_decide_eq_false e1);simp only[Bool.false_eq_true,if_false];by_cases h37:c.toNat=37
      .have e3:((c.toNat:Int)=37)=True:=eq_true (by omega);rw[if_pos h37];have hr:=IN 74 lD (by simp[xE]) s k hl hk;rw[hd] at hr
       have hrn:runN lD (c::s.drop (k+1))<=s.length-k:=by have:=oE lD (c::s.drop (k+1));rw[<-hd,List.length_drop] at this;rw[hd] at this;exact this
       have mc:1<=runN lD (c::s.drop (k+1)):=by
        unfold runN;have:lD c=true:=by unfold lD;rw[decide_eq_false (by omega)];rfl
        rw[this];simp
       obtain⟨ex,cS,hex,ih⟩:=Dp n s hl f (k+runN lD (c::s.drop (k+1))) m 0 (by omega) (by omega) (by omega);refine⟨ex,cS,hex,?_⟩;have hdd:(c::s.drop (k+1)).drop (runN lD (c::s.drop (k+1)))=s.drop (k+runN lD (c::s.drop (k+1))):=by rw[<-hd,List.drop_drop]
       rw[hdd];generalize hq:runN lD (c::s.drop (k+1))=q at *;rw[<-Nat.add_assoc];simp only[ng,TO,Int.natCast_add,Int.natCast_one] at ih;simp[ng,TO,AF,tB,hc,h6,h3,c1,e2,e3,hr,aG,iY];exact ih
      .have e3:((c.toNat:Int)=37)=False:=eq_false (by omega);rw[if_neg h37];refine⟨.ret,md,.inr rfl,?_⟩;simp[ng,TO,AF,tB,hc,h6,h3,c1,e2,e3,aG,iY]
theorem iM:∀(f:Nat) (l:List UInt8),dG f l<=l.length
 |0,l=>by simp[dG]
 |f+1,[]=>by simp[dG]
 |f+1,c::r=>by
   unfold dG;split
   .have:=iM f r;simp;omega
   .split
    .have h1:=iM f ((c::r).drop (runN lD (c::r)));have h2:=oE lD (c::r);rw[List.length_drop] at h1;omega
    .simp
def Eu:cq:=⟨44,λ
 |[.ptr 0 0],[.row [.str s,.int .i64 i]]=>if s.length<1000000000/\0<=i/\i<=s.length then some (.tuple [],some [.row [.str s,.int .i64 (i.toNat+dG (s.length+1) (s.drop i.toNat):Nat)]]) else none
 |_,_=>none⟩
theorem dr:Eu.f=44:=(rfl)
theorem Dc(s:List UInt8)(k:Nat)(hl:s.length<1000000000)(hk:k<=s.length):
 Eu.S [.ptr 0 0] [.row [.str s,.int .i64 k]]=some (.tuple [],some [.row [.str s,.int .i64 (k+dG (s.length+1) (s.drop k):Nat)]]):=by
 simp only[Eu];rw[if_pos ⟨hl,by omega,by omega⟩,Int.toNat_natCast]
theorem VV:ml Tryz.prog Eu:=λaa os v r hv=>by
 unfold Eu at hv;dsimp only at hv;split at hv
 .rename_i s i;split at hv
  .rename_i hc;cases hv;obtain⟨k,rfl⟩:∃k:Nat,i=(k:Int):=⟨i.toNat,by omega⟩
   rw[Int.toNat_natCast,dr];obtain⟨ex,cS,hex,lp⟩:=Dp (s.length+4) s hc.1 (s.length+1) k (s.length+5) 1 (by omega) (by omega) (by omega);refine zU (n:=s.length+6) (h1:=⟨1,[.row [.str s,.int .i64 (k+dG (s.length+1) (s.drop k):Nat)]],1,min 1 cS⟩) (vS (ss:=ng) (ms:=TO) M7 adu) ?_ rfl rfl rfl rfl;rw[vP];simp only[tB,ng,TO] at lp;generalize k+dG (s.length+1) (s.drop k)=q at *;rcases hex with rfl|rfl
   .simp[ng,TO,Ww,c44,tB,lp,aG,iY];omega
   .simp[ng,TO,Ww,c44,tB,lp,aG,iY];omega
  .cases hv
 .cases hv
theorem nj{s:List UInt8}{k:Nat}(h:k<s.length):∃c,s[k]? =some c/\s.drop k=c::s.drop (k+1):=⟨s[k],List.getElem?_eq_getElem h,by rw[List.drop_eq_getElem_cons h]⟩
theorem F5(c:UInt8):gZ [c]=decide (c.toNat=46):=by simp[gZ]
theorem Hy(c d:UInt8)(r:List UInt8):gZ (c::d::r)=(decide (c.toNat=46)&&(iG d||decide (d.toNat=37))):=rfl
theorem Rf{c:UInt8}{r:List UInt8}(h:¬c.toNat=46):gZ (c::r)=false:=by
 cases r with
 |nil=>rw[F5];exact decide_eq_false h
 |cons d r=>rw[Hy,decide_eq_false h];rfl
def C8:cq:=⟨81,λ
 |[.ptr 0 0],[.row [.str s,.int .i64 i]]=>if s.length<1000000000/\0<=i/\i<s.length then some (.bool (gZ (s.drop i.toNat)),none) else none
 |_,_=>none⟩
theorem gQ:C8.f=81:=(rfl)
theorem LA(s:List UInt8)(k:Nat)(hl:s.length<1000000000)(hk:k<s.length):
 C8.S [.ptr 0 0] [.row [.str s,.int .i64 k]]=some (.bool (gZ (s.drop k)),none):=by
 simp only[C8];rw[if_pos ⟨hl,by omega,by omega⟩,Int.toNat_natCast]
theorem Nt(c:UInt8):([32,9,10,13,37]:List UInt8).any (λd=>decide (d.toNat=c.toNat))=(iG c||decide (c.toNat=37)):=by
 have:=Gg c;simp only[List.any_cons,List.any_nil,Bool.or_false] at this|-;rw[<-this]
 have e:decide ((37:UInt8).toNat=c.toNat)=decide (c.toNat=37):=by
  by_cases h:c.toNat=37
  .rw[decide_eq_true h,decide_eq_true (show (37:UInt8).toNat=c.toNat from h.symm)]
  .rw[decide_eq_false h,decide_eq_false (show ¬(37:UInt8).toNat=c.toNat from λe=>h e.symm)]
 rw[e];simp[Bool.or_assoc]
theorem LI:ml Tryz.prog C8:=λaa os v r hv=>by
 unfold C8 at hv;dsimp only at hv;split at hv
 .rename_i s i;split at hv
  .rename_i hc;cases hv;obtain⟨k,rfl⟩:∃k:Nat,i=(k:Int):=⟨i.toNat,by omega⟩
   rw[Int.toNat_natCast,gQ];obtain⟨c,h1,hd⟩:=nj (s:=s) (k:=k) (by omega);have h3:IntKind.i64.wrap ((k:Int)+1)=(k:Int)+1:=wrap_i64 (by omega) (by omega);refine G8 (n:=6) (h1:=⟨1,[.row [.str s,.int .i64 k]],1,1⟩) (vS (ss:=ng) (ms:=[]) M7 (by simp)) ?_ rfl rfl rfl rfl;rw[vP,hd];by_cases h46:c.toNat=46
   .have e1:((c.toNat:Int)=46)=True:=eq_true (by omega);by_cases ahV:k+1=s.length
    .have hn:s.drop (k+1)=[]:=by rw[ahV];exact List.drop_length
     have e2:((k:Int)+1=(s.length:Int))=True:=eq_true (by omega);rw[hn,F5,decide_eq_true h46];simp[ng,OL,c81,h1,h3,e1,e2,aG]
    .obtain⟨d,h2,hd2⟩:=nj (s:=s) (k:=k+1) (by omega);have e2:((k:Int)+1=(s.length:Int))=False:=eq_false (by omega);have c1:=fq [32,9,10,13,37] d;have e3:=zA d.toNat [32,9,10,13,37];rw[Nt] at e3;generalize kV d.toNat [32,9,10,13,37]=x at c1 e3;have Ft:((k:Int)+1).toNat=k+1:=by omega
     have alC:((0:Int)<=(k:Int)+1)=True:=eq_true (by omega);rw[hd2,Hy,decide_eq_true h46,<-e3];simp[ng,OL,c81,h1,h2,Ft,alC,h3,e1,e2,c1,aG]
   .have e1:((c.toNat:Int)=46)=False:=eq_false (by omega);rw[Rf h46];simp[ng,OL,c81,h1,h3,e1,aG]
  .cases hv
 .cases hv
def Yf:List aZ:=[R8]
theorem ad0:∀s∈Yf,bB Tryz.prog s:=by simp[Yf,Pp]
def Yg:List cq:=[C8]
theorem acd:∀m∈Yg,ml Tryz.prog m:=by simp[Yg,LI]
theorem jQ:R8.f=82:=(rfl)
theorem Qe(c:UInt8):R8.S [.int .u8 c.toNat]=some (.bool (qA c)):=qI _ _ c
theorem Pb:∀l,jZ l<=l.length
 |[]=>Nat.le_refl _
 |c::r=>by
   unfold jZ;split
   .have:=Pb r;simp;omega
   .simp
theorem J9(n:Nat)(s:List UInt8)(hl:s.length<1000000000)(i0:Int):∀(post pre:List UInt8) (m:Nat) (md:Nat),s=pre++post->post.length<m->
 ∃cS,iV 1 1 (cb (aF (aH (cg Yf Yg) (n+1)) (n+1) AA) uI 1 m (abU (.ptr 0 0) (.int .i64 i0)) ⟨1,[.row [.str s,.int .i64 pre.length]],1,md⟩)=
   some (.exit 0,FM 52 [(0,.ptr 0 0),(3,.int .i64 i0)],⟨1,[.row [.str s,.int .i64 (pre.length+jZ post:Nat)]],1,cS⟩)
 |[],pre,m+1,md,e,_=>by simp at e;subst e;rw[ai];exact⟨md,by simp[AA,uI,jZ]⟩
 |c::post,pre,m+1,md,e,hm=>by
   have h1:s[pre.length]? =some c:=by rw[e];simp
   have Mp:pre.length<s.length:=by rw[e];simp
   have hdp:s.drop pre.length=c::post:=by rw[e];simp
   have h3:IntKind.i64.wrap ((pre.length:Int)+1)=(pre.length:Int)+1:=wrap_i64 (by omega) (by omega);have h6:((pre.length:Int)<(s.length:Int))=True:=eq_true (by omega);have c1:=Qe c;have c2:=LA s pre.length hl Mp;rw[hdp] at c2;rw[ai];unfold jZ
   cases hp:qA c with
   |false=>rw[hp] at c1;exact⟨md,by simp[Yf,Yg,AA,uI,h1,h6,c1,jQ,gQ]⟩
   |true=>
     rw[hp] at c1
     cases hq:gZ (c::post) with
     |true=>rw[hq] at c2;exact⟨md,by simp[Yf,Yg,AA,uI,h1,h6,c1,c2,jQ,gQ]⟩
     |false=>rw[hq] at c2;obtain⟨cS,ih⟩:=J9 n s hl i0 post (pre++[c]) m 0 (by simp[e]) (by rw[List.length_cons] at hm;omega);refine⟨cS,?_⟩;simp only[List.length_append,List.length_cons,List.length_nil,Nat.zero_add,Yf,Yg,Int.natCast_add,Int.natCast_one] at ih;simp only[Bool.not_false,Bool.and_self,if_true];rw[show pre.length+(jZ post+1)=pre.length+1+jZ post by omega];simp[Yf,Yg,AA,uI,h1,h3,h6,c1,c2,jQ,gQ];exact ih
def HE:cq:=⟨83,λ
 |[.ptr 0 0],[.row [.str s,.int .i64 i]]=>if s.length<1000000000/\0<=i/\i<=s.length then some (.str ((s.drop i.toNat).take (jZ (s.drop i.toNat))),some [.row [.str s,.int .i64 (i.toNat+jZ (s.drop i.toNat):Nat)]]) else none
 |_,_=>none⟩
theorem jC:HE.f=83:=(rfl)
theorem UO(s:List UInt8)(k:Nat)(hl:s.length<1000000000)(hk:k<=s.length):
 HE.S [.ptr 0 0] [.row [.str s,.int .i64 k]]=some (.str ((s.drop k).take (jZ (s.drop k))),some [.row [.str s,.int .i64 (k+jZ (s.drop k):Nat)]]):=by
 simp only[HE];rw[if_pos ⟨hl,by omega,by omega⟩,Int.toNat_natCast]
theorem WQ:ml Tryz.prog HE:=λaa os v r hv=>by
 unfold HE at hv;dsimp only at hv;split at hv
 .rename_i s i;split at hv
  .rename_i hc;cases hv;obtain⟨k,rfl⟩:∃k:Nat,i=(k:Int):=⟨i.toNat,by omega⟩
   rw[Int.toNat_natCast,jC];have hk:k<=s.length:=by omega
   have hse:s=s.take k++s.drop k:=(List.take_append_drop k s).symm;have de:(s.take k).length=k:=by rw[List.length_take];omega
   obtain⟨cS,lp⟩:=J9 (s.length+4) s hc.1 k (s.drop k) (s.take k) (s.length+5) 1 hse (by rw[List.length_drop];omega);rw[de] at lp;have nV:=Pb (s.drop k);rw[List.length_drop] at nV;obtain⟨nD,htd⟩:=Av (s:=s) (k:=k) (q:=jZ (s.drop k)) (by omega);refine zU (n:=s.length+6) (h1:=⟨1,[.row [.str s,.int .i64 (k+jZ (s.drop k):Nat)]],1,min 1 cS⟩) (vS (ss:=Yf) (ms:=Yg) ad0 acd) ?_ rfl rfl rfl rfl;rw[vP];simp only[uI,Yf,Yg] at lp;generalize (s.drop k).take (jZ (s.drop k))=res at *;generalize k+jZ (s.drop k)=q at *;simp[Yf,Yg,acH,c83,uI,lp,nD,htd,jQ,gQ];omega
  .cases hv
 .cases hv
def cY(l:List UInt8):List AV:=l.map λc=>.int .u8 c.toNat
theorem lF(l:List UInt8):(cY l).length=l.length:=by simp[cY]
theorem lV(l:List UInt8)(c:UInt8):cY (l++[c])=cY l++[.int .u8 c.toNat]:=by simp[cY]
theorem gw:∀l:List UInt8,AV.aj (cY l)=0
 |[]=>rfl
 |c::r=>by have:=gw r;unfold cY at this|-;simp[AV.aj,AV.aK,this]
theorem rN:∀l:List UInt8,bytesOf (cY l)=some l
 |[]=>rfl
 |c::r=>by have:=rN r;unfold cY at this|-;simp[bytesOf,this]
theorem QH(d:UInt8):(∀b,D8 d=some b->∃i:Nat,kV d.toNat [110,116,92,39]=(i:Int)/\([10,9,92,39]:List UInt8)[i]? =some b)/\(D8 d=none->kV d.toNat [110,116,92,39]=-1):=by
 have nb:∀a:Nat,a≠d.toNat->Nat.beq a d.toNat=false:=λa h=>by
  cases hb:Nat.beq a d.toNat with
  |false=>rfl
  |true=>exact absurd (Nat.eq_of_beq_eq_true hb) h
 have yb:∀a:Nat,a=d.toNat->Nat.beq a d.toNat=true:=λa h=>by rw[h];exact Nat.beq_refl _
 have t1:(110:UInt8).toNat=110:=rfl;have t2:(116:UInt8).toNat=116:=rfl;have t3:(92:UInt8).toNat=92:=rfl;have t4:(39:UInt8).toNat=39:=rfl;unfold D8;by_cases h1:d.toNat=110
 .rw[if_pos h1];refine⟨λb e=>⟨0,?_,by cases e;rfl⟩,λe=>by cases e⟩;simp[kV,t1,yb 110 h1.symm]
 rw[if_neg h1];by_cases h2:d.toNat=116
 .rw[if_pos h2];refine⟨λb e=>⟨1,?_,by cases e;rfl⟩,λe=>by cases e⟩;simp[kV,t1,t2,nb 110 (Ne.symm h1),yb 116 h2.symm]
 rw[if_neg h2];by_cases h3:d.toNat=92
 .rw[if_pos h3];refine⟨λb e=>⟨2,?_,by cases e;rfl⟩,λe=>by cases e⟩;simp[kV,t1,t2,t3,nb 110 (Ne.symm h1),nb 116 (Ne.symm h2),yb 92 h3.symm]
 rw[if_neg h3];by_cases h4:d.toNat=39
 .rw[if_pos h4];refine⟨λb e=>⟨3,?_,by cases e;rfl⟩,λe=>by cases e⟩;simp[kV,t1,t2,t3,t4,nb 110 (Ne.symm h1),nb 116 (Ne.symm h2),nb 92 (Ne.symm h3),yb 39 h4.symm]
 rw[if_neg h4];refine⟨λb e=>(by cases e),λ_=>?_⟩;simp[kV,t1,t2,t3,t4,nb 110 (Ne.symm h1),nb 116 (Ne.symm h2),nb 92 (Ne.symm h3),nb 39 (Ne.symm h4)];rfl
theorem LM:kV 0 [110,116,92,39]=-1:=by decide
def ic(k:Int)(t:List UInt8)(n:Int):List AV:=[.int .i64 k,.str t,.int .i64 n,.bool false,.int .i64 0]
def agy(q:Option (List UInt8)×Nat)(q0:Nat)(s:List UInt8)(R:Option (Ex×List AV×af)):Prop:=
 ∃cS,(∃t,q.1=some t/\R=some (.ret,FM 119 [(2,.ptr 1 0),(3,.int .i64 0)],⟨2,[.row (ic 2 t 0),.row [.str s,.int .i64 (q0+q.2:Nat)]],1,cS⟩))\/
   (q.1=none/\R=some (.ret,FM 119 [(2,.ptr 1 0),(3,.int .i64 2)],⟨2,[.row (ic 0 [] 0),.row [.str s,.int .i64 (q0+q.2:Nat)]],1,cS⟩))\/
   (q.1=none/\R=some (.exit 0,FM 119 [(2,.ptr 1 0)],⟨2,[.row (ic 0 [] 0),.row [.str s,.int .i64 (q0+q.2:Nat)]],1,cS⟩))
theorem nH(n:Nat)(s:List UInt8)(hl:s.length<1000000000)(q0:Nat):∀(f:Nat) (aJ:List UInt8) (j m md:Nat),aJ≠[]->aJ.length<=j->q0+j<=s.length->s.length-(q0+j)<f->f<=m->
 agy (ib f (s.drop (q0+j)) aJ j) q0 s (iV 2 1 (cb (aF (aH (cg ng []) (n+1)) (n+1) fv) ff 2 m (UU (.ptr 0 0) (.ptr 1 0) (.vec 2 0 aJ.length 1 aJ.length)) ⟨3,[.row (cY aJ),.row (ic 0 [] 0),.row [.str s,.int .i64 (q0+j:Nat)]],2,md⟩))
 |0,aJ,j,m,md,fB,haj,hk,h,_=>by omega
 |f+1,aJ,j,0,md,fB,haj,_,_,h=>by omega
 |f+1,aJ,j,m+1,md,fB,haj,hk,hf0,hm=>by
   rw[ai];have hf:=gw aJ;have hb:=rN aJ;have cT:=lF aJ;have h8:aJ.length+1<=140737488355328:=by omega
   have h9:aJ.length+1<9223372036854775808:=by omega
   have kj:(cY aJ).take aJ.length=cY aJ:=by rw[List.take_of_length_le];omega
   have jc:∀b:UInt8,AV.aj (cY aJ++[.int .u8 b.toNat])=0:=λb=>by rw[<-lV];exact gw _
   have Ck:AV.aj (cY aJ++[.int .u8 39])=0:=jc 39;by_cases he:q0+j=s.length
   .have hd:s.drop (q0+j)=[]:=by rw[he];exact List.drop_length
    have h6:((q0:Int)+(j:Int)<(s.length:Int))=False:=eq_false (by omega);rw[hd,CT];refine⟨md,.inr (.inr ⟨rfl,?_⟩)⟩;simp[ng,fv,ff,h6,hf]
   .obtain⟨c,h1,hd⟩:=nj (s:=s) (k:=q0+j) (by omega);have h6:((q0:Int)+(j:Int)<(s.length:Int))=True:=eq_true (by omega);have h3:IntKind.i64.wrap ((q0:Int)+(j:Int)+1)=(q0:Int)+(j:Int)+1:=wrap_i64 (by omega) (by omega);have Ao:IntKind.i64.wrap ((q0:Int)+(j:Int)+1+1)=(q0:Int)+(j:Int)+1+1:=wrap_i64 (by omega) (by omega);have n0:(0<=(q0:Int)+(j:Int))=True:=eq_true (by omega);have n1:(0<=(q0:Int)+(j:Int)+1)=True:=eq_true (by omega);have n2:((q0:Int)+(j:Int)).toNat=q0+j:=by omega
    have n3:((q0:Int)+(j:Int)+1).toNat=q0+j+1:=by omega
    rw[hd]
    have rV:(s.drop (q0+j+1)=[]/\((q0:Int)+(j:Int)+1<(s.length:Int))=False)\/∃d,s[q0+j+1]? =some d/\s.drop (q0+j+1)=d::s.drop (q0+j+2)/\((q0:Int)+(j:Int)+1<(s.length:Int))=True:=by
     by_cases hx:q0+j+1<s.length
     .obtain⟨d,a1,a2⟩:=nj (s:=s) (k:=q0+j+1) hx;exact .inr ⟨d,a1,a2,eq_true (by omega)⟩
     .exact .inl ⟨List.drop_eq_nil_of_le (by omega),eq_false (by omega)⟩
    by_cases k1:c.toNat=39
    .have ui:((c.toNat:Int)=39)=True:=eq_true (by omega);rcases rV with⟨x1,x2⟩|⟨d,x0,x1,x2⟩
     .rw[x1,Di k1];refine⟨0,.inl ⟨aJ,rfl,?_⟩⟩;simp[ng,fv,ff,ic,h1,h6,h3,Ao,n0,n1,n2,n3,aG,hf,jc,Ck,hb,cT,h8,h9,kj,aI,ui,x2];omega
     .rw[x1];by_cases k2:d.toNat=39
      .have Cl:((d.toNat:Int)=39)=True:=eq_true (by omega);have x3:=(List.getElem?_eq_some_iff.1 x0).1;rw[I3 k1 k2];obtain rfl:c=39:=UInt8.toNat_inj.1 k1;have ih:=nH n s hl q0 f (aJ++[39]) (j+2) m 0 (by simp) (by simp;omega) (by omega) (by omega) (by omega);rw[show q0+(j+2)=q0+j+2 by omega] at ih;simp only[List.length_append,List.length_cons,List.length_nil,Nat.zero_add,Int.natCast_add,Int.natCast_one,ng,ic,lV] at ih;simp[ng,fv,ff,ic,h1,h6,h3,Ao,n0,n1,n2,n3,aG,hf,jc,Ck,hb,cT,h8,h9,kj,aI,Cl,x0,x2];exact ih
      .have Cl:((d.toNat:Int)=39)=False:=eq_false (by omega);rw[EJ k1 k2];refine⟨0,.inl ⟨aJ,rfl,?_⟩⟩;simp[ng,fv,ff,ic,h1,h6,h3,Ao,n0,n1,n2,n3,aG,hf,jc,Ck,hb,cT,h8,h9,kj,aI,ui,Cl,x0,x2];omega
    have ui:((c.toNat:Int)=39)=False:=eq_false (by omega);by_cases k2:c.toNat<32\/126<c.toNat
    .rw[CJ k1 k2];have hx:∃e:Int,(if (q0:Int)+(j:Int)+1<(s.length:Int) then True else True):=⟨0,by split<;>trivial⟩
     by_cases k3:c.toNat<32
     .have me:((c.toNat:Int)<32)=True:=eq_true (by omega);rcases rV with⟨x1,x2⟩|⟨d,x0,x1,x2⟩
      .refine⟨min md 1,.inr (.inl ⟨rfl,?_⟩)⟩;simp[ng,fv,ff,ic,h1,h6,h3,Ao,n0,n1,n2,n3,aG,hf,jc,Ck,hb,cT,h8,h9,kj,aI,ui,me,x2]
      .refine⟨min md 1,.inr (.inl ⟨rfl,?_⟩)⟩;simp[ng,fv,ff,ic,h1,h6,h3,Ao,n0,n1,n2,n3,aG,hf,jc,Ck,hb,cT,h8,h9,kj,aI,ui,me,x0,x2]
     .have me:((c.toNat:Int)<32)=False:=eq_false (by omega);have nu:(126<(c.toNat:Int))=True:=eq_true (by omega);rcases rV with⟨x1,x2⟩|⟨d,x0,x1,x2⟩
      .refine⟨min md 1,.inr (.inl ⟨rfl,?_⟩)⟩;simp[ng,fv,ff,ic,h1,h6,h3,Ao,n0,n1,n2,n3,aG,hf,jc,Ck,hb,cT,h8,h9,kj,aI,ui,me,nu,x2]
      .refine⟨min md 1,.inr (.inl ⟨rfl,?_⟩)⟩;simp[ng,fv,ff,ic,h1,h6,h3,Ao,n0,n1,n2,n3,aG,hf,jc,Ck,hb,cT,h8,h9,kj,aI,ui,me,nu,x0,x2]
    have me:((c.toNat:Int)<32)=False:=eq_false (by omega);have nu:(126<(c.toNat:Int))=False:=eq_false (by omega);by_cases k5:c.toNat=92
    .have O5:((c.toNat:Int)=92)=True:=eq_true (by omega);rcases rV with⟨x1,x2⟩|⟨d,x0,x1,x2⟩
     .rw[x1,Il k5];have z:=fq [110,116,92,39] 0;rw[show (0:UInt8).toNat=0 from rfl,LM] at z;simp only[show ((0:Nat):Int)=0 from rfl] at z;refine⟨min md 1,.inr (.inl ⟨rfl,?_⟩)⟩;simp[ng,fv,ff,ic,h1,h6,h3,Ao,n0,n1,n2,n3,aG,hf,jc,Ck,hb,cT,h8,h9,kj,aI,ui,me,nu,O5,x2,z]
     .rw[x1];have z:=fq [110,116,92,39] d;obtain⟨z1,z2⟩:=QH d
      cases Jq:D8 d with
      |none=>rw[IK k5 Jq];rw[z2 Jq] at z;refine⟨min md 1,.inr (.inl ⟨rfl,?_⟩)⟩;simp[ng,fv,ff,ic,h1,h6,h3,Ao,n0,n1,n2,n3,aG,hf,jc,Ck,hb,cT,h8,h9,kj,aI,ui,me,nu,O5,x0,x2,z]
      |some b=>rw[E0 k5 Jq];obtain⟨i,y1,y2⟩:=z1 b Jq;have x3:=(List.getElem?_eq_some_iff.1 x0).1;rw[y1] at z;have y3:((i:Int)<0)=False:=eq_false (by omega);have y4:(0<=(i:Int))=True:=eq_true (by omega);have ih:=nH n s hl q0 f (aJ++[b]) (j+2) m 0 (by simp) (by simp;omega) (by omega) (by omega) (by omega);rw[show q0+(j+2)=q0+j+2 by omega] at ih;simp only[List.length_append,List.length_cons,List.length_nil,Nat.zero_add,Int.natCast_add,Int.natCast_one,ng,ic,lV] at ih;simp[ng,fv,ff,ic,h1,h6,h3,Ao,n0,n1,n2,n3,aG,hf,jc,Ck,hb,cT,h8,h9,kj,aI,ui,me,nu,O5,x0,x2,z,y2,y3,y4];exact ih
    .have O5:((c.toNat:Int)=92)=False:=eq_false (by omega);rw[K7 k1 k2 k5];rcases rV with⟨x1,x2⟩|⟨d,x0,x1,x2⟩
     .have ih:=nH n s hl q0 f (aJ++[c]) (j+1) m 0 (by simp) (by simp;omega) (by omega) (by omega) (by omega);rw[show q0+(j+1)=q0+j+1 by omega] at ih;simp only[List.length_append,List.length_cons,List.length_nil,Nat.zero_add,Int.natCast_add,Int.natCast_one,ng,ic,lV] at ih;simp[ng,fv,ff,ic,h1,h6,h3,Ao,n0,n1,n2,n3,aG,hf,jc,Ck,hb,cT,h8,h9,kj,aI,ui,me,nu,O5,x2];exact ih
     .have ih:=nH n s hl q0 f (aJ++[c]) (j+1) m 0 (by simp) (by simp;omega) (by omega) (by omega) (by omega);rw[show q0+(j+1)=q0+j+1 by omega] at ih;simp only[List.length_append,List.length_cons,List.length_nil,Nat.zero_add,Int.natCast_add,Int.natCast_one,ng,ic,lV] at ih;simp[ng,fv,ff,ic,h1,h6,h3,Ao,n0,n1,n2,n3,aG,hf,jc,Ck,hb,cT,h8,h9,kj,aI,ui,me,nu,O5,x0,x2];exact ih
theorem Th(n:Nat)(s:List UInt8)(hl:s.length<1000000000)(q0:Nat):∀(f j m md:Nat),q0+j<=s.length->s.length-(q0+j)<f->f<=m->
 agy (ib f (s.drop (q0+j)) [] j) q0 s (iV 2 1 (cb (aF (aH (cg ng []) (n+1)) (n+1) fv) ff 2 m (UU (.ptr 0 0) (.ptr 1 0) .aD) ⟨2,[.row (ic 0 [] 0),.row [.str s,.int .i64 (q0+j:Nat)]],2,md⟩))
 |0,j,m,md,hk,h,_=>by omega
 |f+1,j,0,md,_,_,h=>by omega
 |f+1,j,m+1,md,hk,hf0,hm=>by
   rw[ai];have TP:bytesOf []=some []:=rfl;by_cases he:q0+j=s.length
   .have hd:s.drop (q0+j)=[]:=by rw[he];exact List.drop_length
    have h6:((q0:Int)+(j:Int)<(s.length:Int))=False:=eq_false (by omega);rw[hd,CT];refine⟨md,.inr (.inr ⟨rfl,?_⟩)⟩;simp[ng,fv,ff,h6]
   .obtain⟨c,h1,hd⟩:=nj (s:=s) (k:=q0+j) (by omega);have h6:((q0:Int)+(j:Int)<(s.length:Int))=True:=eq_true (by omega);have h3:IntKind.i64.wrap ((q0:Int)+(j:Int)+1)=(q0:Int)+(j:Int)+1:=wrap_i64 (by omega) (by omega);have Ao:IntKind.i64.wrap ((q0:Int)+(j:Int)+1+1)=(q0:Int)+(j:Int)+1+1:=wrap_i64 (by omega) (by omega);have n0:(0<=(q0:Int)+(j:Int))=True:=eq_true (by omega);have n1:(0<=(q0:Int)+(j:Int)+1)=True:=eq_true (by omega);have n2:((q0:Int)+(j:Int)).toNat=q0+j:=by omega
    have n3:((q0:Int)+(j:Int)+1).toNat=q0+j+1:=by omega
    rw[hd]
    have rV:(s.drop (q0+j+1)=[]/\((q0:Int)+(j:Int)+1<(s.length:Int))=False)\/∃d,s[q0+j+1]? =some d/\s.drop (q0+j+1)=d::s.drop (q0+j+2)/\((q0:Int)+(j:Int)+1<(s.length:Int))=True:=by
     by_cases hx:q0+j+1<s.length
     .obtain⟨d,a1,a2⟩:=nj (s:=s) (k:=q0+j+1) hx;exact .inr ⟨d,a1,a2,eq_true (by omega)⟩
     .exact .inl ⟨List.drop_eq_nil_of_le (by omega),eq_false (by omega)⟩
    by_cases k1:c.toNat=39
    .have ui:((c.toNat:Int)=39)=True:=eq_true (by omega);rcases rV with⟨x1,x2⟩|⟨d,x0,x1,x2⟩
     .rw[x1,Di k1];refine⟨0,.inl ⟨[],rfl,?_⟩⟩;simp[ng,fv,ff,ic,h1,h6,h3,Ao,n0,n1,n2,n3,aG,TP,aI,ui,x2];omega
     .rw[x1];by_cases k2:d.toNat=39
      .have Cl:((d.toNat:Int)=39)=True:=eq_true (by omega);have x3:=(List.getElem?_eq_some_iff.1 x0).1;rw[I3 k1 k2];obtain rfl:c=39:=UInt8.toNat_inj.1 k1;have ih:=nH n s hl q0 f [39] (j+2) m 0 (by simp) (by simp) (by omega) (by omega) (by omega);rw[show q0+(j+2)=q0+j+2 by omega] at ih;simp only[List.length_cons,List.length_nil,Nat.zero_add,Int.natCast_add,Int.natCast_one,ng,ic,cY,List.map_cons,List.map_nil] at ih;simp[ng,fv,ff,ic,h1,h6,h3,Ao,n0,n1,n2,n3,aG,TP,aI,Cl,x0,x2];exact ih
      .have Cl:((d.toNat:Int)=39)=False:=eq_false (by omega);rw[EJ k1 k2];refine⟨0,.inl ⟨[],rfl,?_⟩⟩;simp[ng,fv,ff,ic,h1,h6,h3,Ao,n0,n1,n2,n3,aG,TP,aI,ui,Cl,x0,x2];omega
    have ui:((c.toNat:Int)=39)=False:=eq_false (by omega);by_cases k2:c.toNat<32\/126<c.toNat
    .rw[CJ k1 k2];have hx:∃e:Int,(if (q0:Int)+(j:Int)+1<(s.length:Int) then True else True):=⟨0,by split<;>trivial⟩
     by_cases k3:c.toNat<32
     .have me:((c.toNat:Int)<32)=True:=eq_true (by omega);rcases rV with⟨x1,x2⟩|⟨d,x0,x1,x2⟩
      .refine⟨min md 1,.inr (.inl ⟨rfl,?_⟩)⟩;simp[ng,fv,ff,ic,h1,h6,h3,Ao,n0,n1,n2,n3,aG,TP,aI,ui,me,x2]
      .refine⟨min md 1,.inr (.inl ⟨rfl,?_⟩)⟩;simp[ng,fv,ff,ic,h1,h6,h3,Ao,n0,n1,n2,n3,aG,TP,aI,ui,me,x0,x2]
     .have me:((c.toNat:Int)<32)=False:=eq_false (by omega);have nu:(126<(c.toNat:Int))=True:=eq_true (by omega);rcases rV with⟨x1,x2⟩|⟨d,x0,x1,x2⟩
      .refine⟨min md 1,.inr (.inl ⟨rfl,?_⟩)⟩;simp[ng,fv,ff,ic,h1,h6,h3,Ao,n0,n1,n2,n3,aG,TP,aI,ui,me,nu,x2]
      .refine⟨min md 1,.inr (.inl ⟨rfl,?_⟩)⟩;simp[ng,fv,ff,ic,h1,h6,h3,Ao,n0,n1,n2,n3,aG,TP,aI,ui,me,nu,x0,x2]
    have me:((c.toNat:Int)<32)=False:=eq_false (by omega);have nu:(126<(c.toNat:Int))=False:=eq_false (by omega);by_cases k5:c.toNat=92
    .have O5:((c.toNat:Int)=92)=True:=eq_true (by omega);rcases rV with⟨x1,x2⟩|⟨d,x0,x1,x2⟩
     .rw[x1,Il k5];have z:=fq [110,116,92,39] 0;rw[show (0:UInt8).toNat=0 from rfl,LM] at z;simp only[show ((0:Nat):Int)=0 from rfl] at z;refine⟨min md 1,.inr (.inl ⟨rfl,?_⟩)⟩;simp[ng,fv,ff,ic,h1,h6,h3,Ao,n0,n1,n2,n3,aG,TP,aI,ui,me,nu,O5,x2,z]
     .rw[x1];have z:=fq [110,116,92,39] d;obtain⟨z1,z2⟩:=QH d
      cases Jq:D8 d with
      |none=>rw[IK k5 Jq];rw[z2 Jq] at z;refine⟨min md 1,.inr (.inl ⟨rfl,?_⟩)⟩;simp[ng,fv,ff,ic,h1,h6,h3,Ao,n0,n1,n2,n3,aG,TP,aI,ui,me,nu,O5,x0,x2,z]
      |some b=>rw[E0 k5 Jq];obtain⟨i,y1,y2⟩:=z1 b Jq;have x3:=(List.getElem?_eq_some_iff.1 x0).1;rw[y1] at z;have y3:((i:Int)<0)=False:=eq_false (by omega);have y4:(0<=(i:Int))=True:=eq_true (by omega);have ih:=nH n s hl q0 f [b] (j+2) m 0 (by simp) (by simp) (by omega) (by omega) (by omega);rw[show q0+(j+2)=q0+j+2 by omega] at ih;simp only[List.length_cons,List.length_nil,Nat.zero_add,Int.natCast_add,Int.natCast_one,ng,ic,cY,List.map_cons,List.map_nil] at ih;simp[ng,fv,ff,ic,h1,h6,h3,Ao,n0,n1,n2,n3,aG,TP,aI,ui,me,nu,O5,x0,x2,z,y2,y3,y4];exact ih
    .have O5:((c.toNat:Int)=92)=False:=eq_false (by omega);rw[K7 k1 k2 k5];rcases rV with⟨x1,x2⟩|⟨d,x0,x1,x2⟩
     .have ih:=nH n s hl q0 f [c] (j+1) m 0 (by simp) (by simp) (by omega) (by omega) (by omega);rw[show q0+(j+1)=q0+j+1 by omega] at ih;simp only[List.length_cons,List.length_nil,Nat.zero_add,Int.natCast_add,Int.natCast_one,ng,ic,cY,List.map_cons,List.map_nil] at ih;simp[ng,fv,ff,ic,h1,h6,h3,Ao,n0,n1,n2,n3,aG,TP,aI,ui,me,nu,O5,x2];exact ih
     .have ih:=nH n s hl q0 f [c] (j+1) m 0 (by simp) (by simp) (by omega) (by omega) (by omega);rw[show q0+(j+1)=q0+j+1 by omega] at ih;simp only[List.length_cons,List.length_nil,Nat.zero_add,Int.natCast_add,Int.natCast_one,ng,ic,cY,List.map_cons,List.map_nil] at ih;simp[ng,fv,ff,ic,h1,h6,h3,Ao,n0,n1,n2,n3,aG,TP,aI,ui,me,nu,O5,x0,x2];exact ih
theorem vY{X:World->Prop}{P:Program}{E:Env}(hE:bY P X E){n f:Nat}{ak cs iA:List AV}{v:AV}(he:(aH E n f (.ptr 0 0::ak) (C9 [.row cs])).map (λp=>(p.1,p.2.get 0))=some (v,some (.row iA)))
 (hv:v.aK=0) (hr:AV.aj ak=0) (hc:AV.aj iA=0):ck P X f (.ptr 0 0::ak) [.row cs] v (some [.row iA]):=by
 obtain⟨⟨v1,h1⟩,e1,e2⟩:=Option.map_eq_some_iff.1 he;simp only[Prod.mk.injEq] at e2;obtain⟨rfl,e3⟩:=e2;exact zU hE e1 e3 hv hr hc
def Tj(q:Option (List UInt8)×Nat):AV:=match q.1 with|some t=>.tuple [.agg (ic 2 t 0),.int .i64 0]|none=>.tuple [.agg (ic 0 [] 0),.int .i64 2]
def Rx:cq:=⟨80,λ
 |[.ptr 0 0],[.row [.str s,.int .i64 i]]=>if s.length<1000000000/\0<=i/\i<s.length then
  some (Tj (ib ((s.drop (i.toNat+1)).length+1) (s.drop (i.toNat+1)) [] 1),some [.row [.str s,.int .i64 (i.toNat+(ib ((s.drop (i.toNat+1)).length+1) (s.drop (i.toNat+1)) [] 1).2:Nat)]]) else none
 |_,_=>none⟩
theorem mA:Rx.f=80:=(rfl)
theorem YJ(s:List UInt8)(k:Nat)(hl:s.length<1000000000)(hk:k<s.length):
 Rx.S [.ptr 0 0] [.row [.str s,.int .i64 k]]=some (Tj (ib ((s.drop (k+1)).length+1) (s.drop (k+1)) [] 1),some [.row [.str s,.int .i64 (k+(ib ((s.drop (k+1)).length+1) (s.drop (k+1)) [] 1).2:Nat)]]):=by
 simp only[Rx];rw[if_pos ⟨hl,by omega,by omega⟩,Int.toNat_natCast]
theorem Y3:ml Tryz.prog Rx:=λaa os v r hv=>by
 unfold Rx at hv;dsimp only at hv;split at hv
 .rename_i s i;split at hv
  .rename_i hc;cases hv;obtain⟨k,rfl⟩:∃k:Nat,i=(k:Int):=⟨i.toNat,by omega⟩
   rw[Int.toNat_natCast,mA];have h3:IntKind.i64.wrap ((k:Int)+1)=(k:Int)+1:=wrap_i64 (by omega) (by omega);have lp:=Th (s.length+4) s hc.1 k ((s.drop (k+1)).length+1) 1 (s.length+5) 0 (by omega) (by rw[List.length_drop];omega) (by rw[List.length_drop];omega);generalize ib ((s.drop (k+1)).length+1) (s.drop (k+1)) [] 1=q at *;refine vY (n:=s.length+6) (vS (ss:=ng) (ms:=[]) M7 (by simp)) ?_ (by unfold Tj;split<;>rfl) rfl rfl;rw[vP];obtain⟨cS,lp⟩:=lp;simp only[ff,ng,ic,Int.natCast_add,Int.natCast_one] at lp;rcases lp with⟨t,e1,lp⟩|⟨e1,lp⟩|⟨e1,lp⟩
   all_goals
    unfold Tj;rw[e1];simp[ng,ad8,c80,ff,ic,h3,lp,aG]
  .cases hv
 .cases hv
theorem iQ:uP.f=75:=(rfl)
theorem Rg(c:UInt8):uP.S [.int .u8 c.toNat]=some (.bool (jv c)):=qI _ _ c
theorem iC:uK.f=77:=(rfl)
theorem SQ(c:UInt8):uK.S [.int .u8 c.toNat]=some (.bool (jy c)):=qI _ _ c
theorem VM(c:UInt8):uD.S [.int .u8 c.toNat]=some (.bool (dd c)):=qI _ _ c
def Ku:List aZ:=[uP,uK,uD,R8,vB,jN,ig]
theorem acr:∀s∈Ku,dX Tryz.prog bV s:=by simp[Ku,GI.lift,Gf.lift,ET.lift,Pp.lift,Ol,FQ.lift,nw.lift]
def KC:List cq:=[runM,Rx,C8,HE]
theorem abF:∀m∈KC,cr Tryz.prog bV m:=by simp[KC,PK.lift,Y3.lift,LI.lift,WQ.lift]
theorem MV{s:List UInt8}{k:Nat}(h:k<=s.length):sliceB s.length (some (.int .i64 k)) none=some (k,s.length):=by
 have a1:(0:Int)<=(k:Int)/\(k:Int)<=(s.length:Int):=by omega
 simp[sliceB,a1]
theorem Tc(c:UInt8):decide (0<=kV c.toNat qE)=mH c:=zA _ _
theorem Ik(c d a b:UInt8)(r:List UInt8):Lib.hasPrefix (c::d::r) [a,b]=(decide (c.toNat=a.toNat)&&decide (d.toNat=b.toNat)):=by
 have e:∀x y:UInt8,(x==y)=decide (y.toNat=x.toNat):=λx y=>by
  by_cases h:x=y
  .subst h;simp
  .have:¬y.toNat=x.toNat:=λe=>h (UInt8.toNat_inj.1 e.symm)
   rw[decide_eq_false this];simpa using h
 simp[Lib.hasPrefix,List.isPrefixOf,e]
theorem Qs(c a b:UInt8):Lib.hasPrefix [c] [a,b]=false:=by simp[Lib.hasPrefix,List.isPrefixOf]
def gi(t:Tok):AV:=.agg [.int .i64 t.ah,.str t.ay,.int .i64 t.bx,.bool t.iT,.int .i64 t.bM]
def Ti:cq:=⟨45,λ
 |[.ptr 0 0],[.row [.str s,.int .i64 i]]=>if s.length<1000000000/\0<=i/\i<s.length then
  some (.tuple [gi (bN (s.drop i.toNat)).1,.int .i64 (bN (s.drop i.toNat)).2.2],some [.row [.str s,.int .i64 (i.toNat+(bN (s.drop i.toNat)).2.1:Nat)]]) else none
 |_,_=>none⟩
theorem eM:Ti.f=45:=(rfl)
theorem Qo(s:List UInt8)(k:Nat)(hl:s.length<1000000000)(hk:k<s.length):
 Ti.S [.ptr 0 0] [.row [.str s,.int .i64 k]]=some (.tuple [gi (bN (s.drop k)).1,.int .i64 (bN (s.drop k)).2.2],some [.row [.str s,.int .i64 (k+(bN (s.drop k)).2.1:Nat)]]):=by
 simp only[Ti];rw[if_pos ⟨hl,by omega,by omega⟩,Int.toNat_natCast]
theorem Xm(s:List UInt8)(k:Nat)(hl:s.length<1000000000)(hk:k<s.length)(n:Nat):
 (aH (cg Ku KC) (n+2) 45 [.ptr 0 0] (C9 [.row [.str s,.int .i64 k]])).map (λp=>(p.1,p.2.get 0))=
  some (.tuple [gi (bN (s.drop k)).1,.int .i64 (bN (s.drop k)).2.2],some (.row [.str s,.int .i64 (k+(bN (s.drop k)).2.1:Nat)])):=by
 obtain⟨c,h1,hd⟩:=nj (s:=s) (k:=k) hk;rw[vP];have q1:=Rg c;have q2:=SQ c;have q3:=VM c;have q4:=Qe c;have r1:=IN 76 lR (by simp[xE]) s k hl (by omega);have r2:=IN 78 dd (by simp[xE]) s k hl (by omega);have r3:=YJ s k hl hk;have r4:=LA s k hl hk;have r5:=UO s k hl (by omega);have h3:IntKind.i64.wrap ((k:Int)+1)=(k:Int)+1:=wrap_i64 (by omega) (by omega);have Ao:IntKind.i64.wrap ((k:Int)+2)=(k:Int)+2:=wrap_i64 (by omega) (by omega);have h3c:IntKind.i64.wrap (k:Int)=(k:Int):=wrap_i64 (by omega) (by omega);have sf:=MV (s:=s) (k:=k) (by omega);have tk:(s.take s.length).drop k=s.drop k:=by rw[List.take_length]
 have hb:=c.toNat_lt;have rn1:=oE dd (s.drop k);have F:uP.f=75/\uK.f=77/\uD.f=78/\R8.f=82/\vB.f=79/\jN.f=84/\ig.f=65:=⟨rfl,rfl,rfl,rfl,rfl,rfl,rfl⟩
 rw[hd] at r1 r2 r4 r5 rn1|-;unfold bN;dsimp only
 cases k1:jv c with
 |true=>rw[k1] at q1;simp only[if_true];generalize runN lR (c::s.drop (k+1))=q at *;simp only[Int.natCast_add] at r1;simp[Ku,KC,nh,MK,h1,q1,r1,gi,iQ,iC,jF,jQ,gz,eN,aG,iY,mA,gQ,jC]
 |false=>
 rw[k1] at q1;simp only[Bool.false_eq_true,if_false]
 cases k2:jy c with
 |true=>rw[k2] at q2;simp only[if_true];generalize runN lR (c::s.drop (k+1))=q at *;simp only[Int.natCast_add] at r1;simp[Ku,KC,nh,MK,h1,q1,q2,r1,gi,iQ,iC,jF,jQ,gz,eN,aG,iY,mA,gQ,jC]
 |false=>
 rw[k2] at q2;simp only[Bool.false_eq_true,if_false]
 cases k3:dd c with
 |true=>rw[k3] at q3;simp only[if_true];have q5:=NN ((c::s.drop (k+1)).take (runN dd (c::s.drop (k+1)))) (by rw[List.length_take];simp;omega);generalize (c::s.drop (k+1)).take (runN dd (c::s.drop (k+1)))=D at *;generalize runN dd (c::s.drop (k+1))=q at *;generalize fw D=P at *;obtain⟨v,e⟩:=P;dsimp only at q5|-;simp only[Int.natCast_add] at r2;simp[Ku,KC,nh,MK,h1,q1,q2,q3,q5,r2,gi,iQ,iC,jF,jQ,gz,eN,aG,iY,mA,gQ,jC]
 |false=>
 rw[k3] at q3;simp only[Bool.false_eq_true,if_false];by_cases k4:c.toNat=39
 .have nu:((c.toNat:Int)=39)=True:=eq_true (by omega);rw[if_pos k4];generalize ib ((s.drop (k+1)).length+1) (s.drop (k+1)) [] 1=Q at *;obtain⟨a,q⟩:=Q;simp only[Int.natCast_add] at r3
  cases a with
  |none=>simp only[Tj,ic] at r3;simp[Ku,KC,nh,MK,h1,q1,q2,q3,nu,r3,gi,Aa,iQ,iC,jF,jQ,gz,eN,aG,iY,mA,gQ,jC]
  |some t=>simp only[Tj,ic] at r3;simp[Ku,KC,nh,MK,h1,q1,q2,q3,nu,r3,gi,Aa,iQ,iC,jF,jQ,gz,eN,aG,iY,mA,gQ,jC]
 have nu:((c.toNat:Int)=39)=False:=eq_false (by omega);rw[if_neg k4]
 cases k5:gZ (c::s.drop (k+1)) with
 |true=>rw[k5] at r4;simp only[if_true];simp[Ku,KC,nh,MK,h1,h3,q1,q2,q3,nu,r4,gi,iQ,iC,jF,jQ,gz,eN,aG,iY,mA,gQ,jC]
 |false=>
 rw[k5] at r4;simp only[Bool.false_eq_true,if_false]
 cases k6:qA c with
 |true=>rw[k6] at q4;simp only[if_true];generalize jZ (c::s.drop (k+1))=q at *;simp only[Int.natCast_add] at r5;simp[Ku,KC,nh,MK,h1,q1,q2,q3,q4,nu,r4,r5,gi,iQ,iC,jF,jQ,gz,eN,aG,iY,mA,gQ,jC]
 |false=>
 rw[k6] at q4;simp only[Bool.false_eq_true,if_false];have nn:((c.toNat:Int)).toNat=c.toNat:=by omega
 have cc:UInt8.ofNat c.toNat=c:=by simp
 by_cases k7:c.toNat=59\/c.toNat=33
 .rw[if_pos k7];have aaM:((c.toNat:Int)<128)=True:=eq_true (by omega);by_cases k8:c.toNat=59
  .have k8':((c.toNat:Int)=59)=True:=eq_true (by omega);simp[Ku,KC,nh,MK,h1,h3,q1,q2,q3,q4,nu,k8',r4,aaM,nn,cc,gi,iQ,iC,jF,jQ,gz,eN,aG,iY,mA,gQ,jC]
  .have k8':((c.toNat:Int)=59)=False:=eq_false (by omega);have k9':((c.toNat:Int)=33)=True:=eq_true (by omega);simp[Ku,KC,nh,MK,h1,h3,q1,q2,q3,q4,nu,k8',k9',r4,aaM,nn,cc,gi,iQ,iC,jF,jQ,gz,eN,aG,iY,mA,gQ,jC]
 rw[if_neg k7];have k8':((c.toNat:Int)=59)=False:=eq_false (by omega);have k9':((c.toNat:Int)=33)=False:=eq_false (by omega);have p1:jN.S [.str (s.drop k),.str [91,93]]=some (.bool (Lib.hasPrefix (c::s.drop (k+1)) [91,93])):=by rw[<-hd];exact wZ _ _
 have p2:jN.S [.str (s.drop k),.str [123,125]]=some (.bool (Lib.hasPrefix (c::s.drop (k+1)) [123,125])):=by rw[<-hd];exact wZ _ _
 have p3:=fq qE c;have p4:=Tc c;generalize kV c.toNat qE=x at *;simp only[qE] at p3
 have aeF:mH c=true->c.toNat<128:=λh=>by unfold mH at h;rw[List.any_eq_true] at h;obtain⟨d,hd1,hd2⟩:=h;have e:=of_decide_eq_true hd2;simp only[qE,List.mem_cons,List.not_mem_nil,or_false] at hd1;rcases hd1 with rfl|rfl|rfl|rfl|rfl|rfl|rfl|rfl<;>rw[<-e]<;>decide
 have fin:∀(R:Bool),R=mH c->Lib.hasPrefix (c::s.drop (k+1)) [91,93]=false->Lib.hasPrefix (c::s.drop (k+1)) [123,125]=false->
  (aH (cg Ku KC) (n+2) 45 [.ptr 0 0] ⟨1,[.row [.str s,.int .i64 k]],1,1⟩).map (λp=>(p.1,p.2.get 0))=
   some (if R then .tuple [gi ⟨5,[c],0,false,0⟩,.int .i64 0] else .tuple [gi Aa,.int .i64 2],some (.row [.str s,.int .i64 (k+(if R then 1 else 0):Nat)])):=λR hR w1 w2=>by
  rw[w1] at p1;rw[w2] at p2;rw[<-hR] at p4
  cases R with
  |true=>have aaM:((c.toNat:Int)<128)=True:=eq_true (by have:=aeF hR.symm;omega);have p5:(0<=x)=True:=eq_true (of_decide_eq_true p4);simp[Ku,KC,nh,MK,h1,h3,q1,q2,q3,q4,nu,k8',k9',r4,aaM,nn,cc,sf,tk,p1,p2,p3,p5,gi,iQ,iC,jF,jQ,gz,eN,aG,iY,mA,gQ,jC]
  |false=>have p5:(0<=x)=False:=eq_false (of_decide_eq_false p4);simp[Ku,KC,nh,MK,h1,h3,q1,q2,q3,q4,nu,k8',k9',r4,nn,cc,sf,tk,p1,p2,p3,p5,gi,Aa,iQ,iC,jF,jQ,gz,eN,aG,iY,mA,gQ,jC]
 cases hr:s.drop (k+1) with
 |nil=>rw[hr] at fin;have:=fin (mH c) rfl (Qs _ _ _) (Qs _ _ _);rw[this];cases mH c<;>rfl
 |cons d r=>
   rw[hr] at fin;dsimp only;by_cases kk:(c.toNat=91/\d.toNat=93)\/(c.toNat=123/\d.toNat=125)
   .rw[if_pos kk]
    have hkl:k+2<=s.length:=by have:=congrArg List.length hr;rw[List.length_drop] at this;simp at this;omega
    obtain⟨s1,s2⟩:=Av (s:=s) (k:=k) (q:=2) hkl;have s3:(s.drop k).take 2=[c,d]:=by rw[hd,hr];rfl
    rw[s3] at s2;simp only[Int.natCast_add,show ((2:Nat):Int)=2 from rfl] at s1;rw[hr,Ik] at p1 p2;rw[show (91:UInt8).toNat=91 from rfl,show (93:UInt8).toNat=93 from rfl] at p1;rw[show (123:UInt8).toNat=123 from rfl,show (125:UInt8).toNat=125 from rfl] at p2;rcases kk with⟨a1,a2⟩|⟨a1,a2⟩
    .rw[decide_eq_true a1,decide_eq_true a2] at p1;simp[Ku,KC,nh,MK,h1,Ao,h3c,q1,q2,q3,q4,nu,k8',k9',r4,nn,cc,sf,tk,p1,p2,s1,s2,gi,iQ,iC,jF,jQ,gz,eN,aG,iY,mA,gQ,jC]
    .rw[decide_eq_false (show ¬c.toNat=91 by omega)] at p1;rw[decide_eq_true a1,decide_eq_true a2] at p2;simp[Ku,KC,nh,MK,h1,Ao,h3c,q1,q2,q3,q4,nu,k8',k9',r4,nn,cc,sf,tk,p1,p2,s1,s2,gi,iQ,iC,jF,jQ,gz,eN,aG,iY,mA,gQ,jC]
   .rw[if_neg kk]
    have:=fin (mH c) rfl (by
     rw[Ik,show (91:UInt8).toNat=91 from rfl,show (93:UInt8).toNat=93 from rfl];by_cases a:c.toNat=91
     .rw[decide_eq_true a,decide_eq_false (λb=>kk (.inl ⟨a,b⟩))];rfl
     .rw[decide_eq_false a];rfl) (by
     rw[Ik,show (123:UInt8).toNat=123 from rfl,show (125:UInt8).toNat=125 from rfl];by_cases a:c.toNat=123
     .rw[decide_eq_true a,decide_eq_false (λb=>kk (.inr ⟨a,b⟩))];rfl
     .rw[decide_eq_false a];rfl)
    rw[this];cases mH c<;>rfl
theorem Zp:cr Tryz.prog bV Ti:=λaa os v r hv=>by
 unfold Ti at hv;dsimp only at hv;split at hv
 .rename_i s i;split at hv
  .rename_i hc;cases hv;obtain⟨k,rfl⟩:∃k:Nat,i=(k:Int):=⟨i.toNat,by omega⟩
   rw[Int.toNat_natCast,eM];exact vY (n:=5) (dW acr abF) (Xm s k hc.1 (by omega) 3) (by simp[AV.aK,AV.aj,gi]) rfl rfl
  .cases hv
 .cases hv
def fI(l:List Tok):List AV:=l.flatMap Tok.cells
theorem Ar(l:List Tok):∀x∈l.map Tok.aR,Ce 5 x:=by intro x hx;obtain⟨o,_,rfl⟩:=List.mem_map.1 hx;exact⟨rfl,rfl,(λh=>by cases h),λ_=>rfl,rfl⟩
theorem De(l:List Tok):(l.map Tok.aR).flatMap AV.cells=fI l:=by
 induction l with
 |nil=>rfl
 |cons t r ih=>unfold fI at ih|-;rw[List.map_cons,List.flatMap_cons,List.flatMap_cons,ih];rfl
theorem wq(l:List Tok):(fI l).length=l.length*5:=by rw[<-De,Dt (Ar l),List.length_map]
theorem xR(l:List Tok):AV.aj (fI l)=0:=by rw[<-De];exact p7 (Dx (Ar l))
theorem E1(l:List Tok)(t:Tok):fI (l++[t])=fI l++t.cells:=by simp[fI]
theorem R1(l:List Tok):AV.aj (l.map Tok.aR)=0:=by
 induction l with
 |nil=>rfl
 |cons t r ih=>simp[AV.aj,ih,Tok.aR,Tok.cells,AV.aK]
theorem agD{h:af}{n0 d id:Nat}(x:Tok)(r:List Tok)(bZ:n0<=id)(hg:h.get id=some (.row (fI (x::r)))):
 jH h n0 (d+2) (.vec id 0 (r.length+1) 5 (r.length+1))=some (.sl ((x::r).map Tok.aR),[id]):=
 vN bZ hg (by omega) (Ar (x::r)) (by simp) (by rw[wq];simp) (by rw[De,List.take_of_length_le];rw[wq];simp)
def vK(id:Nat):List Tok->AV
 |[]=>.aD
 |x::r=>.vec id 0 (r.length+1) 5 (r.length+1)
def hK(us:List Tok)(B:List aS):List aS:=match us with
 |[]=>B
 |x::r=>.row (fI (x::r))::B
theorem agu{id:Nat}{l:List Tok}(h:l≠[]):vK id l=.vec id 0 l.length 5 l.length:=by
 cases l with
 |nil=>exact absurd rfl h
 |cons x r=>rfl
theorem afM{l:List Tok}{B:List aS}(h:l≠[]):hK l B=.row (fI l)::B:=by
 cases l with
 |nil=>exact absurd rfl h
 |cons x r=>rfl
def mu:List aZ:=[]
def mz:List cq:=[Ti,Eu]
theorem ac3:∀m∈mz,cr Tryz.prog bV m:=by simp[mz,Zp,VV.lift]
def YQ(r:List Tok×Int×Int)(s:List UInt8)(R:Option (Ex×List AV×af)):Prop:=
 ∃cS,(r.2.2=0/\r.2.1=s.length/\R=some (.exit 0,FM 89 [(0,.str s),(6,vK 1 r.1)],⟨(hK r.1 [.row [.str s,.int .i64 s.length]]).length,hK r.1 [.row [.str s,.int .i64 s.length]],0,cS⟩))\/
   (r.2.2≠0/\r.1=[]/\∃x,R=some (.ret,FM 89 [(2,.aD),(3,.int .i64 r.2.1),(4,.int .i64 r.2.2)],⟨1,[.row [.str s,.int .i64 x]],0,cS⟩))
theorem Kz(n:Nat)(s:List UInt8)(hl:s.length<=4096):∀(f:Nat) (aJ:List Tok) (j m md:Nat),aJ≠[]->aJ.length<=1024->j<=s.length->s.length-j<f->f<=m->
 YQ (nP f s j aJ) s (iV 1 0 (cb (aF (aH (cg mu mz) (n+1)) (n+1) eK) dR 1 m (Ew (.str s) (.ptr 0 0) (.vec 1 0 aJ.length 5 aJ.length)) ⟨2,[.row (fI aJ),.row [.str s,.int .i64 j]],1,md⟩))
 |0,aJ,j,m,md,fB,hac,hk,h,_=>by omega
 |f+1,aJ,j,0,md,fB,hac,_,_,h=>by omega
 |f+1,aJ,j,m+1,md,fB,hac,hk,hf0,hm=>by
   rw[ai];have hf:=xR aJ;have h8:(aJ.length+1)*48<=140737488355328:=by omega
   have h9:aJ.length+1<9223372036854775808:=by omega
   have kj:(fI aJ).take (aJ.length*5)=fI aJ:=by rw[List.take_of_length_le];rw[wq];exact Nat.le_refl _
   have pE:=wq aJ;unfold nP;by_cases he:j=s.length
   .have h6:((j:Int)<(s.length:Int))=False:=eq_false (by omega);rw[if_pos (by omega)];refine⟨md,.inl ⟨rfl,rfl,?_⟩⟩;rw[agu fB,afM fB];simp[mu,mz,eK,dR,eM,dr,gi,hf,h8,h9,kj,pE,aI,h6,he]
   .have HI:j<s.length:=by omega
    have h6:((j:Int)<(s.length:Int))=True:=eq_true (by omega);rw[if_neg (by omega)];have q1:=Qo s j (by omega) HI;obtain⟨b1,b2⟩:=gB (s.drop j);rw[List.length_drop] at b1;generalize bN (s.drop j)=O at *;obtain⟨⟨kd,tx,nm,op,a0⟩,k,e⟩:=O;dsimp only at q1 b1 b2|-;simp only[Int.natCast_add,gi] at q1;by_cases e0:e=0
    .subst e0;rw[if_neg (by simp)];have hk1:=b2 rfl;by_cases X0:((kd=1\/kd=2)/\64<tx.length)\/(aJ:List Tok).length=1024
     .rw[if_pos X0];refine⟨0,.inr ⟨by simp,rfl,(j+k:Nat),?_⟩⟩;by_cases k1:kd=1
      .by_cases k3:64<tx.length
       .have me:((64:Int)<(tx.length:Int))=True:=eq_true (by omega);simp[mu,mz,eK,dR,eM,dr,gi,hf,h8,h9,kj,pE,aI,h6,q1,k1,me]
       .have me:((64:Int)<(tx.length:Int))=False:=eq_false (by omega);have k4:(aJ:List Tok).length=1024:=by omega
        have nu:((aJ.length:Int)=1024)=True:=eq_true (by omega);simp[mu,mz,eK,dR,eM,dr,gi,hf,h8,h9,kj,pE,aI,h6,q1,k1,me,nu]
      .by_cases k2:kd=2
       .by_cases k3:64<tx.length
        .have me:((64:Int)<(tx.length:Int))=True:=eq_true (by omega);simp[mu,mz,eK,dR,eM,dr,gi,hf,h8,h9,kj,pE,aI,h6,q1,k2,me]
        .have me:((64:Int)<(tx.length:Int))=False:=eq_false (by omega);have k4:(aJ:List Tok).length=1024:=by omega
         have nu:((aJ.length:Int)=1024)=True:=eq_true (by omega);simp[mu,mz,eK,dR,eM,dr,gi,hf,h8,h9,kj,pE,aI,h6,q1,k2,me,nu]
       .have k4:(aJ:List Tok).length=1024:=by omega
        have nu:((aJ.length:Int)=1024)=True:=eq_true (by omega);simp[mu,mz,eK,dR,eM,dr,gi,hf,h8,h9,kj,pE,aI,h6,q1,k1,k2,nu]
     .rw[if_neg X0];have hsk:=iM (s.length+1) (s.drop (j+k));rw[List.length_drop] at hsk;have q2:=Dc s (j+k) (by omega) (by omega);simp only[Int.natCast_add] at q2;have n0:(0<=(j:Int)+(k:Int))=True:=eq_true (by omega);have n2:((j:Int)+(k:Int)).toNat=j+k:=by omega
      have aeG:(s[j+k]? =none/\((j:Int)+(k:Int)<(s.length:Int))=False)\/∃d,s[j+k]? =some d/\((j:Int)+(k:Int)<(s.length:Int))=True:=by
       by_cases hx:j+k<s.length
       .exact .inr ⟨s[j+k],List.getElem?_eq_getElem hx,eq_true (by omega)⟩
       .exact .inl ⟨List.getElem?_eq_none (by omega),eq_false (by omega)⟩
      have nu:((aJ.length:Int)=1024)=False:=eq_false (by omega)
      have key:∀(b:Bool),decide ((s[j+k]?.map UInt8.toNat)=some 40)=b->(∀(R:Option (Ex×List AV×af)),R=iV 1 0 (cb (aF (aH (cg mu mz) (n+1)) (n+1) eK) dR 1 m (Ew (.str s) (.ptr 0 0) (.vec 1 0 (aJ++[(⟨kd,tx,nm,b,j⟩:Tok)]).length 5 (aJ++[(⟨kd,tx,nm,b,j⟩:Tok)]).length)) ⟨2,[.row (fI (aJ++[(⟨kd,tx,nm,b,j⟩:Tok)])),.row [.str s,.int .i64 (j+k+dG (s.length+1) (s.drop (j+k)):Nat)]],1,0⟩)->
       YQ (nP f s (j+k+dG (s.length+1) (s.drop (j+k))) (aJ++[(⟨kd,tx,nm,decide ((s[j+k]?.map UInt8.toNat)=some 40),j⟩:Tok)])) s R):=λb hb R hR=>by
       rw[hR,hb];exact Kz n s hl f (aJ++[⟨kd,tx,nm,b,j⟩]) (j+k+dG (s.length+1) (s.drop (j+k))) m 0 (by simp) (by simp<;>omega) (by omega) (by omega) (by omega)
      generalize dG (s.length+1) (s.drop (j+k))=sk at *;have F0:∀b:Bool,fI (aJ++[(⟨kd,tx,nm,b,j⟩:Tok)])=fI aJ++[.int .i64 kd,.str tx,.int .i64 nm,.bool b,.int .i64 j]:=λb=>E1 _ _
      have jc:∀b:Bool,AV.aj (fI aJ++[.int .i64 kd,.str tx,.int .i64 nm,.bool b,.int .i64 j])=0:=λb=>by rw[<-F0];exact xR _
      rcases aeG with⟨x1,x2⟩|⟨d,x1,x2⟩
      .by_cases k1:kd=1
       .obtain rfl:=k1;have me:((64:Int)<(tx.length:Int))=False:=eq_false (by omega);refine key false (by simp[x1]) _ ?_;simp only[F0,List.length_append,List.length_cons,List.length_nil,Nat.zero_add,Int.natCast_add,mu,mz];simp[mu,mz,eK,dR,eM,dr,gi,hf,h8,h9,kj,pE,aI,h6,q1,q2,n0,n2,nu,jc,x2,me]
       .by_cases k2:kd=2
        .obtain rfl:=k2;have me:((64:Int)<(tx.length:Int))=False:=eq_false (by omega);refine key false (by simp[x1]) _ ?_;simp only[F0,List.length_append,List.length_cons,List.length_nil,Nat.zero_add,Int.natCast_add,mu,mz];simp[mu,mz,eK,dR,eM,dr,gi,hf,h8,h9,kj,pE,aI,h6,q1,q2,n0,n2,nu,jc,x2,me]
        .refine key false (by simp[x1]) _ ?_;simp only[F0,List.length_append,List.length_cons,List.length_nil,Nat.zero_add,Int.natCast_add,mu,mz];simp[mu,mz,eK,dR,eM,dr,gi,hf,h8,h9,kj,pE,aI,h6,q1,q2,n0,n2,nu,jc,x2,k1,k2]
      .by_cases TH:d.toNat=40
       .have x9:((d.toNat:Int)=40)=True:=eq_true (by omega);by_cases k1:kd=1
        .obtain rfl:=k1;have me:((64:Int)<(tx.length:Int))=False:=eq_false (by omega);refine key true (by simp[x1,TH]) _ ?_;simp only[F0,List.length_append,List.length_cons,List.length_nil,Nat.zero_add,Int.natCast_add,mu,mz];simp[mu,mz,eK,dR,eM,dr,gi,hf,h8,h9,kj,pE,aI,h6,q1,q2,n0,n2,nu,jc,x1,x2,x9,me]
        .by_cases k2:kd=2
         .obtain rfl:=k2;have me:((64:Int)<(tx.length:Int))=False:=eq_false (by omega);refine key true (by simp[x1,TH]) _ ?_;simp only[F0,List.length_append,List.length_cons,List.length_nil,Nat.zero_add,Int.natCast_add,mu,mz];simp[mu,mz,eK,dR,eM,dr,gi,hf,h8,h9,kj,pE,aI,h6,q1,q2,n0,n2,nu,jc,x1,x2,x9,me]
         .refine key true (by simp[x1,TH]) _ ?_;simp only[F0,List.length_append,List.length_cons,List.length_nil,Nat.zero_add,Int.natCast_add,mu,mz];simp[mu,mz,eK,dR,eM,dr,gi,hf,h8,h9,kj,pE,aI,h6,q1,q2,n0,n2,nu,jc,x1,x2,x9,k1,k2]
       .have x9:((d.toNat:Int)=40)=False:=eq_false (by omega);by_cases k1:kd=1
        .obtain rfl:=k1;have me:((64:Int)<(tx.length:Int))=False:=eq_false (by omega);refine key false (by simp[x1,TH]) _ ?_;simp only[F0,List.length_append,List.length_cons,List.length_nil,Nat.zero_add,Int.natCast_add,mu,mz];simp[mu,mz,eK,dR,eM,dr,gi,hf,h8,h9,kj,pE,aI,h6,q1,q2,n0,n2,nu,jc,x1,x2,x9,me]
        .by_cases k2:kd=2
         .obtain rfl:=k2;have me:((64:Int)<(tx.length:Int))=False:=eq_false (by omega);refine key false (by simp[x1,TH]) _ ?_;simp only[F0,List.length_append,List.length_cons,List.length_nil,Nat.zero_add,Int.natCast_add,mu,mz];simp[mu,mz,eK,dR,eM,dr,gi,hf,h8,h9,kj,pE,aI,h6,q1,q2,n0,n2,nu,jc,x1,x2,x9,me]
         .refine key false (by simp[x1,TH]) _ ?_;simp only[F0,List.length_append,List.length_cons,List.length_nil,Nat.zero_add,Int.natCast_add,mu,mz];simp[mu,mz,eK,dR,eM,dr,gi,hf,h8,h9,kj,pE,aI,h6,q1,q2,n0,n2,nu,jc,x1,x2,x9,k1,k2]
    .rw[if_pos e0];refine⟨0,.inr ⟨e0,rfl,(j+k:Nat),?_⟩⟩;simp[mu,mz,eK,dR,eM,dr,gi,hf,h8,h9,kj,pE,aI,h6,q1,e0]
theorem SW(n:Nat)(s:List UInt8)(hl:s.length<=4096):∀(f j m md:Nat),j<=s.length->s.length-j<f->f<=m->
 YQ (nP f s j []) s (iV 1 0 (cb (aF (aH (cg mu mz) (n+1)) (n+1) eK) dR 1 m (Ew (.str s) (.ptr 0 0) .aD) ⟨1,[.row [.str s,.int .i64 j]],1,md⟩))
 |0,j,m,md,hk,h,_=>by omega
 |f+1,j,0,md,_,_,h=>by omega
 |f+1,j,m+1,md,hk,hf0,hm=>by
   rw[ai];unfold nP;by_cases he:j=s.length
   .have h6:((j:Int)<(s.length:Int))=False:=eq_false (by omega);rw[if_pos (by omega)];refine⟨md,.inl ⟨rfl,rfl,?_⟩⟩;unfold vK hK;simp[mu,mz,eK,dR,eM,dr,gi,aI,h6,he]
   .have HI:j<s.length:=by omega
    have h6:((j:Int)<(s.length:Int))=True:=eq_true (by omega);rw[if_neg (by omega)];have q1:=Qo s j (by omega) HI;obtain⟨b1,b2⟩:=gB (s.drop j);rw[List.length_drop] at b1;generalize bN (s.drop j)=O at *;obtain⟨⟨kd,tx,nm,op,a0⟩,k,e⟩:=O;dsimp only at q1 b1 b2|-;simp only[Int.natCast_add,gi] at q1;by_cases e0:e=0
    .subst e0;rw[if_neg (by simp)];have hk1:=b2 rfl;by_cases X0:((kd=1\/kd=2)/\64<tx.length)\/([]:List Tok).length=1024
     .rw[if_pos X0];refine⟨0,.inr ⟨by simp,rfl,(j+k:Nat),?_⟩⟩;by_cases k1:kd=1
      .by_cases k3:64<tx.length
       .have me:((64:Int)<(tx.length:Int))=True:=eq_true (by omega);simp[mu,mz,eK,dR,eM,dr,gi,aI,h6,q1,k1,me]
       .have me:((64:Int)<(tx.length:Int))=False:=eq_false (by omega);have k4:([]:List Tok).length=1024:=by omega
        exact absurd k4 (by simp)
      .by_cases k2:kd=2
       .by_cases k3:64<tx.length
        .have me:((64:Int)<(tx.length:Int))=True:=eq_true (by omega);simp[mu,mz,eK,dR,eM,dr,gi,aI,h6,q1,k2,me]
        .have me:((64:Int)<(tx.length:Int))=False:=eq_false (by omega);have k4:([]:List Tok).length=1024:=by omega
         exact absurd k4 (by simp)
       .have k4:([]:List Tok).length=1024:=by omega
        exact absurd k4 (by simp)
     .rw[if_neg X0];have hsk:=iM (s.length+1) (s.drop (j+k));rw[List.length_drop] at hsk;have q2:=Dc s (j+k) (by omega) (by omega);simp only[Int.natCast_add] at q2;have n0:(0<=(j:Int)+(k:Int))=True:=eq_true (by omega);have n2:((j:Int)+(k:Int)).toNat=j+k:=by omega
      have aeG:(s[j+k]? =none/\((j:Int)+(k:Int)<(s.length:Int))=False)\/∃d,s[j+k]? =some d/\((j:Int)+(k:Int)<(s.length:Int))=True:=by
       by_cases hx:j+k<s.length
       .exact .inr ⟨s[j+k],List.getElem?_eq_getElem hx,eq_true (by omega)⟩
       .exact .inl ⟨List.getElem?_eq_none (by omega),eq_false (by omega)⟩
      have nu:((0:Int)=1024)=False:=by simp
      have key:∀(b:Bool),decide ((s[j+k]?.map UInt8.toNat)=some 40)=b->(∀(R:Option (Ex×List AV×af)),R=iV 1 0 (cb (aF (aH (cg mu mz) (n+1)) (n+1) eK) dR 1 m (Ew (.str s) (.ptr 0 0) (.vec 1 0 ([]++[(⟨kd,tx,nm,b,j⟩:Tok)]).length 5 ([]++[(⟨kd,tx,nm,b,j⟩:Tok)]).length)) ⟨2,[.row (fI ([]++[(⟨kd,tx,nm,b,j⟩:Tok)])),.row [.str s,.int .i64 (j+k+dG (s.length+1) (s.drop (j+k)):Nat)]],1,0⟩)->
       YQ (nP f s (j+k+dG (s.length+1) (s.drop (j+k))) ([]++[(⟨kd,tx,nm,decide ((s[j+k]?.map UInt8.toNat)=some 40),j⟩:Tok)])) s R):=λb hb R hR=>by
       rw[hR,hb];exact Kz n s hl f ([]++[⟨kd,tx,nm,b,j⟩]) (j+k+dG (s.length+1) (s.drop (j+k))) m 0 (by simp) (by simp<;>omega) (by omega) (by omega) (by omega)
      generalize dG (s.length+1) (s.drop (j+k))=sk at *;have F0:∀b:Bool,fI ([]++[(⟨kd,tx,nm,b,j⟩:Tok)])=fI []++[.int .i64 kd,.str tx,.int .i64 nm,.bool b,.int .i64 j]:=λb=>E1 _ _
      have jc:∀b:Bool,AV.aj (fI []++[.int .i64 kd,.str tx,.int .i64 nm,.bool b,.int .i64 j])=0:=λb=>by rw[<-F0];exact xR _
      rcases aeG with⟨x1,x2⟩|⟨d,x1,x2⟩
      .by_cases k1:kd=1
       .obtain rfl:=k1;have me:((64:Int)<(tx.length:Int))=False:=eq_false (by omega);refine key false (by simp[x1]) _ ?_;simp only[F0,List.length_append,List.length_cons,List.length_nil,Nat.zero_add,Int.natCast_add,fI,List.flatMap_nil,List.flatMap_cons,List.append_nil,Tok.cells,List.nil_append,mu,mz];simp[mu,mz,eK,dR,eM,dr,gi,aI,h6,q1,q2,n0,n2,nu,x2,me]
       .by_cases k2:kd=2
        .obtain rfl:=k2;have me:((64:Int)<(tx.length:Int))=False:=eq_false (by omega);refine key false (by simp[x1]) _ ?_;simp only[F0,List.length_append,List.length_cons,List.length_nil,Nat.zero_add,Int.natCast_add,fI,List.flatMap_nil,List.flatMap_cons,List.append_nil,Tok.cells,List.nil_append,mu,mz];simp[mu,mz,eK,dR,eM,dr,gi,aI,h6,q1,q2,n0,n2,nu,x2,me]
        .refine key false (by simp[x1]) _ ?_;simp only[F0,List.length_append,List.length_cons,List.length_nil,Nat.zero_add,Int.natCast_add,fI,List.flatMap_nil,List.flatMap_cons,List.append_nil,Tok.cells,List.nil_append,mu,mz];simp[mu,mz,eK,dR,eM,dr,gi,aI,h6,q1,q2,n0,n2,nu,x2,k1,k2]
      .by_cases TH:d.toNat=40
       .have x9:((d.toNat:Int)=40)=True:=eq_true (by omega);by_cases k1:kd=1
        .obtain rfl:=k1;have me:((64:Int)<(tx.length:Int))=False:=eq_false (by omega);refine key true (by simp[x1,TH]) _ ?_;simp only[F0,List.length_append,List.length_cons,List.length_nil,Nat.zero_add,Int.natCast_add,fI,List.flatMap_nil,List.flatMap_cons,List.append_nil,Tok.cells,List.nil_append,mu,mz];simp[mu,mz,eK,dR,eM,dr,gi,aI,h6,q1,q2,n0,n2,nu,x1,x2,x9,me]
        .by_cases k2:kd=2
         .obtain rfl:=k2;have me:((64:Int)<(tx.length:Int))=False:=eq_false (by omega);refine key true (by simp[x1,TH]) _ ?_;simp only[F0,List.length_append,List.length_cons,List.length_nil,Nat.zero_add,Int.natCast_add,fI,List.flatMap_nil,List.flatMap_cons,List.append_nil,Tok.cells,List.nil_append,mu,mz];simp[mu,mz,eK,dR,eM,dr,gi,aI,h6,q1,q2,n0,n2,nu,x1,x2,x9,me]
         .refine key true (by simp[x1,TH]) _ ?_;simp only[F0,List.length_append,List.length_cons,List.length_nil,Nat.zero_add,Int.natCast_add,fI,List.flatMap_nil,List.flatMap_cons,List.append_nil,Tok.cells,List.nil_append,mu,mz];simp[mu,mz,eK,dR,eM,dr,gi,aI,h6,q1,q2,n0,n2,nu,x1,x2,x9,k1,k2]
       .have x9:((d.toNat:Int)=40)=False:=eq_false (by omega);by_cases k1:kd=1
        .obtain rfl:=k1;have me:((64:Int)<(tx.length:Int))=False:=eq_false (by omega);refine key false (by simp[x1,TH]) _ ?_;simp only[F0,List.length_append,List.length_cons,List.length_nil,Nat.zero_add,Int.natCast_add,fI,List.flatMap_nil,List.flatMap_cons,List.append_nil,Tok.cells,List.nil_append,mu,mz];simp[mu,mz,eK,dR,eM,dr,gi,aI,h6,q1,q2,n0,n2,nu,x1,x2,x9,me]
        .by_cases k2:kd=2
         .obtain rfl:=k2;have me:((64:Int)<(tx.length:Int))=False:=eq_false (by omega);refine key false (by simp[x1,TH]) _ ?_;simp only[F0,List.length_append,List.length_cons,List.length_nil,Nat.zero_add,Int.natCast_add,fI,List.flatMap_nil,List.flatMap_cons,List.append_nil,Tok.cells,List.nil_append,mu,mz];simp[mu,mz,eK,dR,eM,dr,gi,aI,h6,q1,q2,n0,n2,nu,x1,x2,x9,me]
         .refine key false (by simp[x1,TH]) _ ?_;simp only[F0,List.length_append,List.length_cons,List.length_nil,Nat.zero_add,Int.natCast_add,fI,List.flatMap_nil,List.flatMap_cons,List.append_nil,Tok.cells,List.nil_append,mu,mz];simp[mu,mz,eK,dR,eM,dr,gi,aI,h6,q1,q2,n0,n2,nu,x1,x2,x9,k1,k2]
    .rw[if_pos e0];refine⟨0,.inr ⟨e0,rfl,(j+k:Nat),?_⟩⟩;simp[mu,mz,eK,dR,eM,dr,gi,aI,h6,q1,e0]
def yS(l:List Tok):AV:=match l with
 |[]=>.aD
 |_=>.sl (l.map Tok.aR)
def B3(r:List Tok×Int×Int):AV:=.tuple [yS r.1,.int .i64 r.2.1,.int .i64 r.2.2]
theorem Nq(l:List Tok):(yS l).aK=0:=by
 cases l with
 |nil=>rfl
 |cons x r=>rfl
theorem UN:∀(f:Nat) (s:List UInt8) (j:Nat) (aJ:List Tok),(nP f s j aJ).2.2≠0->(nP f s j aJ).1=[]
 |0,s,j,aJ,_=>rfl
 |f+1,s,j,aJ,h=>by
   unfold nP at h|-;split
   .rename_i h1;rw[if_pos h1] at h;exact absurd rfl h
   .rename_i h1;rw[if_neg h1] at h;split
    .rfl
    .rename_i h2;rw[if_neg h2] at h;split
     .rfl
     .rename_i h3;rw[if_neg h3] at h;exact UN f s _ _ h
theorem ZK(s:List UInt8):∃h',aH (cg mu mz) (s.length+4) 15 [.str s] h0=some (B3 (dC s),h')/\(B3 (dC s)).aK=0:=by
 have hrefs:∀r:List Tok×Int×Int,(B3 r).aK=0:=λr=>by simp[B3,AV.aK,AV.aj,Nq]
 refine Exists.elim ?_ λh' hh=>⟨h',hh,hrefs _⟩
 unfold dC;by_cases hl:4096<s.length
 .have h1:((4096:Int)<(s.length:Int))=True:=eq_true (by omega);rw[if_pos hl];exact⟨_,by simp[mu,mz,H4,c15,h1,B3,yS,eM,dr];rfl⟩
 have h1:((4096:Int)<(s.length:Int))=False:=eq_false (by omega);rw[if_neg hl];have q2:=Dc s 0 (by omega) (by omega);have hsk:=iM (s.length+1) s;simp only[List.drop_zero,Nat.zero_add] at q2;have q2':Eu.S [.ptr 0 0] [.row [.str s,.int .i64 0]]=some (.tuple [],some [.row [.str s,.int .i64 (dG (s.length+1) s:Nat)]]):=q2;have lp:=SW (s.length+2) s (by omega) (s.length+1) (dG (s.length+1) s) (s.length+3) 0 hsk (by omega) (by omega);generalize nP (s.length+1) s (dG (s.length+1) s) []=R at *;obtain⟨l,bM,e⟩:=R;simp only[mu,mz,dR,Ew] at lp;obtain⟨md,⟨e1,e2,e3⟩|⟨e1,e2,x,e3⟩⟩:=lp
 .dsimp only at e1 e2 e3;subst e1 e2
  cases l with
  |nil=>simp only[vK,hK] at e3;exact⟨_,by simp[mu,mz,H4,c15,dR,h1,B3,yS,q2',eM,dr,e3];with_reducible rfl⟩
  |cons t r=>
    simp only[vK,hK] at e3;have fk:∀d,jH ⟨2,[.row (fI (t::r)),.row [.str s,.int .i64 s.length]],0,md⟩ 0 (d+2) (.vec 1 0 (r.length+1) 5 (r.length+1))=some (.sl ((t::r).map Tok.aR),[1]):=λd=>agD t r (Nat.zero_le 1) rfl
    have rf:=R1 (t::r);rw[List.map_cons,AV.aj] at rf;exact⟨_,by simp[mu,mz,H4,c15,dR,h1,B3,yS,q2',eM,dr,e3,fk,rf,-mj];with_reducible rfl⟩
 .dsimp only at e1 e2 e3;subst e2;exact⟨_,by simp[mu,mz,H4,c15,dR,h1,B3,yS,q2',eM,dr,e3];with_reducible rfl⟩
noncomputable def Ns:aZ:=⟨15,λ
 |[.str s]=>some (B3 (dC s))
 |_=>none⟩
theorem sa:Ns.f=15:=(rfl)
theorem Px(s:List UInt8):Ns.S [.str s]=some (B3 (dC s)):=(rfl)
theorem Pk:dX Tryz.prog bV Ns:=λaa v hv=>by
 unfold Ns at hv|-;dsimp only at hv|-;split at hv
 .rename_i s;cases hv;obtain⟨h',e,hr⟩:=ZK s;exact cf (dW (ss:=mu) (by simp[mu]) ac3) e hr (by simp[AV.aK,AV.aj])
 .cases hv
def iN(s:List UInt8):Bool:=match dC s with
 |([t],_,e)=>decide (e=0)&&decide (t.ah=1)&&decide (t.ay=s)
 |_=>false
def uC:aZ:=⟨64,λ
 |[.str s]=>some (.bool (iN s))
 |_=>none⟩
theorem eP:uC.f=64:=(rfl)
theorem HH(s:List UInt8):uC.S [.str s]=some (.bool (iN s)):=(rfl)
theorem HD:dX Tryz.prog bV uC:=λaa v hv=>by
 unfold uC at hv|-;dsimp only at hv|-;split at hv
 .rename_i s;cases hv;refine cf (n:=5) (h':=h0) (kz (ss:=[Ns]) (by simp[Pk])) ?_ (by simp[AV.aK]) (by simp[AV.aK,AV.aj]);have q:=Px s;have hn:=UN (s.length+1) s (dG (s.length+1) s) []
  have hn':(dC s).2.2≠0->(dC s).1=[]:=by
   unfold dC;split
   .exact λ_=>rfl
   .exact hn
  unfold iN;generalize dC s=R at *;obtain⟨l,a,e⟩:=R;dsimp only at hn';unfold B3 yS at q;by_cases he:e=0
  .subst he
   cases l with
   |nil=>simp[Gv,ZQ,sa,q]
   |cons t r=>
     cases r with
     |nil=>
       obtain⟨kd,tx,nm,op,bM⟩:=t;simp only[List.map_cons,List.map_nil,Tok.aR,Tok.cells] at q;by_cases k1:kd=1
       .subst k1;by_cases k2:tx=s
        .subst k2;simp[Gv,ZQ,sa,q]
        .have k3:(tx==s)=false:=by simpa using k2
         simp[Gv,ZQ,sa,q,k2,k3]
       .simp[Gv,ZQ,sa,q,k1]
     |cons t2 r=>simp only[List.map_cons] at q;have k1:((r.length:Int)+1+1=1)=False:=eq_false (by omega);simp[Gv,ZQ,sa,q,k1]
  .obtain rfl:l=[]:=hn' he;simp[Gv,ZQ,sa,q,he]
 .cases hv
def xG(d:UInt8):Option UInt8:=if d.toNat=10 then some 110 else if d.toNat=9 then some 116 else if d.toNat=92 then some 92 else if d.toNat=39 then some 39 else none
theorem K3(d:UInt8):(∀b,xG d=some b->∃i:Nat,kV d.toNat [10,9,92,39]=(i:Int)/\([110,116,92,39]:List UInt8)[i]? =some b)/\(xG d=none->kV d.toNat [10,9,92,39]=-1):=by
 have nb:∀a:Nat,a≠d.toNat->Nat.beq a d.toNat=false:=λa h=>by
  cases hb:Nat.beq a d.toNat with
  |false=>rfl
  |true=>exact absurd (Nat.eq_of_beq_eq_true hb) h
 have yb:∀a:Nat,a=d.toNat->Nat.beq a d.toNat=true:=λa h=>by rw[h];exact Nat.beq_refl _
 have t1:(10:UInt8).toNat=10:=rfl;have t2:(9:UInt8).toNat=9:=rfl;have t3:(92:UInt8).toNat=92:=rfl;have t4:(39:UInt8).toNat=39:=rfl;unfold xG;by_cases h1:d.toNat=10
 .rw[if_pos h1];refine⟨λb e=>⟨0,?_,by cases e;rfl⟩,λe=>by cases e⟩;simp[kV,t1,yb 10 h1.symm]
 rw[if_neg h1];by_cases h2:d.toNat=9
 .rw[if_pos h2];refine⟨λb e=>⟨1,?_,by cases e;rfl⟩,λe=>by cases e⟩;simp[kV,t1,t2,nb 10 (Ne.symm h1),yb 9 h2.symm]
 rw[if_neg h2];by_cases h3:d.toNat=92
 .rw[if_pos h3];refine⟨λb e=>⟨2,?_,by cases e;rfl⟩,λe=>by cases e⟩;simp[kV,t1,t2,t3,nb 10 (Ne.symm h1),nb 9 (Ne.symm h2),yb 92 h3.symm]
 rw[if_neg h3];by_cases h4:d.toNat=39
 .rw[if_pos h4];refine⟨λb e=>⟨3,?_,by cases e;rfl⟩,λe=>by cases e⟩;simp[kV,t1,t2,t3,t4,nb 10 (Ne.symm h1),nb 9 (Ne.symm h2),nb 92 (Ne.symm h3),yb 39 h4.symm]
 rw[if_neg h4];refine⟨λb e=>(by cases e),λ_=>?_⟩;simp[kV,t1,t2,t3,t4,nb 10 (Ne.symm h1),nb 9 (Ne.symm h2),nb 92 (Ne.symm h3),nb 39 (Ne.symm h4)];rfl
def ua:List UInt8->List UInt8->Option (List UInt8)
 |[],aJ=>some aJ
 |c::r,aJ=>match xG c with
   |some d=>ua r (aJ++[92,d])
   |none=>if c.toNat<32\/126<c.toNat then none else ua r (aJ++[c])
def bd(s:List UInt8):List UInt8:=if iN s then s else if 64<s.length then [] else match ua s [39] with
 |some t=>t++[39]
 |none=>[]
theorem H0{c d:UInt8}{r aJ:List UInt8}(h:xG c=some d):ua (c::r) aJ=ua r (aJ++[92,d]):=by
 conv=>lhs;unfold ua
 rw[h]
theorem MX{c:UInt8}{r aJ:List UInt8}(h:xG c=none)(h2:c.toNat<32\/126<c.toNat):ua (c::r) aJ=none:=by unfold ua;rw[h];dsimp only;rw[if_pos h2]
theorem Ii{c:UInt8}{r aJ:List UInt8}(h:xG c=none)(h2:¬(c.toNat<32\/126<c.toNat)):ua (c::r) aJ=ua r (aJ++[c]):=by
 conv=>lhs;unfold ua
 rw[h];dsimp only;rw[if_neg h2]
def Eb:List aZ:=[uC,ig]
theorem ad7:∀s∈Eb,dX Tryz.prog bV s:=by simp[Eb,HD,nw.lift]
def abg(q:Option (List UInt8))(R:Option (Ex×List AV×af)):Prop:=
 ∃cS,(∃t,q=some t/\t≠[]/\t.length<=1000/\R=some (.exit 0,FM 47 [(3,.vec 1 0 t.length 1 t.length)],⟨2,[.row (cY t),.dead],0,cS⟩))\/
   (q=none/\∃nx os wl md,os.length<=nx/\R=some (.ret,FM 47 [(2,.str [])],⟨nx,os,wl,md⟩))
theorem yW(n:Nat)(s:List UInt8)(hl:s.length<=64):∀(post pre aJ:List UInt8) (m md:Nat),s=pre++post->aJ≠[]->aJ.length<=2*pre.length+1->post.length<m->
 abg (ua post aJ) (iV 1 0 (cb (aF (aH (cV Eb) (n+1)) (n+1) mX) kP 1 m (Og (.vec 1 0 aJ.length 1 aJ.length) (.sl (cY s)) (.int .i64 s.length) (.int .i64 pre.length)) ⟨2,[.row (cY aJ),.dead],1,md⟩))
 |_,_,_,0,_,_,_,_,h=>by omega
 |[],pre,aJ,m+1,md,hs,fB,hac,hm=>by rw[ai];have hf:=gw aJ;have hb:=rN aJ;have cT:=lF aJ;rw[List.append_nil] at hs;subst hs;refine⟨md,.inl ⟨aJ,rfl,fB,by omega,?_⟩⟩;simp[Eb,mX,kP,hf]
 |c::r,pre,aJ,m+1,md,hs,fB,hac,hm=>by
   rw[ai];have BZ:pre.length+r.length+1=s.length:=by rw[hs];simp;omega
   have hf:=gw aJ;have hb:=rN aJ;have cT:=lF aJ;have h8:aJ.length+1<=140737488355328:=by omega
   have h9:aJ.length+1<9223372036854775808:=by omega
   have h8b:aJ.length+2<=140737488355328:=by omega
   have h9b:aJ.length+2<9223372036854775808:=by omega
   have kj:(cY aJ).take aJ.length=cY aJ:=by rw[List.take_of_length_le];omega
   have h7:(aJ.length+2<=aJ.length)=False:=eq_false (by omega);have h6:((pre.length:Int)<(s.length:Int))=True:=eq_true (by omega);have hc:s[pre.length]? =some c:=by rw[hs];simp
   have hcV:(cY s)[pre.length]? =some (.int .u8 c.toNat):=by unfold cY;rw[List.getElem?_map,hc];rfl
   have h3:IntKind.i64.wrap ((pre.length:Int)+1)=(pre.length:Int)+1:=wrap_i64 (by omega) (by omega);have nD:=lF s;have q:=fq [10,9,92,39] c;obtain⟨x1,x2⟩:=K3 c
   cases he:xG c with
   |some d=>
     rw[H0 he];obtain⟨i,y1,y2⟩:=x1 d he;rw[y1] at q;have y3:(0<=(i:Int))=True:=eq_true (by omega);have ih:=yW n s hl r (pre++[c]) (aJ++[92,d]) m (min md 1) (by rw[hs];simp) (by simp) (by simp;omega) (by simp at hm;omega);have hv:cY (aJ++[92,d])=cY aJ++[.int .u8 92,.int .u8 d.toNat]:=by simp[cY]
     have jc:AV.aj (cY aJ++[.int .u8 92,.int .u8 d.toNat])=0:=by rw[<-hv];exact gw _
     simp only[List.length_append,List.length_cons,List.length_nil,Nat.zero_add,Int.natCast_add,Int.natCast_one,Eb,hv,Nat.reduceAdd] at ih;simp[Eb,mX,kP,eP,aG,hf,hb,cT,h8,h8b,h9,h9b,kj,aI,h6,h7,hcV,nD,h3,q,y2,y3,jc];exact ih
   |none=>
     rw[x2 he] at q;by_cases k:c.toNat<32\/126<c.toNat
     .rw[MX he k];refine⟨0,.inr ⟨rfl,?_⟩⟩;by_cases k1:c.toNat<32
      .have ui:((c.toNat:Int)<32)=True:=eq_true (by omega);refine⟨_,_,_,_,?_,by simp[Eb,mX,kP,eP,aG,hf,hb,cT,h8,h8b,h9,h9b,kj,aI,h6,h7,hcV,nD,h3,q,ui];exact⟨rfl,rfl,rfl,rfl⟩⟩;simp
      .have ui:((c.toNat:Int)<32)=False:=eq_false (by omega);have Cl:(126<(c.toNat:Int))=True:=eq_true (by omega);refine⟨_,_,_,_,?_,by simp[Eb,mX,kP,eP,aG,hf,hb,cT,h8,h8b,h9,h9b,kj,aI,h6,h7,hcV,nD,h3,q,ui,Cl];exact⟨rfl,rfl,rfl,rfl⟩⟩;simp
     .rw[Ii he k];have ui:((c.toNat:Int)<32)=False:=eq_false (by omega);have Cl:(126<(c.toNat:Int))=False:=eq_false (by omega);have ih:=yW n s hl r (pre++[c]) (aJ++[c]) m (min md 1) (by rw[hs];simp) (by simp) (by simp;omega) (by simp at hm;omega);have hv:cY (aJ++[c])=cY aJ++[.int .u8 c.toNat]:=by simp[cY]
      have jc:AV.aj (cY aJ++[.int .u8 c.toNat])=0:=by rw[<-hv];exact gw _
      simp only[List.length_append,List.length_cons,List.length_nil,Nat.zero_add,Int.natCast_add,Int.natCast_one,Eb,hv,Nat.reduceAdd] at ih;simp[Eb,mX,kP,eP,aG,hf,hb,cT,h8,h8b,h9,h9b,kj,aI,h6,h7,hcV,nD,h3,q,ui,Cl,jc];exact ih
theorem SL(n:Nat)(s:List UInt8)(hl:s.length<=64):∀(c:UInt8) (r:List UInt8) (m md:Nat),s=c::r->r.length+1<m->
 abg (ua (c::r) [39]) (iV 1 0 (cb (aF (aH (cV Eb) (n+1)) (n+1) mX) kP 1 m (Og (.vec 0 0 1 1 1) (.sl (cY s)) (.int .i64 s.length) (.int .i64 0)) ⟨1,[.row [.int .u8 39]],1,md⟩))
 |c,r,0,md,hs,hm=>by omega
 |c,r,m+1,md,hs,hm=>by
   rw[ai];have BZ:r.length+1=s.length:=by rw[hs];simp
   have hf:AV.aj [AV.int .u8 39]=0:=rfl;have hb:True:=trivial;have cT:True:=trivial;have h8:True:=trivial;have h9:True:=trivial;have h8b:True:=trivial;have h9b:True:=trivial;have kj:True:=trivial;have h6:(0<s.length)=True:=eq_true (by omega);have h7:True:=trivial;have hcV:True:=trivial;have eV:cY s=.int .u8 c.toNat::cY r:=by rw[hs];rfl
   rw[eV];have h3:IntKind.i64.wrap 1=1:=rfl;have nD:(cY r).length+1=s.length:=by rw[lF];omega
   have q:=fq [10,9,92,39] c;obtain⟨x1,x2⟩:=K3 c
   cases he:xG c with
   |some d=>
     rw[H0 he];obtain⟨i,y1,y2⟩:=x1 d he;rw[y1] at q;have y3:(0<=(i:Int))=True:=eq_true (by omega);have ih:=yW n s hl r ([]++[c]) ([39]++[92,d]) m 0 (by rw[hs];rfl) (by simp) (by simp) (by omega);have hv:cY ([39]++[92,d])=[.int .u8 39,.int .u8 92,.int .u8 d.toNat]:=by simp[cY]
     have jc:AV.aj ([.int .u8 39,.int .u8 92,.int .u8 d.toNat])=0:=by rw[<-hv];exact gw _
     rw[eV] at ih;simp only[List.length_append,List.length_cons,List.length_nil,Nat.zero_add,Int.natCast_add,Int.natCast_one,Eb,hv,Nat.reduceAdd] at ih;simp[Eb,mX,kP,eP,aG,hf,hb,cT,h8,h8b,h9,h9b,kj,aI,h6,h7,hcV,nD,h3,q,y2,y3,jc];exact ih
   |none=>
     rw[x2 he] at q;by_cases k:c.toNat<32\/126<c.toNat
     .rw[MX he k];refine⟨0,.inr ⟨rfl,?_⟩⟩;by_cases k1:c.toNat<32
      .have ui:((c.toNat:Int)<32)=True:=eq_true (by omega);refine⟨_,_,_,_,?_,by simp[Eb,mX,kP,eP,aG,hf,hb,cT,h8,h8b,h9,h9b,kj,aI,h6,h7,hcV,nD,h3,q,ui];exact⟨rfl,rfl,rfl,rfl⟩⟩;simp
      .have ui:((c.toNat:Int)<32)=False:=eq_false (by omega);have Cl:(126<(c.toNat:Int))=True:=eq_true (by omega);refine⟨_,_,_,_,?_,by simp[Eb,mX,kP,eP,aG,hf,hb,cT,h8,h8b,h9,h9b,kj,aI,h6,h7,hcV,nD,h3,q,ui,Cl];exact⟨rfl,rfl,rfl,rfl⟩⟩;simp
     .rw[Ii he k];have ui:((c.toNat:Int)<32)=False:=eq_false (by omega);have Cl:(126<(c.toNat:Int))=False:=eq_false (by omega);have ih:=yW n s hl r ([]++[c]) ([39]++[c]) m 0 (by rw[hs];rfl) (by simp) (by simp) (by omega);have hv:cY ([39]++[c])=[.int .u8 39,.int .u8 c.toNat]:=by simp[cY]
      have jc:AV.aj ([.int .u8 39,.int .u8 c.toNat])=0:=by rw[<-hv];exact gw _
      rw[eV] at ih;simp only[List.length_append,List.length_cons,List.length_nil,Nat.zero_add,Int.natCast_add,Int.natCast_one,Eb,hv,Nat.reduceAdd] at ih;simp[Eb,mX,kP,eP,aG,hf,hb,cT,h8,h8b,h9,h9b,kj,aI,h6,h7,hcV,nD,h3,q,ui,Cl,jc];exact ih
noncomputable def kS:aZ:=⟨31,λ
 |[.str s]=>some (.str (bd s))
 |_=>none⟩
theorem ca:kS.f=31:=(rfl)
theorem oP(s:List UInt8):kS.S [.str s]=some (.str (bd s)):=(rfl)
theorem vE:dX Tryz.prog bV kS:=λaa v hv=>by
 unfold kS at hv|-;dsimp only at hv|-;split at hv
 .rename_i s;cases hv;refine cf (n:=102) (h':=h0) (kz ad7) ?_ (by simp[AV.aK]) (by simp[AV.aK,AV.aj]);have q:=HH s;unfold bd
  cases hp:iN s with
  |true=>rw[hp] at q;simp[Eb,JX,c31,eP,aG,q]
  |false=>
    rw[hp] at q;simp only[Bool.false_eq_true,if_false];by_cases hl:64<s.length
    .have qR:((64:Int)<(s.length:Int))=True:=eq_true (by omega);rw[if_pos hl];simp[Eb,JX,c31,eP,aG,q,qR]
    .have qR:((64:Int)<(s.length:Int))=False:=eq_false (by omega);rw[if_neg hl];have e1:(s.map λb=>AV.int .u8 b.toNat)=cY s:=rfl;have nD:=lF s
     cases s with
     |nil=>simp[Eb,JX,c31,kP,mX,eP,aG,q,ai,ua,aI,bytesOf]
     |cons c r=>
     have lp:=SL 100 (c::r) (by omega) c r 101 0 rfl (by simp at hl;omega);simp only[Eb,Og,kP] at lp;obtain⟨md,⟨t,e3,fB,htl,e4⟩|⟨e3,nx,os,wl,md,xX,e4⟩⟩:=lp
     .rw[e3];have hf:=gw t;have hb:=rN (t++[39]);rw[lV,show (((39:UInt8).toNat:Nat):Int)=39 from rfl] at hb;have cT:=lF t;have h8:t.length+1<=140737488355328:=by omega
      have h9:t.length+1<9223372036854775808:=by omega
      have kj:(cY t).take t.length=cY t:=by rw[List.take_of_length_le];omega
      have pE:(cY t++[AV.int .u8 39]).take (t.length+1)=cY t++[.int .u8 39]:=by rw[List.take_of_length_le];simp[cT]
      generalize c::r=s at *;simp[Eb,JX,c31,kP,eP,aG,q,qR,e1,nD,e4,pE,hf,hb,cT,h8,h9,kj,aI]
     .rw[e3];generalize c::r=s at *;simp[Eb,JX,c31,kP,eP,aG,q,qR,e1,nD,e4,xX]
 .cases hv
def FO(s:List UInt8)(b:Bool):List UInt8:=if b then [40]++s++[41] else s
def qZ(t:Tm):Bool:=decide (-9223372036854775808<=t.bx)&&decide (t.bx<9223372036854775808)
def vZ(t:Tm):Prop:=dt t=true/\t.gr<1000000000/\t.fg qZ=true
def qX(t:Tm):Tm:=t.aa.getD 0 (.nl 0 0 [])
def GY(t:Tm):Tm:=t.aa.getD 1 (.nl 0 0 [])
theorem mw{us:List Tm}{y:Tm}(h:y∈us):y.size<=Tm.bE us:=by
 induction us with
 |nil=>simp at h
 |cons t r ih=>
   simp only[Tm.bE];rcases List.mem_cons.1 h with rfl|h
   .omega
   .have:=ih h;omega
theorem SV{us:List Tm}{y:Tm}(h:y∈us):y.fP<=Tm.lI us:=by
 induction us with
 |nil=>simp at h
 |cons t r ih=>
   simp only[Tm.lI];rcases List.mem_cons.1 h with rfl|h
   .omega
   .have:=ih h;omega
theorem AY{p:Tm->Bool}:∀{us:List Tm},Tm.eX p us=true->∀y∈us,y.fg p=true
 |[],_,y,h=>by simp at h
 |t::r,h,y,hy=>by
   simp only[Tm.eX,Bool.and_eq_true] at h;rcases List.mem_cons.1 hy with rfl|hy
   .exact h.1
   .exact AY h.2 y hy
theorem gO{t y:Tm}(h:vZ t)(hy:y∈t.aa):vZ y:=by obtain⟨h1,h2,h3⟩:=h;simp only[dt,Bool.and_eq_true,decide_eq_true_eq] at h1;have e1:=bP t;have e2:=EB t;have e3:=Bk t;have f1:=mw hy;have f2:=SV hy;have f3:=D3 _ _ hy;rw[iO,Bool.and_eq_true] at h3;have g:=h1.2;rw[iO,Bool.and_eq_true] at g;refine⟨?_,by omega,AY h3.2 y hy⟩;simp only[dt,Bool.and_eq_true,decide_eq_true_eq];exact⟨⟨by omega,by omega⟩,AY g.2 y hy⟩
theorem pg{t:Tm}(h:1<=t.aa.length):qX t∈t.aa:=by unfold qX;rw[List.getD_eq_getElem?_getD,List.getElem?_eq_getElem (by omega)];exact List.getElem_mem _
theorem OW{t:Tm}(h:2<=t.aa.length):GY t∈t.aa:=by unfold GY;rw[List.getD_eq_getElem?_getD,List.getElem?_eq_getElem (by omega)];exact List.getElem_mem _
theorem oT:∀(k:Nat) (t:Tm),t.size<=k->vZ t->(∀y∈(aX t).1,vZ y/\y.size<t.size)/\vZ (aX t).2/\(gj t=true->(aX t).2.size<t.size)
 |0,t,hk,_=>by have:=bP t;omega
 |k+1,t,hk,h=>by
   cases hd:gj t with
   |false=>rw[nc hd];exact⟨λy hy=>by simp at hy,h,λe=>by cases e⟩
   |true=>
     obtain⟨x,r,e1,e2⟩:=jR hd;have hs:=bP t;rw[e1] at hs;simp only[Tm.bE] at hs;have hx:=gO h (y:=x) (by rw[e1];simp);have hr:=gO h (y:=r) (by rw[e1];simp);obtain⟨i1,i2,i3⟩:=oT k r (by omega) hr;rw[e2];refine⟨λy hy=>?_,i2,λ_=>?_⟩
     .rcases List.mem_cons.1 hy with rfl|hy
      .exact⟨hx,by omega⟩
      .exact⟨(i1 y hy).1,by have:=(i1 y hy).2;omega⟩
     .dsimp only
      cases Yn:gj r with
      |true=>have:=i3 Yn;omega
      |false=>rw[nc Yn];dsimp only;omega
theorem pK:∀(k:Nat) (t:Tm),t.size<=k->Tm.bE (aX t).1+(aX t).2.size<=t.size/\(gj t=true->Tm.bE (aX t).1+(aX t).2.size+1<=t.size)
 |0,t,hk=>by have:=bP t;omega
 |k+1,t,hk=>by
   cases hd:gj t with
   |false=>rw[nc hd];exact⟨by simp[Tm.bE],λe=>by cases e⟩
   |true=>obtain⟨x,r,e1,e2⟩:=jR hd;have hs:=bP t;rw[e1] at hs;simp only[Tm.bE] at hs;have:=(pK k r (by omega)).1;rw[e2];simp only[Tm.bE];exact⟨by omega,λ_=>by omega⟩
def eT(T:List aY)(b:Bool)(t:Tm):aY×Bool:=if !b||!decide (t.aa.length=2)||decide (t.aC=[46]) then (fF,false) else aM T t.aC false
def iS(T:List aY)(b:Bool)(t:Tm):aY×Bool:=if !b||!decide (t.aa.length=1)||(decide (t.aC=[45])&&decide ((qX t).ah=1))||!iN t.aC then (fF,false) else aM T t.aC true
def wV(T:List aY)(b:Bool)(s:List UInt8)(n:Int)(bs:Bool):List UInt8:=FO (bd s) ((b&&((aM T s false).2||(aM T s true).2))&&(bs||decide (n<max (aM T s false).1.l (aM T s true).1.l)))
def uv(s:List UInt8):List UInt8:=if s=[44] then [44] else [32]++bd s++[32]
def isLeft(o:aY):Bool:=decide (o.k=[121,102,120])
def oh(T:List aY)(b:Bool)(o:aY)(t:Tm):Int:=if isLeft o&&!((eT T b (qX t)).2&&isLeft (eT T b (qX t)).1) then (ax o).1-1 else (ax o).1
def o4(t:Tm):Bool:=!decide (t.ah<2)&&decide (t.aC=[91,93])&&decide (t.aa.length=0)
def wT(T:List aY)(b:Bool)(vr:Int->List UInt8):Nat->Tm->Int->Bool->List UInt8
 |0,_,_,_=>[]
 |N+1,t,n,bs=>
   if t.ah=0 then vr t.bx
   else if t.ah=1 then FO (bz t.bx) (bs&&decide (t.bx<0))
   else if t.aa.length=0 then wV T b t.aC n bs
   else if (b&&decide (t.aC=[46]))&&decide (t.aa.length=2) then
    [91]++Lib.join ((aX t).1.map λx=>wT T b vr N x 999 false) [44]++(if o4 (aX t).2 then [] else [124]++wT T b vr N (aX t).2 999 false)++[93]
   else if (b&&decide (t.aC=[123,125]))&&decide (t.aa.length=1) then [123]++wT T b vr N (qX t) 1200 false++[125]
   else if (eT T b t).2 then
    FO (wT T b vr N (qX t) (oh T b (eT T b t).1 t) true++uv t.aC++wT T b vr N (GY t) (ax (eT T b t).1).2 true) (decide (n<(eT T b t).1.l))
   else if (iS T b t).2 then
    FO (bd t.aC++[32]++wT T b vr N (qX t) (ax (iS T b t).1).2 true) (decide (n<(iS T b t).1.l))
   else bd t.aC++[40]++Lib.join (t.aa.map λx=>wT T b vr N x 999 false) [44]++[41]
theorem CQ(s:List UInt8)(b:Bool):(FO s b).length<=s.length+2:=by unfold FO;split<;>simp
theorem zE:∀(r aJ t:List UInt8),ua r aJ=some t->t.length<=aJ.length+2*r.length
 |[],aJ,t,h=>by cases h;omega
 |c::r,aJ,t,h=>by
   unfold ua at h;split at h
   .have:=zE r _ t h;simp at this|-;omega
   .split at h
    .cases h
    .have:=zE r _ t h;simp at this|-;omega
theorem jL{s:List UInt8}(h:s.length<=64):(bd s).length<=130:=by
 unfold bd;split
 .omega
 .split
  .simp
  .split
   .rename_i t ht;have:=zE _ _ _ ht;simp at this|-;omega
   .simp
theorem rk(p:List UInt8):∀l:List (List UInt8),(Lib.join l p).length<=(l.map λs=>s.length+p.length).sum
 |[]=>by simp[Lib.join]
 |[s]=>by simp[Lib.join]
 |s::r::q=>by
   have:=rk p (r::q);have e:Lib.join (s::r::q) p=s++p++Lib.join (r::q) p:=by simp[Lib.join,List.intercalate,List.intersperse]
   rw[e];simp only[List.length_append,List.map_cons,List.sum_cons] at this|-;omega
theorem wi(n:Int)(h:-9223372036854775808<=n/\n<9223372036854775808):(bz n).length<=20:=by rw[rE n h.1 h.2];exact (aad n h.1 h.2).2
theorem EY{t:Tm}(h:vZ t):t.aC.length<=64:=by
 have h1:=h.1;simp only[dt,Bool.and_eq_true,decide_eq_true_eq] at h1;have g:=h1.2;rw[iO,Bool.and_eq_true] at g;have o:=g.1;unfold fJ at o;split at o
 .simp only[Bool.and_eq_true,decide_eq_true_eq] at o;rw[o.1.2];simp
 .split at o
  .simp only[Bool.and_eq_true,decide_eq_true_eq] at o;rw[o.1];simp
  .split at o
   .simp only[Bool.and_eq_true,decide_eq_true_eq,gU] at o;exact o.1.2.2
   .cases o
theorem rB{t:Tm}(h:vZ t):t.ah=0\/t.ah=1\/t.ah=2:=by
 have h1:=h.1;simp only[dt,Bool.and_eq_true,decide_eq_true_eq] at h1;have g:=h1.2;rw[iO,Bool.and_eq_true] at g;have o:=g.1;unfold fJ at o;split at o
 .rename_i e;exact .inl e
 .split at o
  .rename_i e;exact .inr (.inl e)
  .split at o
   .rename_i e;exact .inr (.inr e)
   .cases o
theorem Cq{t:Tm}(h:vZ t):-9223372036854775808<=t.bx/\t.bx<9223372036854775808:=by have:=h.2.2;rw[iO,Bool.and_eq_true] at this;simp only[qZ,Bool.and_eq_true,decide_eq_true_eq] at this;exact this.1
theorem GZ{s:List UInt8}(h:s.length<=64):(uv s).length<=132:=by have:=jL h;unfold uv;split<;>simp<;>omega
theorem AW{f:Tm->Nat}:∀(us:List Tm),(∀y∈us,f y+10<=150*y.size)->(us.map λy=>f y+1).sum<=150*Tm.bE us
 |[],_=>by simp
 |t::r,h=>by have h1:=h t (by simp);have h2:=AW r (λy hy=>h y (List.mem_cons_of_mem _ hy));simp only[List.map_cons,List.sum_cons,Tm.bE];omega
theorem uH(T:List aY)(b:Bool)(vr:Int->List UInt8)(hv:∀n,(vr n).length<=21):∀(N:Nat) (t:Tm) (n:Int) (bs:Bool),vZ t->(wT T b vr N t n bs).length+10<=150*t.size
 |0,t,n,bs,_=>by have:=bP t;simp[wT];omega
 |N+1,t,n,bs,h=>by
   have hs:=bP t;have qq:=EY h;have hq:=jL qq;unfold wT;split
   .have:=hv t.bx;omega
   .rename_i nk0;split
    .have h1:=wi t.bx (Cq h);have h2:=CQ (bz t.bx) (bs&&decide (t.bx<0));omega
    .rename_i nk1;split
     .have:=CQ (bd t.aC) ((b&&((aM T t.aC false).2||(aM T t.aC true).2))&&(bs||decide (n<max (aM T t.aC false).1.l (aM T t.aC true).1.l)));unfold wV;omega
     .split
      .rename_i hc;simp only[Bool.and_eq_true,decide_eq_true_eq] at hc
       have Al:gj t=true:=by
        have hk:t.ah=2:=by
         rcases rB h with k|k|k
         .exact absurd k nk0
         .exact absurd k nk1
         .exact k
        simp[gj,hk,hc.1.2,hc.2]
       obtain⟨i1,i2,i3⟩:=oT t.size t (Nat.le_refl _) h;have jj:=(pK t.size t (Nat.le_refl _)).2 Al;have j:=pK t.size t (Nat.le_refl _);have k1:=rk [44] ((aX t).1.map λx=>wT T b vr N x 999 false);have k2:=AW (f:=λx=>(wT T b vr N x 999 false).length) (aX t).1 (λy hy=>uH T b vr hv N y 999 false (i1 y hy).1);have k3:=uH T b vr hv N (aX t).2 999 false i2;rw[List.map_map] at k1;simp only[List.length_cons,List.length_nil,Nat.zero_add] at k1;have k4:(Lib.join ((aX t).1.map λx=>wT T b vr N x 999 false) [44]).length<=150*Tm.bE (aX t).1:=Nat.le_trans k1 k2
       have k5:(if o4 (aX t).2 then ([]:List UInt8) else [124]++wT T b vr N (aX t).2 999 false).length<=(wT T b vr N (aX t).2 999 false).length+1:=by split<;>simp
       simp only[List.length_append,List.length_cons,List.length_nil];omega
      .split
       .rename_i hc;simp only[Bool.and_eq_true,decide_eq_true_eq] at hc;have k:=uH T b vr hv N (qX t) 1200 false (gO h (pg (by omega)));have k2:=mw (pg (t:=t) (by omega));simp only[List.length_append,List.length_cons,List.length_nil];omega
       .split
        .rename_i hi
         have hl:t.aa.length=2:=by
          unfold eT at hi;split at hi
          .cases hi
          .rename_i hc;simp at hc;exact hc.1.2
         have k0:=uH T b vr hv N (qX t) (oh T b (eT T b t).1 t) true (gO h (pg (by omega)));have k1:=uH T b vr hv N (GY t) (ax (eT T b t).1).2 true (gO h (OW (by omega)))
         have k2:(qX t).size+(GY t).size<=Tm.bE t.aa:=by
          obtain⟨x,y,e⟩:∃x y,t.aa=[x,y]:=by
           match ha:t.aa with
           |[x,y]=>exact⟨x,y,rfl⟩
           |[]=>rw[ha] at hl;simp at hl
           |[x]=>rw[ha] at hl;simp at hl
           |x::y::z::r=>rw[ha] at hl;simp at hl
          unfold qX GY;rw[e];simp[Tm.bE]
         have k3:=GZ qq;refine Nat.le_trans (Nat.add_le_add_right (CQ _ _) 10) ?_;simp only[List.length_append];omega
        .split
         .rename_i hi
          have hl:t.aa.length=1:=by
           unfold iS at hi;split at hi
           .cases hi
           .rename_i hc;simp at hc;exact hc.1.1.2
          have k:=uH T b vr hv N (qX t) (ax (iS T b t).1).2 true (gO h (pg (by omega)));have k2:=mw (pg (t:=t) (by omega));refine Nat.le_trans (Nat.add_le_add_right (CQ _ _) 10) ?_;simp only[List.length_append,List.length_cons,List.length_nil];omega
         .have k1:=rk [44] (t.aa.map λx=>wT T b vr N x 999 false);have k2:=AW (f:=λx=>(wT T b vr N x 999 false).length) t.aa (λy hy=>uH T b vr hv N y 999 false (gO h hy));rw[List.map_map] at k1;simp only[List.length_cons,List.length_nil,Nat.zero_add] at k1;have k4:(Lib.join (t.aa.map λx=>wT T b vr N x 999 false) [44]).length<=150*Tm.bE t.aa:=Nat.le_trans k1 k2;simp only[List.length_append,List.length_cons,List.length_nil];omega
def EqR(k:Nat)(rec Bs:Int->St->PR×St):Prop:=∀n st,st.ak.length<k->rec n st=Bs n st
section
variable {k:Nat}{rec Bs:Int->St->PR×St}(H:Af rec)(E:EqR k rec Bs)
include H E
theorem zp:∀(M M':Nat) (aJ:List Tm) (st:St),st.ak.length<k->st.ak.length<M->st.ak.length<M'->bp rec M aJ st=bp Bs M' aJ st
 |0,_,_,_,_,h,_=>by omega
 |_+1,0,_,_,_,_,h=>by omega
 |M+1,M'+1,aJ,st,h1,h2,h3=>by
   unfold bp;rw[E 999 st h1] at *;by_cases c1:(Bs 999 st).1.2.2=true
   .rw[if_pos c1,if_pos c1];by_cases c2:(ba [44] (Bs 999 st).2).1=true
    .rw[if_pos c2,if_pos c2]
     have p1:(Bs 999 st).2.ak.length<st.ak.length:=by have:=(H.ok 999 st (by rw[E 999 st h1];exact c1)).pos;rw[E 999 st h1] at this;exact this
     have p2:=(fo c2).pos;exact zp M M' _ _ (by omega) (by omega) (by omega)
    .rw[if_neg c2,if_neg c2]
   .rw[if_neg c1,if_neg c1]
theorem Zz(l:List Tm)(st:St)(h:st.ak.length<k):lY rec l st=lY Bs l st:=by unfold lY;have p:=(pF [124] st).len;rw[E 999 (ba [124] st).2 (by omega)]
theorem PF(M M':Nat)(st:St)(h1:st.ak.length<k)(h2:st.ak.length<M)(h3:st.ak.length<M'):iL rec M st=iL Bs M' st:=by have p:=(kW H M [] st).1.len;unfold iL;rw[zp H E M M' [] st h1 h2 h3] at *;rw[Zz H E _ _ (by omega)]
theorem LV(c:List UInt8)(f:Tm->Tm)(st:St)(h:st.ak.length<k):fT rec c f st=fT Bs c f st:=by unfold fT;rw[E 1200 st h]
theorem ZV(M M':Nat)(s:List UInt8)(st:St)(h1:st.ak.length<k)(h2:st.ak.length<M)(h3:st.ak.length<M'):kH rec M s st=kH Bs M' s st:=by unfold kH;rw[zp H E M M' [] st h1 h2 h3]
theorem PX(T:List aY)(M M':Nat)(n:Int)(st:St)(h1:st.ak.length<=k)(h2:st.ak.length<M)(h3:st.ak.length<M'):eH rec T M n st=eH Bs T M' n st:=by
 have hl:=dj st;have oK:=dj (aq st);unfold eH;by_cases k4:(aB st).ah=4
 .rw[if_pos k4,if_pos k4]
 rw[if_neg k4,if_neg k4];by_cases k3:(aB st).ah=3
 .rw[if_pos k3,if_pos k3]
 rw[if_neg k3,if_neg k3];by_cases c1:(aB st).ah=5/\(aB st).ay=[40]
 .have:=bF (st:=st) (by omega);rw[if_pos c1,if_pos c1,LV H E _ _ _ (by omega)]
 rw[if_neg c1,if_neg c1];by_cases c2:(aB st).ah=5/\(aB st).ay=[91]
 .have:=bF (st:=st) (by omega);rw[if_pos c2,if_pos c2,PF H E M M' _ (by omega) (by omega) (by omega)]
 rw[if_neg c2,if_neg c2];by_cases c3:(aB st).ah=5/\(aB st).ay=[123]
 .have:=bF (st:=st) (by omega);rw[if_pos c3,if_pos c3,LV H E _ _ _ (by omega)]
 rw[if_neg c3,if_neg c3];by_cases c4:(!dQ (aB st))=true
 .rw[if_pos c4,if_pos c4]
 rw[if_neg c4,if_neg c4];have hk:(aB st).ah≠0:=λh=>c4 (by unfold dQ;rw[h];rfl)
 have:=bF hk;by_cases c5:(aB st).iT=true
 .rw[if_pos c5,if_pos c5,ZV H E M M' _ _ (by omega) (by omega) (by omega)]
 rw[if_neg c5,if_neg c5];unfold cn;rw[E _ (aq st) (by omega)]
theorem zH(T:List aY):∀(M M':Nat) (n:Int) (r:PR) (st:St),st.ak.length<=k->st.ak.length<M->st.ak.length<M'->fC rec T M n r st=fC Bs T M' n r st
 |0,_,_,_,_,_,h,_=>by omega
 |_+1,0,_,_,_,_,_,h=>by omega
 |M+1,M'+1,n,r,st,h1,h2,h3=>by
   have hl:=dj st;unfold fC;by_cases h0:(!r.2.2)=true
   .rw[if_pos h0,if_pos h0]
   rw[if_neg h0,if_neg h0];by_cases hb:(!(cC T (aB st)).2||decide (n<(cC T (aB st)).1.l)||decide ((ax (cC T (aB st)).1).1<r.2.1))=true
   .rw[if_pos hb,if_pos hb]
   rw[if_neg hb,if_neg hb]
   have hk:(aB st).ah≠0:=λh=>hb (by
    have:(cC T (aB st)).2=false:=by unfold cC dQ;rw[h];rfl
    rw[this];rfl)
   have hp:=bF hk;have p:=(H.lv (ax (cC T (aB st)).1).2 (aq st)).len;rw[E _ (aq st) (by omega)] at *;exact zH T M M' n _ _ (by omega) (by omega) (by omega)
end
theorem Pz(T:List aY):∀(N M:Nat) (n:Int) (st:St),st.ak.length<N->st.ak.length<M->kG T N n st=kG T M n st
 |0,_,_,_,h,_=>by omega
 |_+1,0,_,_,_,h=>by omega
 |N+1,M+1,n,st,h1,h2=>by
   have H:=pI T N;have E:EqR (min N M) (kG T N) (kG T M):=λn st h=>Pz T N M n st (by omega) (by omega)
   have p:=(sj H T (N+1) n st).1.len;unfold kG;rw[PX H E T (N+1) (M+1) n st (by omega) (by omega) (by omega)] at *;exact zH H E T (N+1) (M+1) n _ _ (by omega) (by omega) (by omega)
def ag(T:List aY)(n:Int)(st:St):PR×St:=kG T (st.ak.length+1) n st
theorem Zc(T:List aY){N:Nat}{st:St}(h:st.ak.length<N)(n:Int):kG T N n st=ag T n st:=Pz T N _ n st h (Nat.lt_succ_self _)
def Nu(b:Nat)(t:Tm):Prop:=t.gr<=70*b/\t.fg qZ=true
def afC(b:Nat)(l:List Tm):Prop:=Tm.gT l+70*l.length<=70*b/\Tm.eX qZ l=true
structure qK(st:St):Prop where
 tk:st.ak.all xS=true
 rg:∀p∈st.ae,0<=p.2/\p.2<st.next
 le:st.next+st.ak.length<=1000000
theorem Ok.j7{a b:St}(h:Ok a b)(p:qK a):qK b:=⟨h.lv.all xS p.tk,h.lv.rg p.rg,by have:=h.nxr;have:=p.le;omega⟩
structure agY(rec:Int->St->PR×St):Prop where
 b:∀n st,qK st->(rec n st).1.2.2=true->Nu (st.ak.length-(rec n st).2.ak.length) (rec n st).1.1
theorem Ir{s:List UInt8}{n:Int}:∀{l:List (List UInt8×Int)},l6 s l=some n->∃p∈l,p.2=n
 |[],h=>by cases h
 |p::r,h=>by
   unfold l6 at h;split at h
   .cases h;exact⟨p,by simp,rfl⟩
   .obtain⟨q,h1,h2⟩:=Ir h;exact⟨q,List.mem_cons_of_mem _ h1,h2⟩
theorem V0{s:St}(h1:s.ak.all xS=true)(h2:0<s.ak.length):xS (aB s)=true:=by
 unfold aB
 cases hr:s.ak with
 |nil=>rw[hr] at h2;simp at h2
 |cons x r=>rw[hr,List.all_cons,Bool.and_eq_true] at h1;exact h1.1
theorem zO{s:St}(h1:s.ak.all xS=true)(h2:0<s.ak.length):0<=(aB s).bx/\(aB s).bx<9223372036854775808:=by have h:=V0 h1 h2;unfold xS at h;simp only[Bool.and_eq_true,decide_eq_true_eq] at h;exact h.2
theorem K1{s:St}(h1:s.ak.all xS=true)(h3:dQ (aB s)=true):(aB s).ay.length<=64:=by
 by_cases h2:0<s.ak.length
 .have h:=V0 h1 h2;unfold xS at h;rw[h3] at h;simp only[Bool.not_true,Bool.or_false,Bool.and_eq_true,decide_eq_true_eq] at h;exact h.1
 .rw[JE (List.length_eq_zero_iff.1 (by omega))];decide
theorem EL(p:Tm->Bool):∀a b:List Tm,Tm.eX p (a++b)=(Tm.eX p a&&Tm.eX p b)
 |[],b=>rfl
 |t::r,b=>by simp[Tm.eX,EL p r b,Bool.and_assoc]
theorem CA{b:Nat}{s:List UInt8}{us:List Tm}(hs:s.length<=64)(h1:Tm.gT us<=70*b)(h2:Tm.eX qZ us=true):Nu (b+1) (ct s us):=by
 cases us with
 |nil=>exact⟨by simp[ct,Tm.gr];omega,rfl⟩
 |cons t r=>exact⟨by simp only[ct,Tm.gr];omega,by simp only[ct,Tm.fg,h2];rfl⟩
theorem PS{b c:Nat}{t:Tm}(ht:Nu c t):∀{l:List Tm},afC b l->Nu (b+c) (bL l t)
 |[],h=>⟨by have:=ht.1;simp only[bL];omega,ht.2⟩
 |x::r,h=>by
   obtain⟨h1,h2⟩:=h;simp only[Tm.gT,List.length_cons,Tm.eX,Bool.and_eq_true] at h1 h2
   have key:∀l:List Tm,Tm.eX qZ l=true->(bL l t).gr<=Tm.gT l+2*l.length+t.gr/\(bL l t).fg qZ=true:=λl=>by
    induction l with
    |nil=>intro _;exact⟨by simp[bL,Tm.gT],ht.2⟩
    |cons y q ih=>
      intro h;simp only[Tm.eX,Bool.and_eq_true] at h;obtain⟨i1,i2⟩:=ih h.2;refine⟨?_,?_⟩
      .simp only[bL,Tm.gr,Tm.gT,List.length_cons,List.length_nil];omega
      .simp only[bL,Tm.fg,Tm.eX,h.1,i2];rfl
   obtain⟨k1,k2⟩:=key (x::r) (by simp only[Tm.eX,h2.1,h2.2];rfl);refine⟨?_,k2⟩;simp only[Tm.gT,List.length_cons] at k1;have:=ht.1;omega
section
variable {rec:Int->St->PR×St}(H:Af rec)(B:agY rec)
include H B
theorem PO:∀(M:Nat) (aJ:List Tm) (st:St),qK st->Tm.eX qZ aJ=true->(bp rec M aJ st).1.2=true->
 Tm.gT (bp rec M aJ st).1.1+70*(bp rec M aJ st).1.1.length<=Tm.gT aJ+70*aJ.length+70*(st.ak.length-(bp rec M aJ st).2.ak.length)+70/\Tm.eX qZ (bp rec M aJ st).1.1=true
 |0,aJ,st,_,_,h=>by cases h
 |M+1,aJ,st,ha,hr,h=>by
   unfold bp at h|-;by_cases c1:(rec 999 st).1.2.2=true
   .rw[if_pos c1] at h|-;obtain⟨b1,b2⟩:=B.b 999 st ha c1;have o1:=H.ok 999 st c1;have p:=o1.pos
    have Mt:Tm.eX qZ (aJ++[(rec 999 st).1.1])=true:=by rw[EL,hr];simp[Tm.eX,b2]
    have Fk:Tm.gT (aJ++[(rec 999 st).1.1])=Tm.gT aJ+(rec 999 st).1.1.gr:=by rw[F2];simp[Tm.gT]
    by_cases c2:(ba [44] (rec 999 st).2).1=true
    .rw[if_pos c2] at h|-;have o2:=fo c2;have p2:=o2.pos;obtain⟨i1,i2⟩:=PO M _ _ ((o1.trans o2).j7 ha) Mt h;refine⟨?_,i2⟩;have l2:=(kW H M (aJ++[(rec 999 st).1.1]) (ba [44] (rec 999 st).2).2).1.len;rw[Fk] at i1;simp only[List.length_append,List.length_cons,List.length_nil] at i1;omega
    .rw[if_neg c2] at h|-;refine⟨?_,Mt⟩;dsimp only;rw[Fk];simp only[List.length_append,List.length_cons,List.length_nil];omega
   .rw[if_neg c1] at h;cases h
theorem LZ(M:Nat)(st:St)(ha:qK st)(h:(bp rec M [] st).1.2=true):afC (st.ak.length-(bp rec M [] st).2.ak.length+1) (bp rec M [] st).1.1:=by obtain⟨i1,i2⟩:=PO H B M [] st ha rfl h;simp only[Tm.gT,List.length_nil] at i1;exact⟨by omega,i2⟩
theorem acP(M:Nat)(st:St)(ha:qK st)(h:(iL rec M st).1.2=true):Nu (st.ak.length-(iL rec M st).2.ak.length+1) (iL rec M st).1.1:=by
 unfold iL at h|-;by_cases c1:(bp rec M [] st).1.2=true
 .rw[if_pos c1] at h|-;have hB:=LZ H B M st ha c1;have hl:=(kW H M [] st).2 c1;have p:=hl.pos;have FA:=hl.j7 ha;generalize bp rec M [] st=I at *;obtain⟨⟨l,ok⟩,Yo⟩:=I;dsimp only at *;unfold lY at h|-;by_cases c2:(ba [124] Yo).1=true
  .rw[if_pos c2] at h|-;have p2:=fo c2;have p3:=p2.pos;by_cases c3:(rec 999 (ba [124] Yo).2).1.2.2=true
   .rw[if_pos c3] at h|-;have p4:=(fo h).pos;have p5:=(H.ok _ _ c3).pos;obtain⟨t1,t2⟩:=B.b 999 _ (p2.j7 FA) c3;have:=PS (c:=(ba [124] Yo).2.ak.length-(rec 999 (ba [124] Yo).2).2.ak.length) ⟨t1,t2⟩ hB;refine⟨Nat.le_trans this.1 ?_,this.2⟩;dsimp only;omega
   .rw[if_neg c3] at h;cases h
  .rw[if_neg c2] at h|-;have p4:=(fo h).pos;have:=PS (c:=1) (t:=aW [91,93]) ⟨by decide,rfl⟩ hB;refine⟨Nat.le_trans this.1 ?_,this.2⟩;dsimp only;omega
 .rw[if_neg c1] at h;cases h
theorem Qq(c:List UInt8)(f:Tm->Tm)(hf:∀b t,Nu b t->Nu (b+1) (f t))(st:St)(ha:qK st)(h:(fT rec c f st).1.2.2=true):Nu (st.ak.length-(fT rec c f st).2.ak.length+1) (fT rec c f st).1.1:=by
 unfold fT at h|-;by_cases c1:(rec 1200 st).1.2.2=true
 .rw[if_pos c1] at h|-;have p:=(H.ok _ _ c1).pos;have p4:=(fo h).pos;have:=hf _ _ (B.b 1200 st ha c1);refine⟨Nat.le_trans this.1 ?_,this.2⟩;dsimp only;omega
 .rw[if_neg c1] at h;cases h
theorem ade(M:Nat)(s:List UInt8)(hs:s.length<=64)(st:St)(ha:qK st)(h:(kH rec M s st).1.2.2=true):Nu (st.ak.length-(kH rec M s st).2.ak.length+1) (kH rec M s st).1.1:=by
 unfold kH at h|-;by_cases c1:(bp rec M [] st).1.2=true
 .rw[if_pos c1] at h|-;have hB:=LZ H B M st ha c1;have p:=((kW H M [] st).2 c1).pos;have p4:=(fo h).pos
  have fB:1<=(bp rec M [] st).1.1.length:=by
   have:∀(M:Nat) (aJ:List Tm) (st:St),(bp rec M aJ st).1.2=true->aJ.length+1<=(bp rec M aJ st).1.1.length:=λM=>by
    induction M with
    |zero=>intro aJ st h;cases h
    |succ M ih=>
      intro aJ st h;unfold bp at h|-;by_cases d1:(rec 999 st).1.2.2=true
      .rw[if_pos d1] at h|-;by_cases d2:(ba [44] (rec 999 st).2).1=true
       .rw[if_pos d2] at h|-;have:=ih _ _ h;simp only[List.length_append,List.length_cons,List.length_nil] at this;omega
       .rw[if_neg d2];simp
      .rw[if_neg d1] at h;cases h
   have:=this M [] st c1;simpa using this
  have:=CA (b:=st.ak.length-(bp rec M [] st).2.ak.length) (s:=s) (us:=(bp rec M [] st).1.1) hs (by have:=hB.1;omega) hB.2;refine⟨Nat.le_trans this.1 ?_,this.2⟩;dsimp only;omega
 .rw[if_neg c1] at h;cases h
theorem acz(T:List aY)(M:Nat)(n:Int)(st:St)(ha:qK st)(h:(eH rec T M n st).1.2.2=true):Nu (st.ak.length-(eH rec T M n st).2.ak.length) (eH rec T M n st).1.1:=by
 have hl:=dj st;have oK:=dj (aq st);have FA:(aB st).ah≠0->qK (aq st):=λhk=>(jS (bF hk)).j7 ha
 unfold eH at h|-;by_cases k4:(aB st).ah=4
 .rw[if_pos k4];have hp:=bF (st:=st) (by omega);have hx:=zO ha.tk hp;refine⟨by simp only[Tm.gr,List.length_nil];omega,?_⟩;show (decide (-9223372036854775808<=(aB st).bx)&&decide ((aB st).bx<9223372036854775808))=true;simp only[Bool.and_eq_true,decide_eq_true_eq];omega
 rw[if_neg k4] at h|-;by_cases k3:(aB st).ah=3
 .rw[if_pos k3];have hp:=bF (st:=st) (by omega);have:=(Ui (s:=(aB st).ay) hp).pos;have hn:st.next<=1000000:=by have:=ha.le;omega
  dsimp only
  suffices hh:Nu 1 (k9 (aB st).ay (aq st)).1 from⟨Nat.le_trans hh.1 (by omega),hh.2⟩
  unfold k9;split
  .rename_i k hk;obtain⟨p,h1,h2⟩:=Ir hk;have:=ha.rg p h1;refine⟨by simp[Tm.gr],?_⟩;show (decide (-9223372036854775808<=k)&&decide (k<9223372036854775808))=true;simp only[Bool.and_eq_true,decide_eq_true_eq];omega
  .refine⟨by simp[Tm.gr],?_⟩;have e:(aq st).next=st.next:=rfl
   show (decide (-9223372036854775808<=((aq st).next:Int))&&decide (((aq st).next:Int)<9223372036854775808))=true;simp only[Bool.and_eq_true,decide_eq_true_eq];omega
 rw[if_neg k3] at h|-;by_cases c1:(aB st).ah=5/\(aB st).ay=[40]
 .rw[if_pos c1] at h|-;have hp:=bF (st:=st) (by omega);have b:=Qq H B [41] (λt=>t) (λb t hb=>⟨Nat.le_trans hb.1 (by omega),hb.2⟩) _ (FA (by omega)) h;have hle:=(yV H [41] (λt=>t) (aq st)).1.len;exact⟨Nat.le_trans b.1 (by omega),b.2⟩
 rw[if_neg c1] at h|-;by_cases c2:(aB st).ah=5/\(aB st).ay=[91]
 .rw[if_pos c2] at h|-;have hp:=bF (st:=st) (by omega);have b:=acP H B M _ (FA (by omega)) h;have hle:=(H9 H M (aq st)).1.len;exact⟨Nat.le_trans b.1 (by dsimp only;omega),b.2⟩
 rw[if_neg c2] at h|-;by_cases c3:(aB st).ah=5/\(aB st).ay=[123]
 .rw[if_pos c3] at h|-;have hp:=bF (st:=st) (by omega);have b:=Qq H B [125] (λt=>ct [123,125] [t]) (λb t hb=>CA (by decide) (by have:=hb.1;simp only[Tm.gT];omega) (by simp[Tm.eX,hb.2])) _ (FA (by omega)) h;have hle:=(yV H [125] (λt=>ct [123,125] [t]) (aq st)).1.len;exact⟨Nat.le_trans b.1 (by omega),b.2⟩
 rw[if_neg c3] at h|-;by_cases c4:(!dQ (aB st))=true
 .rw[if_pos c4] at h;cases h
 rw[if_neg c4] at h|-;have hk:(aB st).ah≠0:=λh=>c4 (by unfold dQ;rw[h];rfl)
 have hp:=bF hk;have qq:(aB st).ay.length<=64:=K1 ha.tk (by simpa using c4);by_cases c5:(aB st).iT=true
 .rw[if_pos c5] at h|-;have o:=(I5 H M (aB st).ay (aq (aq st))).2 h;have hle:=o.lv.len;have OZ:0<(aq st).ak.length:=by have:=o.pos;omega
  have b:=ade H B M (aB st).ay qq _ ((jS OZ).j7 (FA hk)) h;exact⟨Nat.le_trans b.1 (by omega),b.2⟩
 rw[if_neg c5] at h|-;by_cases c6:(aB st).ah=1/\(aB st).ay=[45]/\(aB (aq st)).ah=4/\(aB st).TM=true
 .rw[if_pos c6];have OZ:=bF (st:=aq st) (by omega);have hx:=zO (FA hk).tk OZ;refine⟨by simp only[Tm.gr,List.length_nil];omega,?_⟩;show (decide (-9223372036854775808<=(-(aB (aq st)).bx))&&decide ((-(aB (aq st)).bx)<9223372036854775808))=true;simp only[Bool.and_eq_true,decide_eq_true_eq];omega
 rw[if_neg c6] at h|-;unfold cn at h|-;have oX:Nu 1 (aW (aB st).ay):=⟨by simp only[aW,Tm.gr];omega,rfl⟩
 by_cases d1:(aB st).ah=2
 .rw[if_pos d1];exact⟨Nat.le_trans oX.1 (by dsimp only;omega),oX.2⟩
 rw[if_neg d1] at h|-;by_cases d2:((aM T (aB st).ay true).2&&decide ((aM T (aB st).ay true).1.l<=n)&&hO T (aq st))=true
 .rw[if_pos d2] at h|-;have b:=B.b _ _ (FA hk) h;have p:=(H.ok _ _ h).pos;have:=CA (b:=(aq st).ak.length-(rec (ax (aM T (aB st).ay true).1).2 (aq st)).2.ak.length) (s:=(aB st).ay) (us:=[(rec (ax (aM T (aB st).ay true).1).2 (aq st)).1.1]) qq (by have:=b.1;simp only[Tm.gT];omega) (by simp[Tm.eX,b.2]);exact⟨Nat.le_trans this.1 (by dsimp only;omega),this.2⟩
 .rw[if_neg d2];exact⟨Nat.le_trans oX.1 (by dsimp only;omega),oX.2⟩
theorem Vf(T:List aY):∀(M:Nat) (n:Int) (r:PR) (st:St) (b:Nat),qK st->Nu b r.1->(fC rec T M n r st).1.2.2=true->Nu (b+(st.ak.length-(fC rec T M n r st).2.ak.length)) (fC rec T M n r st).1.1
 |0,n,r,st,b,_,hb,_=>⟨Nat.le_trans hb.1 (by omega),hb.2⟩
 |M+1,n,r,st,b,ha,hb,h=>by
   unfold fC at h|-;by_cases h0:(!r.2.2)=true
   .rw[if_pos h0];exact⟨Nat.le_trans hb.1 (by omega),hb.2⟩
   rw[if_neg h0] at h|-;by_cases h1:(!(cC T (aB st)).2||decide (n<(cC T (aB st)).1.l)||decide ((ax (cC T (aB st)).1).1<r.2.1))=true
   .rw[if_pos h1];exact⟨Nat.le_trans hb.1 (by omega),hb.2⟩
   rw[if_neg h1] at h|-;have hl:=dj st
   have hkx:(aB st).ah≠0/\(aB st).ay.length<=64:=by
    by_cases hn:dQ (aB st)=true
    .refine⟨λh=>?_,K1 ha.tk hn⟩;unfold dQ at hn;rw[h] at hn;cases hn
    .by_cases h5:(aB st).ah=5/\(aB st).ay=[44]
     .exact⟨by omega,by rw[h5.2];decide⟩
     .refine absurd ?_ h1
      have:(cC T (aB st)).2=false:=by
       unfold cC;rw[if_pos];rw[Bool.not_eq_true] at hn;rw[hn];simp only[Bool.not_false,Bool.true_and,Bool.or_eq_true,Bool.not_eq_true',decide_eq_false_iff_not];by_cases g:(aB st).ah=5
       .exact .inr λg2=>h5 ⟨g,g2⟩
       .exact .inl g
      rw[this];rfl
   have hp:=bF hkx.1;have oa:=jS hp;have HL:=((mG H T M n _ _).2 h).1;have oq:=H.ok _ _ HL;have bq:=B.b _ _ (oa.j7 ha) HL;have pq:=oq.pos;have hle:=(mG H T M n (ct (aB st).ay [r.1,(rec (ax (cC T (aB st)).1).2 (aq st)).1.1],(cC T (aB st)).1.l,(rec (ax (cC T (aB st)).1).2 (aq st)).1.2.2) (rec (ax (cC T (aB st)).1).2 (aq st)).2).1.len
   have hc:=CA (b:=b+((aq st).ak.length-(rec (ax (cC T (aB st)).1).2 (aq st)).2.ak.length)) (s:=(aB st).ay) (us:=[r.1,(rec (ax (cC T (aB st)).1).2 (aq st)).1.1]) hkx.2
    (by have:=bq.1;have:=hb.1;simp only[Tm.gT];omega) (by simp[Tm.eX,bq.2,hb.2])
   have i:=Vf T M n _ _ _ ((oa.trans oq).j7 ha) hc h;exact⟨Nat.le_trans i.1 (by omega),i.2⟩
end
theorem HN(T:List aY):∀N,agY (kG T N)
 |0=>⟨λn st _ h=>by cases h⟩
 |N+1=>⟨λn st ha h=>by have H:=pI T N;have B:=HN T N;unfold kG at h|-;have h1:=((mG H T (N+1) n _ _).2 h).1;have o:=(sj H T (N+1) n st).2 h1;have b:=acz H B T (N+1) n st ha h1;have hle:=(mG H T (N+1) n (eH (kG T N) T (N+1) n st).1 (eH (kG T N) T (N+1) n st).2).1.len;have i:=Vf H B T (N+1) n _ _ _ (o.j7 ha) b h;have:=o.pos;exact⟨Nat.le_trans i.1 (by omega),i.2⟩⟩
end
end Go.Proofs.YtjmeonoabiliiaaGreatDoor
namespace Sz
theorem Zs(o:aS):gu (λi=>i) o=o:=by
 cases o with
 |dead=>rfl
 |row cs=>
   simp only[gu];congr 1;conv=>rhs;rw[<-List.map_id cs]
   exact List.map_congr_left λv _=>Ec
 |map es=>
   simp only[gu];congr 1;conv=>rhs;rw[<-List.map_id es]
   exact List.map_congr_left λe _=>by rw[Ec,Ec];rfl
theorem Er{P:Go.Program}{X:Go.World->Prop}{E:Env}(hE:bY P X E){n f:Nat}{ak:List AV}{os:List aS}{v:AV}{h1:af}(he:aH E n f (.ptr 0 0::ak) (C9 os)=some (v,h1))(hg:∀i,i<os.length->h1.get i=os[i]?)
 (hv:v.aK=0) (hr:AV.aj ak=0) (h0:0<os.length) (hc:∀o∈os,Cg os.length o=true):ck P X f (.ptr 0 0::ak) os v none:=
 CK (qs:=[]) hE he hv (λa ha=>by
  rcases List.mem_cons.1 ha with rfl|ha
  .exact decide_eq_true h0
  .exact lK _ (by have:=AV.cM ha;omega)) (Nat.le_refl _) (CX (by simp) (by simp) (by simp) λi o ho _=>by
   simp only[Option.getD] at ho;obtain⟨hi,rfl⟩:=List.getElem?_eq_some_iff.1 ho;have hl:=hc _ (List.getElem_mem hi);refine⟨?_,hl⟩
   have e:gu (ub os.length []) os[i]=os[i]:=by rw[Mi (g':=λi=>i) (λj hj=>by unfold ub;rw[if_pos hj]) hl,Zs]
   rw[e];have e2:ub os.length [] i=i:=by unfold ub;rw[if_pos hi]
   rw[e2,hg i hi];exact List.getElem?_eq_getElem hi)
end Sz
namespace Go.Proofs.YtjmeonoabiliiaaGreatDoor
open Go Sz
def gR(ps:List (Int×Int)):List (AV×AV):=ps.map λp=>(.int .i64 p.1,.int .i64 p.2)
def Of:List (AV×AV)->Option (List (Int×Int))
 |[]=>some []
 |(.int .i64 a,.int .i64 b)::r=>(Of r).map ((a,b)::·)
 |_=>none
theorem Lf:∀ps,Of (gR ps)=some ps
 |[]=>rfl
 |(a,b)::r=>by have:=Lf r;unfold gR at this|-;simp[Of,this]
theorem KW:∀{es:List (AV×AV)} {ps:List (Int×Int)},Of es=some ps->es=gR ps
 |[],ps,h=>by simp[Of] at h;subst h;rfl
 |(x,y)::r,ps,h=>by
   unfold Of at h;split at h
   .rename_i he;cases he
   .rename_i a b r' he;cases he;simp only[Option.map_eq_some_iff] at h;obtain⟨q,h1,rfl⟩:=h;rw[KW h1];rfl
   .cases h
def Jv(n:Int):List (Int×Int)->Option Int
 |[]=>none
 |(a,b)::r=>if n=a then some b else Jv n r
theorem TX(n:Int):∀ps,oj 1 (.int .i64 n) (gR ps)=some ((Jv n ps).map λb=>.int .i64 b)
 |[]=>rfl
 |(a,b)::r=>by
   have ih:=TX n r;unfold gR at ih|-;simp only[List.map_cons,oj,Jv];by_cases h:n=a
   .subst h;simp[ij]
   .simp[ij,h,ih]
def vy(ps:List (Int×Int))(n:Int):Int:=(Jv n ps).getD 0
def pC(ps:List (Int×Int)):Bool:=ps.all λp=>decide (0<=p.2)&&decide (p.2<1000000000)
theorem wh{ps:List (Int×Int)}(h:pC ps=true)(n:Int):0<=vy ps n/\vy ps n<1000000000:=by
 unfold vy
 induction ps with
 |nil=>simp[Jv]
 |cons p r ih=>
   obtain⟨a,b⟩:=p;simp only[pC,List.all_cons,Bool.and_eq_true,decide_eq_true_eq] at h;unfold Jv;split
   .exact h.1
   .exact ih h.2
def iZ(ps:List (Int×Int))(n:Int):List UInt8:=[95]++bz (vy ps n)
theorem nz{ps:List (Int×Int)}(h:pC ps=true)(n:Int):(iZ ps n).length<=21:=by have:=wh h n;have:=wi (vy ps n) (by omega);simp[iZ];omega
theorem dI(τ:List Nat)(ps:List (Int×Int)):okO τ (.map (gR ps))=true:=by rw[dp,List.all_eq_true];intro e he;obtain⟨p,_,rfl⟩:=List.mem_map.1 he;rfl
theorem cP(g:Nat->Nat)(ps:List (Int×Int)):gu g (.map (gR ps))=.map (gR ps):=by rw[cF];congr 1;unfold gR;rw[List.map_map];rfl
theorem Vs(n:Nat)(ps:List (Int×Int)):Cg n (.map (gR ps))=true:=by show ((gR ps).all λe=>db n e.1&&db n e.2)=true;rw[List.all_eq_true];intro e he;obtain⟨p,_,rfl⟩:=List.mem_map.1 he;rfl
structure Wr where
 T:List aY
 b:Bool
 ps:List (Int×Int)
def B4:List aS->Option Wr
 |[.row [x,.bool b,.map 1],.map es]=>(match a8 x,Of es with
   |some T,some ps=>if T.length<1000000/\pC ps=true then some ⟨T,b,ps⟩ else none
   |_,_=>none)
 |_=>none
def kQ(x:AV)(b:Bool)(ps:List (Int×Int)):List aS:=[.row [x,.bool b,.map 1],.map (gR ps)]
theorem mi{os:List aS}{W:Wr}(h:B4 os=some W):∃x,a8 x=some W.T/\os=kQ x W.b W.ps/\W.T.length<1000000/\pC W.ps=true:=by
 unfold B4 at h;split at h
 .rename_i x b es;split at h
  .rename_i T ps h1 h2;split at h
   .rename_i hc;cases h;exact⟨x,h1,by rw[KW h2];rfl,hc.1,hc.2⟩
   .cases h
  .cases h
 .cases h
theorem oD{x:AV}{T:List aY}(hx:a8 x=some T)(b:Bool)(ps:List (Int×Int))(hT:T.length<1000000)(hp:pC ps=true):B4 (kQ x b ps)=some ⟨T,b,ps⟩:=by simp only[B4,kQ,hx,Lf];rw[if_pos ⟨hT,hp⟩]
theorem XB{x:AV}{T:List aY}(hx:a8 x=some T)(b:Bool)(ps:List (Int×Int)):∀o∈kQ x b ps,Cg (kQ x b ps).length o=true:=λo ho=>by
 simp only[kQ,List.mem_cons,List.not_mem_nil,or_false] at ho;rcases ho with rfl|rfl
 .show List.all _ _=true;simp only[List.all_cons,List.all_nil,Bool.and_true];rw[lK _ (fj hx)];rfl
 .exact Vs _ _
theorem qu{X:World->Prop}{E:Env}(hE:bY Tryz.prog X E){n f:Nat}{ak:List AV}{x:AV}{T:List aY}(hx:a8 x=some T){b:Bool}{ps:List (Int×Int)}{v:AV}{m:Nat}
 (he:aH E n f (.ptr 0 0::ak) ⟨2,[.map (gR ps),.row [x,.bool b,.map 1]],2,2⟩=some (v,⟨2,[.map (gR ps),.row [x,.bool b,.map 1]],2,m⟩)) (hv:v.aK=0) (hr:AV.aj ak=0):ck Tryz.prog X f (.ptr 0 0::ak) (kQ x b ps) v none:=
 Er hE he (λi hi=>by
  match i,hi with
  |0,_=>rfl
  |1,_=>rfl
  |i+2,hi=>exact absurd (show i+2<2 from hi) (by omega)) hv hr (by simp[kQ]) (XB hx b ps)
def kY:aZ:=⟨136,λ|[.str s,.bool b]=>if s.length<1000000000 then some (.str (FO s b)) else none|_=>none⟩
theorem eD:kY.f=136:=(rfl)
theorem qo(s:List UInt8)(b:Bool)(h:s.length<1000000000):kY.S [.str s,.bool b]=some (.str (FO s b)):=if_pos h
theorem BF:bB Tryz.prog kY:=λaa v hv=>by
 unfold kY at hv|-;dsimp only at hv|-;split at hv
 .rename_i s b;split at hv
  .rename_i hl;cases hv;refine cf (n:=5) (h':=h0) (ch (ss:=[]) (by simp)) ?_ (by simp[AV.aK]) (by simp[AV.aK,AV.aj]);have h1:s.length+1<9223372036854775808:=by omega
   have h2:1+s.length<9223372036854775808:=by omega
   have h3:s.length+1+1<9223372036854775808:=by omega
   have h4:1+s.length+1<9223372036854775808:=by omega
   unfold FO;cases b<;>simp[adL,Y2,h1,h2,h3,h4]
  .cases hv
 .cases hv
def jg:cq:=⟨139,λ
 |[.ptr 0 0,v],os=>(match B4 os,il v with
   |some W,some t=>some (.tuple [(eT W.T W.b t).1.aR,.bool (eT W.T W.b t).2],none)
   |_,_=>none)
 |_,_=>none⟩
theorem cO:jg.f=139:=(rfl)
theorem BR{x:AV}{T:List aY}(hx:a8 x=some T)(b:Bool)(ps:List (Int×Int))(hT:T.length<1000000)(hp:pC ps=true)(t:Tm):
 jg.S [.ptr 0 0,t.aR] (kQ x b ps)=some (.tuple [(eT T b t).1.aR,.bool (eT T b t).2],none):=by
 simp only[jg,oD hx b ps hT hp,ew]
theorem nA(a b:List UInt8):(a==b)=decide (a=b):=by
 by_cases h:a=b
 .subst h;simp
 .rw[decide_eq_false h];simpa using h
theorem yg(t:Tm)(fr:List AV)(h:af)(o:cX)(ho:o.ev fr=t.bH):bC fr h (.xn o)=some (.int .i64 t.aa.length,h):=by rw[lW,ho];cases t<;>simp[Tm.bH,Tm.aa]
theorem BU:ml Tryz.prog jg:=λaa os v r hv=>by
 unfold jg at hv;dsimp only at hv;split at hv
 .rename_i v0 os;split at hv
  .rename_i W t hW ht;cases hv;obtain⟨x,hx,rfl,hT,hp⟩:=mi hW;obtain⟨T,b,ps⟩:=W;dsimp only at hx hT hp|-;rw[dY ht,cO];have eU:=yg t;have q:=u4 hx t.aC (by omega);have di:=fj hx;have tY:=ar t;have e1:=nA t.aC [46];have eR:=Tm.bG t;simp only[aY.aR,aY.cells] at q;refine qu (n:=6) (m:=2) (vS (ss:=[FB]) (ms:=[]) (by simp[Bp]) (by simp)) hx ?_ (by simp[AV.aK,AV.aj,aY.aR,aY.cells]) (by simp[AV.aj,Tm.cm]);rw[Tm.bJ,eR];unfold eT
   cases b with
   |false=>simp[CF,c139,eJ,eU,tY,aE,aY.aR,aY.cells,fF]
   |true=>
     by_cases h2:t.aa.length=2
     .have Ft:((t.aa.length:Int)=2)=True:=eq_true (by omega);by_cases h3:t.aC=[46]
      .have e2:(t.aC==[46])=true:=by rw[e1];exact decide_eq_true h3
       simp[CF,c139,eJ,eU,tY,aE,h2,Ft,h3,aY.aR,aY.cells,fF]
      .have e2:(t.aC==[46])=false:=by rw[e1];exact decide_eq_false h3
       rcases bj hx with⟨rfl,rfl⟩|rfl
       all_goals simp[CF,c139,eJ,eU,tY,aE,h2,Ft,h3,e2,q,aY.aR,aY.cells]
     .have Ft:((t.aa.length:Int)=2)=False:=eq_false (by omega);simp[CF,c139,eJ,eU,tY,aE,h2,Ft,aY.aR,aY.cells,fF]
  .cases hv
 .cases hv
end Go.Proofs.YtjmeonoabiliiaaGreatDoor
namespace Sz
theorem CC{P:Go.Program}{X:Go.World->Prop}{E:Env}(hE:bY P X E){n f:Nat}{ak:List AV}{os mW:List aS}{v:AV}{h1:af}{qs:List Nat}(he:aH E n f (.ptr 0 0::ak) (C9 os)=some (v,h1))(hv:v.aK=0)
 (hr:AV.aj ak=0) (h0:0<os.length) (hle:os.length<=mW.length) (hs:FU h1 (ub os.length qs) mW):ck P X f (.ptr 0 0::ak) os v (some mW):=
 CK hE he hv (λa ha=>by
  rcases List.mem_cons.1 ha with rfl|ha
  .exact decide_eq_true h0
  .exact lK _ (by have:=AV.cM ha;omega)) hle hs
end Sz
namespace Go.Proofs.YtjmeonoabiliiaaGreatDoor
open Go Sz
def bm(l:List (List UInt8×Int)):List AV:=l.flatMap λp=>[.str p.1,.int .i64 p.2]
theorem ri(l:List (List UInt8×Int)):(bm l).length=l.length*2:=by
 induction l with
 |nil=>rfl
 |cons p r ih=>simp[bm] at ih|-;omega
theorem bO(l:List (List UInt8×Int)):AV.aj (bm l)=0:=by
 induction l with
 |nil=>rfl
 |cons p r ih=>have e:bm (p::r)=.str p.1::.int .i64 p.2::bm r:=rfl;rw[e];simp only[AV.aj,ih,AV.aK];rfl
theorem Ov(l:List (List UInt8×Int))(p:List UInt8×Int):bm (l++[p])=bm l++[.str p.1,.int .i64 p.2]:=by simp[bm]
def BQ:List AV->Option (List (List UInt8×Int))
 |[]=>some []
 |.str s::.int .i64 n::r=>(BQ r).map ((s,n)::·)
 |_=>none
theorem Lg:∀l,BQ (bm l)=some l
 |[]=>rfl
 |p::r=>by have e:bm (p::r)=.str p.1::.int .i64 p.2::bm r:=rfl;rw[e,BQ,Lg r];rfl
theorem Hs:∀{xs:List AV} {l:List (List UInt8×Int)},BQ xs=some l->xs=bm l
 |[],l,h=>by simp[BQ] at h;subst h;rfl
 |x::r,l,h=>by
   unfold BQ at h;split at h
   .rename_i he;cases he
   .rename_i s n q he;cases he;simp only[Option.map_eq_some_iff] at h;obtain⟨a,h1,rfl⟩:=h;rw[Hs h1];rfl
   .cases h
def nY(k:Nat)(l:List (List UInt8×Int)):AV:=match l with
 |[]=>.aD
 |_::_=>.vec k 0 l.length 2 l.length
def yH(l:List (List UInt8×Int)):List aS:=match l with
 |[]=>[]
 |_::_=>[.row (bm l)]
def aar:AV->List aS->Option (List (List UInt8×Int))
 |.aD,[]=>some []
 |.vec 1 0 n 2 m,[.row F]=>(match BQ F with
   |some l=>if l≠[]/\n=l.length/\m=l.length then some l else none
   |none=>none)
 |_,_=>none
theorem YH(l:List (List UInt8×Int)):aar (nY 1 l) (yH l)=some l:=by
 cases l with
 |nil=>rfl
 |cons p r=>show (match BQ (bm (p::r)) with|some l=>if l≠[]/\(p::r).length=l.length/\(p::r).length=l.length then some l else none|none=>none)=_;rw[Lg];exact if_pos ⟨by simp,rfl,rfl⟩
theorem UJ{v:AV}{os:List aS}{l:List (List UInt8×Int)}(h:aar v os=some l):v=nY 1 l/\os=yH l:=by
 unfold aar at h;split at h
 .cases h;exact⟨rfl,rfl⟩
 .split at h
  .rename_i l' hl;split at h
   .rename_i hc;cases h;obtain⟨h1,rfl,rfl⟩:=hc;rw[Hs hl]
    cases l with
    |nil=>exact absurd rfl h1
    |cons p r=>exact⟨rfl,rfl⟩
   .cases h
  .cases h
 .cases h
def ym:AV->Option Tok
 |.agg [.int .i64 k,.str t,.int .i64 n,.bool o,.int .i64 a]=>some ⟨k,t,n,o,a⟩
 |_=>none
theorem Hq(t:Tok):ym t.aR=some t:=rfl
theorem yX{v:AV}{t:Tok}(h:ym v=some t):v=t.aR:=by
 unfold ym at h;split at h
 .cases h;rfl
 .cases h
def Bl:List AV->Option (List Tok)
 |[]=>some []
 |v::r=>match ym v,Bl r with
   |some t,some l=>some (t::l)
   |_,_=>none
theorem DD:∀l:List Tok,Bl (l.map Tok.aR)=some l
 |[]=>rfl
 |t::r=>by show (match ym t.aR,Bl (r.map Tok.aR) with|some t,some l=>some (t::l)|_,_=>none)=_;rw[Hq,DD r]
theorem G9:∀{xs:List AV} {l:List Tok},Bl xs=some l->xs=l.map Tok.aR
 |[],l,h=>by cases h;rfl
 |v::r,l,h=>by
   unfold Bl at h;split at h
   .rename_i o os h1 h2;cases h;rw[yX h1,G9 h2];rfl
   .cases h
def bA:AV->Option (List Tok)
 |.aD=>some []
 |.sl xs=>Bl xs
 |_=>none
theorem uq{y:AV}{l:List Tok}(h:bA y=some l):(y=.aD/\l=[])\/y=.sl (l.map Tok.aR):=by
 cases y<;>simp[bA] at h
 .exact .inl ⟨rfl,h⟩
 .exact .inr (by rw[G9 h])
theorem RY(l:List Tok):bA (yS l)=some l:=by
 cases l with
 |nil=>rfl
 |cons t r=>exact DD (t::r)
structure Laid(x:AV):Prop where
 aK:x.aK=0
 top:x.top=none
 ok:∀τ,okV τ x=true
 sg:∀g,sig g x=x
 fr:∀h n d,jH h n (d+1) x=some (x,[])
 cl:x.cells=[x]
 cl2:x.cells? =some [x]
theorem F6:Laid .aD:=⟨rfl,rfl,λ_=>rfl,λ_=>rfl,λ_ _ _=>rfl,rfl,rfl⟩
theorem P6(xs:List AV):Laid (.sl xs):=⟨rfl,rfl,λ_=>rfl,λ_=>rfl,λ_ _ _=>rfl,rfl,rfl⟩
theorem bK{x:AV}{T:List aY}(h:a8 x=some T):Laid x:=by
 rcases bj h with⟨rfl,_⟩|rfl
 .exact F6
 .exact P6 _
theorem bu{y:AV}{L:List Tok}(h:bA y=some L):Laid y:=by
 rcases uq h with⟨rfl,_⟩|rfl
 .exact F6
 .exact P6 _
theorem Ua(l:List (List UInt8×Int))(τ:List Nat):(bm l).all (okV τ)=true:=by rw[List.all_eq_true];intro v hv;obtain⟨p,_,hp⟩:=List.mem_flatMap.1 hv;simp only[List.mem_cons,List.not_mem_nil,or_false] at hp;rcases hp with rfl|rfl<;>rfl
theorem TV(l:List (List UInt8×Int))(g:Nat->Nat):(bm l).map (sig g)=bm l:=by
 conv=>rhs;rw[<-List.map_id (bm l)]
 refine List.map_congr_left λv hv=>?_
 obtain⟨p,_,hp⟩:=List.mem_flatMap.1 hv;simp only[List.mem_cons,List.not_mem_nil,or_false] at hp;rcases hp with rfl|rfl<;>rfl
structure RC(T:List aY)(L:List Tok)(st:St):Prop where
 ak:st.ak=(kB L).drop st.bM
 le:st.bM<=L.length+1
 nx:st.next<=st.bM
 nm:st.ae.length<=st.next
 lb:L.length<=100000
 tb:T.length<1000000
 tk:(kB L).all xS=true
 rg:∀p∈st.ae,0<=p.2/\p.2<st.next
 Q9:Ig st.ae=true
 Jt:(L.all λt=>decide (0<=t.bM)&&decide (t.bM<1000000))=true
structure Rd where
 x:AV
 y:AV
 T:List aY
 L:List Tok
 st:St
noncomputable def xz:List aS->Option Rd
 |.row [x,y,.int .i64 a,.int .i64 b,v]::os=>(match a8 x,bA y,aar v os with
   |some T,some L,some l=>open Classical in if 0<=a/\0<=b/\RC T L ⟨a.toNat,(kB L).drop a.toNat,b.toNat,l⟩ then some ⟨x,y,T,L,⟨a.toNat,(kB L).drop a.toNat,b.toNat,l⟩⟩ else none
   |_,_,_=>none)
 |_=>none
def dz(x y:AV)(st:St):List aS:=.row [x,y,.int .i64 st.bM,.int .i64 st.next,nY 1 st.ae]::yH st.ae
theorem lz{x y:AV}{T:List aY}{L:List Tok}{st:St}(hx:a8 x=some T)(hy:bA y=some L)(h:RC T L st):xz (dz x y st)=some ⟨x,y,T,L,st⟩:=by
 have e:(⟨(st.bM:Int).toNat,(kB L).drop (st.bM:Int).toNat,(st.next:Int).toNat,st.ae⟩:St)=st:=by rw[Int.toNat_natCast,Int.toNat_natCast,<-h.ak]
 unfold dz xz;simp only[hx,hy,YH];rw[e];exact if_pos ⟨by omega,by omega,h⟩
theorem ke{os:List aS}{R:Rd}(h:xz os=some R):a8 R.x=some R.T/\bA R.y=some R.L/\os=dz R.x R.y R.st/\RC R.T R.L R.st:=by
 unfold xz at h;split at h
 .rename_i x y a b v os;split at h
  .rename_i T L l h1 h2 h3;split at h
   .rename_i hc;cases h;obtain⟨rfl,rfl⟩:=UJ h3;refine⟨h1,h2,?_,hc.2.2⟩;unfold dz;dsimp only;rw[Int.toNat_of_nonneg hc.1,Int.toNat_of_nonneg hc.2.1]
   .cases h
  .cases h
 .cases h
def dE(x y:AV)(l:List (List UInt8×Int))(dv:St):List aS:=match l with
 |[]=>dz x y dv
 |_::_=>[.row [x,y,.int .i64 dv.bM,.int .i64 dv.next,nY 2 dv.ae],.dead,.row (bm dv.ae)]
theorem vI{x y:AV}(hx:Laid x)(hy:Laid y)(g:Nat->Nat)(a b:Int)(v:AV):gu g (.row [x,y,.int .i64 a,.int .i64 b,v])=.row [x,y,.int .i64 a,.int .i64 b,sig g v]:=by show aS.row [sig g x,sig g y,.int .i64 a,.int .i64 b,sig g v]=_;rw[hx.sg,hy.sg]
theorem zk{x y:AV}(hx:Laid x)(hy:Laid y){n:Nat}(a b:Int){v:AV}(hv:db n v=true):Cg n (.row [x,y,.int .i64 a,.int .i64 b,v])=true:=by simp only[Cg,List.all_cons,List.all_nil,Bool.and_true,lK n hx.aK,lK n hy.aK,hv];rfl
theorem kR{x y:AV}(hx:Laid x)(hy:Laid y)(a b:Int):gF [x,y,.int .i64 a,.int .i64 b,.aD] [0]=[0]:=by simp only[gF,hx.top,hy.top];rfl
theorem kN{x y:AV}(hx:Laid x)(hy:Laid y)(a b:Int)(k l:Nat)(hk:(0=k)=False):gF [x,y,.int .i64 a,.int .i64 b,.vec k 0 l 2 l] [0]=[0,k]:=by simp only[gF,hx.top,hy.top];show (if xh [0] k then ([0]:List Nat) else [0,k])=_;simp only[xh,hk,if_false];rfl
theorem kT{x y:AV}(hx:Laid x)(hy:Laid y)(τ:List Nat)(a b:Int):okO τ (.row [x,y,.int .i64 a,.int .i64 b,.aD])=true:=by simp only[okO,List.all_cons,List.all_nil,hx.ok,hy.ok];rfl
theorem kO{x y:AV}(hx:Laid x)(hy:Laid y)(τ:List Nat)(a b:Int)(k l:Nat):okO τ (.row [x,y,.int .i64 a,.int .i64 b,.vec k 0 l 2 l])=xh τ k:=by simp only[okO,List.all_cons,List.all_nil,hx.ok,hy.ok];show (true&&(true&&(true&&(true&&(xh τ k&&true)))))=_;simp
theorem kL{x y:AV}(hx:Laid x)(hy:Laid y)(g:Nat->Nat)(a b:Int):gu g (.row [x,y,.int .i64 a,.int .i64 b,.aD])=.row [x,y,.int .i64 a,.int .i64 b,.aD]:=vI hx hy g a b .aD
theorem kK{x y:AV}(hx:Laid x)(hy:Laid y)(g:Nat->Nat)(a b:Int)(k l:Nat):gu g (.row [x,y,.int .i64 a,.int .i64 b,.vec k 0 l 2 l])=.row [x,y,.int .i64 a,.int .i64 b,.vec (g k) 0 l 2 l]:=vI hx hy g a b _
theorem fa(l:List (List UInt8×Int))(τ:List Nat):okO τ (.row (bm l))=true:=Ua l τ
theorem fc(l:List (List UInt8×Int))(g:Nat->Nat):gu g (.row (bm l))=.row (bm l):=congrArg aS.row (TV l g)
section
variable {X:World->Prop}{P:Program}{E:Env}(hE:bY P X E){n f:Nat}{ak:List AV}{x y v:AV}{st dv:St}(hx:Laid x)(hy:Laid y)
include hE hx hy
theorem dw(h0:st.ae=[])(h1:dv.ae=[])(he:(aH E n f (.ptr 0 0::ak) ⟨1,[.row [x,y,.int .i64 st.bM,.int .i64 st.next,.aD]],1,1⟩).map (λp=>(p.1,p.2.get 0))=some (v,some (.row [x,y,.int .i64 dv.bM,.int .i64 dv.next,.aD])))
 (hv:v.aK=0) (hr:AV.aj ak=0):ck P X f (.ptr 0 0::ak) (dz x y st) v (some (dE x y st.ae dv)):=by
 have e1:dz x y st=[.row [x,y,.int .i64 st.bM,.int .i64 st.next,.aD]]:=by unfold dz;rw[h0];rfl
 have e2:dE x y st.ae dv=[.row [x,y,.int .i64 dv.bM,.int .i64 dv.next,.aD]]:=by unfold dE;rw[h0];unfold dz;rw[h1];rfl
 rw[e1,e2];exact vY hE he hv hr (by simp[AV.aj,hx.aK,hy.aK,AV.aK])
theorem dZ(k:Nat)(hk:1<=k)(h0:st.ae=[])(h1:dv.ae≠[])(he:(aH E n f (.ptr 0 0::ak) ⟨1,[.row [x,y,.int .i64 st.bM,.int .i64 st.next,.aD]],1,1⟩).map (λp=>(p.1,p.2.get 0,p.2.get k))=
 some (v,some (.row [x,y,.int .i64 dv.bM,.int .i64 dv.next,.vec k 0 dv.ae.length 2 dv.ae.length]),some (.row (bm dv.ae))))
 (hv:v.aK=0) (hr:AV.aj ak=0):ck P X f (.ptr 0 0::ak) (dz x y st) v (some (dE x y st.ae dv)):=by
 have e1:dz x y st=[.row [x,y,.int .i64 st.bM,.int .i64 st.next,.aD]]:=by unfold dz;rw[h0];rfl
 have e2:dE x y st.ae dv=[.row [x,y,.int .i64 dv.bM,.int .i64 dv.next,.vec 1 0 dv.ae.length 2 dv.ae.length],.row (bm dv.ae)]:=by
  unfold dE;rw[h0];unfold dz nY yH
  cases hn:dv.ae with
  |nil=>exact absurd hn h1
  |cons p r=>rfl
 rw[e1,e2];obtain⟨⟨v1,h⟩,g1,g2⟩:=Option.map_eq_some_iff.1 he;simp only[Prod.mk.injEq] at g2;obtain⟨rfl,g3,g4⟩:=g2;refine CC (qs:=[k]) hE g1 hv hr (by simp) (by simp) ⟨λi o ho _=>?_,λi j o o' hi hj _ _ e=>?_⟩
 .match i,ho with
  |0,ho=>simp only[List.getElem?_cons_zero,Option.some.injEq] at ho;subst ho;rw[vI hx hy];exact⟨g3,zk hx hy _ _ (by rfl)⟩
  |1,ho=>simp only[List.getElem?_cons_succ,List.getElem?_cons_zero,Option.some.injEq] at ho;subst ho;rw[qT _ (bO _)];exact⟨g4,oV _ (bO _)⟩
  |i+2,ho=>simp at ho
 .have iB:=(List.getElem?_eq_some_iff.1 hi).1;have jk:=(List.getElem?_eq_some_iff.1 hj).1;simp only[List.length_cons,List.length_nil] at iB jk
  have r0:∀i,i<2->ub 1 [k] i=if i=0 then 0 else k:=λi hi=>by
   match i,hi with
   |0,_=>rfl
   |1,_=>rfl
  rw[List.length_cons,List.length_nil,r0 i iB,r0 j jk] at e;split at e<;>split at e<;>omega
theorem da(k:Nat)(hk:1<=k)(h0:st.ae≠[])(h1:dv.ae≠[])(he:(aH E n f (.ptr 0 0::ak) ⟨2,[.row (bm st.ae),.row [x,y,.int .i64 st.bM,.int .i64 st.next,.vec 1 0 st.ae.length 2 st.ae.length]],2,2⟩).map (λp=>(p.1,p.2.get 0,p.2.get k))=
 some (v,some (.row [x,y,.int .i64 dv.bM,.int .i64 dv.next,.vec k 0 dv.ae.length 2 dv.ae.length]),some (.row (bm dv.ae))))
 (hv:v.aK=0) (hr:AV.aj ak=0):ck P X f (.ptr 0 0::ak) (dz x y st) v (some (dE x y st.ae dv)):=by
 have e1:dz x y st=[.row [x,y,.int .i64 st.bM,.int .i64 st.next,.vec 1 0 st.ae.length 2 st.ae.length],.row (bm st.ae)]:=by
  unfold dz nY yH
  cases hn:st.ae with
  |nil=>exact absurd hn h0
  |cons p r=>rfl
 have e2:dE x y st.ae dv=[.row [x,y,.int .i64 dv.bM,.int .i64 dv.next,.vec 2 0 dv.ae.length 2 dv.ae.length],.dead,.row (bm dv.ae)]:=by
  unfold dE
  cases hn:st.ae with
  |nil=>exact absurd hn h0
  |cons p r=>
    dsimp only;unfold nY
    cases hm:dv.ae with
    |nil=>exact absurd hm h1
    |cons q s=>rfl
 rw[e1,e2];obtain⟨⟨v1,h⟩,g1,g2⟩:=Option.map_eq_some_iff.1 he;simp only[Prod.mk.injEq] at g2;obtain⟨rfl,g3,g4⟩:=g2;refine CC (qs:=[k]) hE g1 hv hr (by simp) (by simp) ⟨λi o ho hd=>?_,λi j o o' hi hj hdi hdj e=>?_⟩
 .match i,ho with
  |0,ho=>simp only[List.getElem?_cons_zero,Option.some.injEq] at ho;subst ho;rw[vI hx hy];exact⟨g3,zk hx hy _ _ (by rfl)⟩
  |1,ho=>simp only[List.getElem?_cons_succ,List.getElem?_cons_zero,Option.some.injEq] at ho;exact absurd ho.symm hd
  |2,ho=>simp only[List.getElem?_cons_succ,List.getElem?_cons_zero,Option.some.injEq] at ho;subst ho;rw[qT _ (bO _)];exact⟨g4,oV _ (bO _)⟩
  |i+3,ho=>simp at ho
 .have pick:∀(i:Nat) (o:aS),([.row [x,y,.int .i64 dv.bM,.int .i64 dv.next,.vec 2 0 dv.ae.length 2 dv.ae.length],.dead,.row (bm dv.ae)]:List aS)[i]? =some o->(∀_:o=.dead,False)->(i=0/\ub 2 [k] i=0)\/(i=2/\ub 2 [k] i=k):=λi o ho hd=>by
   match i,ho with
   |0,_=>exact .inl ⟨rfl,rfl⟩
   |1,ho=>simp only[List.getElem?_cons_succ,List.getElem?_cons_zero,Option.some.injEq] at ho;exact absurd ho.symm hd
   |2,_=>exact .inr ⟨rfl,rfl⟩
   |i+3,ho=>simp at ho
  simp only[List.length_cons,List.length_nil,Nat.zero_add] at e;rcases pick i o hi hdi with⟨a1,a2⟩|⟨a1,a2⟩<;>rcases pick j o' hj hdj with⟨b1,b2⟩|⟨b1,b2⟩<;>rw[a2,b2] at e<;>omega
end
end Go.Proofs.YtjmeonoabiliiaaGreatDoor
