import Derived.Test.YtjmeonoabiliiaaGreatDoorBd4
import Derived.Test.YtjmeonoabiliiaaGreatDoorAt
import Derived.Test.YtjmeonoabiliiaaGreatDoorBd2
import Derived.Test.YtjmeonoabiliiaaGreatDoorBd3
set_option linter.all false
set_option maxHeartbeats 16000000
set_option maxRecDepth 100000
namespace Go.Proofs.YtjmeonoabiliiaaGreatDoor
open Go Sz
def ndB(c:UInt8):Bool:=!lR c&&!qA c&&!decide (c.toNat=39)
def Nd(v:List UInt8):Prop:=∃c r,v=c::r/\ndB c=true
def bdL:List UInt8:=[32,44,41,93,125,124]
def Bd(v:List UInt8):Prop:=∃c r,v=c::r/\c∈bdL
theorem Bd.nd{v:List UInt8}(h:Bd v):Nd v:=by obtain⟨c,r,e,hc⟩:=h;refine⟨c,r,e,?_⟩;simp only[bdL,List.mem_cons,List.not_mem_nil,or_false] at hc;rcases hc with rfl|rfl|rfl|rfl|rfl|rfl<;>decide
theorem Bd.open{v:List UInt8}(h:Bd v):decide (v.head?.map UInt8.toNat=some 40)=false:=by obtain⟨c,r,rfl,hc⟩:=h;simp only[bdL,List.mem_cons,List.not_mem_nil,or_false] at hc;rcases hc with rfl|rfl|rfl|rfl|rfl|rfl<;>simp
theorem HS{c:UInt8}(h:ndB c=true):lR c=false/\qA c=false/\¬c.toNat=39:=by unfold ndB at h;simpa[Bool.and_eq_true,and_assoc] using h
theorem W7{c:UInt8}(h:lR c=false):dd c=false:=by unfold lR at h;simp only[Bool.or_eq_false_iff] at h;exact h.2
theorem LX{s:List UInt8}(v:List UInt8)(hs:s≠[])(h:gZ s=false):gZ (s++v)=false:=by
 cases s with
 |nil=>exact absurd rfl hs
 |cons d r=>
   cases r with
   |nil=>
     have h2:¬d.toNat=46:=by simpa[gZ] using h
     cases v<;>simp[gZ,h2]
   |cons e r'=>exact h
theorem KF{c:UInt8}(hc:qA c=false)(v:List UInt8):∀u,jZ u=u.length->jZ (u++c::v)=u.length
 |[],_=>by show jZ (c::v)=0;unfold jZ;rw[hc];rfl
 |d::r,h=>by
   have h1:qA d=true/\gZ (d::r)=false/\jZ r=r.length:=by
    unfold jZ at h;by_cases hb:(qA d&&!gZ (d::r))=true
    .rw[if_pos hb] at h;simp only[Bool.and_eq_true,Bool.not_eq_true'] at hb;exact⟨hb.1,hb.2,by simpa using h⟩
    .rw[if_neg hb] at h;simp at h
   have h2:=LX (c::v) (by simp) h1.2.1;rw[List.cons_append] at h2|-;unfold jZ;rw[h1.1,h2];show jZ (r++c::v)+1=_;rw[KF hc v r h1.2.2];rfl
theorem abJ{u:List UInt8}(h0:(bN u).2.2=0)(h1:(bN u).1.ah=1):bN u=(⟨1,u.take (bN u).2.1,0,false,0⟩,(bN u).2.1,0):=by
 cases u with
 |nil=>simp[bN] at h0
 |cons c r=>
   revert h0 h1
   unfold bN;dsimp only;by_cases k1:jv c=true
   .rw[if_pos k1];exact λ_ _=>rfl
   rw[if_neg k1];by_cases k2:jy c=true
   .rw[if_pos k2];exact λ_ h=>absurd h (by simp)
   rw[if_neg k2];by_cases k3:dd c=true
   .rw[if_pos k3];exact λ_ h=>absurd h (by simp)
   rw[if_neg k3];by_cases k4:c.toNat=39
   .rw[if_pos k4];generalize ib (r.length+1) r [] 1=q;obtain⟨a,k⟩:=q
    cases a with
    |none=>exact λh _=>absurd h (by simp)
    |some t=>exact λ_ h=>absurd h (by simp)
   rw[if_neg k4];by_cases k5:gZ (c::r)=true
   .rw[if_pos k5];exact λ_ h=>absurd h (by simp)
   rw[if_neg k5];by_cases k6:qA c=true
   .rw[if_pos k6];exact λ_ _=>rfl
   rw[if_neg k6];by_cases k7:c.toNat=59\/c.toNat=33
   .rw[if_pos k7];exact λ_ _=>rfl
   rw[if_neg k7]
   cases r with
   |nil=>
     dsimp only;split
     .exact λ_ h=>absurd h (by simp)
     .exact λh _=>absurd h (by simp)
   |cons d r'=>
     dsimp only;split
     .exact λ_ _=>rfl
     .split
      .exact λ_ h=>absurd h (by simp)
      .exact λh _=>absurd h (by simp)
theorem L7{x:List UInt8}(h:x.length<=(ey x).length):ey x=x:=by
 unfold ey at h|-;rw[List.length_drop] at h
 cases x with
 |nil=>rfl
 |cons c r=>
   have:dG ((c::r).length+1) (c::r)=0:=by simp only[List.length_cons] at h|-;omega
   rw[this];rfl
theorem Hg{s:List UInt8}(h:iN s=true):bN s=(⟨1,s,0,false,0⟩,s.length,0)/\s≠[]/\ey s=s:=by
 unfold iN at h;split at h
 .rename_i t a e hc;simp only[Bool.and_eq_true,decide_eq_true_eq] at h;obtain⟨⟨he,hk⟩,ht⟩:=h;have hl:=JR (s:=s) (by rw[hc];exact he);rw[hc] at hl;have nD:=kF s
  cases hs:ey s with
  |nil=>unfold ad6 at hl;rw[hs] at hl;simp[DT,kB] at hl
  |cons c r=>
    unfold ad6 at hl;rw[hs] at hl nD;unfold DT at hl;by_cases h0:(bN (c::r)).2.2=0
    .rw[if_pos h0] at hl
     cases hr:DT s.length (ll (c::r)) with
     |none=>rw[hr] at hl;cases hl
     |some M=>
       rw[hr] at hl;simp only[Option.map_some,Option.some.injEq,kB,List.cons.injEq] at hl;have e1:(bN (c::r)).1.ah=t.ah:=congrArg cB.ah hl.1;have e2:(bN (c::r)).1.ay=t.ay:=congrArg cB.ay hl.1;have k:=abJ h0 (e1.trans hk);rw[k] at e2;dsimp only at e2;rw[ht] at e2;have e3:=congrArg List.length e2;rw[List.length_take] at e3;have es:ey s=s:=L7 (by rw[hs];omega);have ecs:c::r=s:=hs.symm.trans es;rw[ecs] at k e2 e3 nD;have hb:=(gB s).1;have e4:(bN s).2.1=s.length:=by omega
       rw[e4,List.take_length] at k;exact⟨k,by rw[<-ecs];simp,ecs⟩
    .rw[if_neg h0] at hl;cases hl
 .cases h
theorem vw{α:Type}{s:List α}(w:List α):(s++w).take s.length=s:=by rw[List.take_append_of_le_length (Nat.le_refl _),List.take_length]
theorem VR{s v:List UInt8}(h:iN s=true)(hv:Nd v):bN (s++v)=(⟨1,s,0,false,0⟩,s.length,0):=by
 obtain⟨k,hs,_⟩:=Hg h;obtain⟨b,w,rfl,hb⟩:=hv;obtain⟨b1,b2,b3⟩:=HS hb
 cases s with
 |nil=>exact absurd rfl hs
 |cons c r=>
   have hec:gZ (c::r)=false->gZ (c::(r++b::w))=false:=λe=>LX (s:=c::r) (b::w) (by simp) e
   revert k
   rw[List.cons_append];unfold bN;dsimp only;by_cases k1:jv c=true
   .rw[if_pos k1,if_pos k1];intro k;have e:=KS lR b1 w (c::r);rw[List.cons_append] at e;have e2:runN lR (c::r)=(c::r).length:=congrArg (λp=>p.2.1) k;rw[e,e2,<-List.cons_append,vw]
   rw[if_neg k1,if_neg k1];by_cases k2:jy c=true
   .rw[if_pos k2];exact λk=>absurd (congrArg (λp=>p.1.ah) k) (by simp)
   rw[if_neg k2,if_neg k2];by_cases k3:dd c=true
   .rw[if_pos k3];exact λk=>absurd (congrArg (λp=>p.1.ah) k) (by simp)
   rw[if_neg k3,if_neg k3];by_cases k4:c.toNat=39
   .rw[if_pos k4];generalize ib (r.length+1) r [] 1=q;obtain⟨a,j⟩:=q
    cases a with
    |none=>exact λk=>absurd (congrArg (λp=>p.2.2) k) (by simp)
    |some t=>exact λk=>absurd (congrArg (λp=>p.1.ah) k) (by simp)
   rw[if_neg k4,if_neg k4];by_cases k5:gZ (c::r)=true
   .rw[if_pos k5];exact λk=>absurd (congrArg (λp=>p.1.ah) k) (by simp)
   rw[if_neg k5,if_neg (show ¬gZ (c::(r++b::w))=true by rw[hec (by simpa using k5)];simp)];by_cases k6:qA c=true
   .rw[if_pos k6,if_pos k6];intro k;have e2:jZ (c::r)=(c::r).length:=congrArg (λp=>p.2.1) k;have e:=KF b2 w (c::r) e2;rw[List.cons_append] at e;rw[e,<-List.cons_append,vw]
   rw[if_neg k6,if_neg k6];by_cases k7:c.toNat=59\/c.toNat=33
   .rw[if_pos k7,if_pos k7];intro k;exact k
   rw[if_neg k7,if_neg k7]
   cases r with
   |nil=>
     dsimp only;split
     .exact λk=>absurd (congrArg (λp=>p.1.ah) k) (by simp)
     .exact λk=>absurd (congrArg (λp=>p.2.2) k) (by simp)
   |cons d r'=>
     rw[List.cons_append];dsimp only;split
     .exact id
     .split
      .exact λk=>absurd (congrArg (λp=>p.1.ah) k) (by simp)
      .exact λk=>absurd (congrArg (λp=>p.2.2) k) (by simp)
theorem Bz{c d:UInt8}(h:c.toNat=d.toNat):c=d:=UInt8.toNat_inj.1 h
theorem U4{c d:UInt8}(h:xG c=some d):D8 d=some c:=by
 unfold xG at h;split at h
 .rename_i hc;cases h;exact congrArg some (Bz (show (10:UInt8).toNat=c.toNat from hc.symm))
 .split at h
  .rename_i hc;cases h;exact congrArg some (Bz (show (9:UInt8).toNat=c.toNat from hc.symm))
  .split at h
   .rename_i hc;cases h;exact congrArg some (Bz (show (92:UInt8).toNat=c.toNat from hc.symm))
   .split at h
    .rename_i hc;cases h;exact congrArg some (Bz (show (39:UInt8).toNat=c.toNat from hc.symm))
    .cases h
theorem KP{c:UInt8}(h:xG c=none):¬c.toNat=39/\¬c.toNat=92/\¬c.toNat=10/\¬c.toNat=9:=by
 unfold xG at h;split at h
 .cases h
 .split at h
  .cases h
  .split at h
   .cases h
   .split at h
    .cases h
    .exact⟨by assumption,by assumption,by assumption,by assumption⟩
theorem vJ{v:List UInt8}(hv:∀d w,v=d::w->¬d.toNat=39):∀(s aJ t:List UInt8),ua s aJ=some t->∃e,t=aJ++e/\∀n X6 k,e.length<n->ib n (e++39::v) X6 k=(some (X6++s),k+e.length+1)
 |[],aJ,t,h=>by
   cases h;refine⟨[],by simp,λn X6 k hn=>?_⟩
   cases n with
   |zero=>simp at hn
   |succ n=>
     cases v with
     |nil=>simp[Di (show (39:UInt8).toNat=39 from rfl)]
     |cons d w=>simp[EJ (show (39:UInt8).toNat=39 from rfl) (hv d w rfl)]
 |c::r,aJ,t,h=>by
   cases he:xG c with
   |some d=>
     rw[H0 he] at h;obtain⟨e,rfl,g⟩:=vJ hv r _ t h;refine⟨92::d::e,by simp,λn X6 k hn=>?_⟩
     cases n with
     |zero=>simp at hn
     |succ n=>simp only[List.length_cons,List.cons_append] at hn|-;rw[E0 (show (92:UInt8).toNat=92 from rfl) (U4 he),g n _ _ (by omega)];simp only[List.append_assoc,List.cons_append,List.nil_append,Prod.mk.injEq,true_and];omega
   |none=>
     by_cases h2:c.toNat<32\/126<c.toNat
     .rw[MX he h2] at h;cases h
     .rw[Ii he h2] at h;obtain⟨e,rfl,g⟩:=vJ hv r _ t h;obtain⟨n1,n2,_⟩:=KP he;refine⟨c::e,by simp,λn X6 k hn=>?_⟩
      cases n with
      |zero=>simp at hn
      |succ n=>simp only[List.length_cons,List.cons_append] at hn|-;rw[K7 n1 h2 n2,g n _ _ (by omega)];simp only[List.append_assoc,List.cons_append,List.nil_append,Prod.mk.injEq,true_and];omega
theorem IA:∀(s aJ:List UInt8),ou s=true->∃t,ua s aJ=some t
 |[],aJ,_=>⟨aJ,rfl⟩
 |c::r,aJ,h=>by
   unfold ou at h;rw[Bool.and_eq_true] at h
   cases he:xG c with
   |some d=>rw[H0 he];exact IA r _ h.2
   |none=>
     have hn:=KP he
     have:¬(c.toNat<32\/126<c.toNat):=by intro g;have h1:=h.1;unfold Yr at h1;rw[decide_eq_true hn.2.2.1,decide_eq_true hn.2.2.2] at h1;rcases g with g|g<;>simp[g] at h1
     rw[Ii he this];exact IA r _ h.2
theorem E3{s:List UInt8}(h:gU s=true)(hp:¬iN s=true):∃e,bd s=39::e/\∀v,(∀d w,v=d::w->¬d.toNat=39)->bN (39::e++v)=(⟨2,s,0,false,0⟩,e.length+1,0):=by
 unfold gU at h;rw[Bool.and_eq_true,decide_eq_true_eq] at h;obtain⟨t,ht⟩:=IA s [39] h.1;obtain⟨e0,he0,_⟩:=vJ (v:=[]) (λd w hd=>by cases hd) s [39] t ht;refine⟨e0++[39],?_,λv hv=>?_⟩
 .unfold bd;rw[if_neg hp,if_neg (by omega),ht];dsimp only;rw[he0];rfl
 .obtain⟨e,he,g⟩:=vJ hv s [39] t ht
  have:e=e0:=by rw[he0] at he;exact (List.append_cancel_left he).symm
  subst this;show bN (39::((e++[39])++v))=_;rw[List.append_assoc];show bN (39::(e++39::v))=_;unfold bN;dsimp only;rw[if_neg (show ¬jv 39=true by decide),if_neg (show ¬jy 39=true by decide),if_neg (show ¬dd 39=true by decide),if_pos (show (39:UInt8).toNat=39 from rfl),g _ [] 1 (by simp;omega)];simp;omega
theorem Rh{s v:List UInt8}(h:gU s=true)(hv:Nd v):∃k,(k=1\/k=2)/\(k=1↔iN s=true)/\bN (bd s++v)=(⟨k,s,0,false,0⟩,(bd s).length,0):=by
 by_cases hp:iN s=true
 .have e:bd s=s:=by unfold bd;exact if_pos hp
  rw[e];exact⟨1,.inl rfl,by simp[hp],VR hp hv⟩
 .obtain⟨e,he,g⟩:=E3 h hp;rw[he];refine⟨2,.inr rfl,⟨λx=>absurd x (by decide),λx=>absurd x hp⟩,?_⟩;rw[g v ?_]
  .rfl
  .obtain⟨c,r,rfl,hc⟩:=hv;intro d w hd;cases hd;exact (HS hc).2.2
theorem EM{p:UInt8->Bool}{c:UInt8}(hc:p c=false)(v:List UInt8):∀u:List UInt8,(∀x∈u,p x=true)->runN p (u++c::v)=u.length
 |[],_=>by show runN p (c::v)=0;unfold runN;rw[hc];rfl
 |d::r,h=>by rw[List.cons_append];unfold runN;rw[if_pos (h d (by simp)),EM hc v r (λx hx=>h x (by simp[hx]))];rfl
theorem sR:∀{u:List UInt8},cD u=true->∀x∈u,dd x=true
 |[],_,x,hx=>by simp at hx
 |c::r,h,x,hx=>by
   unfold cD at h;rw[Bool.and_eq_true] at h;rcases List.mem_cons.1 hx with rfl|hx
   .exact h.1
   .exact sR h.2 x hx
theorem Ib{c:UInt8}(h:dd c=true):jv c=false/\jy c=false/\iG c=false/\¬c.toNat=37/\¬c.toNat=39:=by
 unfold dd at h;simp only[Bool.and_eq_true,decide_eq_true_eq] at h;unfold jv jy iG;refine⟨?_,?_,?_,by omega,by omega⟩
 .rw[decide_eq_false (by omega)];rfl
 .rw[decide_eq_false (show ¬65<=c.toNat by omega),decide_eq_false (show ¬c.toNat=95 by omega)];rfl
 .rw[decide_eq_false (show ¬c.toNat=32 by omega),decide_eq_false (show ¬c.toNat=9 by omega),decide_eq_false (show ¬c.toNat=10 by omega),decide_eq_false (show ¬c.toNat=13 by omega)];rfl
theorem Eo{u v:List UInt8}(hu:u≠[])(hd:cD u=true)(hv:Nd v):bN (u++v)=(⟨4,[],(fw u).1,false,0⟩,u.length,(fw u).2):=by
 obtain⟨b,w,rfl,hb⟩:=hv;obtain⟨b1,b2,b3⟩:=HS hb;have im:=sR hd
 cases u with
 |nil=>exact absurd rfl hu
 |cons c r=>have hc:=im c (by simp);obtain⟨n1,n2,_⟩:=Ib hc;have e:=EM (W7 b1) w (c::r) im;rw[List.cons_append] at e|-;unfold bN;dsimp only;rw[n1,n2,hc,if_neg (by simp),if_neg (by simp),if_pos rfl,e,<-List.cons_append,vw]
theorem YF{u v:List UInt8}(hd:cD u=true)(hv:Nd v):bN (95::u++v)=(⟨3,95::u,0,false,0⟩,u.length+1,0):=by
 obtain⟨b,w,rfl,hb⟩:=hv;obtain⟨b1,b2,b3⟩:=HS hb;have im:=sR hd
 have e:=EM (p:=lR) b1 w (95::u) (λx hx=>by
  rcases List.mem_cons.1 hx with rfl|hx
  .decide
  .unfold lR;rw[im x hx];simp)
 rw[List.cons_append] at e|-;unfold bN;dsimp only;rw[if_neg (show ¬jv 95=true by decide),if_pos (show jy 95=true by decide),e,<-List.cons_append,vw];rfl
theorem nS{n:Int}(h1:0<=n)(h2:n<9223372036854775808):cD (bz n)=true/\bz n≠[]/\mP 0 (bz n)=n.toNat/\fw (bz n)=(n,0):=by
 have e:bz n=Lib.decDigits n.toNat:=by rw[rE n (by omega) h2];unfold Lib.itoa;rw[if_neg (by omega)]
 have:=wv n.toNat n.toNat (Nat.le_refl _);rw[<-e] at this;refine⟨this.1,this.2.1,this.2.2,?_⟩;rw[rE n (by omega) h2];exact N5 n (by omega) h2
theorem itoa_neg{n:Int}(h1:-9223372036854775808<=n)(h2:n<0):∃u,bz n=45::u/\cD u=true/\u≠[]/\((fw u=(-n,0)/\n≠-9223372036854775808)\/(fw u=(0,3)/\n=-9223372036854775808)):=by
 have e:bz n=45::Lib.decDigits n.natAbs:=by rw[rE n h1 (by omega)];unfold Lib.itoa;rw[if_pos h2]
 obtain⟨d1,d2,d3⟩:=wv n.natAbs n.natAbs (Nat.le_refl _);refine⟨_,e,d1,d2,?_⟩;by_cases hm:n=-9223372036854775808
 .refine .inr ⟨?_,hm⟩;have hr:=uS _ d2 d1 (by rw[d3];omega);unfold fw
  cases hs:Lib.decDigits n.natAbs with
  |nil=>exact absurd hs d2
  |cons c r=>
    rw[hs] at d1 d2 hr;have hc:c≠45:=λe=>by subst e;simp[cD,Uc] at d1
    rw[sn c r hc];dsimp only;rw[if_neg d2,d1,hr];rfl
 .refine .inl ⟨?_,hm⟩;have:=(nS (n:=-n) (by omega) (by omega)).2.2.2
  have e2:bz (-n)=Lib.decDigits n.natAbs:=by rw[rE (-n) (by omega) (by omega)];unfold Lib.itoa;rw[if_neg (by omega)];congr 1;omega
  rw[<-e2];exact this
theorem Hb{u v:List UInt8}(hu:u≠[])(hd:cD u=true):bN (45::(u++v))=(⟨1,[45],0,false,0⟩,1,0):=by
 cases u with
 |nil=>exact absurd rfl hu
 |cons c r=>
   have hc:=sR hd c (by simp);obtain⟨n1,n2,n3,n4,n5⟩:=Ib hc
   have hs:qA c=false:=by unfold dd at hc;simp only[Bool.and_eq_true,decide_eq_true_eq] at hc;unfold qA S3;simp;omega
   have he:gZ (45::(c::r++v))=false:=by simp[gZ]
   have hn:jZ (45::(c::r++v))=1:=by unfold jZ;rw[he];show jZ (c::(r++v))+1=1;unfold jZ;rw[hs];rfl
   unfold bN;dsimp only;rw[if_neg (show ¬jv 45=true by decide),if_neg (show ¬jy 45=true by decide),if_neg (show ¬dd 45=true by decide),if_neg (show ¬(45:UInt8).toNat=39 by decide),if_neg (show ¬gZ (45::(c::r++v))=true by rw[he];simp),if_pos (show qA 45=true by decide),hn];rfl
theorem At{c:UInt8}(hc:mH c=true){v:List UInt8}(h1:c.toNat=91->∀d w,v=d::w->¬d.toNat=93)(h2:c.toNat=123->∀d w,v=d::w->¬d.toNat=125):bN (c::v)=(⟨5,[c],0,false,0⟩,1,0):=by
 have hm:c∈qE:=by unfold mH at hc;rw[List.any_eq_true] at hc;obtain⟨d,hd,e⟩:=hc;rw[<-Bz (of_decide_eq_true e)];exact hd
 have xX:jv c=false/\jy c=false/\dd c=false/\¬c.toNat=39/\¬c.toNat=46/\qA c=false/\¬(c.toNat=59\/c.toNat=33):=by simp only[qE,List.mem_cons,List.not_mem_nil,or_false] at hm;rcases hm with rfl|rfl|rfl|rfl|rfl|rfl|rfl|rfl<;>decide
 obtain⟨n1,n2,n3,n4,n5,n6,n7⟩:=xX;have n8:gZ (c::v)=false:=by simp[gZ,n5]
 unfold bN;dsimp only;rw[n1,n2,n3,if_neg (by simp),if_neg (by simp),if_neg (by simp),if_neg n4,n8,if_neg (by simp),n6,if_neg (by simp),if_neg n7]
 cases v with
 |nil=>dsimp only;rw[if_pos hc]
 |cons d w=>dsimp only;rw[if_neg (by rintro (⟨a,b⟩|⟨a,b⟩);exact h1 a d w rfl b;exact h2 a d w rfl b),if_pos hc]
def FD(u:List UInt8):cB:=if (bN u).2.2=0 then Iz u else⟨(bN u).1.ah,(bN u).1.ay,-1,(Iz u).iT,(Iz u).TM⟩
def wG:Nat->List UInt8->Option (List cB)
 |0,_=>none
 |_+1,[]=>some []
 |n+1,c::r=>if ((bN (c::r)).2.2=0\/(bN (c::r)).2.2=3)/\1<=(bN (c::r)).2.1 then (wG n (ll (c::r))).map (FD (c::r)::·) else none
theorem V2{u:List UInt8}(h:1<=(bN u).2.1):(oC u).length<u.length/\(ll u).length<u.length:=by
 have h1:=gB u;have h3:=kF (oC u);have h4:(oC u).length=u.length-(bN u).2.1:=by unfold oC;rw[List.length_drop]
 unfold ll;omega
theorem GP:∀(n m:Nat) (u:List UInt8),u.length<n->u.length<m->wG n u=wG m u
 |0,_,_,h,_=>by omega
 |_+1,0,_,_,h=>by omega
 |n+1,m+1,[],_,_=>rfl
 |n+1,m+1,c::r,h1,h2=>by
   unfold wG;by_cases h:((bN (c::r)).2.2=0\/(bN (c::r)).2.2=3)/\1<=(bN (c::r)).2.1
   .have:=(V2 h.2).2;simp only[List.length_cons] at h1 h2 this;rw[if_pos h,if_pos h,GP n m _ (by omega) (by omega)]
   .rw[if_neg h,if_neg h]
def pZ(x:List UInt8):Option (List cB):=wG (x.length+1) (ey x)
theorem DU{x:List UInt8}{n:Nat}(h:(ey x).length<n):pZ x=wG n (ey x):=GP _ _ _ (by have:=kF x;omega) h
theorem KE:∀(n:Nat) (u:List UInt8) (L:List cB),DT n u=some L->wG n u=some L
 |0,_,_,h=>by cases h
 |_+1,[],_,h=>h
 |n+1,c::r,L,h=>by
   unfold DT at h;unfold wG;by_cases h0:(bN (c::r)).2.2=0
   .rw[if_pos h0] at h;rw[if_pos ⟨.inl h0,(gB (c::r)).2 h0⟩]
    cases hr:DT n (ll (c::r)) with
    |none=>rw[hr] at h;cases h
    |some M=>
      rw[hr] at h;rw[KE n _ M hr];have e:FD (c::r)=Iz (c::r):=by unfold FD;exact if_pos h0
      rw[e];exact h
   .rw[if_neg h0] at h;cases h
theorem JC:∀(f:Nat) (s:List UInt8) (j:Nat) (aJ:List Tok) (L:List cB),j<=s.length->s.length-j<f->wG f (s.drop j)=some L->(nP f s j aJ).2.2=0\/(nP f s j aJ).2.2=3
 |0,_,_,_,_,_,h,_=>by omega
 |f+1,s,j,aJ,L,hj,hf,h=>by
   unfold nP;by_cases h1:s.length<=j
   .rw[if_pos h1];exact .inl rfl
   rw[if_neg h1]
   cases hd:s.drop j with
   |nil=>exact absurd (congrArg List.length hd) (by simp;omega)
   |cons c r=>
     rw[<-hd];have e:wG (f+1) (s.drop j)=if ((bN (s.drop j)).2.2=0\/(bN (s.drop j)).2.2=3)/\1<=(bN (s.drop j)).2.1 then (wG f (ll (s.drop j))).map (FD (s.drop j)::·) else none:=by rw[hd];rfl
     rw[e] at h;by_cases h2:(bN (s.drop j)).2.2=0
     .rw[if_neg (λg=>g h2)];by_cases h3:(((bN (s.drop j)).1.ah=1\/(bN (s.drop j)).1.ah=2)/\64<(bN (s.drop j)).1.ay.length)\/aJ.length=1024
      .rw[if_pos h3];exact .inr rfl
      rw[if_neg h3];have l2:=gB (s.drop j);have l3:=l2.2 h2;rw[if_pos ⟨.inl h2,l3⟩,Option.map_eq_some_iff] at h;obtain⟨K,h4,_⟩:=h;have l1:=E8 h2;have ld:(s.drop j).length=s.length-j:=List.length_drop;have en:oC (s.drop j)=s.drop (j+(bN (s.drop j)).2.1):=by unfold oC;rw[List.drop_drop]
      have ek:dG (s.length+1) (s.drop (j+(bN (s.drop j)).2.1))=dG ((oC (s.drop j)).length+1) (oC (s.drop j)):=by rw[en];exact nf _ _ _ (by rw[List.length_drop];omega) (Nat.lt_succ_self _)
      have er:ll (s.drop j)=s.drop (j+(bN (s.drop j)).2.1+dG (s.length+1) (s.drop (j+(bN (s.drop j)).2.1))):=by unfold ll ey;rw[<-ek,en,List.drop_drop]
      have lk:=iM (s.length+1) (s.drop (j+(bN (s.drop j)).2.1));rw[List.length_drop] at lk;rw[er] at h4;exact JC f s _ _ K (by omega) (by omega) h4
     .rw[if_pos h2];by_cases h3:(bN (s.drop j)).2.2=3
      .exact .inr h3
      .rw[if_neg (λg=>g.1.elim h2 h3)] at h;cases h
theorem Si{s:List UInt8}{L:List cB}(h:pZ s=some L):(dC s).2.2=0\/(dC s).2.2=3:=by
 unfold dC;by_cases hl:4096<s.length
 .rw[if_pos hl];exact .inr rfl
 rw[if_neg hl];exact JC (s.length+1) s _ [] L (iM (s.length+1) s) (by omega) h
theorem Ha{s:List UInt8}{L:List cB}(h:pZ s=some L)(h0:(dC s).2.2=0):kB (dC s).1=L:=by have:=KE _ _ _ (JR h0);unfold pZ at h;rw[this] at h;exact Option.some.inj h
theorem pG{s v:List UInt8}{t:Tok}{e:Int}{M:List cB}(hs:s≠[])(hk:ey (s++v)=s++v)(ho:bN (s++v)=(t,s.length,e))(he:e=0\/e=3)(hm:pZ v=some M):
 pZ (s++v)=some (⟨t.ah,t.ay,if e=0 then t.bx else -1,decide (v.head?.map UInt8.toNat=some 40),decide ((s++v).length-(ey v).length=1/\ey v≠[])⟩::M):=by
 have en:oC (s++v)=v:=by unfold oC;rw[ho];exact List.drop_left
 have er:ll (s++v)=ey v:=by unfold ll;rw[en]
 have hp:0<s.length:=List.length_pos_iff.2 hs
 have et:FD (s++v)=⟨t.ah,t.ay,if e=0 then t.bx else -1,decide (v.head?.map UInt8.toNat=some 40),decide ((s++v).length-(ey v).length=1/\ey v≠[])⟩:=by
  unfold FD Iz;rw[ho,en,er];dsimp only;by_cases h0:e=0
  .rw[if_pos h0,if_pos h0]
  .rw[if_neg h0,if_neg h0]
 rw[DU (n:=(s++v).length+1) (by rw[hk];omega),hk]
 cases hsv:s++v with
 |nil=>rw[List.append_eq_nil_iff] at hsv;exact absurd hsv.1 hs
 |cons c r=>
   rw[hsv] at ho er et;unfold wG;rw[if_pos ⟨by rw[ho];exact he,by rw[ho];exact hp⟩,er]
   have e2:wG (c::r).length (ey v)=some M:=by rw[<-hm,<-DU];have h1:=kF v;have h2:=congrArg List.length hsv;rw[List.length_append] at h2;omega
   rw[e2,<-hsv];simp only[Option.map_some];rw[hsv,et,<-hsv]
theorem Bj{c:UInt8}{v:List UInt8}(hc:iG c=true):pZ (c::v)=pZ v:=by have h:=kF v;rw[DU (x:=c::v) (n:=v.length+1) (by rw[pT hc];omega),pT hc];rfl
theorem DY(s r:List UInt8)(q:List (List UInt8))(p:List UInt8):Lib.join (s::r::q) p=s++p++Lib.join (r::q) p:=by simp[Lib.join,List.intercalate,List.intersperse]
theorem Uf{T:List aY}{b:Bool}{t:Tm}(h:(eT T b t).2=true):t.aa.length=2/\t.aC≠[46]/\b=true/\eT T b t=aM T t.aC false:=by
 unfold eT at h|-;split at h
 .cases h
 .rename_i hc;rw[if_neg hc];simp only[Bool.or_eq_true,Bool.not_eq_true',decide_eq_true_eq,decide_eq_false_iff_not,not_or,Bool.not_eq_false] at hc;exact⟨Classical.not_not.1 hc.1.2,hc.2,hc.1.1,rfl⟩
theorem VT{T:List aY}{b:Bool}{t:Tm}(h:(iS T b t).2=true):t.aa.length=1/\b=true/\iS T b t=aM T t.aC true/\iN t.aC=true/\¬(t.aC=[45]/\(qX t).ah=1):=by
 unfold iS at h|-;split at h
 .cases h
 .rename_i hc;rw[if_neg hc];simp only[Bool.or_eq_true,Bool.not_eq_true',decide_eq_true_eq,decide_eq_false_iff_not,not_or,Bool.not_eq_false,Bool.and_eq_true] at hc;exact⟨Classical.not_not.1 hc.1.1.2,hc.1.1.1,rfl,hc.2,hc.1.2⟩
theorem NZ{T:List aY}(hg:dJ T=true){s:List UInt8}{b:Bool}(h:(aM T s b).2=true):1<=(aM T s b).1.l/\(aM T s b).1.l<=1200:=by have:=Pg (yz hg _ (Aq h).1);omega
def S4:Nat->List (List UInt8×Int)
 |0=>[]
 |k+1=>S4 k++[(95::bz (k:Int),(k:Int))]
def TK(k:Nat)(st:St):Prop:=st.next=k/\st.ae=S4 k
theorem Hh(s:List UInt8):∀a b,l6 s (a++b)=match l6 s a with|some n=>some n|none=>l6 s b
 |[],b=>rfl
 |p::r,b=>by
   show (if p.1=s then some p.2 else l6 s (r++b))=match (if p.1=s then some p.2 else l6 s r) with|some n=>some n|none=>l6 s b
   by_cases h:p.1=s
   .rw[if_pos h,if_pos h]
   .rw[if_neg h,if_neg h];exact Hh s r b
theorem Xz{i j:Nat}(hi:i<1000000000)(hj:j<1000000000)(h:bz (i:Int)=bz (j:Int)):i=j:=by have h1:=(nS (n:=(i:Int)) (by omega) (by omega)).2.2.1;have h2:=(nS (n:=(j:Int)) (by omega) (by omega)).2.2.1;rw[h,h2] at h1;omega
theorem Pd:∀(k i:Nat),k<1000000000->i<1000000000->l6 (95::bz (i:Int)) (S4 k)=if i<k then some (i:Int) else none
 |0,i,_,_=>rfl
 |k+1,i,hk,hi=>by
   show l6 _ (S4 k++_)=_;rw[Hh,Pd k i (by omega) hi];by_cases h:i<k
   .rw[if_pos h,if_pos (by omega)]
   .rw[if_neg h];unfold l6;by_cases h2:i=k
    .subst h2;rw[if_pos rfl,if_pos (by omega)]
    .rw[if_neg (λe=>h2 (Xz hi (by omega) (List.cons.inj e).2.symm)),if_neg (by omega)];rfl
theorem abL{k i:Nat}{st:St}(hv:TK k st)(hi:i<=k)(hb:k<100000000):
 (k9 (95::bz (i:Int)) st).1=.nl 0 (i:Int) []/\(k9 (95::bz (i:Int)) st).2.bM=st.bM/\(k9 (95::bz (i:Int)) st).2.ak=st.ak/\TK (if i<k then k else k+1) (k9 (95::bz (i:Int)) st).2:=by
 obtain⟨h1,h2⟩:=hv;have hf:=Pd k i (by omega) (by omega);unfold k9;rw[h2,hf];by_cases h:i<k
 .rw[if_pos h,if_pos h];exact⟨rfl,rfl,rfl,h1,h2⟩
 .rw[if_neg h,if_neg h];obtain rfl:i=k:=by omega
  have fB:¬(95::bz (i:Int))=[95]:=λe=>(nS (n:=(i:Int)) (by omega) (by omega)).2.1 (List.cons.inj e).2
  rw[if_neg fB];refine⟨by rw[h1],rfl,rfl,by show st.next+1=i+1;rw[h1],?_⟩;show S4 i++[(95::bz (i:Int),(st.next:Int))]=S4 i++[(95::bz (i:Int),(i:Int))];rw[h1]
def Stp(T:List aY)(r:Int)(x:cB):Prop:=(x.ah=1\/x.ah=2\/x.ah=5\/x.ah=6)/\((cC T x).2=true->r<(cC T x).1.l)
def rI(x:cB):Prop:=x.ah=6\/(x.ah=5/\(x.ay=[41]\/x.ay=[93]\/x.ay=[125]\/x.ay=[124]\/x.ay=[44]))
theorem S8{T:List aY}(hg:dJ T=true)(h:(aM T [44] false).2=true):(aM T [44] false).1.l=1000:=by obtain⟨h1,h2,_⟩:=Aq h;have:=yz hg _ h1;rw[h2] at this;unfold qW at this;simp only[beq_self_eq_true,if_true,Bool.and_eq_true,decide_eq_true_eq] at this;exact this.2
theorem Fg{T:List aY}{x:cB}(h5:x.ah=5)(h:¬x.ay=[44]):(cC T x).2=false:=by unfold cC dQ;rw[h5,decide_eq_false h];rfl
theorem rn{T:List aY}{x:cB}(h6:x.ah=6):(cC T x).2=false:=by unfold cC dQ;rw[h6];rfl
theorem LD{T:List aY}{x:cB}(h5:x.ah=5)(h:x.ay=[44]):cC T x=aM T [44] false:=by unfold cC dQ;rw[h5,h];rfl
theorem rI.lvl{T:List aY}(hg:dJ T=true){x:cB}(h:rI x):(cC T x).2=true->(cC T x).1.l=1000/\x.ay=[44]:=λhb=>by
 rcases h with h|⟨h,ht⟩
 .rw[rn h] at hb;cases hb
 .by_cases hc:x.ay=[44]
  .rw[LD h hc] at hb|-;exact⟨S8 hg hb,hc⟩
  .rw[Fg h hc] at hb;cases hb
theorem rI.stp{T:List aY}(hg:dJ T=true){x:cB}(h:rI x){r:Int}(hr:r<1000):Stp T r x:=by
 refine⟨?_,λhb=>by rw[(h.lvl hg hb).1];exact hr⟩;rcases h with h|⟨h,_⟩
 .exact .inr (.inr (.inr h))
 .exact .inr (.inr (.inl h))
theorem rI.NY{T:List aY}{x:cB}(h:rI x)(hc:¬x.ay=[44])(r:Int):Stp T r x/\(cC T x).2=false:=by
 rcases h with h|⟨h,_⟩
 .exact⟨⟨.inr (.inr (.inr h)),λhb=>by rw[rn h] at hb;cases hb⟩,rn h⟩
 .exact⟨⟨.inr (.inr (.inl h)),λhb=>by rw[Fg h hc] at hb;cases hb⟩,Fg h hc⟩
def Gx(T:List aY)(m:Int)(u:Tm)(lv:Int)(st:St):PR×St:=fC (ag T) T (st.ak.length+1) m (u,lv,true) st
section
variable {T:List aY}{m lv:Int}{u:Tm}{st dv:St}{x:cB}{Q:List cB}
theorem mQ(h:st.ak=x::Q):aB st=x:=by unfold aB;rw[h];rfl
theorem fW(h:st.ak=x::Q):(aq st).ak=Q/\(aq st).bM=st.bM+1:=⟨by show st.ak.tail=Q;rw[h];rfl,rfl⟩
theorem G2{k:Nat}(h:TK k st):TK k (aq st):=h
theorem S7(h:st.ak=x::Q)(hb:(cC T x).2=true->m<(cC T x).1.l):Gx T m u lv st=((u,lv,true),st):=by
 refine fx (by rw[mQ h]) ?_
 cases hx:(cC T x).2 with
 |false=>simp
 |true=>simp[hb hx]
theorem jm(h:bo T m st=((u,lv,true),dv))(hl:dv.ak.length<=st.ak.length):ag T m st=Gx T m u lv dv:=by rw[JO,h];exact zH (bQ T) (zr (st.ak.length+1) (ag T)) T _ _ m _ dv (by omega) (by omega) (by omega)
theorem aaa{o:aY}{w:Tm}{lw:Int}(h:st.ak=x::Q)(hb:cC T x=(o,true))(h1:o.l<=m)(h2:lv<=(ax o).1)(hr:ag T (ax o).2 (aq st)=((w,lw,true),dv))(hl:dv.ak.length<=Q.length):
 Gx T m u lv st=Gx T m (ct x.ay [u,w]) o.l dv:=by
 have hs:=mQ h;unfold Gx;rw[ti (by rw[hs];exact hb) (by omega) (by omega),hr,hs,h];exact zH (bQ T) (zr (Q.length+1) (ag T)) T _ _ m _ dv (by omega) (by simp;omega) (by omega)
theorem pj{c:List UInt8}(h:st.ak=x::Q)(h5:x.ah=5)(ht:x.ay=c):ba c st=(true,aq st):=by unfold ba;rw[mQ h,if_pos ⟨h5,ht⟩]
theorem F3{c:List UInt8}(h:st.ak=x::Q)(hn:¬(x.ah=5/\x.ay=c)):ba c st=(false,st):=by unfold ba;rw[mQ h,if_neg hn]
theorem JL(h:st.ak=x::Q):hO T st=if x.ah=0\/x.ah=6 then false else if x.ah=5 then decide (x.ay=[40])||decide (x.ay=[91])||decide (x.ay=[123]) else if !dQ x||x.iT then true else !(aM T x.ay false).2||(aM T x.ay true).2:=by unfold hO;rw[mQ h]
theorem Oq(h:st.ak=x::Q)(hc:rI x):hO T st=false:=by
 rw[JL h];rcases hc with hc|⟨hc,ht⟩
 .rw[if_pos (.inr hc)]
 .rw[if_neg (by omega),if_pos hc];rcases ht with e|e|e|e|e<;>rw[e]<;>decide
end
mutual
def fR(ix:Int->Int):Tm->Tm
 |.nl k n s=>.nl k (if k=0 then ix n else n) s
 |.mk k n s us=>Ps k (if k=0 then ix n else n) s (tt ix us)
def tt(ix:Int->Int):List Tm->List Tm
 |[]=>[]
 |t::r=>fR ix t::tt ix r
end
theorem rJ(ix:Int->Int):∀us,tt ix us=us.map (fR ix)
 |[]=>rfl
 |t::r=>by rw[tt,rJ ix r];rfl
theorem oy(ix:Int->Int)(t:Tm):fR ix t=Ps t.ah (if t.ah=0 then ix t.bx else t.bx) t.aC (t.aa.map (fR ix)):=by
 cases t with
 |nl k n s=>rfl
 |mk k n s us=>rw[fR,rJ];rfl
mutual
def eG(ix:Int->Int):Tm->Nat->Option Nat
 |.nl k n _,j=>if k=0 then (if ix n<j then some j else if ix n=j then some (j+1) else none) else some j
 |.mk k n _ us,j=>if k=0 then (if ix n<j then some j else if ix n=j then some (j+1) else none) else gE ix us j
def gE(ix:Int->Int):List Tm->Nat->Option Nat
 |[],j=>some j
 |t::r,j=>(eG ix t j).bind (gE ix r)
end
theorem mg(ix:Int->Int)(t:Tm)(j:Nat):eG ix t j=if t.ah=0 then (if ix t.bx<j then some j else if ix t.bx=j then some (j+1) else none) else gE ix t.aa j:=by
 cases t with
 |nl k n s=>rfl
 |mk k n s us=>rfl
theorem Kf(ix:Int->Int):∀(a b:List Tm) (j:Nat),gE ix (a++b) j=(gE ix a j).bind (gE ix b)
 |[],b,j=>rfl
 |t::r,b,j=>by
   rw[List.cons_append];unfold gE
   cases eG ix t j with
   |none=>rfl
   |some i=>exact Kf ix r b i
mutual
theorem ID(ix:Int->Int):∀(t:Tm) (j i:Nat),eG ix t j=some i->j<=i
 |.nl k n s,j,i,h=>by
   unfold eG at h;split at h
   .split at h
    .cases h;exact Nat.le_refl _
    .split at h
     .cases h;omega
     .cases h
   .cases h;exact Nat.le_refl _
 |.mk k n s us,j,i,h=>by
   unfold eG at h;split at h
   .split at h
    .cases h;exact Nat.le_refl _
    .split at h
     .cases h;omega
     .cases h
   .exact CD ix us j i h
theorem CD(ix:Int->Int):∀(us:List Tm) (j i:Nat),gE ix us j=some i->j<=i
 |[],j,i,h=>by cases h;exact Nat.le_refl _
 |t::r,j,i,h=>by unfold gE at h;obtain⟨a,h1,h2⟩:=Option.bind_eq_some_iff.1 h;have:=ID ix t j a h1;have:=CD ix r a i h2;omega
end
def xb(T:List aY)(ix:Int->Int)(t:Tm)(L:List cB)(lv r:Int)(bs:Bool):Prop:=
 ∀(m:Int) (st:St) (x:cB) (Q:List cB) (k k':Nat),lv<=m->st.ak=L++x::Q->TK k st->eG ix t k=some k'->k'<=100000->Stp T r x->(bs=false->rI x)->
   ∃dv,dv.ak=x::Q/\dv.bM=st.bM+L.length/\TK k' dv/\ag T m st=Gx T m (fR ix t) lv dv
def oz(T:List aY)(ix:Int->Int)(us:List Tm)(L:List cB):Prop:=
 ∀(M:Nat) (aJ:List Tm) (st:St) (x:cB) (Q:List cB) (k k':Nat),st.ak=L++x::Q->st.ak.length<M->TK k st->gE ix us k=some k'->k'<=100000->rI x->¬x.ay=[44]->
   ∃dv,dv.ak=x::Q/\dv.bM=st.bM+L.length/\TK k' dv/\bp (ag T) M aJ st=((aJ++us.map (fR ix),true),dv)
section
variable {T:List aY}{ix:Int->Int}{t:Tm}{L:List cB}{lv r:Int}{bs:Bool}
theorem xb.stop(h:xb T ix t L lv r bs){m:Int}{st:St}{x:cB}{Q:List cB}{k k':Nat}(hm:lv<=m)(hr:st.ak=L++x::Q)(hv:TK k st)(ho:eG ix t k=some k')(hk:k'<=100000)(hs:Stp T r x)(hc:bs=false->rI x)(hx:(cC T x).2=true->m<(cC T x).1.l):
 ∃dv,dv.ak=x::Q/\dv.bM=st.bM+L.length/\TK k' dv/\ag T m st=((fR ix t,lv,true),dv):=by
 obtain⟨dv,h1,h2,h3,h4⟩:=h m st x Q k k' hm hr hv ho hk hs hc;exact⟨dv,h1,h2,h3,by rw[h4,S7 h1 hx]⟩
theorem mD(m:Int)(st:St):bo T m st=eH (ag T) T (st.ak.length+1) m st:=rfl
theorem Lc{t:Tm}(h:t.aa=[]):fR ix t=.nl t.ah (if t.ah=0 then ix t.bx else t.bx) t.aC:=by rw[oy,h];rfl
theorem Oc(hk:t.ah=0)(ha:t.aa=[])(hn:t.aC=[]){i:Nat}(hi:ix t.bx=(i:Int)){y:cB}(y3:y.ah=3)(yt:y.ay=95::bz (i:Int)):xb T ix t [y] 0 0 bs:=by
 intro m st x Q k k' hm hr hv ho B2 hs hc;have rW:=mQ hr;have jl:=fW hr;rw[mg,if_pos hk,hi] at ho
 have TE:i<=k/\k'=(if i<k then k else k+1):=by
  by_cases h1:i<k
  .rw[if_pos (by omega)] at ho;rw[if_pos h1];cases ho;exact⟨by omega,rfl⟩
  .rw[if_neg (by omega)] at ho;by_cases h2:(i:Int)=k
   .rw[if_pos h2] at ho;rw[if_neg h1];cases ho;exact⟨by omega,rfl⟩
   .rw[if_neg h2] at ho;cases ho
 have hkb:k<100000000:=by have:=TE.2;split at this<;>omega
 obtain⟨v1,v2,v3,v4⟩:=abL (G2 hv) TE.1 hkb;rw[<-TE.2] at v4;refine⟨(k9 (95::bz (i:Int)) (aq st)).2,by rw[v3];exact jl.1,by rw[v2];exact jl.2,v4,?_⟩;rw[Lc ha,if_pos hk,hi,hk,hn]
 refine jm (by rw[mD];unfold eH;rw[rW,if_neg (by rw[y3];decide),if_pos y3,yt,v1]) ?_
 rw[v3,jl.1,hr];simp
theorem WK(hk:t.ah=1)(ha:t.aa=[])(hn:t.aC=[]){y:cB}(y4:y.ah=4)(yn:y.bx=t.bx):xb T ix t [y] 0 0 bs:=by
 intro m st x Q k k' hm hr hv ho B2 hs hc;have rW:=mQ hr;have jl:=fW hr;rw[mg,if_neg (by omega),ha] at ho;cases ho;refine⟨aq st,jl.1,jl.2,hv,?_⟩;rw[Lc ha,if_neg (by omega),hk,hn]
 refine jm (by rw[mD];unfold eH;rw[rW,if_pos y4,yn]) ?_
 rw[jl.1,hr];simp
theorem Wi(hk:t.ah=1)(ha:t.aa=[])(hn:t.aC=[]){y z:cB}(y1:y.ah=1)(yt:y.ay=[45])(yo:y.iT=false)(ya:y.TM=true)(z4:z.ah=4)(zn:z.bx=-t.bx):xb T ix t [y,z] 0 0 bs:=by
 intro m st x Q k k' hm hr hv ho B2 hs hc;have rW:=mQ hr;have jl:=fW hr;have X7:=mQ jl.1;have Fv:=fW jl.1;rw[mg,if_neg (by omega),ha] at ho;cases ho;refine⟨aq (aq st),Fv.1,by rw[Fv.2,jl.2];rfl,hv,?_⟩;rw[Lc ha,if_neg (by omega),hk,hn];have hnb:dQ y=true:=by unfold dQ;rw[y1];rfl
 refine jm (by rw[mD];unfold eH;rw[rW,if_neg (by rw[y1];decide),if_neg (by rw[y1];decide),if_neg (λh=>by rw[y1] at h;exact absurd h.1 (by decide)),if_neg (λh=>by rw[y1] at h;exact absurd h.1 (by decide)),if_neg (λh=>by rw[y1] at h;exact absurd h.1 (by decide)),if_neg (by rw[hnb];decide),if_neg (by rw[yo];simp),X7,if_pos ⟨y1,yt,z4,ya⟩,zn,Int.neg_neg]) ?_
 rw[Fv.1,hr];simp
theorem Hn{m:Int}{st:St}{y:cB}{R:List cB}(hr:st.ak=y::R)(hk:y.ah=1\/y.ah=2)(yo:y.iT=false)(hn:¬(y.ah=1/\y.ay=[45]/\(aB (aq st)).ah=4/\y.TM=true)):bo T m st=cn (ag T) T y m (aq st):=by
 have rW:=mQ hr;have hnb:dQ y=true:=by unfold dQ;rcases hk with h|h<;>rw[h]<;>rfl
 rw[mD];unfold eH;rw[rW,if_neg (by omega),if_neg (by omega),if_neg (by omega),if_neg (by omega),if_neg (by omega),if_neg (by rw[hnb];decide),if_neg (by rw[yo];simp),if_neg hn]
theorem H5(hk:t.ah=2)(ha:t.aa=[])(h0:t.bx=0){y:cB}(yk:y.ah=1\/y.ah=2)(yt:y.ay=t.aC)(yo:y.iT=false)(hb:bs=true->(aM T t.aC true).2=false):xb T ix t [y] (if y.ah=2 then 0 else u7 T t.aC) 0 bs:=by
 intro m st x Q k k' hm hr hv ho B2 hs hc;have jl:=fW hr;have X7:=mQ jl.1;rw[mg,if_neg (by omega),ha] at ho;cases ho;refine⟨aq st,jl.1,jl.2,hv,?_⟩;rw[Lc ha,if_neg (by omega),hk,h0];refine jm ?_ (by rw[jl.1,hr];simp);rw[Hn hr yk yo (by rw[X7];have:=hs.1;omega)];unfold cn;by_cases y2:y.ah=2
 .rw[if_pos y2,if_pos y2,yt];rfl
 .rw[if_neg y2] at hm|-;rw[if_neg y2,yt]
  have hp:((aM T t.aC true).2&&decide ((aM T t.aC true).1.l<=m)&&hO T (aq st))=false:=by
   cases wz:bs with
   |true=>rw[hb wz];simp
   |false=>rw[Oq jl.1 (hc wz)];simp
  rw[hp,if_neg (by simp),decide_eq_true hm];rfl
theorem Vw(hg:dJ T=true)(h:xb T ix t L lv r false)(hl:lv<=1200){y z:cB}(y5:y.ah=5)(yt:y.ay=[40])(z5:z.ah=5)(zt:z.ay=[41]):xb T ix t (y::(L++[z])) 0 0 bs:=by
 intro m st x Q k k' hm hr hv ho B2 hs hc;have x6:st.ak=y::(L++z::x::Q):=by rw[hr];simp
 have rW:=mQ x6;have jl:=fW x6;have hz:rI z:=.inr ⟨z5,.inl zt⟩;have HJ:=hz.NY (T:=T) (by rw[zt];decide) r;obtain⟨s1,a1,a2,a3,a4⟩:=h.stop (m:=1200) (by omega) jl.1 (G2 hv) ho B2 HJ.1 (λ_=>hz) (λe=>by rw[HJ.2] at e;cases e);have ht:=pj (c:=[41]) a1 z5 zt;refine⟨aq s1,(fW a1).1,by rw[(fW a1).2,a2,jl.2];simp;omega,a3,?_⟩;refine jm ?_ (by rw[(fW a1).1,hr];simp;omega);rw[mD];unfold eH;rw[rW,if_neg (by omega),if_neg (by omega),if_pos ⟨y5,yt⟩];unfold fT;rw[a4,if_pos rfl,ht]
theorem Z3(hg:dJ T=true){u:Tm}(ha:t.aa=[u])(hk:t.ah=2)(h0:t.bx=0)(hn:t.aC=[123,125])(h:xb T ix u L lv r false)(hl:lv<=1200){y z:cB}(y5:y.ah=5)(yt:y.ay=[123])(z5:z.ah=5)(zt:z.ay=[125]):xb T ix t (y::(L++[z])) 0 0 bs:=by
 intro m st x Q k k' hm hr hv ho B2 hs hc;have x6:st.ak=y::(L++z::x::Q):=by rw[hr];simp
 have rW:=mQ x6;have jl:=fW x6;have hz:rI z:=.inr ⟨z5,.inr (.inr (.inl zt))⟩;have HJ:=hz.NY (T:=T) (by rw[zt];decide) r;rw[mg,if_neg (by omega),ha] at ho
 have ho:eG ix u k=some k':=by unfold gE at ho;obtain⟨a,h1,h2⟩:=Option.bind_eq_some_iff.1 ho;cases h2;exact h1
 obtain⟨s1,a1,a2,a3,a4⟩:=h.stop (m:=1200) (by omega) jl.1 (G2 hv) ho B2 HJ.1 (λ_=>hz) (λe=>by rw[HJ.2] at e;cases e);have ht:=pj (c:=[125]) a1 z5 zt;refine⟨aq s1,(fW a1).1,by rw[(fW a1).2,a2,jl.2];simp;omega,a3,?_⟩;rw[oy,hk,if_neg (by omega),h0,hn,ha];refine jm ?_ (by rw[(fW a1).1,hr];simp;omega);rw[mD];unfold eH;rw[rW,if_neg (by omega),if_neg (by omega),if_neg (λe=>by rw[yt] at e;exact absurd e.2 (by decide)),if_neg (λe=>by rw[yt] at e;exact absurd e.2 (by decide)),if_pos ⟨y5,yt⟩];unfold fT;rw[a4,if_pos rfl,ht];rfl
theorem uX(hg:dJ T=true)(h:xb T ix t L lv r false)(hl:lv<=999)(Cd:r<1000):oz T ix [t] L:=by
 intro M aJ st x Q k k' hr hM hv ho B2 hc hn;have hs:=hc.NY (T:=T) hn r
 have ho:eG ix t k=some k':=by unfold gE at ho;obtain⟨a,h1,h2⟩:=Option.bind_eq_some_iff.1 ho;cases h2;exact h1
 obtain⟨s1,a1,a2,a3,a4⟩:=h.stop (m:=999) hl hr hv ho B2 hs.1 (λ_=>hc) (λe=>by rw[hs.2] at e;cases e);obtain⟨M,rfl⟩:∃j,M=j+1:=⟨M-1,by omega⟩
 refine⟨s1,a1,a2,a3,?_⟩;rw[j9 (by rw[a4]) (by rw[a4,F3 a1 (λe=>hn e.2)]),a4];rfl
theorem sy(hg:dJ T=true){us:List Tm}{L':List cB}(h:xb T ix t L lv r false)(hl:lv<=999)(Cd:r<1000){y:cB}(y5:y.ah=5)(yt:y.ay=[44])(h':oz T ix us L'):oz T ix (t::us) (L++y::L'):=by
 intro M aJ st x Q k k' hr hM hv ho B2 hc hn;have hy:rI y:=.inr ⟨y5,.inr (.inr (.inr (.inr yt)))⟩
 obtain⟨a,ho1,wA⟩:∃a,eG ix t k=some a/\gE ix us a=some k':=by unfold gE at ho;exact Option.bind_eq_some_iff.1 ho
 have hle:=CD ix us a k' wA;have x6:st.ak=L++y::(L'++x::Q):=by rw[hr];simp
 obtain⟨s1,a1,a2,a3,a4⟩:=h.stop (m:=999) hl x6 hv ho1 (by omega) (hy.stp hg Cd) (λ_=>hy) (λe=>by rw[(hy.lvl hg e).1];decide);obtain⟨M,rfl⟩:∃j,M=j+1:=⟨M-1,by omega⟩
 have ht:=pj (c:=[44]) a1 y5 yt
 have oK:(aq s1).ak.length<M:=by rw[(fW a1).1];rw[hr] at hM;simp at hM|-;omega
 obtain⟨s2,b1,b2,b3,b4⟩:=h' M (aJ++[fR ix t]) (aq s1) x Q a k' (fW a1).1 oK a3 wA B2 hc hn;refine⟨s2,b1,by rw[b2,(fW a1).2,a2];simp;omega,b3,?_⟩;rw[lU (by rw[a4]) (by rw[a4,ht]),a4,ht,b4];simp
theorem Qn(hg:dJ T=true)(hk:t.ah=2)(h0:t.bx=0)(fB:t.aa≠[])(h:oz T ix t.aa L){y p z:cB}(yk:y.ah=1\/y.ah=2)(yt:y.ay=t.aC)(yo:y.iT=true)(z5:z.ah=5)(zt:z.ay=[41]):xb T ix t (y::p::(L++[z])) 0 0 bs:=by
 intro m st x Q k k' hm hr hv ho B2 hs hc;have x6:st.ak=y::p::(L++z::x::Q):=by rw[hr];simp
 have rW:=mQ x6;have jl:=fW x6;have Fv:=fW jl.1;have hz:rI z:=.inr ⟨z5,.inl zt⟩;rw[mg,if_neg (by omega)] at ho;obtain⟨s1,a1,a2,a3,a4⟩:=h (st.ak.length+1) [] (aq (aq st)) z (x::Q) k k' Fv.1 (by rw[Fv.1,x6];simp;omega) hv ho B2 hz (by rw[zt];decide);have ht:=pj (c:=[41]) a1 z5 zt;refine⟨aq s1,(fW a1).1,by rw[(fW a1).2,a2,Fv.2,jl.2];simp;omega,a3,?_⟩;have hnb:dQ y=true:=by unfold dQ;rcases yk with h|h<;>rw[h]<;>rfl
 have e1:fR ix t=ct t.aC (t.aa.map (fR ix)):=by
  rw[oy,hk,if_neg (by omega),h0]
  cases ha:t.aa with
  |nil=>exact absurd ha fB
  |cons u us=>rfl
 rw[e1];refine jm ?_ (by rw[(fW a1).1,hr];simp;omega);rw[mD];unfold eH;rw[rW,if_neg (by omega),if_neg (by omega),if_neg (by omega),if_neg (by omega),if_neg (by omega),if_neg (by rw[hnb];decide),if_pos yo];unfold kH;rw[a4,if_pos rfl,ht,yt];rfl
theorem acv{a b:Tm}{o:aY}{La Lb:List cB}{la ra lb rb:Int}(ha:t.aa=[a,b])(hk:t.ah=2)(h0:t.bx=0){y:cB}(yk:y.ah=1\/y.ah=2\/y.ah=5)(yt:y.ay=t.aC)(hb:cC T y=(o,true))
 (h1:xb T ix a La la ra true) (h2:xb T ix b Lb lb rb true) (oJ:la<=(ax o).1) (mc:ra<o.l) (oK:lb<=(ax o).2) (x6:rb<=(ax o).2) (lO:(ax o).1<=o.l):xb T ix t (La++y::Lb) o.l (ax o).2 bs:=by
 intro m st x Q k k' hm hr hv ho B2 hs hc;have alT:st.ak=La++y::(Lb++x::Q):=by rw[hr];simp
 rw[mg,if_neg (by omega),ha] at ho
 obtain⟨j,ho1,wA⟩:∃j,eG ix a k=some j/\eG ix b j=some k':=by unfold gE at ho;obtain⟨j,e1,e2⟩:=Option.bind_eq_some_iff.1 ho;unfold gE at e2;obtain⟨i,e3,e4⟩:=Option.bind_eq_some_iff.1 e2;cases e4;exact⟨j,e1,e3⟩
 have hle:=ID ix b j k' wA;have hys:Stp T ra y:=⟨by omega,λ_=>by rw[hb];exact mc⟩
 obtain⟨s1,a1,a2,a3,a4⟩:=h1 m st y (Lb++x::Q) k j (by omega) alT hv ho1 (by omega) hys (λe=>by cases e);have XM:Stp T rb x:=⟨hs.1,λe=>by have:=hs.2 e;omega⟩
 obtain⟨s2,b1,b2,b3,b4⟩:=h2.stop (m:=(ax o).2) oK (fW a1).1 (G2 a3) wA B2 XM (λe=>by cases e) hs.2;refine⟨s2,b1,by rw[b2,(fW a1).2,a2];simp;omega,b3,?_⟩;rw[a4,aaa a1 hb hm oJ b4 (by rw[b1];simp),oy ix t,hk,if_neg (by omega),h0,ha,yt];rfl
def Cc(T:List aY)(x:cB):Bool:=if x.ah=0\/x.ah=6 then false else if x.ah=5 then decide (x.ay=[40])||decide (x.ay=[91])||decide (x.ay=[123]) else if !dQ x||x.iT then true else !(aM T x.ay false).2||(aM T x.ay true).2
theorem ab6{a:Tm}{z:cB}{La:List cB}{la ra:Int}(ha:t.aa=[a])(hk:t.ah=2)(h0:t.bx=0){y:cB}(y1:y.ah=1)(yt:y.ay=t.aC)(yo:y.iT=false)(ya:y.TM=false)(hf:(aM T t.aC true).2=true)
 (h1:xb T ix a (z::La) la ra true) (hz:Cc T z=true) (oJ:la<=(ax (aM T t.aC true).1).2) (mc:ra<=(ax (aM T t.aC true).1).2):xb T ix t (y::z::La) (aM T t.aC true).1.l (ax (aM T t.aC true).1).2 bs:=by
 intro m st x Q k k' hm hr hv ho B2 hs hc;have x6:st.ak=y::(z::La++x::Q):=hr;have jl:=fW x6;rw[mg,if_neg (by omega),ha] at ho
 have ho:eG ix a k=some k':=by unfold gE at ho;obtain⟨j,e1,e2⟩:=Option.bind_eq_some_iff.1 ho;cases e2;exact e1
 have XM:Stp T ra x:=⟨hs.1,λe=>by have:=hs.2 e;omega⟩
 obtain⟨s1,b1,b2,b3,b4⟩:=h1.stop (m:=(ax (aM T t.aC true).1).2) oJ jl.1 (G2 hv) ho B2 XM (λe=>by cases e) hs.2;refine⟨s1,b1,by rw[b2,jl.2];simp;omega,b3,?_⟩;rw[oy ix t,hk,if_neg (by omega),h0,ha];refine jm ?_ (by rw[b1,hr];simp;omega);rw[Hn x6 (.inl y1) yo (λe=>by rw[ya] at e;exact absurd e.2.2.2 (by decide))];unfold cn
 have hbg:hO T (aq st)=true:=by rw[JL (x:=z) (Q:=La++x::Q) (by rw[jl.1];rfl)];exact hz
 rw[if_neg (by omega),yt,hf,hbg,decide_eq_true hm,if_pos (by rfl),b4];rfl
theorem j6{p:Tm->Bool}{t:Tm}(h:t.fg p=true):p t=true/\Tm.eX p t.aa=true:=by rw[iO,Bool.and_eq_true] at h;exact h
theorem uo{t:Tm}(h:fJ t=true)(hk:t.ah=2):t.bx=0:=by unfold fJ at h;rw[if_neg (by omega),if_neg (by omega),if_pos hk] at h;simp only[Bool.and_eq_true,decide_eq_true_eq] at h;exact h.1.1
theorem zh(ix:Int->Int):∀(k:Nat) (t:Tm),t.size<=k->t.fg fJ=true->fR ix t=bL ((aX t).1.map (fR ix)) (fR ix (aX t).2)/\∀j,eG ix t j=(gE ix (aX t).1 j).bind (eG ix (aX t).2)
 |0,t,hk,_=>by have:=bP t;omega
 |k+1,t,hk,hg=>by
   cases hd:gj t with
   |false=>rw[nc hd];exact⟨rfl,λj=>rfl⟩
   |true=>
     obtain⟨x,r,e1,e2⟩:=jR hd;have hs:=bP t;rw[e1] at hs;simp only[Tm.bE] at hs;obtain⟨g1,g2⟩:=j6 hg;rw[e1] at g2;simp only[Tm.eX,Bool.and_eq_true] at g2;obtain⟨i1,i2⟩:=zh ix k r (by omega) g2.2.1
     have B2:t.ah=2:=by unfold gj at hd;simp only[Bool.and_eq_true,decide_eq_true_eq] at hd;exact hd.1.1
     have hn:t.aC=[46]:=by unfold gj at hd;simp only[Bool.and_eq_true,decide_eq_true_eq] at hd;exact hd.1.2
     rw[e2];refine⟨?_,λj=>?_⟩
     .rw[oy,B2,if_neg (by omega),uo g1 B2,hn,e1];show Tm.mk 2 0 [46] [fR ix x,fR ix r]=_;rw[i1];rfl
     .rw[mg,if_neg (by omega),e1];show (eG ix x j).bind (λa=>(eG ix r a).bind (gE ix []))=((eG ix x j).bind (gE ix (aX r).1)).bind _
      cases eG ix x j with
      |none=>rfl
      |some a=>show (eG ix r a).bind (gE ix [])=(gE ix (aX r).1 a).bind (eG ix (aX r).2);rw[<-i2 a];cases eG ix r a<;>rfl
theorem Zk{u:Tm}(h:o4 u=true)(hg:fJ u=true):fR ix u=aW [91,93]/\∀j,eG ix u j=some j:=by
 unfold o4 at h;simp only[Bool.and_eq_true,Bool.not_eq_true',decide_eq_false_iff_not,decide_eq_true_eq] at h
 have hk:u.ah=2:=by
  have:=hg;unfold fJ at this;by_cases h2:u.ah=2
  .exact h2
  .rw[if_neg (by omega),if_neg (by omega),if_neg h2] at this;cases this
 have ha:u.aa=[]:=List.length_eq_zero_iff.1 h.2;refine⟨by rw[Lc ha,if_neg (by omega),hk,uo hg hk,h.1.2];rfl,λj=>?_⟩;rw[mg,if_neg (by omega),ha];rfl
theorem Ke(hg:dJ T=true)(ht:t.fg fJ=true)(hn:o4 (aX t).2=true)(ht2:(aX t).2.fg fJ=true)(h:oz T ix (aX t).1 L){y z:cB}(y5:y.ah=5)(yt:y.ay=[91])(z5:z.ah=5)(zt:z.ay=[93]):xb T ix t (y::(L++[z])) 0 0 bs:=by
 intro m st x Q k k' hm hr hv ho B2 hs hc;have x6:st.ak=y::(L++z::x::Q):=by rw[hr];simp
 have rW:=mQ x6;have jl:=fW x6;have hz:rI z:=.inr ⟨z5,.inr (.inl zt)⟩;obtain⟨l1,l2⟩:=zh ix t.size t (Nat.le_refl _) ht;obtain⟨n1,n2⟩:=Zk (ix:=ix) hn (j6 ht2).1;rw[l2] at ho;obtain⟨j,e1,e2⟩:=Option.bind_eq_some_iff.1 ho;rw[n2] at e2;cases e2;obtain⟨s1,a1,a2,a3,a4⟩:=h (st.ak.length+1) [] (aq st) z (x::Q) k k' jl.1 (by rw[jl.1,x6];simp;omega) hv e1 B2 hz (by rw[zt];decide);have hb:=F3 (c:=[124]) a1 (λe=>by rw[zt] at e;exact absurd e.2 (by decide));have eR:=pj (c:=[93]) a1 z5 zt;refine⟨aq s1,(fW a1).1,by rw[(fW a1).2,a2,jl.2];simp;omega,a3,?_⟩;rw[l1,n1];refine jm ?_ (by rw[(fW a1).1,hr];simp;omega);rw[mD];unfold eH;rw[rW,if_neg (by omega),if_neg (by omega),if_neg (λe=>by rw[yt] at e;exact absurd e.2 (by decide)),if_pos ⟨y5,yt⟩];unfold iL;rw[a4,if_pos rfl];unfold lY;rw[hb,if_neg (by simp),eR];rfl
theorem L8(hg:dJ T=true)(ht:t.fg fJ=true)(h:oz T ix (aX t).1 L){Le:List cB}{le re:Int}(h2:xb T ix (aX t).2 Le le re false)(hl:le<=999){y b z:cB}(y5:y.ah=5)(yt:y.ay=[91])(b5:b.ah=5)(bt:b.ay=[124])(z5:z.ah=5)(zt:z.ay=[93]):xb T ix t (y::(L++b::(Le++[z]))) 0 0 bs:=by
 intro m st x Q k k' hm hr hv ho B2 hs hc;have x6:st.ak=y::(L++b::(Le++z::x::Q)):=by rw[hr];simp
 have rW:=mQ x6;have jl:=fW x6;have hz:rI z:=.inr ⟨z5,.inr (.inl zt)⟩;have hbr:rI b:=.inr ⟨b5,.inr (.inr (.inr (.inl bt)))⟩;obtain⟨l1,l2⟩:=zh ix t.size t (Nat.le_refl _) ht;rw[l2] at ho;obtain⟨j,e1,e2⟩:=Option.bind_eq_some_iff.1 ho;have hle:=ID ix _ _ _ e2;obtain⟨s1,a1,a2,a3,a4⟩:=h (st.ak.length+1) [] (aq st) b (Le++z::x::Q) k j jl.1 (by rw[jl.1,x6];simp;omega) hv e1 (by omega) hbr (by rw[bt];decide);have hb:=pj (c:=[124]) a1 b5 bt;have HJ:=hz.NY (T:=T) (by rw[zt];decide) re;obtain⟨s2,b1,b2,b3,b4⟩:=h2.stop (m:=999) hl (fW a1).1 (G2 a3) e2 B2 HJ.1 (λ_=>hz) (λe=>by rw[HJ.2] at e;cases e);have eR:=pj (c:=[93]) b1 z5 zt;refine⟨aq s2,(fW b1).1,by rw[(fW b1).2,b2,(fW a1).2,a2,jl.2];simp;omega,b3,?_⟩;rw[l1];refine jm ?_ (by rw[(fW b1).1,hr];simp;omega);rw[mD];unfold eH;rw[rW,if_neg (by omega),if_neg (by omega),if_neg (λe=>by rw[yt] at e;exact absurd e.2 (by decide)),if_pos ⟨y5,yt⟩];unfold iL;rw[a4,if_pos rfl];unfold lY;rw[hb,if_pos rfl,b4,if_pos rfl,eR];rfl
end
def Hd(s:List UInt8):Prop:=∃c r,s=c::r/\¬iG c=true/\¬c.toNat=37/\¬c.toNat=93/\¬c.toNat=125
theorem Hd.skip{s:List UInt8}(h:Hd s)(w:List UInt8):ey (s++w)=s++w:=by obtain⟨c,r,rfl,h1,h2,_⟩:=h;exact lT h1 h2
theorem Hd.app{s:List UInt8}(h:Hd s)(w:List UInt8):Hd (s++w):=by obtain⟨c,r,rfl,h1⟩:=h;exact⟨c,r++w,rfl,h1⟩
theorem Hd.ne{s:List UInt8}(h:Hd s):s≠[]:=by obtain⟨c,r,rfl,_⟩:=h;simp
theorem qL{c:UInt8}{r:List UInt8}(h:(!iG c&&!decide (c.toNat=37)&&!decide (c.toNat=93)&&!decide (c.toNat=125))=true):Hd (c::r):=by simp only[Bool.and_eq_true,Bool.not_eq_true',decide_eq_false_iff_not] at h;exact⟨c,r,rfl,by rw[h.1.1.1];simp,h.1.1.2,h.1.2,h.2⟩
theorem nT{s:List UInt8}(h:gU s=true):Hd (bd s):=by
 by_cases hp:iN s=true
 .have e:bd s=s:=by unfold bd;exact if_pos hp
  rw[e];obtain⟨k,h1,h2⟩:=Hg hp
  cases s with
  |nil=>exact absurd rfl h1
  |cons c r=>
    refine⟨c,r,rfl,λg=>?_,λg=>?_,λg=>?_,λg=>?_⟩
    .rw[pT g] at h2;have:=kF r;rw[h2] at this;simp only[List.length_cons] at this;omega
    .rw[Q8 g] at h2;have h3:=kF ((c::r).drop (runN lD (c::r)));have h4:1<=runN lD (c::r):=pw (by unfold lD;rw[g];rfl);rw[h2,List.length_drop] at h3;simp at h3;omega
    .have hc:c=93:=Bz g;subst hc;have:=At (c:=93) (by decide) (v:=r) (λe=>absurd e (by decide)) (λe=>absurd e (by decide));rw[this] at k;exact absurd (show (5:Int)=1 from congrArg (λp=>p.1.ah) k) (by decide)
    .have hc:c=125:=Bz g;subst hc;have:=At (c:=125) (by decide) (v:=r) (λe=>absurd e (by decide)) (λe=>absurd e (by decide));rw[this] at k;exact absurd (show (5:Int)=1 from congrArg (λp=>p.1.ah) k) (by decide)
 .obtain⟨e,he,_⟩:=E3 h hp;rw[he];exact qL (by decide)
theorem zY{u:List UInt8}(hu:u≠[])(hd:cD u=true):Hd u:=by
 cases u with
 |nil=>exact absurd rfl hu
 |cons c r=>have hc:=sR hd c (by simp);obtain⟨_,_,n3,n4,_⟩:=Ib hc;unfold dd at hc;simp only[Bool.and_eq_true,decide_eq_true_eq] at hc;exact⟨c,r,rfl,by rw[n3];simp,n4,by omega,by omega⟩
def cI(s:List UInt8)(L:List cB)(v:List UInt8):Prop:=∀M,pZ v=some M->pZ (s++v)=some (L++M)
theorem cI.cat{a b v:List UInt8}{A B:List cB}(ha:cI a A (b++v))(hb:cI b B v):cI (a++b) (A++B) v:=λM h=>by rw[List.append_assoc,List.append_assoc];exact ha _ (hb _ h)
theorem dU{c:UInt8}(hc:mH c=true){v:List UInt8}(h1:c.toNat=91->∀d w,v=d::w->¬d.toNat=93)(h2:c.toNat=123->∀d w,v=d::w->¬d.toNat=125):∃x:cB,x.ah=5/\x.ay=[c]/\cI [c] [x] v:=by
 have hn:¬iG c=true/\¬c.toNat=37:=by
  have hm:c∈qE:=by unfold mH at hc;rw[List.any_eq_true] at hc;obtain⟨d,hd,e⟩:=hc;rw[<-Bz (of_decide_eq_true e)];exact hd
  simp only[qE,List.mem_cons,List.not_mem_nil,or_false] at hm;rcases hm with rfl|rfl|rfl|rfl|rfl|rfl|rfl|rfl<;>decide
 exact⟨_,rfl,rfl,λM h=>pG (s:=[c]) (by simp) (lT hn.1 hn.2) (At hc h1 h2) (.inl rfl) h⟩
theorem RA{s w:List UInt8}(hs:s≠[]):decide ((s++32::w).length-(ey (32::w)).length=1/\ey (32::w)≠[])=false:=by refine decide_eq_false (λh=>?_);have h1:=h.1;rw[pT (by decide)] at h1;have h2:=kF w;have h3:=List.length_pos_iff.2 hs;rw[List.length_append,List.length_cons] at h1;omega
theorem pb{s v:List UInt8}(h:gU s=true)(hv:Nd v):∃x:cB,(x.ah=1\/x.ah=2)/\(x.ah=1↔iN s=true)/\x.ay=s/\x.iT=decide (v.head?.map UInt8.toNat=some 40)/\(∀w,v=32::w->x.TM=false)/\cI (bd s) [x] v:=by
 obtain⟨k,h1,h2,h3⟩:=Rh h hv;have hh:=nT h;refine⟨⟨k,s,0,decide (v.head?.map UInt8.toNat=some 40),decide ((bd s++v).length-(ey v).length=1/\ey v≠[])⟩,h1,h2,rfl,rfl,λw hw=>?_,λM hM=>?_⟩
 .subst hw;exact RA hh.ne
 .exact pG hh.ne (hh.skip v) h3 (.inl rfl) hM
theorem QD{n:Int}(h1:0<=n)(h2:n<9223372036854775808){v:List UInt8}(hv:Nd v):∃x:cB,x.ah=4/\x.bx=n/\cI (bz n) [x] v:=by obtain⟨d1,d2,_,d3⟩:=nS h1 h2;have hh:=zY d2 d1;have ho:=Eo d2 d1 hv;rw[d3] at ho;exact⟨_,rfl,rfl,λM hM=>pG hh.ne (hh.skip v) ho (.inl rfl) hM⟩
theorem I7{i:Int}(h1:0<=i)(h2:i<9223372036854775808){v:List UInt8}(hv:Nd v):∃x:cB,x.ah=3/\x.ay=95::bz i/\cI (95::bz i) [x] v:=by obtain⟨d1,d2,_,_⟩:=nS h1 h2;have hh:Hd (95::bz i):=qL (by decide);exact⟨_,rfl,rfl,λM hM=>pG hh.ne (hh.skip v) (YF d1 hv) (.inl rfl) hM⟩
theorem ZR{n:Int}(h1:-9223372036854775808<=n)(h2:n<0){v:List UInt8}(hv:Nd v):∃x y:cB,x.ah=1/\x.ay=[45]/\x.iT=false/\x.TM=true/\y.ah=4/\(0<=y.bx->y.bx=-n)/\cI (bz n) [x,y] v:=by
 obtain⟨u,e,d1,d2,d3⟩:=itoa_neg h1 h2;rw[e];have hh:=zY d2 d1;have ho:=Eo d2 d1 hv;have hm:=Hb (v:=v) d2 d1;have hsk:ey (45::(u++v))=45::(u++v):=lT (by decide) (by decide);obtain⟨c,r,hu,hb⟩:=hh
 have wA:∃e:Int,(e=0\/e=3)/\(fw u).2=e/\(0<=(if e=0 then (fw u).1 else -1)->(if e=0 then (fw u).1 else -1)=-n):=by
  rcases d3 with⟨d3,_⟩|⟨d3,_⟩
  .exact⟨0,.inl rfl,by rw[d3],λ_=>by rw[d3];rfl⟩
  .refine⟨3,.inr rfl,by rw[d3],λhh=>?_⟩;rw[if_neg (by decide)] at hh;omega
 obtain⟨e0,he0,he1,he2⟩:=wA;rw[he1] at ho;refine⟨⟨1,[45],0,decide ((u++v).head?.map UInt8.toNat=some 40),decide ((45::(u++v)).length-(ey (u++v)).length=1/\ey (u++v)≠[])⟩,⟨4,[],if e0=0 then (fw u).1 else -1,decide (v.head?.map UInt8.toNat=some 40),decide ((u++v).length-(ey v).length=1/\ey v≠[])⟩,rfl,rfl,?_,?_,rfl,he2,λM hM=>?_⟩
 .have hc:=sR d1 c (by rw[hu];simp);unfold dd at hc;simp only[Bool.and_eq_true,decide_eq_true_eq] at hc;rw[hu];refine decide_eq_false (λh=>?_);have h':some c.toNat=some 40:=h;have:=Option.some.inj h';omega
 .have hk:ey (u++v)=u++v:=by
   rw[hu];exact lT hb.1 hb.2.1
  rw[hk];refine decide_eq_true ⟨by simp,by rw[hu];simp⟩
 .have l2:=pG (s:=u) (v:=v) d2 (by rw[hu];exact lT hb.1 hb.2.1) ho he0 hM;exact pG (s:=[45]) (v:=u++v) (by simp) hsk hm (.inl rfl) l2
def iX(L:List cB):Prop:=∀x∈L,0<=x.bx
theorem iX.app{A B:List cB}(h:iX (A++B)):iX A/\iX B:=⟨λx hx=>h x (List.mem_append.2 (.inl hx)),λx hx=>h x (List.mem_append.2 (.inr hx))⟩
def Wrs(T:List aY)(ix:Int->Int)(t:Tm)(s:List UInt8)(n:Int)(bs:Bool)(v:List UInt8):Prop:=
 Hd s/\∃(y:cB) (L:List cB),cI s (y::L) v/\(bs=true->Cc T y=true)/\
  (iX (y::L)->∃lv r,lv<=n/\0<=r/\r<=lv/\((eT T true t).2=true->isLeft (eT T true t).1=true->r<1\/r<lv)/\xb T ix t (y::L) lv r bs)
theorem iP{c:UInt8}{r:List UInt8}(h:bdL.contains c=true):Bd (c::r):=⟨c,r,rfl,by simpa using h⟩
section
variable {T:List aY}{ix:Int->Int}{t:Tm}{s v:List UInt8}{n n':Int}{bs:Bool}
theorem yv{y:cB}(h5:y.ah=5)(ht:y.ay=[40]\/y.ay=[91]\/y.ay=[123]):Cc T y=true:=by unfold Cc;rw[if_neg (by omega),if_pos h5];rcases ht with e|e|e<;>rw[e]<;>decide
theorem yF(hg:dJ T=true)(h:Wrs T ix t s n' false (41::v))(hn':n'<=1200)(h0:0<=n):Wrs T ix t (40::(s++[41])) n bs v:=by
 obtain⟨hs,y,L,hc,_,hr⟩:=h;obtain⟨p,p5,pt,pc⟩:=dU (c:=40) (by decide) (v:=s++([41]++v)) (λe=>absurd e (by decide)) (λe=>absurd e (by decide));obtain⟨z,z5,zt,zc⟩:=dU (c:=41) (by decide) (v:=v) (λe=>absurd e (by decide)) (λe=>absurd e (by decide));refine⟨qL (by decide),p,(y::L)++[z],?_,λ_=>yv p5 (.inl pt),λhn=>?_⟩
 .have:=cI.cat (a:=[40]) (b:=s++[41]) (v:=v) (by rw[List.append_assoc];exact pc) (cI.cat (a:=s) (b:=[41]) hc zc);exact this
 .have gn:=(iX.app (A:=[p]) hn).2;obtain⟨lv,r,h1,h2,h3,h4,h5⟩:=hr (iX.app gn).1;exact⟨0,0,h0,Int.le_refl _,Int.le_refl _,λ_ _=>.inl (by decide),Vw hg h5 (by omega) p5 pt z5 zt⟩
theorem Cy(s:List UInt8):FO s true=40::(s++[41]):=by unfold FO;rw[if_pos rfl];simp
theorem xx(s:List UInt8):FO s false=s:=by unfold FO;exact if_neg (by simp)
theorem Vh{y:cB}(hk:y.ah=1\/y.ah=2)(hf:(aM T y.ay false).2=false):Cc T y=true:=by
 unfold Cc;rw[if_neg (by omega),if_neg (by omega)];split
 .rfl
 .rw[hf];rfl
theorem DQ(hgn:gU t.aC=true)(hk:t.ah=2)(ha:t.aa=[])(h0:t.bx=0)(hv:Bd v)(h:u7 T t.aC<=n)(h00:0<=n)(hb:bs=true->(aM T t.aC false).2=false/\(aM T t.aC true).2=false):Wrs T ix t (bd t.aC) n bs v:=by
 obtain⟨y,yk,_,yt,yo,_,yc⟩:=pb hgn hv.nd;have Yp:y.iT=false:=by rw[yo];exact hv.open
 have hl0:0<=u7 T t.aC:=by have:=kq T t.aC false;have:=kq T t.aC true;unfold u7;omega
 refine⟨nT hgn,y,[],yc,λe=>Vh yk (by rw[yt];exact (hb e).1),λ_=>⟨if y.ah=2 then 0 else u7 T t.aC,0,?_,Int.le_refl _,?_,λ_ _=>.inl (by decide),H5 hk ha h0 yk yt Yp (λe=>(hb e).2)⟩⟩
 .split<;>omega
 .split<;>omega
theorem zL{s:List UInt8}{b:Bool}(h:(aM T s b).2=false):(aM T s b).1.l=0:=by
 unfold aM at h|-;split
 .rfl
 .split
  .rename_i hi ME;rw[hi] at h;simp only[ME,if_true] at h;cases h
  .rfl
theorem Df(f:Tm->List UInt8)(hg:dJ T=true):∀(us:List Tm),us≠[]->(∀u∈us,∀v,Bd v->Wrs T ix u (f u) 999 false v)->∀v,Bd v->∃(y:cB) (L:List cB),cI (Lib.join (us.map f) [44]) (y::L) v/\Hd (Lib.join (us.map f) [44])/\(iX (y::L)->oz T ix us (y::L))
 |[],h,_,_,_=>absurd rfl h
 |[u],_,h,v,hv=>by
   obtain⟨hs,y,L,hc,_,hr⟩:=h u (by simp) v hv;have e:Lib.join ([u].map f) [44]=f u:=by simp[Lib.join]
   rw[e];refine⟨y,L,hc,hs,λhn=>?_⟩;obtain⟨lv,r,h1,h2,h3,_,h5⟩:=hr hn;exact uX hg h5 h1 (by omega)
 |u::w::us,_,h,v,hv=>by
   have e:Lib.join ((u::w::us).map f) [44]=f u++([44]++Lib.join ((w::us).map f) [44]):=by simp[Lib.join,List.intercalate,List.intersperse]
   rw[e];obtain⟨y2,L2,Ji,hs2,x6⟩:=Df f hg (w::us) (by simp) (λx hx=>h x (by simp at hx|-;exact .inr hx)) v hv;obtain⟨p,p5,pt,pc⟩:=dU (c:=44) (by decide) (v:=Lib.join ((w::us).map f) [44]++v) (λe=>absurd e (by decide)) (λe=>absurd e (by decide));obtain⟨hs,y,L,hc,_,hr⟩:=h u (by simp) (([44]++Lib.join ((w::us).map f) [44])++v) (iP (by decide));refine⟨y,L++(p::(y2::L2)),?_,hs.app _,λhn=>?_⟩
   .exact cI.cat (A:=y::L) (B:=[p]++(y2::L2)) hc (cI.cat pc Ji)
   .have n1:=iX.app (A:=y::L) (B:=p::(y2::L2)) hn;have n2:=iX.app (A:=[p]) (B:=y2::L2) n1.2;obtain⟨lv,r,h1,h2,h3,_,h5⟩:=hr n1.1;exact sy hg h5 h1 (by omega) p5 pt (x6 n2.2)
end
theorem Rl{T:List aY}(hg:dJ T=true){s:List UInt8}(h:(aM T s false).2=true):
 1<=(aM T s false).1.l/\(aM T s false).1.l<=1200/\0<=(ax (aM T s false).1).1/\(ax (aM T s false).1).1<=(aM T s false).1.l/\0<=(ax (aM T s false).1).2/\(ax (aM T s false).1).2<=(aM T s false).1.l/\
 (isLeft (aM T s false).1=true->(ax (aM T s false).1).1=(aM T s false).1.l/\(ax (aM T s false).1).2=(aM T s false).1.l-1)/\
 (isLeft (aM T s false).1=false->(ax (aM T s false).1).1=(aM T s false).1.l-1):=by
 obtain⟨l1,l2⟩:=NZ hg h;obtain⟨m1,_,m3⟩:=Aq h;have hm:=yz hg _ m1;have hb:kg (aM T s false).1.k=true:=by rw[WZ hm,m3];rfl
 generalize (aM T s false).1=o at *;obtain⟨on,ok,ol⟩:=o;dsimp only at *;unfold kg at hb;simp only[Bool.or_eq_true,beq_iff_eq] at hb;unfold isLeft ax;dsimp only;rcases hb with (rfl|rfl)|rfl
 .rw[if_pos rfl];refine⟨l1,l2,by dsimp only;omega,by dsimp only;omega,by dsimp only;omega,by dsimp only;omega,λh=>absurd h (by simp),λ_=>rfl⟩
 .rw[if_neg (by decide),if_pos rfl];refine⟨l1,l2,by dsimp only;omega,by dsimp only;omega,by dsimp only;omega,by dsimp only;omega,λh=>absurd h (by simp),λ_=>rfl⟩
 .rw[if_neg (by decide),if_neg (by decide),if_pos rfl];refine⟨l1,l2,by dsimp only;omega,by dsimp only;omega,by dsimp only;omega,by dsimp only;omega,λ_=>⟨rfl,rfl⟩,λh=>absurd h (by simp)⟩
theorem Wo{T:List aY}(hg:dJ T=true){s:List UInt8}{b:Bool}(h:(aM T s b).2=true):0<=(ax (aM T s b).1).2:=by
 have:=NZ hg h;unfold ax;split
 .show 0<=_-1;omega
 .split
  .show 0<=_;omega
  .split
   .show 0<=_-1;omega
   .split
    .show 0<=_;omega
    .split
     .show 0<=_-1;omega
     .exact Int.le_refl 0
theorem SG{T:List aY}(hg:dJ T=true){s:List UInt8}(h:(aM T s true).2=true):
 1<=(aM T s true).1.l/\(aM T s true).1.l<=1200/\0<=(ax (aM T s true).1).2/\(ax (aM T s true).1).2<=(aM T s true).1.l:=by
 obtain⟨l1,l2⟩:=NZ hg h;have h2:=Wo hg h;refine⟨l1,l2,h2,?_⟩;unfold ax;split
 .show _-1<=_;omega
 .split
  .exact Int.le_refl _
  .split
   .show _-1<=_;omega
   .split
    .exact Int.le_refl _
    .split
     .show _-1<=_;omega
     .show 0<=_;omega
theorem IP{t:Tm}(h:vZ t):fJ t=true:=by have:=h.1;unfold dt at this;rw[Bool.and_eq_true] at this;exact (j6 this.2).1
theorem Ij{t:Tm}(h:vZ t):t.fg fJ=true:=by have:=h.1;unfold dt at this;rw[Bool.and_eq_true] at this;exact this.2
theorem ve{t:Tm}(h:fJ t=true)(hk:¬t.ah=2):t.aC=[]/\t.aa=[]:=by
 unfold fJ at h;by_cases k0:t.ah=0
 .rw[if_pos k0] at h;simp only[Bool.and_eq_true,decide_eq_true_eq] at h;exact⟨h.1.2,List.length_eq_zero_iff.1 h.2⟩
 .rw[if_neg k0] at h;by_cases k1:t.ah=1
  .rw[if_pos k1] at h;simp only[Bool.and_eq_true,decide_eq_true_eq] at h;exact⟨h.1,List.length_eq_zero_iff.1 h.2⟩
  .rw[if_neg k1,if_neg hk] at h;cases h
theorem M1{t:Tm}(h:fJ t=true)(hk:t.ah=2):gU t.aC=true:=by unfold fJ at h;rw[if_neg (by omega),if_neg (by omega),if_pos hk] at h;simp only[Bool.and_eq_true,decide_eq_true_eq] at h;exact h.1.2
theorem nI{t:Tm}(h:t.aa.length=2):t.aa=[qX t,GY t]:=by
 unfold qX GY
 match ha:t.aa,h with
 |[a,b],_=>rfl
theorem D9{t:Tm}(h:t.aa.length=1):t.aa=[qX t]:=by
 unfold qX
 match ha:t.aa,h with
 |[a],_=>rfl
theorem P7{w:List UInt8}:Nd (40::w):=⟨40,w,rfl,by decide⟩
theorem Mh{w:List UInt8}:Nd (32::w):=⟨32,w,rfl,by decide⟩
section
variable {T:List aY}{ix:Int->Int}
theorem U6(hg:dJ T=true)(tZ:∀a,0<=ix a/\ix a<1000000000):∀(N:Nat) (t:Tm) (n:Int) (bs:Bool) (v:List UInt8),t.size<=N->vZ t->0<=n->n<=1200->Bd v->Wrs T ix t (wT T true (λa=>95::bz (ix a)) N t n bs) n bs v
 |0,t,_,_,_,h,_,_,_,_=>by have:=bP t;omega
 |N+1,t,n,bs,v,iz,cK,Jw,hn1,hv=>by
   have TR:=IP cK;have aou:=bP t;have IH:=λ(u:Tm) (m:Int) (b:Bool) (w:List UInt8) (hs:u.size<=N) (ho:vZ u) (h0:0<=m) (h1:m<=1200) (hw:Bd w)=>U6 hg tZ N u m b w hs ho h0 h1 hw
   have TJ:=λ(u:Tm) (hu:u∈t.aa)=>And.intro (gO cK hu) (show u.size<=N from by have:=mw hu;omega)
   unfold wT;by_cases k0:t.ah=0
   .rw[if_pos k0];obtain⟨e1,e2⟩:=ve TR (by omega);obtain⟨x1,x2⟩:=tZ t.bx;obtain⟨i,hi⟩:∃i:Nat,ix t.bx=(i:Int):=⟨(ix t.bx).toNat,by omega⟩
    obtain⟨y,y3,yt,yc⟩:=I7 x1 (by omega) hv.nd;rw[hi] at yt;refine⟨qL (by decide),y,[],yc,λ_=>?_,λ_=>⟨0,0,Jw,Int.le_refl _,Int.le_refl _,λ_ _=>.inl (by decide),Oc k0 e2 e1 hi y3 yt⟩⟩;unfold Cc dQ;rw[y3];rfl
   rw[if_neg k0];by_cases k1:t.ah=1
   .rw[if_pos k1];obtain⟨e1,e2⟩:=ve TR (by omega);obtain⟨r1,r2⟩:=Cq cK;by_cases O7:t.bx<0
    .have neg:∀w,Bd w->Wrs T ix t (bz t.bx) 0 false w:=λw hw=>by
      obtain⟨x,y,x1,xt,xo,xa,y4,yn,yc⟩:=ZR r1 O7 hw.nd
      have hh:Hd (bz t.bx):=by obtain⟨u,e,_⟩:=itoa_neg r1 O7;rw[e];exact qL (by decide)
      refine⟨hh,x,[y],yc,(λe=>by cases e),λhn=>⟨0,0,Int.le_refl _,Int.le_refl _,Int.le_refl _,λ_ _=>.inl (by decide),Wi k1 e2 e1 x1 xt xo xa y4 (yn (hn y (by simp)))⟩⟩
     rw[decide_eq_true O7,Bool.and_true]
     cases bs with
     |true=>rw[Cy];exact yF hg (neg _ (iP (by decide))) (by decide) Jw
     |false=>rw[xx];obtain⟨a1,y,L,a2,a3,a4⟩:=neg v hv;refine⟨a1,y,L,a2,a3,λhn=>?_⟩;obtain⟨lv,r,b1,b2⟩:=a4 hn;exact⟨lv,r,by omega,b2⟩
    .rw[decide_eq_false O7,Bool.and_false,xx];obtain⟨y,y4,yn,yc⟩:=QD (by omega) r2 hv.nd;obtain⟨d1,d2,_⟩:=nS (n:=t.bx) (by omega) r2;refine⟨zY d2 d1,y,[],yc,λ_=>?_,λ_=>⟨0,0,Jw,Int.le_refl _,Int.le_refl _,λ_ _=>.inl (by decide),WK k1 e2 e1 y4 yn⟩⟩;unfold Cc dQ;rw[y4];rfl
   rw[if_neg k1];have k2:t.ah=2:=by have:=rB cK;omega
   have qq:=M1 TR k2;have h0:=uo TR k2;by_cases ka:t.aa.length=0
   .rw[if_pos ka];have ha:=List.length_eq_zero_iff.1 ka;unfold wV
    cases hc:((true&&((aM T t.aC false).2||(aM T t.aC true).2))&&(bs||decide (n<max (aM T t.aC false).1.l (aM T t.aC true).1.l))) with
    |true=>rw[Cy];refine yF (n':=1200) hg (DQ qq k2 ha h0 (iP (by decide)) ?_ (by decide) (λe=>by cases e)) (by decide) Jw;have:=(kq T t.aC false).2;have:=(kq T t.aC true).2;unfold u7;omega
    |false=>
      rw[xx];rw[Bool.true_and] at hc
      cases ee:((aM T t.aC false).2||(aM T t.aC true).2) with
      |false=>rw[Bool.or_eq_false_iff] at ee;refine DQ qq k2 ha h0 hv ?_ Jw (λ_=>ee);unfold u7;rw[zL ee.1,zL ee.2];omega
      |true=>rw[ee,Bool.true_and,Bool.or_eq_false_iff,decide_eq_false_iff_not] at hc;refine DQ qq k2 ha h0 hv ?_ Jw (λe=>by rw[hc.1] at e;cases e);unfold u7;omega
   rw[if_neg ka];have ah5:t.aa≠[]:=λe=>ka (by rw[e];rfl)
   by_cases kd:((true&&decide (t.aC=[46]))&&decide (t.aa.length=2))=true
   .rw[if_pos kd];simp only[Bool.true_and,Bool.and_eq_true,decide_eq_true_eq] at kd
    have Al:gj t=true:=by unfold gj;simp[k2,kd.1,kd.2]
    obtain⟨i1,i2,i3⟩:=oT t.size t (Nat.le_refl _) cK;have i3:=i3 Al
    have alU:(aX t).1≠[]:=by obtain⟨x,r,_,e2⟩:=jR Al;rw[e2];simp
    have X8:=Df (T:=T) (ix:=ix) (λx=>wT T true (λa=>95::bz (ix a)) N x 999 false) hg (aX t).1 alU (λu hu w hw=>IH u 999 false w (by have:=(i1 u hu).2;omega) (i1 u hu).1 (by decide) (by decide) hw)
    have alV:(eT T true t).2=false:=by unfold eT;rw[if_pos (by simp[kd.1])]
    cases aas:o4 (aX t).2 with
    |true=>
      rw[if_pos rfl];obtain⟨y,L,c1,c2,c3⟩:=X8 (93::v) (iP (by decide));obtain⟨z,z5,zt,zc⟩:=dU (c:=93) (by decide) (v:=v) (λe=>absurd e (by decide)) (λe=>absurd e (by decide));obtain⟨d,w,hdw,_,_,g3,_⟩:=c2
      obtain⟨p,p5,pt,pc⟩:=dU (c:=91) (by decide) (v:=(Lib.join ((aX t).1.map λx=>wT T true (λa=>95::bz (ix a)) N x 999 false) [44]++[93])++v) (λ_ d' w' e=>by rw[hdw] at e;cases e;exact g3) (λe=>absurd e (by decide))
      refine⟨qL (by decide),p,(y::L)++[z],?_,λ_=>yv p5 (.inr (.inl pt)),λhn=>?_⟩
      .rw[List.append_nil,List.append_assoc];exact cI.cat (A:=[p]) pc (cI.cat c1 zc)
      .have n1:=iX.app (A:=[p]) (B:=(y::L)++[z]) hn;have n2:=iX.app n1.2;refine⟨0,0,Jw,Int.le_refl _,Int.le_refl _,λ_ _=>.inl (by decide),Ke hg (Ij cK) aas (Ij i2) (c3 n2.1) p5 pt z5 zt⟩
    |false=>
      rw[if_neg (by simp)];obtain⟨y,L,c1,c2,c3⟩:=X8 (124::(wT T true (λa=>95::bz (ix a)) N (aX t).2 999 false++93::v)) (iP (by decide));obtain⟨t1,ty,tL,t2,_,t3⟩:=IH (aX t).2 999 false (93::v) (by omega) i2 (by decide) (by decide) (iP (by decide));obtain⟨z,z5,zt,zc⟩:=dU (c:=93) (by decide) (v:=v) (λe=>absurd e (by decide)) (λe=>absurd e (by decide));obtain⟨b,b5,bt,bc⟩:=dU (c:=124) (by decide) (v:=wT T true (λa=>95::bz (ix a)) N (aX t).2 999 false++93::v) (λe=>absurd e (by decide)) (λe=>absurd e (by decide));obtain⟨d,w,hdw,_,_,g3,_⟩:=c2
      obtain⟨p,p5,pt,pc⟩:=dU (c:=91) (by decide) (v:=(Lib.join ((aX t).1.map λx=>wT T true (λa=>95::bz (ix a)) N x 999 false) [44]++([124]++(wT T true (λa=>95::bz (ix a)) N (aX t).2 999 false++[93])))++v) (λ_ d' w' e=>by rw[hdw] at e;cases e;exact g3) (λe=>absurd e (by decide))
      refine⟨qL (by decide),p,(y::L)++b::((ty::tL)++[z]),?_,λ_=>yv p5 (.inr (.inl pt)),λhn=>?_⟩
      .have q1:cI (Lib.join ((aX t).1.map λx=>wT T true (λa=>95::bz (ix a)) N x 999 false) [44]) (y::L) (([124]++(wT T true (λa=>95::bz (ix a)) N (aX t).2 999 false++[93]))++v):=by
        have e:([124]++(wT T true (λa=>95::bz (ix a)) N (aX t).2 999 false++[93]))++v=124::(wT T true (λa=>95::bz (ix a)) N (aX t).2 999 false++93::v):=by simp
        rw[e];exact c1
       have q2:cI [124] [b] ((wT T true (λa=>95::bz (ix a)) N (aX t).2 999 false++[93])++v):=by
        have e:(wT T true (λa=>95::bz (ix a)) N (aX t).2 999 false++[93])++v=wT T true (λa=>95::bz (ix a)) N (aX t).2 999 false++93::v:=by simp
        rw[e];exact bc
       have q3:=cI.cat (A:=[p]) pc (cI.cat q1 (cI.cat q2 (cI.cat t2 zc)));have e:[91]++Lib.join ((aX t).1.map λx=>wT T true (λa=>95::bz (ix a)) N x 999 false) [44]++([124]++wT T true (λa=>95::bz (ix a)) N (aX t).2 999 false)++[93]=[91]++(Lib.join ((aX t).1.map λx=>wT T true (λa=>95::bz (ix a)) N x 999 false) [44]++([124]++(wT T true (λa=>95::bz (ix a)) N (aX t).2 999 false++[93]))):=by simp
       rw[e];exact q3
      .have n1:=iX.app (A:=[p]) (B:=(y::L)++b::((ty::tL)++[z])) hn;have n2:=iX.app n1.2;have n3:=iX.app (A:=[b]) (B:=(ty::tL)++[z]) n2.2;have n4:=iX.app n3.2;obtain⟨lv,r,q1,q2,q3,_,q5⟩:=t3 n4.1;exact⟨0,0,Jw,Int.le_refl _,Int.le_refl _,λ_ _=>.inl (by decide),L8 hg (Ij cK) (c3 n2.1) q5 q1 p5 pt b5 bt z5 zt⟩
   rw[if_neg kd];by_cases kc:((true&&decide (t.aC=[123,125]))&&decide (t.aa.length=1))=true
   .rw[if_pos kc];simp only[Bool.true_and,Bool.and_eq_true,decide_eq_true_eq] at kc;have h1:=D9 kc.2;obtain⟨o1,o2⟩:=TJ (qX t) (by rw[h1];simp);obtain⟨t1,ty,tL,t2,_,t3⟩:=IH (qX t) 1200 false (125::v) o2 o1 (by decide) (by decide) (iP (by decide));obtain⟨z,z5,zt,zc⟩:=dU (c:=125) (by decide) (v:=v) (λe=>absurd e (by decide)) (λe=>absurd e (by decide));obtain⟨d,w,hdw,_,_,_,g4⟩:=t1
    obtain⟨p,p5,pt,pc⟩:=dU (c:=123) (by decide) (v:=(wT T true (λa=>95::bz (ix a)) N (qX t) 1200 false++[125])++v) (λe=>absurd e (by decide)) (λ_ d' w' e=>by rw[hdw] at e;cases e;exact g4)
    refine⟨qL (by decide),p,(ty::tL)++[z],?_,λ_=>yv p5 (.inr (.inr pt)),λhn=>?_⟩
    .rw[List.append_assoc];exact cI.cat (A:=[p]) pc (cI.cat t2 zc)
    .have n1:=iX.app (A:=[p]) (B:=(ty::tL)++[z]) hn;obtain⟨lv,r,q1,q2,q3,_,q5⟩:=t3 (iX.app n1.2).1;exact⟨0,0,Jw,Int.le_refl _,Int.le_refl _,λ_ _=>.inl (by decide),Z3 hg h1 k2 h0 kc.1 q5 q1 p5 pt z5 zt⟩
   rw[if_neg kc];by_cases ki:(eT T true t).2=true
   .rw[if_pos ki];obtain⟨l2,_,_,e2⟩:=Uf ki;have hf:(aM T t.aC false).2=true:=by rw[<-e2];exact ki
    obtain⟨s1,s2,s3,s4,s5,s6,s7,s8⟩:=Rl hg hf;have h2:=nI l2;obtain⟨oa,za⟩:=TJ (qX t) (by rw[h2];simp);obtain⟨ob,zb⟩:=TJ (GY t) (by rw[h2];simp)
    have hlw:0<=oh T true (eT T true t).1 t/\oh T true (eT T true t).1 t<=(ax (aM T t.aC false).1).1/\(oh T true (eT T true t).1 t<(aM T t.aC false).1.l\/((eT T true (qX t)).2=true/\isLeft (eT T true (qX t)).1=true)):=by
     rw[e2];unfold oh
     cases hL:isLeft (aM T t.aC false).1 with
     |false=>rw[Bool.false_and,if_neg (by simp),s8 hL];exact⟨by omega,by omega,.inl (by omega)⟩
     |true=>
       rw[Bool.true_and,(s7 hL).1]
       cases hA:((eT T true (qX t)).2&&isLeft (eT T true (qX t)).1) with
       |false=>simp only[Bool.not_false,if_true];exact⟨by omega,by omega,.inl (by omega)⟩
       |true=>simp only[Bool.not_true,Bool.false_eq_true,if_false];rw[Bool.and_eq_true] at hA;exact⟨by omega,by omega,.inr hA⟩
    -- the text without brackets
    have core:∀w,Bd w->∃(y:cB) (L:List cB),cI (wT T true (λa=>95::bz (ix a)) N (qX t) (oh T true (eT T true t).1 t) true++uv t.aC++wT T true (λa=>95::bz (ix a)) N (GY t) (ax (eT T true t).1).2 true) (y::L) w/\Cc T y=true/\Hd (wT T true (λa=>95::bz (ix a)) N (qX t) (oh T true (eT T true t).1 t) true++uv t.aC++wT T true (λa=>95::bz (ix a)) N (GY t) (ax (eT T true t).1).2 true)/\(iX (y::L)->∀b,xb T ix t (y::L) (aM T t.aC false).1.l (ax (aM T t.aC false).1).2 b):=λw hw=>by
     obtain⟨b1,yb,Lb,b2,_,b4⟩:=IH (GY t) (ax (eT T true t).1).2 true w zb ob (by rw[e2];exact s5) (by rw[e2];omega) hw
     -- the sign
     have sg:∃(y:cB) (pre:List UInt8),(y.ah=1\/y.ah=2\/y.ah=5)/\y.ay=t.aC/\cC T y=((aM T t.aC false).1,true)/\(∃c r,uv t.aC=c::r/\bdL.contains c=true)/\cI (uv t.aC) [y] (wT T true (λa=>95::bz (ix a)) N (GY t) (ax (eT T true t).1).2 true++w):=by
      unfold uv;by_cases hcm:t.aC=[44]
      .rw[if_pos hcm];obtain⟨p,p5,pt,pc⟩:=dU (c:=44) (by decide) (v:=wT T true (λa=>95::bz (ix a)) N (GY t) (ax (eT T true t).1).2 true++w) (λe=>absurd e (by decide)) (λe=>absurd e (by decide));refine⟨p,[],.inr (.inr p5),pt.trans hcm.symm,?_,⟨44,[],rfl,by decide⟩,pc⟩;rw[LD p5 pt,<-hcm];exact Prod.ext rfl hf
      .rw[if_neg hcm];obtain⟨y,yk,_,yt,_,_,yc⟩:=pb qq (v:=32::(wT T true (λa=>95::bz (ix a)) N (GY t) (ax (eT T true t).1).2 true++w)) Mh;refine⟨y,[],by omega,yt,?_,⟨32,bd t.aC++[32],rfl,by decide⟩,λM hM=>?_⟩
       .have hnb:dQ y=true:=by unfold dQ;rcases yk with h|h<;>rw[h]<;>rfl
        unfold cC;rw[hnb,yt];show aM T t.aC false=_;exact Prod.ext rfl hf
       .have e3:([32]++bd t.aC++[32])++(wT T true (λa=>95::bz (ix a)) N (GY t) (ax (eT T true t).1).2 true++w)=32::(bd t.aC++32::(wT T true (λa=>95::bz (ix a)) N (GY t) (ax (eT T true t).1).2 true++w)):=by simp
        rw[e3,Bj (by decide)];exact yc M (by rw[Bj (by decide)];exact hM)
     obtain⟨y,_,yk,yt,yb2,⟨c,r,hsg,hcb⟩,alX⟩:=sg;obtain⟨a1,ya,La,a2,a3,a4⟩:=IH (qX t) (oh T true (eT T true t).1 t) true (uv t.aC++(wT T true (λa=>95::bz (ix a)) N (GY t) (ax (eT T true t).1).2 true++w)) za oa hlw.1 (by have:=hlw.2.1;omega) (by rw[hsg];exact iP hcb);refine⟨ya,La++y::(yb::Lb),?_,a3 rfl,by rw[List.append_assoc];exact a1.app _,λhn b=>?_⟩
     .rw[List.append_assoc];exact cI.cat (A:=ya::La) (B:=[y]++(yb::Lb)) (by rw[List.append_assoc];exact a2) (cI.cat alX b2)
     .have n1:=iX.app (A:=ya::La) (B:=y::(yb::Lb)) hn;have n2:=iX.app (A:=[y]) (B:=yb::Lb) n1.2;obtain⟨la,ra,p1,p2,p3,p4,p5⟩:=a4 n1.1;obtain⟨lb,rb,q1,q2,q3,_,q5⟩:=b4 n2.2;rw[e2] at q1;have hl:=hlw.2;refine acv h2 k2 h0 yk yt yb2 p5 q5 (by omega) ?_ q1 (by omega) s4;rcases hl.2 with h|⟨h,h'⟩
      .omega
      .rcases p4 h h' with h|h<;>omega
    cases hbr:decide (n<(eT T true t).1.l) with
    |true=>rw[Cy];obtain⟨y,L,c1,c2,c3,c4⟩:=core (41::v) (iP (by decide));refine yF (n':=1200) hg ⟨c3,y,L,c1,λ_=>c2,λhn=>⟨_,_,s2,s5,s6,λ_ hL=>.inr ?_,c4 hn false⟩⟩ (by decide) Jw;rw[e2] at hL;have:=(s7 hL).2;omega
    |false=>rw[xx];rw[decide_eq_false_iff_not,e2] at hbr;obtain⟨y,L,c1,c2,c3,c4⟩:=core v hv;refine⟨c3,y,L,c1,λ_=>c2,λhn=>⟨_,_,by omega,s5,s6,λ_ hL=>.inr ?_,c4 hn bs⟩⟩;rw[e2] at hL;have:=(s7 hL).2;omega
   rw[if_neg ki];by_cases kp:(iS T true t).2=true
   .rw[if_pos kp];obtain⟨l1,_,e2,Mp,_⟩:=VT kp;have hf:(aM T t.aC true).2=true:=by rw[<-e2];exact kp
    obtain⟨s1,s2,s3,s4⟩:=SG hg hf;have h1:=D9 l1;obtain⟨oa,za⟩:=TJ (qX t) (by rw[h1];simp)
    have core:∀w,Bd w->∃(y:cB) (L:List cB),cI (bd t.aC++[32]++wT T true (λa=>95::bz (ix a)) N (qX t) (ax (iS T true t).1).2 true) (y::L) w/\Cc T y=true/\Hd (bd t.aC++[32]++wT T true (λa=>95::bz (ix a)) N (qX t) (ax (iS T true t).1).2 true)/\(iX (y::L)->∀b,xb T ix t (y::L) (aM T t.aC true).1.l (ax (aM T t.aC true).1).2 b):=λw hw=>by
     obtain⟨a1,ya,La,a2,a3,a4⟩:=IH (qX t) (ax (iS T true t).1).2 true w za oa (by rw[e2];exact s3) (by rw[e2];omega) hw;obtain⟨y,yk,yp,yt,yo,alY,yc⟩:=pb qq (v:=32::(wT T true (λa=>95::bz (ix a)) N (qX t) (ax (iS T true t).1).2 true++w)) Mh;have y1:=yp.2 Mp;have Yp:y.iT=false:=by rw[yo];simp
     refine⟨y,ya::La,?_,?_,by rw[List.append_assoc];exact (nT qq).app _,λhn b=>?_⟩
     .rw[List.append_assoc];intro M hM;have e3:(bd t.aC++([32]++wT T true (λa=>95::bz (ix a)) N (qX t) (ax (iS T true t).1).2 true))++w=bd t.aC++32::(wT T true (λa=>95::bz (ix a)) N (qX t) (ax (iS T true t).1).2 true++w):=by simp
      rw[e3];exact yc _ (by rw[Bj (by decide)];exact a2 M hM)
     .unfold Cc;rw[if_neg (by omega),if_neg (by omega),yt,hf,Bool.or_true];split<;>rfl
     .have n1:=iX.app (A:=[y]) (B:=ya::La) hn;obtain⟨la,ra,p1,p2,p3,p4,p5⟩:=a4 n1.2;rw[e2] at p1;exact ab6 h1 k2 h0 y1 yt Yp (alY _ rfl) hf p5 (a3 rfl) p1 (by omega)
    have alV:(eT T true t).2=true->False:=ki
    cases hbr:decide (n<(iS T true t).1.l) with
    |true=>rw[Cy];obtain⟨y,L,c1,c2,c3,c4⟩:=core (41::v) (iP (by decide));exact yF (n':=1200) hg ⟨c3,y,L,c1,λ_=>c2,λhn=>⟨_,_,s2,s3,s4,λh=>(ki h).elim,c4 hn false⟩⟩ (by decide) Jw
    |false=>rw[xx];rw[decide_eq_false_iff_not,e2] at hbr;obtain⟨y,L,c1,c2,c3,c4⟩:=core v hv;exact⟨c3,y,L,c1,λ_=>c2,λhn=>⟨_,_,by omega,s3,s4,λh=>(ki h).elim,c4 hn bs⟩⟩
   rw[if_neg kp]
   -- a call
   obtain⟨y2,L2,c1,c2,c3⟩:=Df (T:=T) (ix:=ix) (λx=>wT T true (λa=>95::bz (ix a)) N x 999 false) hg t.aa ah5 (λu hu w hw=>IH u 999 false w (TJ u hu).2 (TJ u hu).1 (by decide) (by decide) hw) (41::v) (iP (by decide));obtain⟨z,z5,zt,zc⟩:=dU (c:=41) (by decide) (v:=v) (λe=>absurd e (by decide)) (λe=>absurd e (by decide));obtain⟨p,p5,pt,pc⟩:=dU (c:=40) (by decide) (v:=(Lib.join (t.aa.map λx=>wT T true (λa=>95::bz (ix a)) N x 999 false) [44]++[41])++v) (λe=>absurd e (by decide)) (λe=>absurd e (by decide));obtain⟨y,yk,_,yt,yo,_,yc⟩:=pb qq (v:=40::((Lib.join (t.aa.map λx=>wT T true (λa=>95::bz (ix a)) N x 999 false) [44]++[41])++v)) P7;have Yp:y.iT=true:=by rw[yo];simp
   refine⟨by rw[List.append_assoc,List.append_assoc];exact (nT qq).app _,y,p::((y2::L2)++[z]),?_,λ_=>?_,λhn=>?_⟩
   .rw[List.append_assoc,List.append_assoc];exact cI.cat (A:=[y]) (B:=[p]++((y2::L2)++[z])) (by rw[List.append_assoc];exact yc) (cI.cat pc (cI.cat c1 zc))
   .unfold Cc;rw[if_neg (by omega),if_neg (by omega),Yp,Bool.or_true,if_pos rfl]
   .have n1:=iX.app (A:=[y,p]) (B:=(y2::L2)++[z]) hn;have n2:=iX.app n1.2;exact⟨0,0,Jw,Int.le_refl _,Int.le_refl _,λh=>(ki h).elim,Qn hg k2 h0 ah5 (c3 n2.1) yk yt Yp z5 zt⟩
end
theorem QF(n:Int):∀(A B:List Int) (k:Nat),n∉A->Jv n (xe k (A++n::B))=some ((k+A.length:Nat):Int)
 |[],B,k,_=>by show (if n=n then some ((k:Nat):Int) else _)=_;rw[if_pos rfl];simp
 |a::A,B,k,h=>by show (if n=a then _ else Jv n (xe (k+1) (A++n::B)))=_;rw[if_neg (λe=>h (by simp[e])),QF n A B (k+1) (λe=>h (by simp[e]))];congr 2;simp;omega
theorem Ni{n:Int}{A B:List Int}(h:n∉A):vy (eS (A++n::B)) n=(A.length:Int):=by unfold vy eS;rw[QF n A B 0 h];simp
theorem Ht{n:Int}:∀{P:List Int},n∈P->∃A B,P=A++n::B/\n∉A
 |[],h=>by simp at h
 |a::P,h=>by
   by_cases e:n=a
   .exact⟨[],P,by rw[e];rfl,by simp⟩
   .obtain⟨A,B,h1,h2⟩:=Ht (P:=P) (by
     rcases List.mem_cons.1 h with h|h
     .exact absurd h e
     .exact h)
    exact⟨a::A,B,by rw[h1];rfl,by simp[e,h2]⟩
mutual
theorem SF:∀(t:Tm) (P:List Int),∃q,iW t P=P++q
 |.nl k n s,P=>by
   show ∃q,(if k=0 then rp n P else P)=P++q;split
   .unfold rp;split
    .exact⟨[],by simp⟩
    .exact⟨[n],rfl⟩
   .exact⟨[],by simp⟩
 |.mk k n s us,P=>by
   show ∃q,(if k=0 then rp n P else fZ us P)=P++q;split
   .unfold rp;split
    .exact⟨[],by simp⟩
    .exact⟨[n],rfl⟩
   .exact xC us P
theorem xC:∀(us:List Tm) (P:List Int),∃q,fZ us P=P++q
 |[],P=>⟨[],by simp[fZ]⟩
 |t::r,P=>by obtain⟨q1,h1⟩:=SF t P;obtain⟨q2,h2⟩:=xC r (iW t P);exact⟨q1++q2,by show fZ r (iW t P)=_;rw[h2,h1,List.append_assoc]⟩
end
theorem PL{V P q:List Int}{n:Int}(hV:V=rp n P++q):(if vy (eS V) n<P.length then some P.length else if vy (eS V) n=P.length then some (P.length+1) else none)=some (rp n P).length:=by
 unfold rp at hV|-;by_cases h:n∈P
 .rw[if_pos h] at hV|-;obtain⟨A,B,e,hA⟩:=Ht h
  have hx:vy (eS V) n=(A.length:Int):=by rw[hV,e,List.append_assoc];exact Ni hA
  have hl:A.length<P.length:=by rw[e];simp
  rw[hx,if_pos (by omega)]
 .rw[if_neg h] at hV|-
  have hx:vy (eS V) n=(P.length:Int):=by rw[hV,List.append_assoc];exact Ni h
  rw[hx,if_neg (by omega),if_pos rfl];simp
mutual
theorem Kr{V:List Int}:∀(t:Tm) (P q:List Int),V=iW t P++q->eG (vy (eS V)) t P.length=some (iW t P).length
 |.nl k n s,P,q,h=>by
   by_cases hk:k=0
   .subst hk;exact PL (n:=n) h
   .show (if k=0 then _ else some P.length)=some (if k=0 then rp n P else P).length;rw[if_neg hk,if_neg hk]
 |.mk k n s us,P,q,h=>by
   by_cases hk:k=0
   .subst hk;exact PL (n:=n) h
   .show (if k=0 then _ else gE (vy (eS V)) us P.length)=some (if k=0 then rp n P else fZ us P).length;have h:V=(if k=0 then rp n P else fZ us P)++q:=h;rw[if_neg hk] at h;rw[if_neg hk,if_neg hk];exact Gi us P q h
theorem Gi{V:List Int}:∀(us:List Tm) (P q:List Int),V=fZ us P++q->gE (vy (eS V)) us P.length=some (fZ us P).length
 |[],P,q,h=>rfl
 |t::r,P,q,h=>by obtain⟨q2,h2⟩:=xC r (iW t P);have h1:=Kr (V:=V) t P (q2++q) (by rw[h];show fZ r (iW t P)++q=_;rw[h2,List.append_assoc]);unfold gE;rw[h1];exact Gi r (iW t P) q h
end
theorem KG{t:Tm}(hg:dt t=true):eG (vy (eS (cU t))) t 0=some (cU t).length:=by
 have e:cU t=iW t []:=by rw[Fh,if_pos hg]
 rw[e];exact Kr t [] [] (by simp)
theorem UG(k n:Int)(s:List UInt8)(us:List Tm):(Ps k n s us).size=1+Tm.bE us:=by
 cases us with
 |nil=>simp[Ps,Tm.size,Tm.bE]
 |cons x r=>simp[Ps,Tm.size]
theorem Rc(k n:Int)(s:List UInt8)(us:List Tm):(Ps k n s us).fP=1+Tm.lI us:=by
 cases us with
 |nil=>simp[Ps,Tm.fP,Tm.lI]
 |cons x r=>simp[Ps,Tm.fP]
mutual
theorem Ev(ix:Int->Int):∀t:Tm,(fR ix t).size=t.size/\(fR ix t).fP=t.fP
 |.nl k n s=>⟨rfl,rfl⟩
 |.mk k n s us=>by have h:=Gu ix us;rw[fR];refine⟨by rw[UG,h.1];rfl,by rw[Rc,h.2];rfl⟩
theorem Gu(ix:Int->Int):∀us:List Tm,Tm.bE (tt ix us)=Tm.bE us/\Tm.lI (tt ix us)=Tm.lI us
 |[]=>⟨rfl,rfl⟩
 |t::r=>by have h1:=Ev ix t;have h2:=Gu ix r;rw[tt];simp only[Tm.bE,Tm.lI];rw[h1.1,h1.2,h2.1,h2.2];exact⟨rfl,rfl⟩
end
theorem rP(ix:Int->Int)(t:Tm):(fR ix t).ah=t.ah/\(fR ix t).bx=(if t.ah=0 then ix t.bx else t.bx)/\(fR ix t).aC=t.aC/\(fR ix t).aa=t.aa.map (fR ix):=by rw[oy];exact Wh _ _ _ _
theorem QP{ix:Int->Int}(tZ:∀a,0<=ix a/\ix a<1000000000){t:Tm}(h:fJ t=true):fJ (fR ix t)=true:=by
 obtain⟨f1,f2,f3,f4⟩:=rP ix t;unfold fJ at h|-;rw[f1,f2,f3,f4,List.length_map];by_cases k0:t.ah=0
 .rw[if_pos k0] at h;rw[if_pos k0,if_pos k0];simp only[Bool.and_eq_true,decide_eq_true_eq] at h|-;have:=tZ t.bx;exact⟨⟨⟨by omega,by omega⟩,h.1.2⟩,h.2⟩
 .rw[if_neg k0] at h;rw[if_neg k0,if_neg k0];exact h
mutual
theorem O8{ix:Int->Int}(tZ:∀a,0<=ix a/\ix a<1000000000):∀t:Tm,t.fg fJ=true->(fR ix t).fg fJ=true
 |.nl k n s,h=>QP tZ h
 |.mk k n s us,h=>by obtain⟨h1,h2⟩:=j6 h;rw[iO,QP tZ h1,(rP ix _).2.2.2,Bool.true_and,<-rJ];exact KK tZ us h2
theorem KK{ix:Int->Int}(tZ:∀a,0<=ix a/\ix a<1000000000):∀us:List Tm,Tm.eX fJ us=true->Tm.eX fJ (tt ix us)=true
 |[],_=>rfl
 |t::r,h=>by simp only[Tm.eX,Bool.and_eq_true] at h;rw[tt];simp only[Tm.eX,Bool.and_eq_true];exact⟨O8 tZ t h.1,KK tZ r h.2⟩
end
theorem EU{ix:Int->Int}(tZ:∀a,0<=ix a/\ix a<1000000000){t:Tm}(h:dt t=true):dt (fR ix t)=true:=by unfold dt at h|-;rw[(Ev ix t).1,(Ev ix t).2];rw[Bool.and_eq_true] at h|-;exact⟨h.1,O8 tZ t h.2⟩
theorem I4:pZ [32,46]=some [zW]:=by kernel_rfl
theorem Qa{T:List aY}{st:St}(h:(ag T 1200 ⟨st.bM,st.ak,0,[]⟩).1.2.2=true)(hk:(aB (ag T 1200 ⟨st.bM,st.ak,0,[]⟩).2).ah=6)(hg:dt (ag T 1200 ⟨st.bM,st.ak,0,[]⟩).1.1=true):qz T st=(((ag T 1200 ⟨st.bM,st.ak,0,[]⟩).1.1,0),aq (ag T 1200 ⟨st.bM,st.ak,0,[]⟩).2):=by unfold qz;dsimp only;rw[if_neg (by rw[h,hk];decide),if_pos hg]
theorem GL{T:List aY}(hg:dJ T=true){t:Tm}(cK:vZ t):
 ((dC (wF T true (iZ (eS (cU t))) t 1200 false++[32,46])).2.2=0\/(dC (wF T true (iZ (eS (cU t))) t 1200 false++[32,46])).2.2=3)/\
 ((dC (wF T true (iZ (eS (cU t))) t 1200 false++[32,46])).2.2=0->∃ns,po T (wF T true (iZ (eS (cU t))) t 1200 false++[32,46])=((fR (vy (eS (cU t))) t,ns),0)):=by
 have tZ:∀a,0<=vy (eS (cU t)) a/\vy (eS (cU t)) a<1000000000:=λa=>wh (vW t) a
 obtain⟨h1,y,L,hc,_,hr⟩:=U6 (T:=T) (ix:=vy (eS (cU t))) hg tZ t.size t 1200 false [32,46] (Nat.le_refl _) cK (by decide) (by decide) (iP (by decide));change cI (wF T true (iZ (eS (cU t))) t 1200 false) (y::L) [32,46] at hc;have hq:=hc _ I4;refine⟨Si hq,λh0=>?_⟩;generalize wF T true (iZ (eS (cU t))) t 1200 false++[32,46]=s at *;have ha:=Ha hq h0;have ME:=AH s
 have hn:iX (y::L):=λx hx=>by
  have hm:x∈kB (dC s).1:=by rw[ha];exact List.mem_append.2 (.inl hx)
  have:=List.all_eq_true.1 (CO ME.1) x hm;unfold xS at this;simp only[Bool.and_eq_true,decide_eq_true_eq] at this;exact this.2.1
 obtain⟨lv,r,b1,b2,b3,_,b5⟩:=hr hn;have cT:(dC s).1.length=L.length+2:=by rw[<-gG,ha];simp
 have qS:(uj (dC s).1 0).ak=(y::L)++zW::[]:=by show (kB (dC s).1).drop 0=_;rw[ha];rfl
 have hvl:(cU t).length<=100000:=by have:=rq t;omega
 have Fp:rI zW:=.inl rfl;obtain⟨s1,a1,a2,a3,a4⟩:=b5.stop (m:=1200) b1 qS (show TK 0 (uj (dC s).1 0) from⟨rfl,rfl⟩) (KG cK.1) hvl (Fp.NY (T:=T) (by decide) r).1 (λ_=>Fp) (λe=>by rw[rn (by rfl)] at e;cases e);have hgt:=EU tZ cK.1;have ho:=Qa (T:=T) (st:=uj (dC s).1 0) (by show (ag T 1200 (uj (dC s).1 0)).1.2.2=true;rw[a4]) (by show (aB (ag T 1200 (uj (dC s).1 0)).2).ah=6;rw[a4,mQ a1];rfl) (by show dt (ag T 1200 (uj (dC s).1 0)).1.1=true;rw[a4];exact hgt);change qz T (uj (dC s).1 0)=(((ag T 1200 (uj (dC s).1 0)).1.1,0),aq (ag T 1200 (uj (dC s).1 0)).2) at ho;rw[a4] at ho;refine⟨s1.ae,?_⟩;unfold po
 rw[if_neg (by rw[hg];simp),if_neg (λe=>e h0),ho,if_neg (by
  rintro (e|e)
  .exact absurd (show (0:Int)=2 from e) (by decide)
  .have e2:((s1.bM+1:Nat):Int)<((dC s).1.length:Int):=e;have e3:(uj (dC s).1 0).bM=0:=rfl;rw[a2,e3,cT,List.length_cons] at e2;omega),if_neg (λe=>e rfl)]
 rfl
def gD:Nat->List Int
 |0=>[]
 |k+1=>gD k++[(k:Int)]
theorem xp:∀k,(gD k).length=k
 |0=>rfl
 |k+1=>by show (gD k++[_]).length=_;rw[List.length_append,xp k];rfl
theorem tD:∀{k:Nat} {i:Nat},((i:Int)∈gD k)↔i<k
 |0,i=>by simp[gD]
 |k+1,i=>by show (i:Int)∈gD k++[(k:Int)]↔_;rw[List.mem_append,tD (k:=k),List.mem_singleton];omega
theorem Hu{ix:Int->Int}{n:Int}(h0:0<=ix n){j k:Nat}(h:(if ix n<j then some j else if ix n=j then some (j+1) else none)=some k):rp (ix n) (gD j)=gD k:=by
 obtain⟨i,hi⟩:∃i:Nat,ix n=(i:Int):=⟨(ix n).toNat,by omega⟩
 rw[hi] at h|-;unfold rp;by_cases h1:i<j
 .rw[if_pos (by omega)] at h;cases h;rw[if_pos (tD.2 h1)]
 .rw[if_neg (by omega)] at h;by_cases h2:(i:Int)=j
  .rw[if_pos h2] at h;cases h;obtain rfl:i=j:=by omega
   rw[if_neg (λe=>by have:=tD.1 e;omega)];rfl
  .rw[if_neg h2] at h;cases h
mutual
theorem JJ{ix:Int->Int}(tZ:∀a,0<=ix a):∀(t:Tm) (j k:Nat),eG ix t j=some k->iW (fR ix t) (gD j)=gD k
 |.nl kd n s,j,k,h=>by
   unfold eG at h;rw[fR];show (if kd=0 then rp (if kd=0 then ix n else n) (gD j) else gD j)=_;by_cases hk:kd=0
   .rw[if_pos hk] at h;rw[if_pos hk,if_pos hk];exact Hu (tZ n) h
   .rw[if_neg hk] at h;cases h;rw[if_neg hk]
 |.mk kd n s us,j,k,h=>by
   unfold eG at h;rw[Lh,(rP ix _).1,(rP ix _).2.1,(rP ix _).2.2.2];show (if kd=0 then rp (if kd=0 then ix n else n) (gD j) else fZ (us.map (fR ix)) (gD j))=_;by_cases hk:kd=0
   .rw[if_pos hk] at h;rw[if_pos hk,if_pos hk];exact Hu (tZ n) h
   .rw[if_neg hk] at h;rw[if_neg hk,<-rJ];exact G0 tZ us j k h
theorem G0{ix:Int->Int}(tZ:∀a,0<=ix a):∀(us:List Tm) (j k:Nat),gE ix us j=some k->fZ (tt ix us) (gD j)=gD k
 |[],j,k,h=>by cases h;rfl
 |t::r,j,k,h=>by unfold gE at h;obtain⟨i,h1,h2⟩:=Option.bind_eq_some_iff.1 h;rw[tt];show fZ (tt ix r) (iW (fR ix t) (gD j))=_;rw[JJ tZ t j i h1];exact G0 tZ r i k h2
end
theorem Vc{k i:Nat}(h:i<k):vy (eS (gD k)) (i:Int)=(i:Int):=by
 have key:∀(k i:Nat),i<k->∃B,gD k=gD i++(i:Int)::B:=by
  intro k
  induction k with
  |zero=>intro i h;omega
  |succ k ih=>
    intro i h;by_cases e:i=k
    .subst e;exact⟨[],rfl⟩
    .obtain⟨B,hB⟩:=ih i (by omega);exact⟨B++[(k:Int)],by show gD k++[_]=_;rw[hB];simp⟩
 obtain⟨B,hB⟩:=key k i h;rw[hB,Ni (λe=>by have:=tD.1 e;omega),xp]
theorem QM{ix iy:Int->Int}(tZ:∀a,0<=ix a){n:Int}{j k m:Nat}(h:(if ix n<j then some j else if ix n=j then some (j+1) else none)=some k)(hm:k<=m)(hy:∀i:Nat,i<m->iy i=i):iy (ix n)=ix n:=by
 have h0:=tZ n;obtain⟨i,hi⟩:∃i:Nat,ix n=(i:Int):=⟨(ix n).toNat,by omega⟩
 rw[hi] at h|-;refine hy i ?_;by_cases h1:(i:Int)<j
 .rw[if_pos h1] at h;cases h;omega
 .rw[if_neg h1] at h;by_cases h2:(i:Int)=j
  .rw[if_pos h2] at h;cases h;omega
  .rw[if_neg h2] at h;cases h
mutual
theorem Qu{ix iy:Int->Int}(tZ:∀a,0<=ix a):∀(t:Tm) (j k m:Nat),t.fg fJ=true->eG ix t j=some k->k<=m->(∀i:Nat,i<m->iy i=i)->fR iy (fR ix t)=fR ix t
 |.nl kd n s,j,k,m,_,h,hm,hy=>by
   unfold eG at h;rw[fR];show Tm.nl kd (if kd=0 then iy (if kd=0 then ix n else n) else if kd=0 then ix n else n) s=_;by_cases hk:kd=0
   .rw[if_pos hk] at h;rw[if_pos hk,if_pos hk];rw[QM tZ h hm hy]
   .rw[if_neg hk,if_neg hk]
 |.mk kd n s us,j,k,m,hg,h,hm,hy=>by
   unfold eG at h;obtain⟨f1,f2,f3,f4⟩:=rP ix (.mk kd n s us);obtain⟨g1,g2⟩:=j6 hg;rw[oy iy,f1,f2,f3,f4,oy ix (.mk kd n s us)];show Ps kd (if kd=0 then iy (if kd=0 then ix n else n) else if kd=0 then ix n else n) s ((us.map (fR ix)).map (fR iy))=Ps kd (if kd=0 then ix n else n) s (us.map (fR ix));by_cases hk:kd=0
   .subst hk;obtain⟨_,e2⟩:=ve g1 (by show ¬(0:Int)=2;decide);obtain rfl:us=[]:=e2;rw[if_pos rfl] at h;rw[if_pos rfl,if_pos rfl,QM tZ h hm hy];rfl
   .rw[if_neg hk] at h;rw[if_neg hk,if_neg hk];have:=Ma tZ us j k m g2 h hm hy;rw[rJ,rJ] at this;rw[this]
theorem Ma{ix iy:Int->Int}(tZ:∀a,0<=ix a):∀(us:List Tm) (j k m:Nat),Tm.eX fJ us=true->gE ix us j=some k->k<=m->(∀i:Nat,i<m->iy i=i)->tt iy (tt ix us)=tt ix us
 |[],_,_,_,_,_,_,_=>rfl
 |t::r,j,k,m,hg,h,hm,hy=>by unfold gE at h;simp only[Tm.eX,Bool.and_eq_true] at hg;obtain⟨i,h1,h2⟩:=Option.bind_eq_some_iff.1 h;have hle:=CD ix r i k h2;rw[tt,tt,Qu tZ t j i m hg.1 h1 (by omega) hy,Ma tZ r i k m hg.2 h2 hm hy]
end
def tA(s:List UInt8):Tm:=.nl 2 0 s
def abD:Tm:=.mk 2 0 [43] [tA [97],.mk 2 0 [42] [tA [98],tA [99]]]
def tF:Tm:=.mk 2 0 [102] [.nl 0 7 [],.nl 1 (-1) []]
noncomputable def ad4:List aZ:=[kU,tT,rh,mJ,uO,OP,sx]
theorem YX:∀s∈ad4,dX Tryz.prog bV s:=by simp[ad4,uN.lift,yY.lift,uU.lift,xV,HP.lift,PC.lift,D5]
theorem aaf:tX bw abD=([97,32,43,32,98,32,42,32,99],0):=by decide+kernel
theorem afx:uu tF=([102,40,95,48,44,45,49,41],0):=by decide+kernel
def oA:aZ:=⟨18,λ|[]=>some (.bool true)|_=>none⟩
theorem cW:oA.f=18:=(rfl)
theorem E4:oA.S []=some (.bool true):=(rfl)
theorem D4:dX Tryz.prog bV oA:=λaa v hv=>by
 unfold oA at hv|-;dsimp only at hv|-;split at hv
 .cases hv;refine cf (n:=10) (h':=h0) (kz YX) ?_ rfl rfl;have q0:=nE;have qa:∀s,tT.S [.str s]=some (.agg [.int .i64 2,.int .i64 0,.str s,.aD]):=λs=>rfl
  have qb:rh.S [.str [42],.sl [.agg [.int .i64 2,.int .i64 0,.str [98],.aD],.agg [.int .i64 2,.int .i64 0,.str [99],.aD]]]=some (.agg [.int .i64 2,.int .i64 0,.str [42],.sl [.agg [.int .i64 2,.int .i64 0,.str [98],.aD],.agg [.int .i64 2,.int .i64 0,.str [99],.aD]]]):=by kernel_rfl
  have qc:rh.S [.str [43],.sl [.agg [.int .i64 2,.int .i64 0,.str [97],.aD],.agg [.int .i64 2,.int .i64 0,.str [42],.sl [.agg [.int .i64 2,.int .i64 0,.str [98],.aD],.agg [.int .i64 2,.int .i64 0,.str [99],.aD]]]]]=
   some (.agg [.int .i64 2,.int .i64 0,.str [43],.sl [.agg [.int .i64 2,.int .i64 0,.str [97],.aD],.agg [.int .i64 2,.int .i64 0,.str [42],.sl [.agg [.int .i64 2,.int .i64 0,.str [98],.aD],.agg [.int .i64 2,.int .i64 0,.str [99],.aD]]]]]):=by kernel_rfl
  have qd:=s9 (gW bw) abD (by decide+kernel) (by decide);rw[aaf] at qd;have qv:uO.S [.int .i64 7]=some (.agg [.int .i64 0,.int .i64 7,.str [],.aD]):=rfl;have qi:OP.S [.int .i64 (-1)]=some (.agg [.int .i64 1,.int .i64 (-1),.str [],.aD]):=rfl;have qf:rh.S [.str [102],.sl [.agg [.int .i64 0,.int .i64 7,.str [],.aD],.agg [.int .i64 1,.int .i64 (-1),.str [],.aD]]]=some (.agg [.int .i64 2,.int .i64 0,.str [102],.sl [.agg [.int .i64 0,.int .i64 7,.str [],.aD],.agg [.int .i64 1,.int .i64 (-1),.str [],.aD]]]):=by kernel_rfl
  have qg:=xw tF (by decide+kernel);rw[afx] at qg;have e1:abD.aR=.agg [.int .i64 2,.int .i64 0,.str [43],.sl [.agg [.int .i64 2,.int .i64 0,.str [97],.aD],.agg [.int .i64 2,.int .i64 0,.str [42],.sl [.agg [.int .i64 2,.int .i64 0,.str [98],.aD],.agg [.int .i64 2,.int .i64 0,.str [99],.aD]]]]]:=rfl;have e2:tF.aR=.agg [.int .i64 2,.int .i64 0,.str [102],.sl [.agg [.int .i64 0,.int .i64 7,.str [],.aD],.agg [.int .i64 1,.int .i64 (-1),.str [],.aD]]]:=rfl;rw[e1] at qd;rw[e2] at qg;simp only[ad4];generalize bw.map aY.aR=P at *;simp[afr,c18,cA,fV,pR,cQ,fX,Oy,jn,q0,qa,qb,qc,qd,qv,qi,qf,qg]
 .cases hv
theorem Pq{T:List aY}{t:Tm}{s:List UInt8}(h:tX T t=(s,0)):dt t=true/\dJ T=true/\s=wF T true (iZ (eS (cU t))) t 1200 false/\s.length<=4096:=by
 unfold tX B8 at h;split at h
 .rename_i hg;split at h
  .cases h
  .rename_i hl;cases h;exact⟨hg.1,hg.2,rfl,by omega⟩
 .cases h
theorem CP(us:List (List UInt8×Int)):fY us=.aD\/∃W,fY us=.sl W:=by
 cases us with
 |nil=>exact .inl rfl
 |cons x r=>exact .inr ⟨_,rfl⟩
theorem abT{u:List UInt8}(h:(bN u).2.2=3):(bN u).1.ah=4:=by
 cases u with
 |nil=>exact absurd h (by decide)
 |cons c r=>
   unfold bN at h|-;dsimp only at h|-;by_cases h1:jv c=true
   .rw[if_pos h1] at h;exact absurd h (by simp)
   rw[if_neg h1] at h|-;by_cases h2:jy c=true
   .rw[if_pos h2] at h;exact absurd h (by simp)
   rw[if_neg h2] at h|-;by_cases h3:dd c=true
   .rw[if_pos h3]
   rw[if_neg h3] at h|-;by_cases h4:c.toNat=39
   .rw[if_pos h4] at h;generalize ib (r.length+1) r [] 1=q at *;obtain⟨a,k⟩:=q;cases a<;>exact absurd h (by simp)
   rw[if_neg h4] at h|-;by_cases h5:gZ (c::r)=true
   .rw[if_pos h5] at h;exact absurd h (by simp)
   rw[if_neg h5] at h|-;by_cases h6:qA c=true
   .rw[if_pos h6] at h;exact absurd h (by simp)
   rw[if_neg h6] at h|-;by_cases h7:c.toNat=59\/c.toNat=33
   .rw[if_pos h7] at h;exact absurd h (by simp)
   rw[if_neg h7] at h|-
   cases r with
   |nil=>dsimp only at h|-;split at h<;>exact absurd h (by simp)
   |cons d r'=>
     dsimp only at h|-;split at h
     .exact absurd h (by simp)
     .split at h<;>exact absurd h (by simp)
def Sl(x:cB):Prop:=x.ah≠4/\((x.ah=1\/x.ah=2)->x.ay.length<=64)
theorem aac(u:List UInt8):(FD u).ah=(bN u).1.ah/\(FD u).ay=(bN u).1.ay:=by unfold FD Iz;split<;>exact⟨rfl,rfl⟩
theorem Hm:∀(f:Nat) (s:List UInt8) (j:Nat) (aJ:List Tok) (L:List cB),j<=s.length->s.length-j<f->wG f (s.drop j)=some L->(∀x∈L,Sl x)->aJ.length+L.length<=1024->(nP f s j aJ).2.2=0
 |0,_,_,_,_,_,h,_,_,_=>by omega
 |f+1,s,j,aJ,L,hj,hf,h,im,hn=>by
   unfold nP;by_cases h1:s.length<=j
   .rw[if_pos h1]
   rw[if_neg h1]
   cases hd:s.drop j with
   |nil=>exact absurd (congrArg List.length hd) (by simp;omega)
   |cons c r=>
     rw[<-hd];have e:wG (f+1) (s.drop j)=if ((bN (s.drop j)).2.2=0\/(bN (s.drop j)).2.2=3)/\1<=(bN (s.drop j)).2.1 then (wG f (ll (s.drop j))).map (FD (s.drop j)::·) else none:=by rw[hd];rfl
     rw[e] at h;split at h
     rotate_left
     .cases h
     rename_i hc;rw[Option.map_eq_some_iff] at h;obtain⟨K,h4,h5⟩:=h;subst h5;obtain⟨k1,k2⟩:=aac (s.drop j);have hx:=im _ (List.mem_cons_self ..);unfold Sl at hx;rw[k1,k2] at hx
     have h2:(bN (s.drop j)).2.2=0:=by
      rcases hc.1 with h|h
      .exact h
      .exact absurd (abT h) hx.1
     rw[List.length_cons] at hn;rw[if_neg (λg=>g h2)]
     rw[if_neg (by
      rintro (⟨a,b⟩|a)
      .have:=hx.2 a;omega
      .omega)]
     have l2:=gB (s.drop j);have l3:=l2.2 h2;have l1:=E8 h2;have ld:(s.drop j).length=s.length-j:=List.length_drop;have en:oC (s.drop j)=s.drop (j+(bN (s.drop j)).2.1):=by unfold oC;rw[List.drop_drop]
     have ek:dG (s.length+1) (s.drop (j+(bN (s.drop j)).2.1))=dG ((oC (s.drop j)).length+1) (oC (s.drop j)):=by rw[en];exact nf _ _ _ (by rw[List.length_drop];omega) (Nat.lt_succ_self _)
     have er:ll (s.drop j)=s.drop (j+(bN (s.drop j)).2.1+dG (s.length+1) (s.drop (j+(bN (s.drop j)).2.1))):=by unfold ll ey;rw[<-ek,en,List.drop_drop]
     have lk:=iM (s.length+1) (s.drop (j+(bN (s.drop j)).2.1));rw[List.length_drop] at lk;rw[er] at h4;exact Hm f s _ _ K (by omega) (by omega) h4 (λx hx=>im x (List.mem_cons_of_mem _ hx)) (by rw[List.length_append];simp;omega)
theorem DB{s:List UInt8}{L:List cB}(h:pZ s=some L)(hl:s.length<=4096)(hk:∀x∈L,Sl x)(hn:L.length<=1024):(dC s).2.2=0:=by unfold dC;rw[if_neg (by omega)];exact Hm (s.length+1) s _ [] L (iM (s.length+1) s) (by omega) h hk (by simpa using hn)
theorem P8{T:List aY}{ix:Int->Int}(hg:dJ T=true){s:List UInt8}{t:Tm}{y:cB}{L:List cB}{lv r:Int}{k:Nat}(h0:(dC s).2.2=0)(hq:pZ s=some ((y::L)++[zW]))(hr:xb T ix t (y::L) lv r false)(eU:lv<=1200)(ho:eG ix t 0=some k)(hk:k<=100000)(hgt:dt (fR ix t)=true):
 ∃ns,po T s=((fR ix t,ns),0):=by
 have ha:=Ha hq h0;have cT:(dC s).1.length=L.length+2:=by rw[<-gG,ha];simp
 have qS:(uj (dC s).1 0).ak=(y::L)++zW::[]:=by show (kB (dC s).1).drop 0=_;rw[ha];rfl
 have Fp:rI zW:=.inl rfl;obtain⟨s1,a1,a2,a3,a4⟩:=hr.stop (m:=1200) eU qS (show TK 0 (uj (dC s).1 0) from⟨rfl,rfl⟩) ho hk (Fp.NY (T:=T) (by decide) r).1 (λ_=>Fp) (λe=>by rw[rn (by rfl)] at e;cases e);have ho:=Qa (T:=T) (st:=uj (dC s).1 0) (by show (ag T 1200 (uj (dC s).1 0)).1.2.2=true;rw[a4]) (by show (aB (ag T 1200 (uj (dC s).1 0)).2).ah=6;rw[a4,mQ a1];rfl) (by show dt (ag T 1200 (uj (dC s).1 0)).1.1=true;rw[a4];exact hgt);change qz T (uj (dC s).1 0)=(((ag T 1200 (uj (dC s).1 0)).1.1,0),aq (ag T 1200 (uj (dC s).1 0)).2) at ho;rw[a4] at ho;refine⟨s1.ae,?_⟩;unfold po
 rw[if_neg (by rw[hg];simp),if_neg (λe=>e h0),ho,if_neg (by
  rintro (e|e)
  .exact absurd (show (0:Int)=2 from e) (by decide)
  .have e2:((s1.bM+1:Nat):Int)<((dC s).1.length:Int):=e;have e3:(uj (dC s).1 0).bM=0:=rfl;rw[a2,e3,cT,List.length_cons] at e2;omega),if_neg (λe=>e rfl)]
 rfl
def ot(T:List aY)(s:List UInt8):Prop:=gU s=true/\(aM T s false).2=false/\(aM T s true).2=false
theorem ot.lvl{T:List aY}{s:List UInt8}(h:ot T s):u7 T s=0:=by unfold u7;rw[zL h.2.1,zL h.2.2];rfl
theorem DE{T:List aY}{s:List UInt8}(h:ot T s):s.length<=64:=by have:=h.1;unfold gU at this;simp only[Bool.and_eq_true,decide_eq_true_eq] at this;exact this.2
section
variable {T:List aY}{ix:Int->Int}
theorem Pf(s:List UInt8)(h:ot T s){v:List UInt8}(hv:Bd v):∃x:cB,Sl x/\cI (bd s) [x] v/\xb T ix (aW s) [x] 0 0 false:=by
 obtain⟨x,xk,_,xt,xo,_,xc⟩:=pb h.1 hv.nd;refine⟨x,⟨by omega,λ_=>by rw[xt];exact DE h⟩,xc,?_⟩;have:=H5 (T:=T) (ix:=ix) (t:=aW s) (bs:=false) rfl rfl rfl xk xt (by rw[xo];exact hv.open) (λe=>by cases e)
 have e:(if x.ah=2 then 0 else u7 T (aW s).aC)=0:=by
  split
  .rfl
  .exact h.lvl
 rw[e] at this;exact this
theorem AU(hg:dJ T=true):∀(l:List (List UInt8)),l≠[]->(∀s∈l,ot T s)->∀v,Bd v->∃L,cI (Lib.join (l.map bd) [44]) L v/\Hd (Lib.join (l.map bd) [44])/\(∀x∈L,Sl x)/\L.length<=2*l.length/\oz T ix (l.map aW) L
 |[],h,_,_,_=>absurd rfl h
 |[s],_,h,v,hv=>by
   have hf:=h s (by simp);obtain⟨x,x1,x2,x3⟩:=Pf (ix:=ix) s hf hv;have e:Lib.join ([s].map bd) [44]=bd s:=by simp[Lib.join]
   rw[e];exact⟨[x],x2,nT hf.1,λy hy=>by rw[List.mem_singleton.1 hy];exact x1,by simp,uX hg x3 (by decide) (by decide)⟩
 |s::w::l,_,h,v,hv=>by
   have hf:=h s (by simp);have e:Lib.join ((s::w::l).map bd) [44]=bd s++([44]++Lib.join ((w::l).map bd) [44]):=by simp[Lib.join,List.intercalate,List.intersperse]
   rw[e];obtain⟨L,l1,l2,l3,l4,l5⟩:=AU hg (w::l) (by simp) (λx hx=>h x (by simp at hx|-;exact .inr hx)) v hv;obtain⟨p,p5,pt,pc⟩:=dU (c:=44) (by decide) (v:=Lib.join ((w::l).map bd) [44]++v) (λe=>absurd e (by decide)) (λe=>absurd e (by decide));obtain⟨x,x1,x2,x3⟩:=Pf (ix:=ix) s hf (v:=([44]++Lib.join ((w::l).map bd) [44])++v) (iP (by decide));refine⟨x::(p::L),cI.cat (A:=[x]) (B:=[p]++L) x2 (cI.cat pc l1),(nT hf.1).app _,?_,by simp at l4|-;omega,sy (L:=[x]) hg x3 (by decide) (by decide) p5 pt l5⟩;intro z hz;rcases List.mem_cons.1 hz with rfl|hz
   .exact x1
   rcases List.mem_cons.1 hz with rfl|hz
   .exact⟨by omega,λg=>by omega⟩
   .exact l3 z hz
end
theorem YP{t:Tm}(h:t.ah=2):¬t.ah=0/\¬t.ah=1:=by omega
def p8(b:Bool):Tm:=if b then .nl 0 5 [] else aW [91,93]
def Pw(b:Bool):Tm:=if b then .nl 0 0 [] else aW [91,93]
def II(l:List (List UInt8))(b:Bool):List UInt8:=[91]++Lib.join (l.map bd) [44]++(if b then [124,95,48] else [])
def X9:Int->Int:=λ_=>0
theorem A0:∀(l:List (List UInt8)) (r:Tm),(bL (l.map aW) r).size=2*l.length+r.size/\(bL (l.map aW) r).fP<=l.length+max r.fP 1
 |[],r=>⟨by simp[bL],by simp[bL];omega⟩
 |s::l,r=>by
   obtain⟨h1,h2⟩:=A0 l r;show (Tm.mk 2 0 [46] [aW s,bL (l.map aW) r]).size=_/\(Tm.mk 2 0 [46] [aW s,bL (l.map aW) r]).fP<=_;have e:(aW s).size=1/\(aW s).fP=1:=⟨rfl,rfl⟩
   simp only[Tm.size,Tm.bE,Tm.fP,Tm.lI,e.1,e.2,h1,List.length_cons];omega
theorem XG{T:List aY}{s:List UInt8}(h:ot T s):fJ (aW s)=true:=by unfold fJ aW;simp[Tm.ah,Tm.bx,Tm.aC,Tm.aa,h.1]
theorem yM{T:List aY}:∀(l:List (List UInt8)) (r:Tm),(∀s∈l,ot T s)->r.fg fJ=true->(bL (l.map aW) r).fg fJ=true
 |[],_,_,h=>h
 |s::l,r,h,hr=>by
   have ih:=yM l r (λx hx=>h x (List.mem_cons_of_mem _ hx)) hr;have h1:=XG (h s (List.mem_cons_self ..));show (Tm.mk 2 0 [46] [aW s,bL (l.map aW) r]).fg fJ=true
   have h2:fJ (.mk 2 0 [46] [aW s,bL (l.map aW) r])=true:=by unfold fJ;simp[Tm.ah,Tm.bx,Tm.aC,Tm.aa,show gU [46]=true from by decide+kernel]
   rw[Tm.fg,h2,Tm.eX,Tm.eX,ih];show (true&&(fJ (aW s)&&(true&&Tm.eX fJ [])))=true;rw[h1];rfl
theorem Im(b:Bool):(p8 b).fg fJ=true:=by cases b<;>decide+kernel
theorem NJ(b:Bool):gj (p8 b)=false:=by cases b<;>decide+kernel
theorem abI(b:Bool):gj (Pw b)=false:=by cases b<;>decide+kernel
theorem A9{T:List aY}{l:List (List UInt8)}{b:Bool}(h:∀s∈l,ot T s)(hl:l.length<=30):dt (bL (l.map aW) (p8 b))=true:=by
 obtain⟨h1,h2⟩:=A0 l (p8 b);have e:(p8 b).size=1/\(p8 b).fP=1:=by cases b<;>exact⟨rfl,rfl⟩
 rw[e.1] at h1;rw[e.2] at h2;unfold dt;rw[yM l _ h (Im b)];simp only[Bool.and_true,Bool.and_eq_true,decide_eq_true_eq];omega
theorem HF(ix:Int->Int):∀l:List (List UInt8),(l.map aW).map (fR ix)=l.map aW
 |[]=>rfl
 |s::l=>by
   have e:fR ix (aW s)=aW s:=by simp[fR,aW,Tm.ah]
   rw[List.map_cons,List.map_cons,e,HF ix l]
theorem GR(ix:Int->Int):∀(l:List (List UInt8)) (j:Nat),gE ix (l.map aW) j=some j
 |[],_=>rfl
 |s::l,j=>by
   have e:eG ix (aW s) j=some j:=by rw[mg,if_neg (show ¬(aW s).ah=0 from λe=>absurd (show (2:Int)=0 from e) (by decide))];rfl
   show (eG ix (aW s) j).bind (gE ix (l.map aW))=_;rw[e];exact GR ix l j
theorem GC{T:List aY}{l:List (List UInt8)}{b:Bool}(h:∀s∈l,ot T s):fR X9 (bL (l.map aW) (p8 b))=bL (l.map aW) (Pw b)/\∃k,eG X9 (bL (l.map aW) (p8 b)) 0=some k/\k<=1:=by
 obtain⟨h1,h2⟩:=zh X9 _ _ (Nat.le_refl _) (yM l _ h (Im b));rw[px _ _ (NJ b)] at h1 h2;rw[HF] at h1;have e:fR X9 (p8 b)=Pw b:=by cases b<;>rfl
 rw[e] at h1;refine⟨h1,?_⟩;rw[h2,GR];cases b
 .exact⟨0,rfl,by omega⟩
 .exact⟨1,rfl,by omega⟩
theorem QI:pZ [46]=some [zW]:=by kernel_rfl
theorem Pv:bz ((0:Nat):Int)=[48]:=by kernel_rfl
theorem Rv{T:List aY}(hg:dJ T=true){l:List (List UInt8)}{b:Bool}(h:∀s∈l,ot T s)(h1:l≠[])(h2:l.length<=30)(h4:(II l b++[93,46]).length<=4096):
 ∃ns,po T (II l b++[93,46])=((bL (l.map aW) (Pw b),ns),0):=by
 obtain⟨r1,k,r2,r3⟩:=GC (b:=b) h;have XY:=yM l _ h (Im b);have ME:dt (fR X9 (bL (l.map aW) (p8 b)))=true:=EU (λ_=>⟨Int.le_refl _,by show (0:Int)<_;decide⟩) (A9 h h2);have hit:=px (l.map aW) (p8 b) (NJ b);obtain⟨z,z5,zt,zc⟩:=dU (c:=93) (by decide) (v:=[46]) (λe=>absurd e (by decide)) (λe=>absurd e (by decide));have pk:∀x:cB,x.ah=5->Sl x:=λx hx=>⟨by omega,λg=>by omega⟩
 rw[<-r1]
 cases b with
 |false=>
   obtain⟨L,c1,c2,c3,c4,c5⟩:=AU (ix:=X9) hg l h1 h [93,46] (iP (by decide));obtain⟨d,w,hdw,_,_,g3,_⟩:=c2
   obtain⟨p,p5,pt,pc⟩:=dU (c:=91) (by decide) (v:=Lib.join (l.map bd) [44]++[93,46]) (λ_ d' w' e=>by rw[hdw] at e;cases e;exact g3) (λe=>absurd e (by decide))
   have hw:II l false++[93,46]=[91]++(Lib.join (l.map bd) [44]++([93]++[46])):=by simp[II]
   rw[hw] at h4|-;have hq:=pc _ (c1 _ (zc _ QI));have Yn:xb T X9 (bL (l.map aW) (p8 false)) (p::(L++[z])) 0 0 false:=Ke hg XY (by rw[hit];exact (by decide+kernel:o4 (p8 false)=true)) (by rw[hit];exact Im false) (by rw[hit];exact c5) p5 pt z5 zt;have e:[p]++(L++([z]++[zW]))=(p::(L++[z]))++[zW]:=by simp
   rw[e] at hq
   have h0:=DB hq h4 (λx hx=>by
    simp only[List.mem_append,List.mem_cons,List.not_mem_nil,or_false] at hx;rcases hx with (rfl|hx|rfl)|rfl
    .exact pk _ p5
    .exact c3 x hx
    .exact pk _ z5
    .exact⟨by decide,λg=>absurd g (by decide)⟩) (by simp;omega)
   exact P8 hg h0 hq Yn (by decide) r2 (by omega) ME
 |true=>
   obtain⟨L,c1,c2,c3,c4,c5⟩:=AU (ix:=X9) hg l h1 h [124,95,48,93,46] (iP (by decide));obtain⟨d,w,hdw,_,_,g3,_⟩:=c2
   obtain⟨p,p5,pt,pc⟩:=dU (c:=91) (by decide) (v:=Lib.join (l.map bd) [44]++[124,95,48,93,46]) (λ_ d' w' e=>by rw[hdw] at e;cases e;exact g3) (λe=>absurd e (by decide))
   obtain⟨b,b5,bt,bc⟩:=dU (c:=124) (by decide) (v:=[95,48,93,46]) (λe=>absurd e (by decide)) (λe=>absurd e (by decide));obtain⟨y,y3,yt,yc⟩:=I7 (i:=((0:Nat):Int)) (by decide) (by decide) (v:=[93,46]) (Bd.nd (iP (by decide)));have hw:II l true++[93,46]=[91]++(Lib.join (l.map bd) [44]++([124]++((95::bz ((0:Nat):Int))++([93]++[46])))):=by simp[II,show bz 0=[48] from Pv]
   rw[hw] at h4|-;have bc':cI [124] [b] ((95::bz ((0:Nat):Int))++([93]++[46])):=by rw[Pv];exact bc
   have c1':cI (Lib.join (l.map bd) [44]) L ([124]++((95::bz ((0:Nat):Int))++([93]++[46]))):=by rw[Pv];exact c1
   have pc':cI [91] [p] (Lib.join (l.map bd) [44]++([124]++((95::bz ((0:Nat):Int))++([93]++[46])))):=by rw[Pv];exact pc
   have hq:=pc' _ (c1' _ (bc' _ (yc _ (zc _ QI))));have hv:xb T X9 (p8 true) [y] 0 0 false:=Oc rfl rfl rfl (i:=0) rfl y3 yt;have Yn:xb T X9 (bL (l.map aW) (p8 true)) (p::(L++b::([y]++[z]))) 0 0 false:=L8 hg XY (by rw[hit];exact c5) (by rw[hit];exact hv) (by decide) p5 pt b5 bt z5 zt;have e:[p]++(L++([b]++([y]++([z]++[zW]))))=(p::(L++b::([y]++[z])))++[zW]:=by simp
   rw[e] at hq
   have h0:=DB hq h4 (λx hx=>by
    simp only[List.mem_append,List.mem_cons,List.not_mem_nil,or_false] at hx;rcases hx with (rfl|hx|rfl|rfl|rfl)|rfl
    .exact pk _ p5
    .exact c3 x hx
    .exact pk _ b5
    .exact⟨by omega,λg=>by omega⟩
    .exact pk _ z5
    .exact⟨by decide,λg=>absurd g (by decide)⟩) (by simp;omega)
   exact P8 hg h0 hq Yn (by decide) r2 (by omega) ME
theorem YD{T:List aY}{vr:Int->List UInt8}{s:List UInt8}(h:ot T s)(N:Nat):wT T true vr (N+1) (aW s) 999 false=bd s:=by unfold wT;rw[if_neg (YP (t:=aW s) rfl).1,if_neg (YP (t:=aW s) rfl).2,if_pos (show (aW s).aa.length=0 from rfl)];unfold wV;show FO (bd s) ((true&&((aM T s false).2||(aM T s true).2))&&_)=_;rw[h.2.1,h.2.2];exact xx _
theorem Ej:∀(l:List (List UInt8)) (r:Tm) (P:List Int),iW (bL (l.map aW) r) P=iW r P
 |[],_,_=>rfl
 |s::l,r,P=>by
   have ih:=Ej l r P;show iW (.mk 2 0 [46] [aW s,bL (l.map aW) r]) P=_;rw[iW,if_neg (by decide),fZ,fZ,fZ];show iW (bL (l.map aW) r) (iW (aW s) P)=_;have e:iW (aW s) P=P:=by unfold aW;rw[iW,if_neg (by decide)]
   rw[e,ih]
theorem Gh{f:List UInt8->List UInt8}{k:Nat}:∀l:List (List UInt8),(∀s∈l,(f s).length<=k)->(Lib.join (l.map f) [44]).length<=l.length*(k+1)
 |[],_=>by simp[Lib.join]
 |[s],h=>by
   have:=h s (by simp);have e:Lib.join ([s].map f) [44]=f s:=by simp[Lib.join]
   rw[e];simp;omega
 |s::w::l,h=>by
   have h1:=h s (by simp);have ih:=Gh (w::l) (λx hx=>h x (by simp at hx|-;exact .inr hx));have e:Lib.join ((s::w::l).map f) [44]=f s++([44]++Lib.join ((w::l).map f) [44]):=by simp[Lib.join,List.intercalate,List.intersperse]
   rw[e];simp only[List.length_append,List.length_cons,List.length_nil] at ih|-;have e2:(l.length+1+1)*(k+1)=(l.length+1)*(k+1)+(k+1):=Nat.succ_mul _ _;omega
theorem U5{T:List aY}{l:List (List UInt8)}{b:Bool}(h:∀s∈l,ot T s)(h2:l.length<=30):(II l b++[93,46]).length<=4096:=by have h1:=Gh (f:=bd) (k:=130) l (λs hs=>jL (DE (h s hs)));have:l.length*(130+1)<=30*131:=Nat.mul_le_mul_right _ h2;unfold II;cases b<;>simp<;>omega
theorem Ot{T:List aY}(hg:dJ T=true){l:List (List UInt8)}{b:Bool}(h:∀s∈l,ot T s)(h1:l≠[])(h2:l.length<=30):tX T (bL (l.map aW) (p8 b))=(II l b++[93],0):=by
 have ME:=A9 (b:=b) h h2;have cT:=U5 (b:=b) h h2;have hit:=px (l.map aW) (p8 b) (NJ b);have hs:=(A0 l (p8 b)).1
 have hw:wF T true (iZ (eS (cU (bL (l.map aW) (p8 b))))) (bL (l.map aW) (p8 b)) 1200 false=II l b++[93]:=by
  rw[Fh,if_pos ME,Ej];unfold wF;have hl:1<=l.length:=List.length_pos_iff.2 h1;obtain⟨N,hN⟩:∃N,(bL (l.map aW) (p8 b)).size=N+1+1:=⟨(bL (l.map aW) (p8 b)).size-2,by omega⟩
  rw[hN];unfold wT;rw[hit]
  have e:(l.map aW).map (λx=>wT T true (iZ (eS (iW (p8 b) []))) (N+1) x 999 false)=l.map bd:=by rw[List.map_map];exact List.map_congr_left λs hs=>YD (h s hs) N
  rw[e]
  obtain⟨s,r,rfl⟩:∃s r,l=s::r:=by
   cases l with
   |nil=>exact absurd rfl h1
   |cons s r=>exact⟨s,r,rfl⟩
  have ht:bL ((s::r).map aW) (p8 b)=.mk 2 0 [46] [aW s,bL (r.map aW) (p8 b)]:=rfl;rw[ht,if_neg (YP (t:=.mk 2 0 [46] [aW s,bL (r.map aW) (p8 b)]) rfl).1,if_neg (YP (t:=.mk 2 0 [46] [aW s,bL (r.map aW) (p8 b)]) rfl).2,if_neg (by simp[Tm.aa]),if_pos (by simp[Tm.aa,Tm.aC])];unfold II
  cases b with
  |false=>rw[if_pos (show o4 (p8 false)=true from by decide+kernel),if_neg (by decide)]
  |true=>
    rw[if_neg (show ¬o4 (p8 true)=true from by decide+kernel),if_pos rfl]
    have e3:wT T true (iZ (eS (iW (p8 true) []))) (N+1) (p8 true) 999 false=[95,48]:=by unfold wT;rw[if_pos (by decide)];kernel_rfl
    rw[e3];rfl
 unfold tX B8;rw[if_pos ⟨ME,hg⟩,hw,if_neg (by simp at cT|-;omega)]
noncomputable def zK:List aZ:=[oA,tT,eE,kU,FB,j7,kS,uO,u5,mJ,qP,qG]
theorem ab1:∀s∈zK,dX Tryz.prog bV s:=by simp[zK,D4,yY.lift,oM.lift,uN.lift,Bp.lift,ze.lift,vE,HP.lift,Mn.lift,xV,GF,GK.lift]
def uW(s:List UInt8):Bool:=decide (s.length<=20)&&(gU s&&(!(aM bw s false).2&&!(aM bw s true).2))
theorem UD{s:List UInt8}(h:uW s=true):ot bw s:=by unfold uW at h;simp only[Bool.and_eq_true,Bool.not_eq_true'] at h;exact⟨h.2.1,h.2.2.1,h.2.2.2⟩
theorem Gp(s:List UInt8):dt (aW s)=gU s:=by unfold dt aW;simp only[Tm.size,Tm.fP,Tm.fg];unfold fJ;simp[Tm.ah,Tm.bx,Tm.aC,Tm.aa]
def Am(l:List (List UInt8)):List UInt8:=[91]++Lib.join (l.map bd) [44]
theorem GU:∀(l:List (List UInt8)) (s:List UInt8),l≠[]->Lib.join (l++[s]) [44]=Lib.join l [44]++[44]++s
 |[],_,h=>absurd rfl h
 |[a],s,_=>by simp[Lib.join,List.intercalate,List.intersperse]
 |a::b::l,s,_=>by have ih:=GU (b::l) s (by simp);rw[List.cons_append] at ih;rw[List.cons_append,List.cons_append,DY,ih,DY];simp[List.append_assoc]
theorem L5{l:List (List UInt8)}(s:List UInt8)(h:l≠[]):Am (l++[s])=Am l++[44]++bd s:=by unfold Am;rw[List.map_append,List.map_cons,List.map_nil,GU _ _ (by simpa using h)];simp[List.append_assoc]
theorem PI(b:Bool)(X:List (List UInt8))(hX:X.length<=30):∀(post pre:List (List UInt8)) (k md:Nat),X=pre++post->pre≠[]->post.length<k->(Am pre).length<=1+131*pre.length->
 (post.all uW=true/\∃cS,iV 0 0 (cb (aF (aH (cV zK) 59) 59 mU) kI 0 k (DK (.sl (X.map .str)) (.bool b) (.vec 0 0 pre.length 4 pre.length) (.str (Am pre)) (.int .i64 pre.length)) ⟨1,[.row (aw (pre.map aW))],0,md⟩)=
  some (.exit 0,FM 137 [(0,.sl (X.map .str)),(1,.bool b),(5,.vec 0 0 X.length 4 X.length),(6,.str (Am X))],⟨1,[.row (aw (X.map aW))],0,cS⟩))\/
 (post.all uW=false/\∃h',iV 0 0 (cb (aF (aH (cV zK) 59) 59 mU) kI 0 k (DK (.sl (X.map .str)) (.bool b) (.vec 0 0 pre.length 4 pre.length) (.str (Am pre)) (.int .i64 pre.length)) ⟨1,[.row (aw (pre.map aW))],0,md⟩)=
  some (.ret,FM 137 [(4,.bool true)],h'))
 |[],pre,k+1,md,e,_,_,_=>by rw[List.append_nil] at e;subst e;have hr:=km X;have hf:=aT (X.map aW);have hl:(X.map AV.str).length=X.length:=List.length_map _;refine .inl ⟨rfl,?_⟩;rw[ai];generalize X.map AV.str=U at *;exact⟨_,by simp[mU,kI,hr,hf,hl];with_reducible rfl⟩
 |s::post,pre,k+1,md,e,fB,hk,htx=>by
   have hr:=km X;have hl:(X.map AV.str).length=X.length:=List.length_map _;have cT:X.length=pre.length+post.length+1:=by rw[e];simp;omega
   have oX:(X.map AV.str)[pre.length]? =some (.str s):=by rw[e];simp
   have de:((pre.length:Int)<(X.length:Int))=True:=eq_true (by omega);have lO:(0<pre.length)=True:=eq_true (List.length_pos_iff.2 fB);have h3:=wrap_i64 (n:=(pre.length:Int)+1) (by omega) (by omega);have q0:=nE;have q1:=lx s;have q3:=u4 (gW bw) s (by decide);have q4:=tC (gW bw) s (by decide);have q5:=oP s;have ea:(aW s).aR=.agg [.int .i64 2,.int .i64 0,.str s,.aD]:=rfl;have jI:=dN bw;have im:(s::post).all uW=(uW s&&post.all uW):=rfl;have aeK:uW s=(decide (s.length<=20)&&(gU s&&(!(aM bw s false).2&&!(aM bw s true).2))):=rfl;have hf:=aT (pre.map aW);have jc:=aT ((pre++[s]).map aW);have pE:=cL (pre.map aW);rw[List.length_map] at pE;rw[List.map_append,List.map_cons,List.map_nil,py] at jc;have kj:(aw (pre.map aW)).take (pre.length*4)=aw (pre.map aW):=by rw[List.take_of_length_le];omega
   have h8:(pre.length+1)*56<=140737488355328:=by omega
   have h9:pre.length+1<9223372036854775808:=by omega
   have ih:=λhq:(bd s).length<=130=>PI b X hX post (pre++[s]) k 0 (by rw[e];simp) (by simp) (by rw[List.length_cons] at hk;omega) (by rw[L5 s fB];simp;omega)
   rw[L5 s fB,List.length_append,List.length_cons,List.length_nil,List.map_append,List.map_cons,List.map_nil,py] at ih;have ec:(aW s).cells=[.int .i64 2,.int .i64 0,.str s,.aD]:=rfl;rw[ec] at jc ih;rw[ai,im,aeK];simp only[aY.aR,aY.cells] at q3 q4;have q2:=λh=>kE (aW s) h
   rw[Gp,ea] at q2;generalize (aM bw s false).1=oi at *;generalize (aM bw s true).1=op at *;generalize bw.map aY.aR=pt at *;generalize X.map AV.str=U at *;by_cases c1:(20:Int)<(s.length:Int)
   .have d1:decide (s.length<=20)=false:=decide_eq_false (by omega);rw[d1,Bool.false_and];exact .inr ⟨rfl,_,by simp[mU,kI,zK,cW,fV,aV,cA,eJ,dc,ca,fX,gM,cQ,dM,fb,hr,hf,hl,de,oX,c1];with_reducible rfl⟩
   have d1:decide (s.length<=20)=true:=decide_eq_true (by omega);have q2:=q2 (by show 1+s.length<_;omega);rw[d1,Bool.true_and]
   cases c2:gU s with
   |false=>rw[c2] at q2;exact .inr ⟨rfl,_,by simp[mU,kI,zK,cW,fV,aV,cA,eJ,dc,ca,fX,gM,cQ,dM,fb,hr,hf,hl,de,oX,c1,q1,q2];with_reducible rfl⟩
   |true=>
     rw[c2] at q2;rw[Bool.true_and]
     cases c3:(aM bw s false).2 with
     |true=>
       rw[c3] at q3;refine .inr ⟨rfl,?_⟩;cases c4:(aM bw s true).2<;>rw[c4] at q4<;>
       exact⟨_,by simp[mU,kI,zK,cW,fV,aV,cA,eJ,dc,ca,fX,gM,cQ,dM,fb,hr,hf,hl,de,oX,c1,q0,q1,q2,q3,q4,jI];with_reducible rfl⟩
     |false=>
       rw[c3] at q3
       cases c4:(aM bw s true).2 with
       |true=>rw[c4] at q4;exact .inr ⟨rfl,_,by simp[mU,kI,zK,cW,fV,aV,cA,eJ,dc,ca,fX,gM,cQ,dM,fb,hr,hf,hl,de,oX,c1,q0,q1,q2,q3,q4,jI];with_reducible rfl⟩
       |false=>
         rw[c4] at q4;rw[Bool.not_false,Bool.true_and,Bool.true_and];have hq:(bd s).length<=130:=jL (by omega);have ih:=ih hq;have m1:(Am pre).length+1<9223372036854775808:=by omega
         have m2:(Am pre).length+1+(bd s).length<9223372036854775808:=by omega
         have m3:(Am pre).length+(1+(bd s).length)<9223372036854775808:=by omega
         rcases ih with⟨a1,h',a2⟩|⟨a1,h',a2⟩<;>first|refine .inl ⟨a1,h',Eq.trans ?_ a2⟩|refine .inr ⟨a1,h',Eq.trans ?_ a2⟩
         all_goals
          simp[mU,kI,zK,cW,fV,aV,cA,eJ,dc,ca,fX,gM,cQ,dM,fb,hr,hf,jc,hl,de,oX,lO,c1,q0,q1,q2,q3,q4,q5,jI,h3,h8,h9,kj,pE,m1,m2,m3,aI]
theorem Xs(b:Bool)(s:List UInt8)(post:List (List UInt8))(hX:(s::post).length<=30):
 ((s::post).all uW=true/\∃cS,iV 0 0 (cb (aF (aH (cV zK) 59) 59 mU) kI 0 59 (DK (.sl ((s::post).map .str)) (.bool b) .aD (.str [91]) (.int .i64 0)) ⟨0,[],0,0⟩)=
   some (.exit 0,FM 137 [(0,.sl ((s::post).map .str)),(1,.bool b),(5,.vec 0 0 (s::post).length 4 (s::post).length),(6,.str (Am (s::post)))],⟨1,[.row (aw ((s::post).map aW))],0,cS⟩))\/
 ((s::post).all uW=false/\∃h',iV 0 0 (cb (aF (aH (cV zK) 59) 59 mU) kI 0 59 (DK (.sl ((s::post).map .str)) (.bool b) .aD (.str [91]) (.int .i64 0)) ⟨0,[],0,0⟩)=
   some (.ret,FM 137 [(4,.bool true)],h')):=by
 have hr:=km (s::post);have hl:((s::post).map AV.str).length=(s::post).length:=List.length_map _;have cT:(s::post).length=post.length+1:=rfl;have oX:((s::post).map AV.str)[0]? =some (.str s):=rfl;have de:((0:Int)<((s::post).length:Int))=True:=eq_true (by omega);have q0:=nE;have q1:=lx s;have q3:=u4 (gW bw) s (by decide);have q4:=tC (gW bw) s (by decide);have q5:=oP s;have ea:(aW s).aR=.agg [.int .i64 2,.int .i64 0,.str s,.aD]:=rfl;have jI:=dN bw;have im:(s::post).all uW=(uW s&&post.all uW):=rfl;have aeK:uW s=(decide (s.length<=20)&&(gU s&&(!(aM bw s false).2&&!(aM bw s true).2))):=rfl;have jc:=aT ([s].map aW);have e1:Am [s]=[91]++bd s:=by simp[Am,Lib.join]
 have ih:=λhq:(bd s).length<=130=>PI b (s::post) hX post [s] 58 0 rfl (by simp) (by rw[cT] at hX;omega) (by rw[e1];simp;omega)
 rw[e1] at ih;simp only[List.length_cons,List.length_nil,List.map_cons,List.map_nil] at ih;have ef:aw [aW s]=[.int .i64 2,.int .i64 0,.str s,.aD]:=rfl;have h3:IntKind.i64.wrap 1=1:=by decide
 rw[ef] at ih;rw[show (59:Nat)=58+1 from rfl,ai,im,aeK];simp only[aY.aR,aY.cells] at q3 q4;have q2:=λh=>kE (aW s) h
 rw[Gp,ea] at q2;generalize (aM bw s false).1=oi at *;generalize (aM bw s true).1=op at *;generalize bw.map aY.aR=pt at *;by_cases c1:(20:Int)<(s.length:Int)
 .have d1:decide (s.length<=20)=false:=decide_eq_false (by omega);rw[d1,Bool.false_and];exact .inr ⟨rfl,_,by simp[mU,kI,zK,cW,fV,aV,cA,eJ,dc,ca,fX,gM,cQ,dM,fb,hr,hl,de,oX,c1];with_reducible rfl⟩
 have d1:decide (s.length<=20)=true:=decide_eq_true (by omega);have q2:=q2 (by show 1+s.length<_;omega);rw[d1,Bool.true_and]
 cases c2:gU s with
 |false=>rw[c2] at q2;exact .inr ⟨rfl,_,by simp[mU,kI,zK,cW,fV,aV,cA,eJ,dc,ca,fX,gM,cQ,dM,fb,hr,hl,de,oX,c1,q1,q2];with_reducible rfl⟩
 |true=>
   rw[c2] at q2;rw[Bool.true_and]
   cases c3:(aM bw s false).2 with
   |true=>
     rw[c3] at q3;refine .inr ⟨rfl,?_⟩;cases c4:(aM bw s true).2<;>rw[c4] at q4<;>
     exact⟨_,by simp[mU,kI,zK,cW,fV,aV,cA,eJ,dc,ca,fX,gM,cQ,dM,fb,hr,hl,de,oX,c1,q0,q1,q2,q3,q4,jI];with_reducible rfl⟩
   |false=>
     rw[c3] at q3
     cases c4:(aM bw s true).2 with
     |true=>rw[c4] at q4;exact .inr ⟨rfl,_,by simp[mU,kI,zK,cW,fV,aV,cA,eJ,dc,ca,fX,gM,cQ,dM,fb,hr,hl,de,oX,c1,q0,q1,q2,q3,q4,jI];with_reducible rfl⟩
     |false=>
       rw[c4] at q4;rw[Bool.not_false,Bool.true_and,Bool.true_and];have hq:(bd s).length<=130:=jL (by omega);have ih:=ih hq;have m1:1+(bd s).length<9223372036854775808:=by omega
       have m2:(bd s).length+1<9223372036854775808:=by omega
       rcases ih with⟨a1,h',a2⟩|⟨a1,h',a2⟩<;>first|refine .inl ⟨a1,h',Eq.trans ?_ a2⟩|refine .inr ⟨a1,h',Eq.trans ?_ a2⟩
       all_goals
        simp[mU,kI,zK,cW,fV,aV,cA,eJ,dc,ca,fX,gM,cQ,dM,fb,hr,jc,hl,de,oX,c1,q0,q1,q2,q3,q4,q5,jI,m1,m2,h3,aI]
theorem AT{T:List aY}:∀(l:List (List UInt8)) (r:Tm),(∀s∈l,ot T s)->(bL (l.map aW) r).gr<=l.length*100+r.gr
 |[],r,_=>by simp[bL]
 |s::l,r,h=>by have ih:=AT l r (λx hx=>h x (List.mem_cons_of_mem _ hx));have h1:=DE (h s (List.mem_cons_self ..));show (Tm.mk 2 0 [46] [aW s,bL (l.map aW) r]).gr<=_;have e:(aW s).gr=1+s.length:=rfl;simp only[Tm.gr,Tm.gT,e,List.length_cons,List.length_nil];omega
theorem JM:∀(l:List (List UInt8)) (r:Tm),r.fg qZ=true->(bL (l.map aW) r).fg qZ=true
 |[],_,h=>h
 |s::l,r,h=>by
   have ih:=JM l r h;show (Tm.mk 2 0 [46] [aW s,bL (l.map aW) r]).fg qZ=true;have h2:qZ (.mk 2 0 [46] [aW s,bL (l.map aW) r])=true:=by simp[qZ,Tm.ah,Tm.bx]
   have h3:(aW s).fg qZ=true:=by simp[aW,Tm.fg,qZ,Tm.ah,Tm.bx]
   rw[Tm.fg,h2,Tm.eX,h3,Tm.eX,ih];rfl
theorem ab5{X:List (List UInt8)}(h:X.all uW=true):∀s∈X,ot bw s:=λs hs=>UD (List.all_eq_true.1 h s hs)
theorem SO(X:List (List UInt8))(b:Bool):∃h',aH (cV zK) 60 9 [.sl (X.map .str),.bool b] h0=some (.bool true,h'):=by
 have q0:=E4;have hr:=km X;have hl:(X.map AV.str).length=X.length:=List.length_map _;by_cases c1:(X.length:Int)<1
 .generalize X.map AV.str=U at *;exact⟨_,by simp[Wg,c9,zK,cW,fV,aV,cA,eJ,dc,ca,fX,gM,cQ,dM,fb,q0,hr,hl,c1];with_reducible rfl⟩
 by_cases c2:(30:Int)<(X.length:Int)
 .generalize X.map AV.str=U at *;exact⟨_,by simp[Wg,c9,zK,cW,fV,aV,cA,eJ,dc,ca,fX,gM,cQ,dM,fb,q0,hr,hl,c1,c2];with_reducible rfl⟩
 have hX:X.length<=30:=by omega
 have fB:X≠[]:=λe=>by rw[e] at c1;exact c1 (by decide)
 have lp:(X.all uW=true/\∃cS,iV 0 0 (cb (aF (aH (cV zK) 59) 59 mU) kI 0 59 (DK (.sl (X.map .str)) (.bool b) .aD (.str [91]) (.int .i64 0)) ⟨0,[],0,0⟩)=
  some (.exit 0,FM 137 [(0,.sl (X.map .str)),(1,.bool b),(5,.vec 0 0 X.length 4 X.length),(6,.str (Am X))],⟨1,[.row (aw (X.map aW))],0,cS⟩))\/
  (X.all uW=false/\∃h',iV 0 0 (cb (aF (aH (cV zK) 59) 59 mU) kI 0 59 (DK (.sl (X.map .str)) (.bool b) .aD (.str [91]) (.int .i64 0)) ⟨0,[],0,0⟩)=
   some (.ret,FM 137 [(4,.bool true)],h')):=by
  cases X with
  |nil=>exact absurd rfl fB
  |cons s r=>exact Xs b s r hX
 simp only[kI,DK] at lp;rcases lp with⟨im,md,lp⟩|⟨_,⟨nx,os,wl,md⟩,lp⟩
 rotate_left
 .generalize X.map AV.str=U at *;exact⟨_,by simp[Wg,c9,kI,zK,cW,fV,aV,cA,eJ,dc,ca,fX,gM,cQ,dM,fb,q0,hr,hl,c1,c2];rw[show [oA,tT,eE,kU,FB,j7,kS,uO,u5,mJ,qP,qG]=zK from rfl,lp];simp;with_reducible rfl⟩
 have hf:=ab5 im;have hW:=Ot wK (b:=b) hf fB hX;have cT:=U5 (b:=b) hf hX;obtain⟨ns,hR⟩:=Rv wK (b:=b) hf fB hX cT;have hb1:=AT X (p8 b) hf;have Yj:=AT X (Pw b) hf;have e1:(p8 b).gr<=3/\(Pw b).gr<=3/\(p8 b).fg qZ=true:=by cases b<;>exact⟨by decide,by decide,by decide⟩
 have ls:=y8 (X.map aW) (p8 b) (by rw[List.length_map];omega);have qw:=s9 (gW bw) (bL (X.map aW) (p8 b)) ⟨by omega,JM X _ e1.2.2⟩ (by decide);have qr:=vG (gW bw) (by decide) (II X b++[93,46]);have qi:=Gl (bL (X.map aW) (Pw b)) (by omega)
 have hgu:dt (bL (X.map aW) (Pw b))=true:=by rw[<-(GC (b:=b) hf).1];exact EU (λ_=>⟨Int.le_refl _,by show (0:Int)<_;decide⟩) (A9 hf hX)
 have nD:FI (X.map aW)=.sl ((X.map aW).map Tm.aR):=by
  cases X with
  |nil=>exact absurd rfl fB
  |cons s r=>rfl
 unfold vm at qi;rw[if_pos hgu,px _ _ (abI b)] at qi;dsimp only at qi;rw[nD] at qi;rw[hW] at qw;rw[hR] at qr;unfold uE at qr;dsimp only at qr qw
 have QQ:∀(A:aS) (wl md d:Nat),jH ⟨2,[A,.row (aw (X.map aW))],wl,md⟩ 0 (d+2) (.vec 0 0 X.length 4 X.length)=some (.sl ((X.map aW).map Tm.aR),[0]):=λA wl md d=>by
  cases X with
  |nil=>exact absurd rfl fB
  |cons s r=>have:=Wu (h:=⟨2,[A,.row (aw ((s::r).map aW))],wl,md⟩) (n0:=0) (d:=d) (id:=0) (aW s) (r.map aW) (Nat.zero_le _) rfl;rw[List.length_map] at this;exact this
 have oK:((X.map aW).map Tm.aR).length=X.length:=by simp
 have r1:AV.aj ((X.map aW).map Tm.aR)=0:=cE _;have r2:=aT (X.map aW);have Br:=nQ ns;have xX:=CP ns;have hl3:(II X b++[93,46]).length=(Am X).length+(if b then 3 else 0)+2:=by cases b<;>simp[II,Am]
 have m1:(Am X).length+3<9223372036854775808:=by cases b<;>simp at hl3 cT<;>omega
 have m2:(Am X).length+2<9223372036854775808:=by omega
 have m3:(Am X).length+1<9223372036854775808:=by omega
 have m4:(Am X).length+3+1<9223372036854775808:=by cases b<;>simp at hl3 cT<;>omega
 have m5:(Am X).length+3+2<9223372036854775808:=by cases b<;>simp at hl3 cT<;>omega
 have hu:=Tm.cm (bL (X.map aW) (Pw b));have ht:=Tm.cm (bL (X.map aW) (p8 b));rw[au (bL (X.map aW) (Pw b))] at qr qi;rw[au (Pw b)] at qi;rw[au (bL (X.map aW) (p8 b))] at ls qw;have a1:=ar (bL (X.map aW) (Pw b));have a2:=ar (bL (X.map aW) (p8 b));have b1:=dy (bL (X.map aW) (Pw b));have b2:=dy (bL (X.map aW) (p8 b))
 have hsc:rR (bL (X.map aW) (p8 b)).bH=false:=by
  cases X with
  |nil=>exact absurd rfl fB
  |cons s r=>rfl
 have jI:=dN bw;have p0:=nE;have p1:=lx [91,93];have p2:=Iw 5;clear hW hR;generalize bL (X.map aW) (Pw b)=u at *;generalize bL (X.map aW) (p8 b)=t at *;generalize (X.map aW).map Tm.aR=E at *;generalize aw (X.map aW)=F at *;generalize bw.map aY.aR=pt at *;generalize X.map AV.str=U at *;generalize fY ns=vn at *
 cases b with
 |false=>
   have w1:II X false=Am X:=by simp[II,Am]
   rw[w1] at qr qw;rw[show (p8 false).aR=.agg [.int .i64 2,.int .i64 0,.str [91,93],.aD] from rfl] at ls;generalize Am X=A at *;rcases xX with rfl|⟨W2,rfl⟩<;>exact⟨_,by simp[Wg,c9,kI,zK,cW,fV,aV,cA,eJ,dc,ca,fX,gM,cQ,dM,fb,q0,hr,hl,c1,c2];rw[show [oA,tT,eE,kU,FB,j7,kS,uO,u5,mJ,qP,qG]=zK from rfl,lp];simp[zK,cW,fV,aV,cA,eJ,dc,ca,fX,gM,cQ,dM,fb,hr,hl,oK,p0,p1,p2,ls,qw,qr,qi,r1,r2,Br,m1,m2,m3,m4,m5,a1,a2,b1,b2,jI,QQ,hsc,aE];with_reducible rfl⟩
 |true=>
   have w1:II X true=Am X++[124,95,48]:=rfl;have w2:II X true++[93,46]=Am X++[124,95,48,93,46]:=by rw[w1];simp
   have w3:II X true++[93]=Am X++[124,95,48,93]:=by rw[w1];simp
   rw[w2] at qr;rw[w3] at qw;rw[show (p8 true).aR=.agg [.int .i64 0,.int .i64 5,.str [],.aD] from rfl] at ls;generalize Am X=A at *;rcases xX with rfl|⟨W2,rfl⟩<;>exact⟨_,by simp[Wg,c9,kI,zK,cW,fV,aV,cA,eJ,dc,ca,fX,gM,cQ,dM,fb,q0,hr,hl,c1,c2];rw[show [oA,tT,eE,kU,FB,j7,kS,uO,u5,mJ,qP,qG]=zK from rfl,lp];simp[zK,cW,fV,aV,cA,eJ,dc,ca,fX,gM,cQ,dM,fb,hr,hl,oK,p0,p1,p2,ls,qw,qr,qi,r1,r2,Br,m1,m2,m3,m4,m5,a1,a2,b1,b2,jI,QQ,hsc,aE];with_reducible rfl⟩
theorem B5{H:Type}(ds:List (DataW H))(h:vl Tryz.prog Tryz.f9.params.toList (ds.map mL))(_:(DataW.weightsEach Tryz.prog Tryz.f9.params.toList ds).all (·<=reachBytes)=true):gY Tryz.prog bV 9 (ds.map mL) (.bool true):=by
 generalize ds.map mL=avs at h;rw[Tryz.params9] at h
 cases h with
 |cons h1 r1=>
   cases r1 with
   |cons h2 r2=>
     cases r2;obtain⟨xs,rfl,_,hx⟩:=ahb Tryz.underlying62 h1
     obtain⟨l,rfl⟩:=UW (f:=AV.str) λx hm=>by obtain⟨s,e,_⟩:=MY Tryz.underlying9 (hx x hm);exact⟨s,e⟩
     obtain⟨b,rfl⟩:=aao Tryz.underlying4 h2;obtain⟨h',e⟩:=SO l b;exact cf (kz ab1) e rfl (by simp[AV.aj,AV.aK,km])
def mR(a:Int):Int:=if 0<=a then a else 0
theorem UP(a:Int):0<=mR a:=by unfold mR;split<;>omega
theorem Nx{a:Int}(h:0<=a):mR a=a:=if_pos h
def Yz(x:cB):Nat:=if x.ah=4 then (bz x.bx).length else max 1 x.ay.length
def oG:List cB->Nat
 |[]=>0
 |x::r=>Yz x+oG r
mutual
def nZ:Tm->Nat
 |.nl k n s=>if k=0 then 5 else if k=1 then (bz n).length else (bd s).length
 |.mk _ _ s us=>(bd s).length+1+nX us
def nX:List Tm->Nat
 |[]=>0
 |t::r=>nZ t+1+nX r
end
def kf:Tm->Bool
 |.nl k n _=>decide (-9223372036854775808<n)&&(!decide (k=0)||decide (0<=n))
 |.mk k _ _ us=>decide (k=2)&&!us.isEmpty
structure TmR(t:Tm)(st dv:St):Prop where
 ord:eG mR t st.next=some dv.next
 nod:t.fg kf=true
 len:1+nZ t+6*oG dv.ak<=6*oG st.ak
structure agt(rec:Int->St->PR×St):Prop where
 v:∀n st,qK st->(rec n st).1.2.2=true->TmR (rec n st).1.1 st (rec n st).2
theorem uR(s:List UInt8):(bd s).length<=2*s.length+2:=by
 unfold bd;split
 .omega
 split
 .simp
 split
 .rename_i t h;have:=zE _ _ _ h;simp at this|-;omega
 .simp
theorem WV(f u:Nat):1<=(C6 (f+1) u).length:=by unfold C6;split<;>simp
theorem Sb(n:Int):1<=(bz n).length:=by
 unfold bz;split
 .simp
 .exact WV _ _
theorem SI{n:Int}(h:0<=n):(bz (-n)).length<=1+(bz n).length:=by
 unfold bz;rw[if_neg (show ¬n<0 by omega)];split
 .rw[show (-n).natAbs=n.toNat by omega,List.length_cons];omega
 .rw[show (-n).toNat=n.toNat by omega];omega
theorem HV(x:cB):1<=Yz x:=by
 unfold Yz;split
 .exact Sb _
 .omega
theorem Mj{st:St}(h:0<st.ak.length):oG st.ak=Yz (aB st)+oG (aq st).ak:=by
 unfold aB aq
 cases hr:st.ak with
 |nil=>rw[hr] at h;simp at h
 |cons x r=>rfl
theorem A4{s:List UInt8}{st:St}(h:(ba s st).1=true):1+oG (ba s st).2.ak<=oG st.ak/\(ba s st).2.next=st.next:=by
 unfold ba at h|-;split
 .rename_i hc;have:=Mj (bF (st:=st) (by rw[hc.1];decide));have:=HV (aB st);exact⟨by dsimp only;omega,rfl⟩
 .rename_i hc;rw[if_neg hc] at h;cases h
theorem Pl(n:Int)(s:List UInt8)(j:Nat):eG mR (.nl 0 n s) j=if mR n<j then some j else if mR n=j then some (j+1) else none:=by unfold eG;rw[if_pos rfl]
theorem Cu{k:Int}(hk:¬k=0)(n:Int)(s:List UInt8)(j:Nat):eG mR (.nl k n s) j=some j:=by unfold eG;rw[if_neg hk]
theorem yi(s:List UInt8)(us:List Tm)(j:Nat):eG mR (ct s us) j=gE mR us j:=by
 cases us with
 |nil=>rfl
 |cons x r=>rfl
theorem UE(s:List UInt8)(us:List Tm):nZ (ct s us)<=2*s.length+3+nX us:=by
 have:=uR s
 cases us with
 |nil=>show (bd s).length<=_;omega
 |cons x r=>show (bd s).length+1+nX (x::r)<=_;omega
theorem yf(s:List UInt8){us:List Tm}(h:Tm.eX kf us=true):(ct s us).fg kf=true:=by
 cases us with
 |nil=>rfl
 |cons x r=>simp only[ct,Tm.fg,h];rfl
theorem Lm:∀(a b:List Tm),nX (a++b)=nX a+nX b
 |[],b=>by simp[nX]
 |t::r,b=>by rw[List.cons_append,nX,nX,Lm r b];omega
theorem HW(t:Tm):∀l:List Tm,(∀j,eG mR (bL l t) j=(gE mR l j).bind (eG mR t))/\nZ (bL l t)=nX l+5*l.length+nZ t/\(Tm.eX kf l=true->t.fg kf=true->(bL l t).fg kf=true)
 |[]=>⟨λj=>rfl,by simp[bL,nX],λ_ h=>h⟩
 |x::r=>by
   obtain⟨h1,h2,h3⟩:=HW t r;refine⟨λj=>?_,?_,λa b=>?_⟩
   .show (eG mR x j).bind (λa=>(eG mR (bL r t) a).bind (gE mR []))=((eG mR x j).bind (gE mR r)).bind (eG mR t)
    cases eG mR x j with
    |none=>rfl
    |some a=>
      show (eG mR (bL r t) a).bind (gE mR [])=(gE mR r a).bind (eG mR t);rw[h1 a]
      cases gE mR r a with
      |none=>rfl
      |some b=>show (eG mR t b).bind (gE mR [])=eG mR t b;cases eG mR t b<;>rfl
   .have hq:(bd [46]).length=3:=by decide+kernel
    show (bd [46]).length+1+(nZ x+1+(nZ (bL r t)+1+0))=nZ x+1+nX r+5*(r.length+1)+nZ t;rw[hq,h2];omega
   .simp only[Tm.eX,Bool.and_eq_true] at a;simp only[bL,Tm.fg,Tm.eX,a.1,h3 a.2 b];rfl
section
variable {rec:Int->St->PR×St}(H:Af rec)(V:agt rec)
include H V
theorem HQ:∀(M:Nat) (aJ:List Tm) (st:St) (j:Nat),qK st->gE mR aJ j=some st.next->Tm.eX kf aJ=true->(bp rec M aJ st).1.2=true->
 gE mR (bp rec M aJ st).1.1 j=some (bp rec M aJ st).2.next/\Tm.eX kf (bp rec M aJ st).1.1=true/\nX (bp rec M aJ st).1.1+6*oG (bp rec M aJ st).2.ak<=nX aJ+6*oG st.ak/\nX (bp rec M aJ st).1.1+5*(bp rec M aJ st).1.1.length+6*oG (bp rec M aJ st).2.ak<=nX aJ+5*aJ.length+5+6*oG st.ak
 |0,aJ,st,j,_,_,_,h=>by cases h
 |M+1,aJ,st,j,ha,ho,hn,h=>by
   unfold bp at h|-;by_cases c1:(rec 999 st).1.2.2=true
   .rw[if_pos c1] at h|-;obtain⟨b1,b2,b3⟩:=V.v 999 st ha c1;have o1:=H.ok 999 st c1
    have hn':Tm.eX kf (aJ++[(rec 999 st).1.1])=true:=by rw[EL,hn];simp[Tm.eX,b2]
    have Fm:gE mR (aJ++[(rec 999 st).1.1]) j=some (rec 999 st).2.next:=by rw[Kf,ho];show (eG mR (rec 999 st).1.1 st.next).bind (gE mR [])=_;rw[b1];rfl
    have qR:nX (aJ++[(rec 999 st).1.1])=nX aJ+nZ (rec 999 st).1.1+1:=by rw[Lm];simp only[nX];omega
    by_cases c2:(ba [44] (rec 999 st).2).1=true
    .rw[if_pos c2] at h|-;obtain⟨w1,w2⟩:=A4 c2;obtain⟨i1,i2,i3,i4⟩:=HQ M _ _ j ((o1.trans (fo c2)).j7 ha) (by rw[w2];exact Fm) hn' h;refine⟨i1,i2,by rw[qR] at i3;omega,?_⟩;rw[qR,List.length_append,List.length_cons,List.length_nil] at i4;omega
    .rw[if_neg c2] at h|-;refine⟨Fm,hn',by dsimp only;omega,?_⟩;dsimp only;rw[qR,List.length_append,List.length_cons,List.length_nil];omega
   .rw[if_neg c1] at h;cases h
theorem abX(M:Nat)(st:St)(ha:qK st)(h:(iL rec M st).1.2=true):eG mR (iL rec M st).1.1 st.next=some (iL rec M st).2.next/\(iL rec M st).1.1.fg kf=true/\1+nZ (iL rec M st).1.1+6*oG (iL rec M st).2.ak<=6+6*oG st.ak:=by
 unfold iL at h|-;by_cases c1:(bp rec M [] st).1.2=true
 .rw[if_pos c1] at h|-;obtain⟨i1,i2,_,i4⟩:=HQ H V M [] st st.next ha rfl rfl c1
  have FA:=((kW H M [] st).2 c1).j7 ha;generalize bp rec M [] st=I at *;obtain⟨⟨l,ok⟩,Yo⟩:=I;dsimp only at *;have e0:nX []+5*([]:List Tm).length=0:=rfl;rw[e0] at i4;unfold lY at h|-;by_cases c2:(ba [124] Yo).1=true
  .rw[if_pos c2] at h|-;obtain⟨w1,w2⟩:=A4 c2;by_cases c3:(rec 999 (ba [124] Yo).2).1.2.2=true
   .rw[if_pos c3] at h|-;obtain⟨t1,t2,t3⟩:=V.v 999 _ ((fo c2).j7 FA) c3;obtain⟨v1,v2⟩:=A4 h;obtain⟨q1,q2,q3⟩:=HW (rec 999 (ba [124] Yo).2).1.1 l;dsimp only;refine⟨?_,q3 i2 t2,?_⟩
    .rw[q1,i1,v2];show eG mR _ Yo.next=_
     rw[<-w2];exact t1
    .rw[q2];omega
   .rw[if_neg c3] at h;cases h
  .rw[if_neg c2] at h|-;obtain⟨v1,v2⟩:=A4 h;obtain⟨q1,q2,q3⟩:=HW (aW [91,93]) l;dsimp only;refine⟨?_,q3 i2 rfl,?_⟩
   .rw[q1,i1,v2];exact Cu (k:=2) (by decide) 0 [91,93] Yo.next
   .have hq:nZ (aW [91,93])=2:=by decide+kernel
    rw[q2,hq];omega
 .rw[if_neg c1] at h;cases h
theorem PA(c:List UInt8)(f:Tm->Tm)(hf:∀t,t.fg kf=true->(∀j,eG mR (f t) j=eG mR t j)/\(f t).fg kf=true/\nZ (f t)<=nZ t+4)(st:St)(ha:qK st)(h:(fT rec c f st).1.2.2=true):eG mR (fT rec c f st).1.1 st.next=some (fT rec c f st).2.next/\(fT rec c f st).1.1.fg kf=true/\1+nZ (fT rec c f st).1.1+6*oG (fT rec c f st).2.ak<=6*oG st.ak:=by
 unfold fT at h|-;by_cases c1:(rec 1200 st).1.2.2=true
 .rw[if_pos c1] at h|-;obtain⟨t1,t2,t3⟩:=V.v 1200 st ha c1;obtain⟨v1,v2⟩:=A4 h;obtain⟨f1,f2,f3⟩:=hf _ t2;dsimp only;refine⟨?_,f2,by omega⟩;rw[f1,v2];exact t1
 .rw[if_neg c1] at h;cases h
theorem adr(M:Nat)(s:List UInt8)(st:St)(ha:qK st)(h:(kH rec M s st).1.2.2=true):eG mR (kH rec M s st).1.1 st.next=some (kH rec M s st).2.next/\(kH rec M s st).1.1.fg kf=true/\nZ (kH rec M s st).1.1+6+6*oG (kH rec M s st).2.ak<=2*s.length+3+6*oG st.ak:=by
 unfold kH at h|-;by_cases c1:(bp rec M [] st).1.2=true
 .rw[if_pos c1] at h|-;obtain⟨i1,i2,i3,_⟩:=HQ H V M [] st st.next ha rfl rfl c1
  obtain⟨v1,v2⟩:=A4 h;have hl:=UE s (bp rec M [] st).1.1;have e0:nX []=0:=rfl;dsimp only;refine⟨?_,yf s i2,by omega⟩;rw[yi,v2];exact i1
 .rw[if_neg c1] at h;cases h
theorem acF(T:List aY)(M:Nat)(n:Int)(st:St)(ha:qK st)(h:(eH rec T M n st).1.2.2=true):TmR (eH rec T M n st).1.1 st (eH rec T M n st).2:=by
 have FA:(aB st).ah≠0->qK (aq st):=λhk=>(jS (bF hk)).j7 ha
 have hp:=λhk=>Mj (bF (st:=st) hk)
 have ht:=HV (aB st);unfold eH at h|-;by_cases k4:(aB st).ah=4
 .rw[if_pos k4];have hx:=zO ha.tk (bF (st:=st) (by omega));have hw:=hp (by omega);have e:Yz (aB st)=(bz (aB st).bx).length:=if_pos k4;refine⟨Cu (k:=1) (by decide) _ _ _,?_,?_⟩
  .show (decide (-9223372036854775808<(aB st).bx)&&(!decide ((1:Int)=0)||_))=true;simp only[Bool.and_eq_true,decide_eq_true_eq];exact⟨by omega,rfl⟩
  .show 1+(bz (aB st).bx).length+6*oG (aq st).ak<=_;omega
 rw[if_neg k4] at h|-;by_cases k3:(aB st).ah=3
 .rw[if_pos k3];have hw:=hp (by omega);have hrg:∀p∈(aq st).ae,0<=p.2/\p.2<(aq st).next:=ha.rg
  dsimp only;have e:(aq st).next=st.next:=rfl
  unfold k9;split
  .rename_i k hk;obtain⟨p,h1,h2⟩:=Ir hk;have:=hrg p h1;refine⟨?_,?_,?_⟩
   .show eG mR (.nl 0 k []) _=_;rw[Pl,Nx (by omega),if_pos (by omega)];rfl
   .show (decide (-9223372036854775808<k)&&(!decide ((0:Int)=0)||decide (0<=k)))=true;simp only[Bool.and_eq_true,decide_eq_true_eq,Bool.or_eq_true];exact⟨by omega,.inr (by omega)⟩
   .show 1+5+6*oG (aq st).ak<=_;omega
  .refine⟨?_,?_,?_⟩
   .show eG mR (.nl 0 ((aq st).next:Int) []) _=_;rw[Pl,Nx (by omega),if_neg (by omega),if_pos (by omega)];rfl
   .show (decide (-9223372036854775808<((aq st).next:Int))&&(!decide ((0:Int)=0)||decide (0<=((aq st).next:Int))))=true;simp only[Bool.and_eq_true,decide_eq_true_eq,Bool.or_eq_true];exact⟨by omega,.inr (by omega)⟩
   .show 1+5+6*oG (aq st).ak<=_;omega
 rw[if_neg k3] at h|-;by_cases c1:(aB st).ah=5/\(aB st).ay=[40]
 .rw[if_pos c1] at h|-;have hw:=hp (by omega);obtain⟨b1,b2,b3⟩:=PA H V [41] (λt=>t) (λt ht=>⟨λj=>rfl,ht,Nat.le_add_right _ _⟩) _ (FA (by omega)) h;exact⟨b1,b2,by omega⟩
 rw[if_neg c1] at h|-;by_cases c2:(aB st).ah=5/\(aB st).ay=[91]
 .rw[if_pos c2] at h|-;have hw:=hp (by omega);obtain⟨b1,b2,b3⟩:=abX H V M _ (FA (by omega)) h;exact⟨b1,b2,by dsimp only;omega⟩
 rw[if_neg c2] at h|-;by_cases c3:(aB st).ah=5/\(aB st).ay=[123]
 .rw[if_pos c3] at h|-;have hw:=hp (by omega);have hq:(bd [123,125]).length=2:=by decide+kernel
  obtain⟨b1,b2,b3⟩:=PA H V [125] (λt=>ct [123,125] [t]) (λt ht=>⟨λj=>by
   rw[yi];show (eG mR t j).bind (gE mR [])=_;cases eG mR t j<;>rfl,yf _ (by simp[Tm.eX,ht]),by
   show (bd [123,125]).length+1+(nZ t+1+0)<=_;omega⟩) _ (FA (by omega)) h
  exact⟨b1,b2,by omega⟩
 rw[if_neg c3] at h|-;by_cases c4:(!dQ (aB st))=true
 .rw[if_pos c4] at h;cases h
 rw[if_neg c4] at h|-;have hk:(aB st).ah≠0/\(aB st).ah≠4:=⟨λh=>c4 (by unfold dQ;rw[h];rfl),k4⟩
 have hw:=hp hk.1;have e:Yz (aB st)=max 1 (aB st).ay.length:=if_neg hk.2;by_cases c5:(aB st).iT=true
 .rw[if_pos c5] at h|-;have o:=(I5 H M (aB st).ay (aq (aq st))).2 h
  have OZ:0<(aq st).ak.length:=by have h1:=dj (aq st);have h2:=o.pos;omega
  have hw2:=Mj OZ;have ht2:=HV (aB (aq st));obtain⟨b1,b2,b3⟩:=adr H V M (aB st).ay _ ((jS OZ).j7 (FA hk.1)) h;exact⟨b1,b2,by omega⟩
 rw[if_neg c5] at h|-;by_cases c6:(aB st).ah=1/\(aB st).ay=[45]/\(aB (aq st)).ah=4/\(aB st).TM=true
 .rw[if_pos c6];have OZ:=bF (st:=aq st) (by omega);have hx:=zO (FA hk.1).tk OZ;have hw2:=Mj OZ;have e2:Yz (aB (aq st))=(bz (aB (aq st)).bx).length:=if_pos c6.2.2.1;have hi:=SI hx.1;refine⟨Cu (k:=1) (by decide) _ _ _,?_,?_⟩
  .show (decide (-9223372036854775808 < -(aB (aq st)).bx)&&(!decide ((1:Int)=0)||_))=true;simp only[Bool.and_eq_true,decide_eq_true_eq];exact⟨by omega,rfl⟩
  .show 1+(bz (-(aB (aq st)).bx)).length+6*oG (aq (aq st)).ak<=_;omega
 rw[if_neg c6] at h|-;have hq:=uR (aB st).ay
 have oX:TmR (aW (aB st).ay) st (aq st):=⟨Cu (k:=2) (by decide) _ _ _,rfl,by show 1+(bd (aB st).ay).length+_<=_;omega⟩
 unfold cn at h|-;by_cases d1:(aB st).ah=2
 .rw[if_pos d1];exact oX
 rw[if_neg d1] at h|-;by_cases d2:((aM T (aB st).ay true).2&&decide ((aM T (aB st).ay true).1.l<=n)&&hO T (aq st))=true
 .rw[if_pos d2] at h|-;obtain⟨b1,b2,b3⟩:=V.v _ _ (FA hk.1) h;dsimp only;refine⟨?_,yf _ (by simp[Tm.eX,b2]),?_⟩
  .rw[yi];show (eG mR _ (aq st).next).bind (gE mR [])=_;rw[b1];rfl
  .show 1+((bd (aB st).ay).length+1+(nZ _+1+0))+_<=_;omega
 .rw[if_neg d2];exact oX
theorem U8(T:List aY):∀(M:Nat) (n:Int) (r:PR) (s0 st:St),qK st->TmR r.1 s0 st->(fC rec T M n r st).1.2.2=true->TmR (fC rec T M n r st).1.1 s0 (fC rec T M n r st).2
 |0,n,r,s0,st,_,hb,_=>hb
 |M+1,n,r,s0,st,ha,hb,h=>by
   unfold fC at h|-;by_cases h0:(!r.2.2)=true
   .rw[if_pos h0];exact hb
   rw[if_neg h0] at h|-;by_cases h1:(!(cC T (aB st)).2||decide (n<(cC T (aB st)).1.l)||decide ((ax (cC T (aB st)).1).1<r.2.1))=true
   .rw[if_pos h1];exact hb
   rw[if_neg h1] at h|-
   have hkx:(aB st).ah≠0/\(aB st).ah≠4:=by
    have Yj:(cC T (aB st)).2=true:=by
     cases hx:(cC T (aB st)).2 with
     |true=>rfl
     |false=>rw[hx] at h1;exact absurd rfl h1
    unfold cC at Yj;split at Yj
    .cases Yj
    .rename_i hc;simp only[Bool.and_eq_true,Bool.not_eq_true',Bool.or_eq_true,decide_eq_false_iff_not,not_and,not_or,Decidable.not_not] at hc;refine⟨λe=>?_,λe=>?_⟩
     .have:=(hc (by unfold dQ;rw[e];rfl)).1;omega
     .have:=(hc (by unfold dQ;rw[e];rfl)).1;omega
   have hp:=bF hkx.1;have oa:=jS hp;have hw:=Mj hp;have e:Yz (aB st)=max 1 (aB st).ay.length:=if_neg hkx.2;have HL:=((mG H T M n _ _).2 h).1;have oq:=H.ok _ _ HL;obtain⟨q1,q2,q3⟩:=V.v _ _ (oa.j7 ha) HL;obtain⟨r1,r2,r3⟩:=hb;have hq:=uR (aB st).ay;have hn:=yf (aB st).ay (us:=[r.1,(rec (ax (cC T (aB st)).1).2 (aq st)).1.1]) (by simp[Tm.eX,r2,q2]);refine U8 T M n _ s0 _ ((oa.trans oq).j7 ha) ⟨?_,hn,?_⟩ h
   .dsimp only;rw[yi];show (eG mR r.1 s0.next).bind (λa=>(eG mR _ a).bind (gE mR []))=_;rw[r1];show (eG mR _ (aq st).next).bind (gE mR [])=_;rw[q1];rfl
   .show 1+((bd (aB st).ay).length+1+(nZ r.1+1+(nZ _+1+0)))+_<=_;omega
end
theorem Xt(T:List aY):∀N,agt (kG T N)
 |0=>⟨λn st _ h=>by cases h⟩
 |N+1=>⟨λn st ha h=>by have H:=pI T N;have V:=Xt T N;unfold kG at h|-;have h1:=((mG H T (N+1) n _ _).2 h).1;have o:=(sj H T (N+1) n st).2 h1;exact U8 H V T (N+1) n _ st _ (o.j7 ha) (acF H V T (N+1) n st ha h1) h⟩
theorem I1:∀(f u k:Nat),u<10^k->1<=k->(C6 f u).length<=k
 |0,u,k,_,_=>by simp[C6]
 |f+1,u,k,h,hk=>by
   unfold C6;split
   .simp;omega
   .rename_i hu;obtain⟨j,rfl⟩:∃j,k=j+1:=⟨k-1,by omega⟩
    have hj:1<=j:=by
     rcases Nat.eq_zero_or_pos j with rfl|hj
     .simp at h;omega
     .exact hj
    have:=I1 f (u / 10) j (by rw[Nat.pow_succ] at h;omega) hj;simp;omega
theorem WL{u:List UInt8}(hd:cD u=true)(hu:u≠[])(h0:(fw u).2=0):(bz (fw u).1).length<=u.length:=by
 cases u with
 |nil=>exact absurd rfl hu
 |cons c r=>
   have hc:c≠45:=λe=>by subst e;simp[cD,Uc] at hd
   have e:fw (c::r)=match TZ false 0 (c::r) with|some v=>(v,0)|none=>(0,3):=by rw[D7 c r hc,if_neg (by rw[hd];simp)];rfl
   have e2:=zw (c::r) 0 hd (by omega);rw[show (((0:Nat):Int))=0 by rfl] at e2;rw[e2] at e;by_cases hv:mP 0 (c::r)<=9223372036854775807
   .rw[if_pos hv] at e;rw[e];have hl:=PW (c::r) 0 0 (by decide) hd;rw[Nat.zero_add] at hl;unfold bz;dsimp only;rw[if_neg (by omega),Int.toNat_natCast];exact I1 20 _ _ hl (by simp)
   .rw[if_neg hv] at e;rw[e] at h0;cases h0
theorem Qh:∀l:List UInt8,cD (l.take (runN dd l))=true
 |[]=>rfl
 |c::r=>by
   unfold runN;split
   .rename_i h;rw[List.take_succ_cons];simp only[cD,h,Qh r];rfl
   .rfl
theorem Ph:∀(n:Nat) (l aJ:List UInt8) (j:Nat) (t:List UInt8),(ib n l aJ j).1=some t->t.length+j+1<=aJ.length+(ib n l aJ j).2
 |0,l,aJ,j,t,h=>by cases h
 |n+1,[],aJ,j,t,h=>by rw[CT] at h;cases h
 |n+1,c::r,aJ,j,t,h=>by
   by_cases h1:c.toNat=39
   .cases r with
    |nil=>rw[Di h1] at h|-;cases h;dsimp only;omega
    |cons d r'=>
      by_cases h2:d.toNat=39
      .rw[I3 h1 h2] at h|-;have:=Ph n r' (aJ++[39]) (j+2) t h;simp at this;omega
      .rw[EJ h1 h2] at h|-;cases h;dsimp only;omega
   .by_cases h2:c.toNat<32\/126<c.toNat
    .rw[CJ h1 h2] at h;cases h
    .by_cases h3:c.toNat=92
     .cases r with
      |nil=>rw[Il h3] at h;cases h
      |cons d r'=>
        cases hd:D8 d with
        |none=>rw[IK h3 hd] at h;cases h
        |some b=>rw[E0 h3 hd] at h|-;have:=Ph n r' (aJ++[b]) (j+2) t h;simp at this;omega
     .rw[K7 h1 h2 h3] at h|-;have:=Ph n r (aJ++[c]) (j+1) t h;simp at this;omega
def tw(k n:Int)(s:List UInt8):Nat:=if k=4 then (bz n).length else max 1 s.length
theorem rZ{k n:Int}{s:List UInt8}{m:Nat}(hk:¬k=4)(h1:s.length<=m)(h2:1<=m):tw k n s<=m:=by unfold tw;rw[if_neg hk];omega
theorem agh(u:List UInt8)(h0:(bN u).2.2=0):tw (bN u).1.ah (bN u).1.bx (bN u).1.ay<=(bN u).2.1:=by
 cases u with
 |nil=>simp[bN] at h0
 |cons c r=>
   have hb:=(gB (c::r)).2 h0;unfold bN at h0 hb|-;dsimp only at h0 hb|-;by_cases h1:jv c=true
   .rw[if_pos h1] at hb|-;exact rZ (k:=1) (by decide) (by dsimp only;rw[List.length_take];omega) hb
   rw[if_neg h1] at h0 hb|-;by_cases h2:jy c=true
   .rw[if_pos h2] at hb|-;exact rZ (k:=3) (by decide) (by dsimp only;rw[List.length_take];omega) hb
   rw[if_neg h2] at h0 hb|-;by_cases h3:dd c=true
   .rw[if_pos h3] at h0 hb|-;have hp:1<=runN dd (c::r):=hb;have hle:=oE dd (c::r)
    have:=WL (Qh (c::r)) (λe=>by have:=congrArg List.length e;rw[List.length_take] at this;simp at this;omega) h0
    rw[List.length_take] at this;show (if (4:Int)=4 then _ else _)<=_;rw[if_pos rfl];dsimp only;omega
   rw[if_neg h3] at h0 hb|-;by_cases h4:c.toNat=39
   .rw[if_pos h4] at h0 hb|-;have hq:=Ph (r.length+1) r [] 1;generalize ib (r.length+1) r [] 1=q at *;obtain⟨a,k⟩:=q
    cases a with
    |none=>cases h0
    |some t=>have:=hq t rfl;dsimp only at this|-;rw[List.length_nil] at this;exact rZ (k:=2) (by decide) (by omega) (by omega)
   rw[if_neg h4] at h0 hb|-;by_cases h5:gZ (c::r)=true
   .rw[if_pos h5];exact rZ (k:=6) (by decide) (by simp) (Nat.le_refl _)
   rw[if_neg h5] at h0 hb|-;by_cases h6:qA c=true
   .rw[if_pos h6] at hb|-;exact rZ (k:=1) (by decide) (by dsimp only;rw[List.length_take];omega) hb
   rw[if_neg h6] at h0 hb|-;by_cases h7:c.toNat=59\/c.toNat=33
   .rw[if_pos h7];exact rZ (k:=1) (by decide) (Nat.le_refl _) (Nat.le_refl _)
   rw[if_neg h7] at h0 hb|-
   cases r with
   |nil=>
     dsimp only at h0|-;split
     .exact rZ (k:=5) (by decide) (Nat.le_refl _) (Nat.le_refl _)
     .rename_i hn;rw[if_neg hn] at h0;cases h0
   |cons d r'=>
     dsimp only at h0|-;split
     .exact rZ (k:=1) (by decide) (Nat.le_refl _) (show 1<=2 by omega)
     .rename_i hn;rw[if_neg hn] at h0;split
      .exact rZ (k:=5) (by decide) (Nat.le_refl _) (Nat.le_refl _)
      .rename_i gn;rw[if_neg gn] at h0;cases h0
def Ay:List Tok->Nat
 |[]=>0
 |t::r=>tw t.ah t.bx t.ay+Ay r
theorem Mk:∀a b:List Tok,Ay (a++b)=Ay a+Ay b
 |[],b=>by simp[Ay]
 |t::r,b=>by rw[List.cons_append,Ay,Ay,Mk r b];omega
theorem Li:∀l:List Tok,oG (kB l)=Ay l
 |[]=>rfl
 |t::r=>by show Yz _+oG (kB r)=tw t.ah t.bx t.ay+Ay r;rw[Li r];rfl
theorem aa0:∀(f:Nat) (s:List UInt8) (j:Nat) (aJ:List Tok),j<=s.length->(nP f s j aJ).2.2=0->Ay (nP f s j aJ).1<=Ay aJ+(s.length-j)
 |0,s,j,aJ,_,h=>by cases h
 |f+1,s,j,aJ,hj,h=>by
   unfold nP at h|-;by_cases h1:s.length<=j
   .rw[if_pos h1];dsimp only;omega
   rw[if_neg h1] at h|-;by_cases h2:(bN (s.drop j)).2.2=0
   .rw[if_neg (λg=>g h2)] at h|-;by_cases h3:(((bN (s.drop j)).1.ah=1\/(bN (s.drop j)).1.ah=2)/\64<(bN (s.drop j)).1.ay.length)\/aJ.length=1024
    .rw[if_pos h3] at h;cases h
    rw[if_neg h3] at h|-;have l2:=(gB (s.drop j)).1;have l3:=agh (s.drop j) h2;have lk:=iM (s.length+1) (s.drop (j+(bN (s.drop j)).2.1));rw[List.length_drop] at l2 lk;have i:=aa0 f s _ _ (by omega) h;rw[Mk] at i;simp only[Ay] at i;omega
   .rw[if_pos h2] at h;exact absurd h h2
theorem abW{s:List UInt8}(h:(dC s).2.2=0):oG (kB (dC s).1)<=s.length:=by
 rw[Li];unfold dC at h|-;by_cases hl:4096<s.length
 .rw[if_pos hl] at h;cases h
 rw[if_neg hl] at h|-;have:=aa0 (s.length+1) s _ [] (iM (s.length+1) s) h;simp only[Ay] at this;omega
structure Rdd(t:Tm)(n:Nat):Prop where
 Dj:dt t=true
 gr:t.gr<1000000
 rng:t.fg qZ=true
 nod:t.fg kf=true
 ord:∃k,k<=1024/\eG mR t 0=some k
 len:nZ t<=6*n
theorem Km{T:List aY}{s:List UInt8}{t:Tm}{ns:List (List UInt8×Int)}(h:po T s=((t,ns),0)):Rdd t s.length:=by
 unfold po at h;by_cases hg:dJ T=false
 .rw[if_pos hg] at h;exact absurd (show (1:Int)=0 from congrArg Prod.snd h) (by decide)
 rw[if_neg hg] at h;by_cases hc:(dC s).2.2=0
 .rw[if_neg (λe=>e hc)] at h;split at h
  .exact absurd (show (2:Int)=0 from congrArg Prod.snd h) (by decide)
  rename_i h1;by_cases h2:(qz T (uj (dC s).1 0)).1.2=0
  .rw[if_neg (λe=>e h2)] at h;have ht:(qz T (uj (dC s).1 0)).1.1=t:=congrArg (λp=>p.1.1) h;have ME:=AH s;have hw:=abW hc;obtain⟨s0,hs0⟩:∃s0:St,s0=⟨(uj (dC s).1 0).bM,(uj (dC s).1 0).ak,0,[]⟩:=⟨_,rfl⟩
   have hr:s0.ak=kB (dC s).1:=by rw[hs0];rfl
   have hl:s0.ak.length<=1024:=by rw[hr,gG];exact ME.2
   have hn:s0.next=0:=by rw[hs0]
   have ah8:qK s0:=⟨by rw[hr];exact CO ME.1,λp hp=>by rw[hs0] at hp;exact (List.not_mem_nil hp).elim,by omega⟩
   unfold qz at ht h2;rw[<-hs0] at ht h2;dsimp only at ht h2;by_cases c1:(!(ag T 1200 s0).1.2.2||!decide ((aB (ag T 1200 s0).2).ah=6))=true
   .rw[if_pos c1] at h2;cases h2
   rw[if_neg c1] at h2 ht;by_cases c2:dt (ag T 1200 s0).1.1=true
   .rw[if_pos c2] at ht
    have cK:(ag T 1200 s0).1.2.2=true:=by
     cases hx:(ag T 1200 s0).1.2.2 with
     |true=>rfl
     |false=>rw[hx] at c1;exact absurd rfl c1
    have v:=(Xt T (s0.ak.length+1)).v 1200 s0 ah8 cK;have b:=(HN T (s0.ak.length+1)).b 1200 s0 ah8 cK;have o:=(pI T (s0.ak.length+1)).ok 1200 s0 cK;change TmR (ag T 1200 s0).1.1 s0 (ag T 1200 s0).2 at v;change Nu (s0.ak.length-(ag T 1200 s0).2.ak.length) (ag T 1200 s0).1.1 at b;change Ok s0 (ag T 1200 s0).2 at o;have ht:(ag T 1200 s0).1.1=t:=ht;rw[ht] at v b c2;have:=o.nxr;have:=b.1;refine⟨c2,by omega,b.2,v.nod,⟨_,?_,by rw[<-hn];exact v.ord⟩,?_⟩
    .omega
    .have:=v.len;rw[hr] at this;omega
   .rw[if_neg c2] at h2;cases h2
  .rw[if_pos h2] at h;exact absurd (congrArg Prod.snd h) h2
 .rw[if_pos hc] at h;exact absurd (congrArg Prod.snd h) hc
mutual
theorem PM:∀t:Tm,t.fg kf=true->fR mR t=t
 |.nl k n s,h=>by
   have h:(decide (-9223372036854775808<n)&&(!decide (k=0)||decide (0<=n)))=true:=h;simp only[Bool.and_eq_true,Bool.or_eq_true,Bool.not_eq_true',decide_eq_false_iff_not,decide_eq_true_eq] at h;show Tm.nl k (if k=0 then mR n else n) s=_;split
   .rw[Nx (by omega)]
   .rfl
 |.mk k n s us,h=>by
   obtain⟨h1,h2⟩:=j6 h;have h1:(decide (k=2)&&!us.isEmpty)=true:=h1;simp only[Bool.and_eq_true,Bool.not_eq_true',decide_eq_true_eq] at h1;rw[fR,QL us h2,if_neg (by omega)]
   cases us with
   |nil=>exact absurd h1.2 (by decide)
   |cons x r=>rfl
theorem QL:∀us:List Tm,Tm.eX kf us=true->tt mR us=us
 |[],_=>rfl
 |t::r,h=>by simp only[Tm.eX,Bool.and_eq_true] at h;rw[tt,PM t h.1,QL r h.2]
end
theorem zS{t:Tm}{n:Nat}(h:Rdd t n):fR (vy (eS (cU t))) t=t/\(cU t).length<=1024:=by
 obtain⟨k,hk,ho⟩:=h.ord;have hi:=PM t h.nod
 have hv:cU t=gD k:=by rw[Fh,if_pos h.Dj];have:=JJ UP t 0 k ho;rw[hi] at this;exact this
 have ha:t.fg fJ=true:=by have:=h.Dj;unfold dt at this;rw[Bool.and_eq_true] at this;exact this.2
 have:=Qu (iy:=vy (eS (gD k))) UP t 0 k k ha ho (Nat.le_refl _) (λi hi=>Vc hi);rw[hi] at this;rw[hv,xp];exact⟨this,hk⟩
theorem join_le(f:Tm->List UInt8):∀us:List Tm,us≠[]->(∀u∈us,(f u).length<=nZ u)->(Lib.join (us.map f) [44]).length+1<=nX us
 |[],h,_=>absurd rfl h
 |[u],_,h=>by
   have e:Lib.join ([u].map f) [44]=f u:=by simp[Lib.join]
   have:=h u (by simp);rw[e];show _<=nZ u+1+0;omega
 |u::w::us,_,h=>by
   have e:Lib.join ((u::w::us).map f) [44]=f u++([44]++Lib.join ((w::us).map f) [44]):=by simp[Lib.join,List.intercalate,List.intersperse]
   have h1:=h u (by simp);have h2:=join_le f (w::us) (by simp) (λx hx=>h x (List.mem_cons_of_mem _ hx));rw[e];simp only[List.length_append,List.length_cons,List.length_nil];show _<=nZ u+1+nX (w::us);omega
theorem Gr(t:Tm):(eT [] false t).2=false/\(iS [] false t).2=false:=⟨rfl,rfl⟩
theorem Qt{vr:Int->List UInt8}{N:Nat}{k n0:Int}{s:List UInt8}{us:List Tm}(hk:k=2)(fB:us≠[])(n:Int):wT [] false vr (N+1) (.mk k n0 s us) n false=bd s++[40]++Lib.join (us.map λx=>wT [] false vr N x 999 false) [44]++[41]:=by
 subst hk;conv=>lhs;unfold wT
 rw[if_neg (λe:(Tm.mk 2 n0 s us).ah=0=>absurd (show (2:Int)=0 from e) (by decide)),if_neg (λe:(Tm.mk 2 n0 s us).ah=1=>absurd (show (2:Int)=1 from e) (by decide)),if_neg (show ¬(Tm.mk 2 n0 s us).aa.length=0 from λe=>fB (List.length_eq_zero_iff.1 e)),if_neg (by simp),if_neg (by simp),if_neg (by rw[(Gr _).1];simp),if_neg (by rw[(Gr _).2];simp)];rfl
theorem abi{vr:Int->List UInt8}{N:Nat}{k n0:Int}{s:List UInt8}(n:Int):wT [] false vr (N+1) (.nl k n0 s) n false=if k=0 then vr n0 else if k=1 then bz n0 else bd s:=by unfold wT;show (if k=0 then vr n0 else if k=1 then FO (bz n0) (false&&_) else if (0:Nat)=0 then wV [] false s n false else _)=_;rw[if_pos (show (0:Nat)=0 from rfl)];unfold wV;simp only[Bool.false_and,xx]
theorem aa3{vr:Int->List UInt8}(hvr:∀a,(vr a).length<=5):∀(N:Nat) (t:Tm) (n:Int),t.size<=N->t.fg kf=true->(wT [] false vr N t n false).length<=nZ t
 |0,t,_,h,_=>by have:=bP t;omega
 |N+1,.nl k n0 s,n,_,_=>by
   rw[abi];show _<=if k=0 then 5 else if k=1 then (bz n0).length else (bd s).length
   split
   .exact hvr n0
   .split<;>exact Nat.le_refl _
 |N+1,.mk k n0 s us,n,iz,h=>by
   obtain⟨h1,h2⟩:=j6 h;have h1:(decide (k=2)&&!us.isEmpty)=true:=h1;simp only[Bool.and_eq_true,Bool.not_eq_true',decide_eq_true_eq] at h1;have fB:us≠[]:=λe=>by rw[e] at h1;exact absurd h1.2 (by decide)
   have hs:=bP (Tm.mk k n0 s us);rw[Qt h1.1 fB];have hj:=join_le (λx=>wT [] false vr N x 999 false) us fB (λu hu=>aa3 hvr N u 999 (by have:=mw hu;have e:(Tm.mk k n0 s us).aa=us:=rfl;rw[e] at hs;omega) (uy h2 u hu));simp only[List.length_append,List.length_cons,List.length_nil];show _<=(bd s).length+1+nX us;omega
def PWr(ix:Int->Int)(t:Tm)(s v:List UInt8):Prop:=Hd s/\∃(y:cB) (L:List cB),cI s (y::L) v/\xb [] ix t (y::L) 0 0 false
theorem T9{n:Int}(h1:-9223372036854775808<n)(h2:n<0){v:List UInt8}(hv:Nd v):∃x y:cB,x.ah=1/\x.ay=[45]/\x.iT=false/\x.TM=true/\y.ah=4/\y.bx=-n/\cI (bz n) [x,y] v:=by
 obtain⟨u,e,d1,d2,d3⟩:=itoa_neg (n:=n) (by omega) h2
 have d4:fw u=(-n,0):=by
  rcases d3 with d3|d3
  .exact d3.1
  .omega
 rw[e];have hh:=zY d2 d1;have ho:=Eo d2 d1 hv;rw[d4] at ho;have hm:=Hb (v:=v) d2 d1;have hsk:ey (45::(u++v))=45::(u++v):=lT (by decide) (by decide);obtain⟨c,r,hu,hb⟩:=hh;refine⟨⟨1,[45],0,decide ((u++v).head?.map UInt8.toNat=some 40),decide ((45::(u++v)).length-(ey (u++v)).length=1/\ey (u++v)≠[])⟩,⟨4,[],-n,decide (v.head?.map UInt8.toNat=some 40),decide ((u++v).length-(ey v).length=1/\ey v≠[])⟩,rfl,rfl,?_,?_,rfl,rfl,λM hM=>?_⟩
 .have hc:=sR d1 c (by rw[hu];simp);unfold dd at hc;simp only[Bool.and_eq_true,decide_eq_true_eq] at hc;rw[hu];refine decide_eq_false (λh=>?_);have h':some c.toNat=some 40:=h;have:=Option.some.inj h';omega
 .have hk:ey (u++v)=u++v:=by
   rw[hu];exact lT hb.1 hb.2.1
  rw[hk];refine decide_eq_true ⟨by simp,by rw[hu];simp⟩
 .have l2:=pG (s:=u) (v:=v) d2 (by rw[hu];exact lT hb.1 hb.2.1) ho (.inl rfl) hM;exact pG (s:=[45]) (v:=u++v) (by simp) hsk hm (.inl rfl) l2
section
variable {ix:Int->Int}
theorem JF(f:Tm->List UInt8):∀(us:List Tm),us≠[]->(∀u∈us,∀v,Bd v->PWr ix u (f u) v)->∀v,Bd v->∃(y:cB) (L:List cB),cI (Lib.join (us.map f) [44]) (y::L) v/\oz [] ix us (y::L)
 |[],h,_,_,_=>absurd rfl h
 |[u],_,h,v,hv=>by
   obtain⟨_,y,L,hc,hr⟩:=h u (by simp) v hv;have e:Lib.join ([u].map f) [44]=f u:=by simp[Lib.join]
   rw[e];exact⟨y,L,hc,uX rfl hr (by decide) (by decide)⟩
 |u::w::us,_,h,v,hv=>by
   have e:Lib.join ((u::w::us).map f) [44]=f u++([44]++Lib.join ((w::us).map f) [44]):=by simp[Lib.join,List.intercalate,List.intersperse]
   rw[e];obtain⟨y2,L2,Ji,x6⟩:=JF f (w::us) (by simp) (λx hx=>h x (List.mem_cons_of_mem _ hx)) v hv;obtain⟨p,p5,pt,pc⟩:=dU (c:=44) (by decide) (v:=Lib.join ((w::us).map f) [44]++v) (λe=>absurd e (by decide)) (λe=>absurd e (by decide));obtain⟨_,y,L,hc,hr⟩:=h u (by simp) (([44]++Lib.join ((w::us).map f) [44])++v) (iP (by decide));exact⟨y,L++(p::(y2::L2)),cI.cat (A:=y::L) (B:=[p]++(y2::L2)) hc (cI.cat pc Ji),sy rfl hr (by decide) (by decide) p5 pt x6⟩
theorem N0(tZ:∀a,0<=ix a/\ix a<1000000000):∀(N:Nat) (t:Tm) (n:Int) (v:List UInt8),t.size<=N->vZ t->t.fg kf=true->Bd v->PWr ix t (wT [] false (λa=>95::bz (ix a)) N t n false) v
 |0,t,_,_,h,_,_,_=>by have:=bP t;omega
 |N+1,.nl k n0 s,n,v,iz,cK,hn,hv=>by
   have TR:=IP cK;have hn:(decide (-9223372036854775808<n0)&&(!decide (k=0)||decide (0<=n0)))=true:=hn;simp only[Bool.and_eq_true,Bool.or_eq_true,Bool.not_eq_true',decide_eq_false_iff_not,decide_eq_true_eq] at hn;rw[abi];by_cases k0:k=0
   .subst k0;rw[if_pos rfl];obtain⟨e1,e2⟩:=ve TR (λe=>absurd (show (0:Int)=2 from e) (by decide));obtain⟨x1,x2⟩:=tZ n0;obtain⟨i,hi⟩:∃i:Nat,ix n0=(i:Int):=⟨(ix n0).toNat,by omega⟩
    obtain⟨y,y3,yt,yc⟩:=I7 x1 (by omega) hv.nd;rw[hi] at yt;exact⟨qL (by decide),y,[],yc,Oc rfl e2 e1 hi y3 yt⟩
   rw[if_neg k0];by_cases k1:k=1
   .subst k1;rw[if_pos rfl];obtain⟨e1,e2⟩:=ve TR (λe=>absurd (show (1:Int)=2 from e) (by decide));obtain⟨r1,r2⟩:=Cq cK;by_cases O7:n0<0
    .obtain⟨x,y,x1,xt,xo,xa,y4,yn,yc⟩:=T9 hn.1 O7 hv.nd
     have hh:Hd (bz n0):=by obtain⟨u,e,_⟩:=itoa_neg (n:=n0) (by omega) O7;rw[e];exact qL (by decide)
     exact⟨hh,x,[y],yc,Wi rfl e2 e1 x1 xt xo xa y4 yn⟩
    .obtain⟨y,y4,yn,yc⟩:=QD (n:=n0) (by omega) r2 hv.nd;obtain⟨d1,d2,_⟩:=nS (n:=n0) (by omega) r2;exact⟨zY d2 d1,y,[],yc,WK rfl e2 e1 y4 yn⟩
   rw[if_neg k1];have k2:k=2:=by have:=rB cK;have e:(Tm.nl k n0 s).ah=k:=rfl;omega
   subst k2;have qq:=M1 TR rfl;have h0:=uo TR rfl;obtain⟨y,yk,_,yt,yo,_,yc⟩:=pb qq hv.nd;have Yp:y.iT=false:=by rw[yo];exact hv.open
   have hr:=H5 (T:=[]) (ix:=ix) (bs:=false) (t:=Tm.nl 2 n0 s) rfl rfl h0 yk yt Yp (λe=>by cases e);rw[show (if y.ah=2 then (0:Int) else u7 [] (Tm.nl 2 n0 s).aC)=0 by split<;>rfl] at hr;exact⟨nT qq,y,[],yc,hr⟩
 |N+1,.mk k n0 s us,n,v,iz,cK,hn,hv=>by
   obtain⟨h1,h2⟩:=j6 hn;have h1:(decide (k=2)&&!us.isEmpty)=true:=h1;simp only[Bool.and_eq_true,Bool.not_eq_true',decide_eq_true_eq] at h1;have fB:us≠[]:=λe=>by rw[e] at h1;exact absurd h1.2 (by decide)
   have hs:=bP (Tm.mk k n0 s us);have TR:=IP cK;have qq:=M1 TR h1.1;have h0:=uo TR h1.1;rw[Qt h1.1 fB];obtain⟨y2,L2,c1,c3⟩:=JF (ix:=ix) (λx=>wT [] false (λa=>95::bz (ix a)) N x 999 false) us fB (λu hu w hw=>N0 tZ N u 999 w (by have:=mw hu;have e:(Tm.mk k n0 s us).aa=us:=rfl;rw[e] at hs;omega) (gO cK hu) (uy h2 u hu) hw) (41::v) (iP (by decide));obtain⟨z,z5,zt,zc⟩:=dU (c:=41) (by decide) (v:=v) (λe=>absurd e (by decide)) (λe=>absurd e (by decide));obtain⟨p,p5,pt,pc⟩:=dU (c:=40) (by decide) (v:=(Lib.join (us.map λx=>wT [] false (λa=>95::bz (ix a)) N x 999 false) [44]++[41])++v) (λe=>absurd e (by decide)) (λe=>absurd e (by decide));obtain⟨y,yk,_,yt,yo,_,yc⟩:=pb qq (v:=40::((Lib.join (us.map λx=>wT [] false (λa=>95::bz (ix a)) N x 999 false) [44]++[41])++v)) P7;have Yp:y.iT=true:=by rw[yo];simp
   refine⟨by rw[List.append_assoc,List.append_assoc];exact (nT qq).app _,y,p::((y2::L2)++[z]),?_,Qn (t:=Tm.mk k n0 s us) rfl h1.1 h0 fB c3 yk yt Yp z5 zt⟩;rw[List.append_assoc,List.append_assoc];exact cI.cat (A:=[y]) (B:=[p]++((y2::L2)++[z])) (by rw[List.append_assoc];exact yc) (cI.cat pc (cI.cat c1 zc))
end
theorem RQ{t u:Tm}{n m:Nat}(ht:Rdd t n)(hu:Rdd u m)(h:wF [] false (iZ (eS (cU t))) t 1200 false=wF [] false (iZ (eS (cU u))) u 1200 false):t=u:=by
 obtain⟨r1,v1⟩:=zS ht;obtain⟨r2,v2⟩:=zS hu;have hx1:∀a,0<=vy (eS (cU t)) a/\vy (eS (cU t)) a<1000000000:=λa=>wh (vW t) a
 have hx2:∀a,0<=vy (eS (cU u)) a/\vy (eS (cU u)) a<1000000000:=λa=>wh (vW u) a
 obtain⟨_,y1,L1,c1,d1⟩:=N0 hx1 t.size t 1200 [32,46] (Nat.le_refl _) ⟨ht.Dj,by have:=ht.gr;omega,ht.rng⟩ ht.nod (iP (by decide));obtain⟨_,y2,L2,c2,d2⟩:=N0 hx2 u.size u 1200 [32,46] (Nat.le_refl _) ⟨hu.Dj,by have:=hu.gr;omega,hu.rng⟩ hu.nod (iP (by decide));change cI (wF [] false (iZ (eS (cU t))) t 1200 false) (y1::L1) [32,46] at c1;change cI (wF [] false (iZ (eS (cU u))) u 1200 false) (y2::L2) [32,46] at c2;have q1:=c1 _ I4;have q2:=c2 _ I4;rw[h,q2] at q1;have e:=List.append_cancel_right (Option.some.inj q1);rw[e] at d2;have Fp:rI zW:=.inl rfl
 have go:∀{w:Tm},dt w=true->xb [] (vy (eS (cU w))) w (y1::L1) 0 0 false->∃dv,ag [] 1200 ⟨0,(y1::L1)++zW::[],0,[]⟩=((fR (vy (eS (cU w))) w,0,true),dv):=λhg d=>by obtain⟨s1,_,_,_,a4⟩:=d.stop (m:=1200) (st:=⟨0,(y1::L1)++zW::[],0,[]⟩) (by decide) rfl ⟨rfl,rfl⟩ (KG hg) (by have:=rq ‹Tm›;omega) (Fp.NY (T:=[]) (by decide) 0).1 (λ_=>Fp) (λe=>by rw[rn (by rfl)] at e;cases e);exact⟨s1,a4⟩
 obtain⟨a,ha⟩:=go ht.Dj d1;obtain⟨b,hb⟩:=go hu.Dj d2;rw[ha] at hb;have:=congrArg (λp=>p.1.1) hb;dsimp only at this;rw[r1,r2] at this;exact this
theorem Ug(n:Int):∀(vs:List Int) (k:Nat) (i:Int),Jv n (xe k vs)=some i->i<((k+vs.length:Nat):Int)
 |[],_,_,h=>by cases h
 |v::r,k,i,h=>by
   have h:(if n=v then some (k:Int) else Jv n (xe (k+1) r))=some i:=h;rw[List.length_cons];split at h
   .cases h;omega
   .have:=Ug n r (k+1) i h;omega
theorem S0{t:Tm}{n:Nat}(ht:Rdd t n):(wF [] false (iZ (eS (cU t))) t 1200 false).length<=6*n:=by
 obtain⟨_,v1⟩:=zS ht;refine Nat.le_trans (aa3 (λa=>?_) t.size t 1200 (Nat.le_refl _) ht.nod) ht.len
 have h:vy (eS (cU t)) a<=1024:=by
  unfold vy eS
  cases hx:Jv a (xe 0 (cU t)) with
  |none=>decide
  |some i=>have:=Ug a _ 0 i hx;show i<=1024;omega
 have h0:=(wh (vW t) a).1;unfold iZ bz;rw[if_neg (by omega)];have:=I1 20 (vy (eS (cU t)) a).toNat 4 (by omega) (by decide);simp only[List.length_append,List.length_cons,List.length_nil];omega
end Go.Proofs.YtjmeonoabiliiaaGreatDoor
